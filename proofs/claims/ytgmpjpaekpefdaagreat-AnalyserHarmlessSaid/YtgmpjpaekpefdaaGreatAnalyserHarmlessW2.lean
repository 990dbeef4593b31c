/- Walks: each says what one function of the program answers, for the arguments that its statement names. No condition beyond what each theorem says. -/
import Derived.Test.YtgmpjpaekpefdaaGreatAnalyserHarmlessW1
import Derived.Test.YtgmpjpaekpefdaaGreatProg
import Derived.KernelRfl
import Derived.Tactics
import Derived.Tactics2
import Derived.StillTactics
set_option linter.unusedVariables false
set_option linter.unusedSimpArgs false
set_option maxRecDepth 4000
set_option maxHeartbeats 2000000
namespace Go.Proofs.YtgmpjpaekpefdaaGreat
open Go Go.Av Go.Tq
variable {c : List Mem} {n k : Nat} {s : Int} {m : Mem} {t : Trust} {Ps : Value → World → Prop}
theorem jfv (v : Int) : ∀ (t : Trust), checkT t = 0 → sizeT t ≤ 200 → depthT t ≤ 4 → Con none Tryz.prog 290 [av t, .i v] [] (Is (wRes (weight v t)) []) := by
 have hcap := jbv
 intro t
 induction t using Trust.ind with
 | _ t ih =>
  intro hck hsz hdp
  have hl1 : (t.nodes.map D.i).length = t.nodes.length := by simp
  have hl2 := jaU t.inner
  have hs0 : sizeT t = t.nodes.length + t.inner.length + sizeL t.inner := rfl
  have hlo := (jhq hck).lo
  have hhi := (jhq hck).hi
  refine jas Tryz.func290 rfl Tryz.call290 rfl ?_
  refine xX fun b2 => ?_
  refine zAl fun b4 => ?_
  refine xN fun _ => ?_
  refine xN fun _ => ?_
  refine xN fun _ => ?_
  iterate 4 refine zW ?_
  refine jak [1, 2, 4, 6, 21, 22] [.box b2 _ _, .box b4 _ _] (fun (k : Nat) r => (23, .i (k : Int)) :: r) (fun k r => r) (fun k => k ≤ t.nodes.length ∧ (t.nodes.drop k).contains v = t.nodes.contains v) (fun k => t.nodes.length - k) (0) zRc ⟨by omega, by simp⟩ (zWk) ?_
  intro k ⟨hk, hI⟩
  refine xC ?_ ?_ <;> intro hc
  ·have hlt : k < t.nodes.length := by have := qc hc; omega
   obtain ⟨x, hx, hd⟩ := jab hlt
   have hx' := jae D.i hx
   refine xC ?_ ?_ <;> intro hc
   ·refine xP ?_
    have e := qc hc
    rw [hd, List.contains_cons, e, beq_self_eq_true, Bool.true_or] at hI
    unfold weight; rw [qf hI.symm, ← hl1, ← hl2]; rfl
   ·iterate 8 refine zW ?_
    have e := qd hc
    rw [hd, List.contains_cons, beq_false_of_ne (fun h => e h.symm), Bool.false_or] at hI
    refine ⟨k + 1, ⟨by omega, hI⟩, by omega, zWk⟩
  ·have hge : t.nodes.length ≤ k := by have := qd hc; omega
   rw [jad hge] at hI
   have hcon : t.nodes.contains v = false := hI.symm
   refine xN fun _ => ?_
   iterate 4 refine zW ?_
   refine jak [1, 2, 4, 6, 36, 37] [.box b2 _ _, .box b4 _ _] (fun (k : Nat) r => (38, .i (k : Int)) :: r) (fun k r => r) (fun k => k ≤ t.inner.length ∧ weightL v (t.inner.drop k) = weightL v t.inner) (fun k => t.inner.length - k) (0) zRc ⟨by omega, by simp⟩ (zWk) ?_
   intro k ⟨hk, hI⟩
   refine xC ?_ ?_ <;> intro hc
   ·have hlt : k < t.inner.length := by have := qc hc; omega
    obtain ⟨x, hx, hd⟩ := jab hlt
    have hx' := jbj hx
    have hxm := qg hx
    refine xL fun b10 => ?_
    iterate 4 refine zW ?_
    have hcx := (jhq hck).inner x hxm; have hsx := jgy hxm; have hdx := jfK hxm; rcases hw : weight v x with _ | ⟨w1, w2⟩
    all_goals (
     refine xA ((by first | exact jsM (ih x hxm hcx (by omega) (by omega)) hw | exact jst (ih x hxm hcx (by omega) (by omega)) hw)) ?_
     refine xL fun b11 => ?_
     refine xC ?_ ?_ <;> intro hc
     ·first
      | (exact xQ hc)
      | (refine zW ?_
         obtain ⟨b1, b2, b3⟩ := jnt hcx (by omega) (by omega) hw
         obtain ⟨p1, p2, p3⟩ := jsL hlo hhi (show ((t.nodes.length : Int) + t.inner.length) ≤ 200 by omega) b1 b2 b3
         simp only [hl1, hl2]
         refine xP ?_
         rw [hd, jcF, hw] at hI
         unfold weight; rw [qe (by rw [hcon]; decide), ← hI]; rfl
       )
     ·first
      | (exact xQ hc)
      | (iterate 8 refine zW ?_
         rw [hd, jcF, hw] at hI
         refine ⟨k + 1, ⟨by omega, hI⟩, by omega, zWk⟩
       )
     )
   ·have hge : t.inner.length ≤ k := by have := qd hc; omega
    rw [jad hge] at hI; simp only [weightL] at hI
    refine xP ?_
    unfold weight; rw [qe (by rw [hcon]; decide), ← hI]; rfl
theorem jpk (t : Trust) (ht : sizeT t ≤ 1000000000) (v slot round node : Int) : C0 284 [av t, .i v, .i slot, .i round, .i node] (.b (nbrV t v slot round node)) := by
 refine xI Tryz.func284 Tryz.call284 fun hcap => ?_
 refine xX fun b5 => ?_
 refine xA (jeu t ht v slot round) ?_
 iterate 2 refine zW ?_
 iterate 7 all_goals first | refine zW ?_ | refine xG ?_ ?_ <;> intro hg
 all_goals (
 refine xC ?_ ?_ <;> intro hc
 ·(
 first
 | (exact xQ hc)
 |(
 iterate 7 refine zW ?_
 refine jap (.tmp rfl .nil) .nil ?_
 unfold nbrV
 first
 | (rw [qA (jah (show (!decide (askedV t v slot round = 0)) = true by with_reducible assumption)), qt]; rfl)
 | (have := qc (show decide (node < 0) = true by with_reducible assumption); rw [qA (p := 0 ≤ node) (by omega), qt, qy]; rfl)
 | (have := qc (show decide (10 ≤ node) = true by with_reducible assumption); rw [qA (p := node < 10) (by omega), qt, qy, qy]; rfl)))
 ·(
 first
 | (exact xQ hc)
 |(
 have hk := jaf (show (!decide (askedV t v slot round = 0)) = false by with_reducible assumption)
 have hn1 := qd (show decide (node < 0) = false by with_reducible assumption)
 have hn2 := qd (show decide (10 ≤ node) = false by with_reducible assumption)
 have hv := (jb1 hk).1
 iterate 3 refine zW ?_
 rcases hw : weight node t with _ | ⟨w1, w2⟩
 all_goals (
 refine xA ((by first | exact jsM (jfv node t (jaV hv).1 (jaV hv).2.1 (jaV hv).2.2) hw | exact jst (jfv node t (jaV hv).1 (jaV hv).2.1 (jaV hv).2.2) hw)) ?_
 refine xL fun b11 => ?_
 iterate 5 refine zW ?_
 have hhb := jpf 1 slot round node
 try have hwb := jnC hv hw
 try have hhm := jqv hhb (show 0 ≤ w2 ∧ w2 ≤ 1600000000 by omega)
 refine zDr [] ?_
 refine zT 0 ?_; refine zT 1 ?_; refine zT 2 ?_; refine zT 3 ?_
 refine jaj 3 rfl (fun hg => ?_) fun hg => ?_
 rotate_left
 case' _ =>(
 first
 | (exact xQ hg)
 | (exfalso; simp at hg; done)
 |(
 refine zT 4 ?_
 refine zT 5 ?_
 refine jaj 5 rfl (fun hg => ?_) fun hg => ?_
 rotate_left
 case' _ =>(
 first
 | (exact xQ hg)
 |(
 refine zK 6 ?_
 refine zK 7 ?_; refine zK 8 ?_; refine zK 9 ?_; refine zK 10 ?_; refine zK 11 ?_; refine zK 12 ?_; refine zK 13 ?_; refine zK 14 ?_; refine zK 15 ?_; refine zK 16 ?_; refine zK 17 ?_; refine zT 18 ?_; refine zT 19 ?_; refine zT 20 ?_
 refine zW ?_))
 rotate_right
 case' _ =>(
 first
 | (exact xQ hg)
 |(
 refine zT 6 ?_
 refine zT 7 ?_; refine zT 8 ?_; refine zT 11 ?_; refine zT 12 ?_; refine zT 14 ?_; refine zT 15 ?_
 refine jar 16 rfl zGd zKr zKr zKr (AP.ar (jhC (m := 32) rfl rfl (by decide))) rfl rfl ?_
 refine zOn 9 ?_
 refine xA (jfE _ _ _ _) ?_
 refine zW ?_
 refine jar 10 rfl zGd zKr zKr zKr (AP.ar (jiH rfl rfl rfl (by omega))) rfl rfl ?_
 refine zT 13 ?_; refine zT 17 ?_; refine zT 18 ?_; refine zT 19 ?_; refine zT 20 ?_
 refine zW ?_))))
 rotate_right
 case' _ =>(
 first
 | (exact xQ hg)
 | (exfalso; simp at hg; done)
 |(
 refine zK 4 ?_
 refine zKu 5 ?_; refine zK 6 ?_; refine zK 7 ?_; refine zK 8 ?_; refine zK 9 ?_; refine zK 10 ?_; refine zK 11 ?_; refine zK 12 ?_; refine zK 13 ?_; refine zK 14 ?_; refine zK 15 ?_; refine zK 16 ?_; refine zK 17 ?_; refine zK 18 ?_; refine zT 19 ?_; refine zT 20 ?_
 refine zW ?_))
 all_goals (
 iterate 2 refine zW ?_
 refine jap (.tmp rfl .nil) .nil ?_
 unfold nbrV
 rw [qx hk, qx (p := 0 ≤ node) (by omega), qx (p := node < 10) (by omega), qq, qq, qq]
 first
 | (rw [qc (show decide (node = v) = true by with_reducible assumption), jhd]; rfl)
 | (have he := qd (show decide (node = v) = false by with_reducible assumption); first | (rw [jsc hw he]; rfl) | (unfold nbr; rw [hw, qA he, Bool.false_or]; exact congrArg D.b (jqz hwb))))))))
theorem jin (t : Trust) (v slot round : Int) (h : askedV t v slot round = 0) : C0 270 [av t, .i v, .i slot, .i round] (.tup [.i (chooseV t v slot round), .i 0]) := by
 have hcap := jbv
 have ha := jb1 h
 have hsz := (jaV ha.1).2.1
 obtain ⟨v0, rfl⟩ := qw ha.2.1
 refine jas Tryz.func270 rfl Tryz.call270 rfl ?_
 refine xX fun b4 => ?_
 refine xA ((by have h1 := jeu t (by omega) v0 slot round; rw [h] at h1; exact h1)) ?_
 iterate 9 refine zW ?_
 refine jaT rfl jhl ?_
 iterate 15 refine zW ?_
 refine jai [1, 2, 3, 4] [.box b4 _ _] (fun (k : Nat) (b : Nat) r => (11, .i (b : Int)) :: (12, .i (k : Int)) :: r) (fun k b r => r) (fun k b => k ≤ 10 ∧ b < 10 ∧ nbr t v0 slot round b = true ∧ ∀ u : Nat, u < k → nbr t v0 slot round u = true → hashV 2 slot round u ≤ hashV 2 slot round b ∧ (hashV 2 slot round u = hashV 2 slot round b → u ≤ b)) (fun k b => 10 - k) (0) (v0) zRc ⟨by omega, by omega, jhd _ _ _ _, fun u hu => by omega⟩ (zWk) ?_
 intro k b ⟨hk, hb, hnb, hI⟩
 refine xC ?_ ?_ <;> intro hc
 ·(
 have hlt := qc hc
 refine xE ((by have h1 := jpk t (by omega) v0 slot round k; rw [jui h (by omega)] at h1; exact h1)) fun c33 hc33 => ?_
 refine xC ?_ ?_ <;> intro hc
 ·(
 iterate 10 refine zW ?_
 refine ⟨k + 1, b, ⟨by omega, hb, hnb, jiU (fun u => hashV 2 slot round (u : Int)) (fun u => nbr t v0 slot round (u : Int)) hI (fun h => by have h2 := hc33.trans (jax (by with_reducible assumption)); exact Bool.noConfusion (h.symm.trans h2))⟩, by omega, zWk⟩)
 ·(
 refine xA (jfE _ _ _ _) ?_
 refine xA (jfE _ _ _ _) ?_
 iterate 5 refine zW ?_
 obtain ⟨p, hp⟩ : ∃ p, hashV 2 slot round (k : Int) = p := ⟨_, rfl⟩
 obtain ⟨q, hq⟩ : ∃ q, hashV 2 slot round (b : Int) = q := ⟨_, rfl⟩
 rw [hp, hq]
 iterate 5 refine zW ?_
 iterate 9 all_goals first | refine zW ?_ | refine xG ?_ ?_ <;> intro hg
 all_goals (
 refine xC ?_ ?_ <;> intro hc
 ·(
 first
 | (exact xQ hc)
 |(
 iterate 12 refine zW ?_
 refine ⟨k + 1, k, ⟨by omega, by omega, hc33.trans (jaw (by with_reducible assumption)), jig (fun u => hashV 2 slot round (u : Int)) (fun u => nbr t v0 slot round (u : Int)) hp hq hI (by first | exact .inl (qc (show decide (q < p) = true by with_reducible assumption)) | exact .inr ⟨qc (show decide (p = q) = true by with_reducible assumption), qc (show decide ((b : Int) < (k : Int)) = true by with_reducible assumption)⟩)⟩, by omega, zWk⟩))
 ·(
 first
 | (exact xQ hc)
 |(
 iterate 9 refine zW ?_
 first
 | (refine ⟨k + 1, k, ⟨by omega, by omega, hc33.trans (jaw (by with_reducible assumption)), jig (fun u => hashV 2 slot round (u : Int)) (fun u => nbr t v0 slot round (u : Int)) hp hq hI (by first | exact .inl (qc (show decide (q < p) = true by with_reducible assumption)) | exact .inr ⟨qc (show decide (p = q) = true by with_reducible assumption), qc (show decide ((b : Int) < (k : Int)) = true by with_reducible assumption)⟩)⟩, by omega, zWk⟩)
 | (refine ⟨k + 1, b, ⟨by omega, hb, hnb, jnB (fun u => hashV 2 slot round (u : Int)) (fun u => nbr t v0 slot round (u : Int)) hp hq hI (qd (show decide (q < p) = false by with_reducible assumption)) (by first | exact .inl (qd (show decide (p = q) = false by with_reducible assumption)) | exact .inr (qd (show decide ((b : Int) < (k : Int)) = false by with_reducible assumption)))⟩, by omega, zWk⟩))))))
 ·(
 have hge := qd hc
 obtain rfl : k = 10 := by omega
 refine xP ?_
 rw [jhb (by omega) hb hnb hI]; rfl)
theorem joe {v slot round e : Int} (ht : sizeT t ≤ 1000000000) (h : askedV t v slot round = e) : Con none Tryz.prog 283 [av t, .i v, .i slot, .i round] [] (Is (.i e) []) := by rw [← h]; exact jeu t ht v slot round
theorem jij (t : Trust) (ht : sizeT t ≤ 1000000000) (v slot round e : Int) (he : askedV t v slot round = e) (h0 : ¬ e = 0) : C0 270 [av t, .i v, .i slot, .i round] (.tup [.i 0, .i e]) := by
 refine xI Tryz.func270 Tryz.call270 fun hcap => ?_
 refine xX fun b4 => ?_
 refine xA (joe ht he) ?_
 iterate 9 refine zW ?_
 refine jbS rfl (by simp [h0]) ?_
 refine xP ?_; exact rfl
theorem jhD (t : Trust) (ht : sizeT t ≤ 1000000000) (v slot round e : Int) (he : askedV t v slot round = e) (h0 : ¬ e = 0) : C0 254 [av t, .i v, .i slot, .i round] (.tup [.i 0, .i e]) := by
 refine xI Tryz.func254 Tryz.call254 fun hcap => ?_
 refine xX fun b4 => ?_
 refine xA (jij t ht v slot round e he h0) ?_
 iterate 13 refine zW ?_
 refine jbS rfl (by simp [h0]) ?_
 refine xP ?_; exact rfl
theorem jgx {v slot round : Int} {b : Nat} (h : askedV t v slot round = 0) (hb : chooseV t v slot round = b) : Con none Tryz.prog 270 [av t, .i v, .i slot, .i round] [] (Is (.tup [.i b, .i 0]) []) := by rw [← hb]; exact jin t v slot round h
theorem jhH (t : Trust) (v slot : Int) (n : Nat) (h : askedV t v slot n = 0) : C0 254 [av t, .i v, .i slot, .i n] (.tup [.i (leadersTo t v slot n : Int), .i 0]) := by
 have hcap := jbv
 have ha := jb1 h
 have hsz := (jaV ha.1).2.1
 obtain ⟨c0, hc0, hcv0, _, _⟩ := jcz (t := t) (v := v) (slot := slot) (round := (n : Int)) ⟨ha.2.1, ha.2.2.1⟩
 refine jas Tryz.func254 rfl Tryz.call254 rfl ?_
 refine xX fun b4 => ?_
 refine xA (jgx h hcv0) ?_
 iterate 13 refine zW ?_
 refine jaT rfl jhl ?_
 iterate 14 refine zW ?_
 refine jak [1, 2, 3, 4] [.box b4 _ _] (fun (k : Nat) r => (12, .i (leadersTo t v slot k : Int)) :: (13, .i ((k + 1 : Nat) : Int)) :: r) (fun k r => r) (fun k => k ≤ n) (fun k => n - k) (0) zRc (by omega) (zWk) ?_
 intro k hk
 refine xC ?_ ?_ <;> intro hc
 ·(
 have hlt := qc hc
 obtain ⟨cb, hcb, hcv, _, _⟩ := jcz (t := t) (v := v) (slot := slot) (round := ((k + 1 : Nat) : Int)) ⟨ha.2.1, ha.2.2.1⟩
 have hp := jaI hcb
 have hls := jg0 (t := t) (slot := slot) ⟨ha.2.1, ha.2.2.1⟩ k
 refine xA (jgx (jjR h (by omega) (by omega)) hcv) ?_
 refine xE (jcy _ _) fun c42 hc42 => ?_
 refine xC ?_ ?_ <;> intro hc
 ·(
 iterate 3 refine zW ?_
 refine zP (ja9 (p := 1) rfl rfl rfl (by omega) (by omega)) ?_
 iterate 11 refine zW ?_
 rw [← jeB hcv]; refine ⟨k + 1, by omega, by omega, zWk⟩)
 ·(
 iterate 9 refine zW ?_
 have e : leadersTo t v slot (k + 1) = leadersTo t v slot k := (by rw [jeB hcv]; exact jt1 (by have h5 := ((jbc hls).1 (hc42.trans (jaw hc))).2.2; rwa [qr] at h5)); refine ⟨k + 1, by omega, by omega, ?_⟩; rw [e]; exact (zWk)))
 ·(
 have hge := qd hc
 obtain rfl : k = n := by omega
 refine xP ?_; exact rfl)
theorem jht (t : Trust) (ht : sizeT t ≤ 1000000000) (v slot round : Int) : C0 254 [av t, .i v, .i slot, .i round] (.tup [.i (leadersR t v slot round).1, .i (leadersR t v slot round).2]) := by
 unfold leadersR
 by_cases h : askedV t v slot round = 0
 ·(
 rw [qf h]
 obtain ⟨n, rfl⟩ := qw (show 0 ≤ round by have := jb1 h; omega)
 rw [qr]
 exact jhH t v slot n h)
 ·rw [qe h]; exact jhD t ht v slot round _ rfl h
def blankT (t : Trust) : Bool := decide (t.th = 0) && (decide (t.nodes.length = 0) && decide (t.inner.length = 0))
theorem jnI {b : Bool} (h : m.decl = false) (hb : blankT m.t = b) : memV m n = if b = true then 0 else 1 := by
 unfold memV
 rw [h, ← hb]
 unfold blankT
 simp [and_assoc]
theorem jom (t : Trust) : C0 150 [av t] (.b (blankT t)) := by
 refine xI Tryz.func150 Tryz.call150 fun hcap => ?_
 have hl1 : (t.nodes.map D.i).length = t.nodes.length := by simp
 have hl2 := jaU t.inner
 refine xX fun b1 => ?_
 iterate 9 refine zW ?_
 iterate 2 all_goals first | refine zW ?_ | refine xG ?_ ?_ <;> intro hg
 all_goals first | (refine zY ?_; (first | refine zLn fun _ => ?_ | refine zW ?_)) | refine zSk ?_
 all_goals first | (refine zY ?_; (rw [hl1]; refine zW ?_)) | refine zSk ?_
 iterate 4 all_goals first | refine zW ?_ | refine xG ?_ ?_ <;> intro hg
 all_goals first | (refine zY ?_; (first | refine zLn fun _ => ?_ | refine zW ?_)) | refine zSk ?_
 all_goals first | (refine zY ?_; (rw [hl2]; refine zW ?_)) | refine zSk ?_
 iterate 2 all_goals refine zW ?_
 all_goals (
 refine xP ?_
 unfold blankT
 simp_all [resD]; done)
theorem jmD (m : Mem) (hm : sizeT m.t ≤ 1000000000) (n : Nat) (hn : n ≤ 10) : C0 116 [mv m, .i n] (.i (memV m n)) := by
 refine xI Tryz.func116 Tryz.call116 fun hcap => ?_
 have hp10 := jbD hn
 have hul := jen m.t
 refine xX fun b2 => ?_
 refine xC ?_ ?_ <;> intro hc
 ·(
 have hdl : m.decl = false := jax hc
 refine xE (jom m.t) fun c11 hc11 => ?_
 refine xC ?_ ?_ <;> intro hc
 ·(
 iterate 8 refine zW ?_
 refine jap (.tmp rfl .nil) .nil ?_
 rw [jnI hdl (hc11.trans (jax hc))]; rfl)
 ·(
 iterate 9 refine zW ?_
 refine jap (.tmp rfl .nil) .nil ?_
 rw [jnI hdl (hc11.trans (jaw hc))]; rfl))
 ·(
 have hdl : m.decl = true := jaw hc
 refine xA (jmH m.t hm) ?_
 refine xC ?_ ?_ <;> intro hc
 ·(
 have hv := jah hc
 iterate 8 refine zW ?_
 refine jap (.tmp rfl .nil) .nil ?_
 unfold memV; rw [qf hdl, qe hv]; rfl)
 ·(
 have hv := jaf hc
 iterate 4 refine zW ?_
 refine zDr [] ?_
 refine zT 0 ?_; refine zT 1 ?_; refine zT 3 ?_
 refine jar 4 rfl zGd zKr zKr zKr (AP.ar (ja9 (p := 1) rfl rfl rfl (by omega) (by omega))) rfl rfl ?_
 refine zOn 2 ?_
 refine xA (jsp m.t) ?_
 refine zW ?_
 refine zT 5 ?_
 refine zW ?_
 all_goals (
 refine xC ?_ ?_ <;> intro hc
 ·(
 have hge := qc hc
 iterate 7 refine zW ?_
 refine jap (.tmp rfl .nil) .nil ?_
 unfold memV; rw [qf hdl, qf hv, qf (by omega)]; rfl)
 ·(
 have hge := qd hc
 iterate 8 refine zW ?_
 refine jap (.tmp rfl .nil) .nil ?_
 unfold memV; rw [qf hdl, qf hv, qe (by omega)]; rfl))))
theorem jgQ (c : List Mem) (hs : ∀ m ∈ c, sizeT m.t ≤ 1000000000) : C0 70 [cv c] (.i (validC c)) := by
 refine xI Tryz.func70 Tryz.call70 fun hcap => ?_
 have hml : (c.map mv).length = c.length := by simp
 refine xX fun b1 => ?_
 refine xN fun _ => ?_
 refine xC ?_ ?_ <;> intro hc
 ·(
 have hlen := qc hc
 iterate 7 refine zW ?_
 refine jap (.tmp rfl .nil) .nil ?_
 unfold validC; rw [qf (by omega)]; rfl)
 ·(
 have hlen := qd hc
 refine xN fun _ => ?_
 iterate 4 refine zW ?_
 refine jak [1, 11, 12] [.box b1 _ _] (fun (k : Nat) r => (13, .i (k : Int)) :: r) (fun k r => r) (fun k => k ≤ c.length ∧ memsV c.length (c.drop k) = memsV c.length c) (fun k => c.length - k) (0) zRc ⟨by omega, by simp⟩ (zWk) ?_
 intro k ⟨hk, hI⟩
 refine xC ?_ ?_ <;> intro hc
 ·(
 have hlt := qc hc
 obtain ⟨x, hx, hd⟩ := jab (l := c) (k := k) (by omega)
 have hx' := jae mv hx
 refine xL fun b4 => ?_
 refine xN fun _ => ?_
 (rw [hml]; refine jaa zRc (jmD x (hs x (qg hx)) c.length (by omega)) rfl rfl ?_)
 refine xC ?_ ?_ <;> intro hc
 ·(
 iterate 12 refine zW ?_
 refine jap (.tmp rfl .nil) .nil ?_
 rw [hd] at hI; simp only [memsV] at hI
 rw [qe (jah hc)] at hI
 unfold validC; rw [qe (by omega), ← hI]; rfl)
 ·(
 iterate 8 refine zW ?_
 rw [hd] at hI; simp only [memsV] at hI
 rw [qf (jaf hc)] at hI
 refine ⟨k + 1, ⟨by omega, hI⟩, by omega, zWk⟩))
 ·(
 have hge := qd hc
 rw [jad (by omega)] at hI; simp only [memsV] at hI
 iterate 11 refine zW ?_
 refine jap (.tmp rfl .nil) .nil ?_
 unfold validC; rw [qe (by omega), ← hI]; rfl))
theorem v32 : validC (sameC 3 2) = 0 := jl7 (by omega) (by omega)
theorem a32 : aloneC (sameC 3 2) 0 = false := by kernel_rfl
theorem jpy (t : Trust) : same t Trust.none = blankT t := by
 unfold same blankT
 have h1 : decide (t.nodes = Trust.none.nodes) = decide (t.nodes.length = 0) := by rw [Bool.eq_iff_iff, decide_eq_true_iff, decide_eq_true_iff]; simp [Trust.none, Trust.nodes]
 have h2 : sameL t.inner Trust.none.inner = decide (t.inner.length = 0) := by
  cases h : t.inner with
  | nil => rfl
  | cons x r => rfl
 rw [h1, h2]
 rfl
theorem jsU {b : Bool} (h : m.decl = false) (hb : same m.t Trust.none = b) : memV m n = if b = true then 0 else 1 := jnI h (by rw [← jpy]; exact hb)
theorem juW (h : m.decl = true) (hv : ¬ validT m.t = 0) : memV m n = validT m.t := by unfold memV; rw [qf h, qe hv]
theorem juV (h : m.decl = true) (hv : validT m.t = 0) (hu : 2 ^ n ≤ uses m.t) : memV m n = 5 := by unfold memV; rw [qf h, qf hv, qf hu]
theorem jvE (h : m.decl = true) (hv : validT m.t = 0) (hu : ¬ 2 ^ n ≤ uses m.t) : memV m n = 0 := by unfold memV; rw [qf h, qf hv, qe hu]
theorem jj3 (c : List Mem) (hs : ∀ m ∈ c, sizeT m.t ≤ 1000000000) : C0 49 [cv c] (.i (validC c)) := by
 refine xI Tryz.func49 Tryz.call49 fun hcap => ?_
 have hml : (c.map mv).length = c.length := by simp
 refine xX fun b1 => ?_
 refine xN fun _ => ?_
 refine xC ?_ ?_ <;> intro hc
 ·(
 have hlen := qc hc
 iterate 7 refine zW ?_
 refine jap (.tmp rfl .nil) .nil ?_
 unfold validC; rw [qf (by omega)]; rfl)
 ·(
 have hlen := qd hc
 have h10 := jbD (n := c.length) (by omega)
 have hul := fun t : Trust => jen t
 have hp2 : 2 ^ (c.map mv).length = 2 ^ c.length := by rw [hml]
 refine xN fun _ => ?_
 iterate 4 refine zW ?_
 refine jak [1, 11, 12] [.box b1 _ _] (fun (k : Nat) r => (13, .i (k : Int)) :: r) (fun k r => r) (fun k => k ≤ c.length ∧ memsV c.length (c.drop k) = memsV c.length c) (fun k => c.length - k) (0) zRc ⟨by omega, by simp⟩ (zWk) ?_
 intro k ⟨hk, hI⟩
 refine xC ?_ ?_ <;> intro hc
 ·(
 have hlt := qc hc
 obtain ⟨x, hx, hd⟩ := jab (l := c) (k := k) (by omega)
 have hx' := jae mv hx
 have hul2 := hul x.t
 refine xL fun b4 => ?_
 refine xC ?_ ?_ <;> intro hc
 ·(
 have hdl : x.decl = false := jax hc
 iterate 6 refine zW ?_
 (refine jaP [1,11,12,13,21,22] 1 rfl rfl (by repeat (first | exact SelC.nil | apply SelC.cons rfl (Cv.agg (CvL.cons Cv.same (CvL.cons Cv.fz (CvL.cons Cv.same CvL.nil)))) | apply SelC.cons rfl Cv.same)) jb5 ?_; refine jaP [1,11,12,13,21,22] 3 rfl rfl jdt jb5 ?_; refine jbx zRc (jbX x.t Trust.none) rfl rfl fun c23 hc23 => ?_)
 refine xC ?_ ?_ <;> intro hc
 ·(
 have hm1 : memV x c.length = 1 := by rw [jsU hdl (hc23.trans (jax hc))]; rfl
 iterate 13 refine zW ?_
 refine jap (.tmp rfl .nil) .nil ?_
 rw [hd] at hI; simp only [memsV] at hI
 rw [qe (by rw [hm1]; first | exact hv9 | omega), hm1] at hI
 unfold validC; rw [qe (by omega), ← hI]; rfl)
 ·(
 have hm0 : memV x c.length = 0 := by rw [jsU hdl (hc23.trans (jaw hc))]; rfl
 iterate 11 refine zW ?_
 rw [hd] at hI; simp only [memsV] at hI
 rw [qf hm0] at hI
 refine ⟨k + 1, ⟨by omega, hI⟩, by omega, zWk⟩))
 ·(
 have hdl : x.decl = true := jaw hc
 refine xA (jaQ x.t (hs x (qg hx))) ?_
 refine xC ?_ ?_ <;> intro hc
 ·(
 have hv9 := jah hc
 have hm1 : memV x c.length = validT x.t := juW hdl hv9
 iterate 13 refine zW ?_
 refine jap (.tmp rfl .nil) .nil ?_
 rw [hd] at hI; simp only [memsV] at hI
 rw [qe (by rw [hm1]; first | exact hv9 | omega), hm1] at hI
 unfold validC; rw [qe (by omega), ← hI]; rfl)
 ·(
 have hv := jaf hc
 iterate 3 refine zW ?_
 refine zDr [] ?_
 refine zT 0 ?_; refine zT 1 ?_; refine zT 3 ?_; refine zT 4 ?_; refine zT 5 ?_
 refine jar 6 rfl zGd zKr zKr zKr (AP.ar (ja9 (p := 1) rfl rfl rfl (by omega) (by omega))) rfl rfl ?_
 refine zOn 2 ?_
 refine xA (joL x.t) ?_
 refine zW ?_
 refine zT 7 ?_
 refine zW ?_
 all_goals (
 refine xC ?_ ?_ <;> intro hc
 ·(
 have hge := qc hc
 have hm1 : memV x c.length = 5 := juV hdl hv (by omega)
 iterate 11 refine zW ?_
 refine jap (.tmp rfl .nil) .nil ?_
 rw [hd] at hI; simp only [memsV] at hI
 rw [qe (by rw [hm1]; first | exact hv9 | omega), hm1] at hI
 unfold validC; rw [qe (by omega), ← hI]; rfl)
 ·(
 have hge := qd hc
 have hm0 : memV x c.length = 0 := jvE hdl hv (by omega)
 iterate 8 refine zW ?_
 rw [hd] at hI; simp only [memsV] at hI
 rw [qf hm0] at hI
 refine ⟨k + 1, ⟨by omega, hI⟩, by omega, zWk⟩)))))
 ·(
 have hge := qd hc
 rw [jad (by omega)] at hI; simp only [memsV] at hI
 iterate 11 refine zW ?_
 refine jap (.tmp rfl .nil) .nil ?_
 unfold validC; rw [qe (by omega), ← hI]; rfl))
theorem jtO {th th2 : Int} {q : List Int} {q2 : List Trust} (h1 : lessN s t.nodes t.th [] = (th, q)) (h2 : lessI s t.inner th [] = (th2, q2)) : less s t = .mk th2 q q2 := by unfold less; rw [h1, h2]
theorem jve (h : has s k = true) : delM s k m = ⟨false, Trust.none⟩ := by unfold delM; rw [qf h]
theorem jwa (h : has s k = false) (hd : m.decl = true) : delM s k m = ⟨m.decl, delT s k m.t⟩ := by unfold delM; rw [qe (by rw [h]; decide), qf hd, hd]
theorem jk2 {x : Mem} {l l' q : List Mem} (hd : l = x :: l') (hI : q ++ delGo s k l = delC c s) : (q ++ [delM s k x]) ++ delGo s (k + 1) l' = delC c s := by rw [← hI, hd]; simp [delGo]
abbrev TB (k : Int) : Prop := 0 ≤ k ∧ k ≤ 1000000000000
inductive NN : Trust → Prop
 | mk {th : Int} {q : List Int} {i : List Trust} (h : TB th) (hi : ∀ y ∈ i, NN y) : NN (.mk th q i)
theorem NN.th (h : NN t) : TB t.th := by cases h with | mk h hi => exact h
theorem NN.inner (h : NN t) : ∀ y ∈ t.inner, NN y := by cases h with | mk h hi => exact hi
theorem jp1 {k : Int} (h : TB k) : TB (lw k) ∧ max k 1 - 1 = lw k := by
 obtain ⟨h1, h2⟩ := h
 unfold lw TB
 split
 ·omega
 ·rw [jet (by omega) (by omega)]; omega
theorem jg9 {s : Int} : ∀ (l : List Int) (th : Int) (q : List Int), TB th → TB (lessN s l th q).1
 | [], th, q, h => by simpa [lessN] using h
 | x :: l, th, q, h => by
  simp only [lessN]
  split
  ·exact jg9 l _ _ (jp1 h).1
  ·exact jg9 l _ _ h
theorem jhr {s : Int} : ∀ (l : List Trust) (th : Int) (q : List Trust), TB th → TB (lessI s l th q).1
 | [], th, q, h => by simpa [lessI] using h
 | x :: l, th, q, h => by
  rw [jdd]
  split
  ·exact jhr l _ _ (jp1 h).1
  ·exact jhr l _ _ h
theorem jnX (h : NN t) : TB (less s t).th :=
 jhr t.inner _ [] (jg9 t.nodes t.th [] h.th)
theorem je8 (k : Int) (h : TB k) : C0 200 [.i k, .i 1] (.i (lw k)) := by
 have hcap := jbv
 have h2 := (jp1 h).2
 obtain ⟨h0, h1⟩ := h
 refine jas Tryz.func200 rfl Tryz.call200 rfl ?_
 iterate 11 refine zW ?_
 refine zP (jbQ (m := lw k) rfl rfl (by simp only [addI, qj]; exact h2) (by omega)) ?_
 refine xP ?_; exact rfl
theorem jm2 (s : Int) : ∀ (t : Trust), sizeT t ≤ 200000 → NN t → Con none Tryz.prog 160 [av t, .i s] [] (Is (av (less s t)) []) := by
 have hcap := jbv
 intro t
 induction t using Trust.ind with
 | _ t ih =>
  have hl1 : (t.nodes.map D.i).length = t.nodes.length := by simp
  have hl2 := jaU t.inner
  intro hsz hnn
  have hs0 : sizeT t = t.nodes.length + t.inner.length + sizeL t.inner := rfl
  have hm0 : max t.th 0 = t.th := by have := hnn.th.1; omega
  refine jas Tryz.func160 rfl Tryz.call160 rfl ?_
  refine xX fun b2 => ?_
  refine zAl fun b4 => ?_
  refine xL fun b5 => ?_
  iterate 5 refine zW ?_
  rw [hm0]
  refine xN fun _ => ?_
  iterate 4 refine zW ?_
  refine jbe [1, 2, 4, 5, 15, 16] [.box b4 _ _, .box b2 _ _] (fun (k : Nat) (v : Value) (th : Int) (q : List Int) r => (17, .i (k : Int)) :: r) (fun k v th q r => .box b5 48 [.i th, .v v, .nil] :: .arr v 3 1 (q.map .i) :: r) (fun k v th q => k ≤ t.nodes.length ∧ q.length ≤ k ∧ TB th ∧ lessN s (t.nodes.drop k) th q = lessN s t.nodes t.th []) (fun k v th q => t.nodes.length - k) (0) (.slice none 0 0) (t.th) ([]) zRc ⟨by omega, by simp, hnn.th, by simp⟩ ((jaM 3 1 rfl).trans (zWk)) ?_
  intro k v th q ⟨hk, hql, hth, hI⟩
  have hml : (q.map D.i).length = q.length := by simp
  refine xC ?_ ?_ <;> intro hc
  ·have hlt := qc hc
   obtain ⟨x, hx, hd⟩ := jab (l := t.nodes) (k := k) (by omega)
   have hx' := jae D.i hx
   refine xE (jfk s x) fun c23 hc23 => ?_
   refine xC ?_ ?_ <;> intro hc
   ·refine xA (je8 _ (by assumption)) ?_
    iterate 10 refine zW ?_
    rw [hd] at hI; simp only [lessN] at hI
    rw [qf (hc23.trans hc)] at hI; refine ⟨k + 1, v, lw th, q, ⟨by omega, by omega, (jp1 hth).1, hI⟩, by omega, zWk⟩
   ·iterate 4 refine zW ?_
    refine xLt 3 1 8 ?_
    refine xEa 3 1 8 fun v32 hv32 => ?_
    iterate 10 refine zW ?_
    rw [hd] at hI; simp only [lessN] at hI
    rw [qe (fun e => by rw [hc23.trans hc] at e; cases e)] at hI; rw [jbK]; refine ⟨k + 1, _, th, q ++ [x], ⟨by omega, by simp only [qo, qi, qs]; omega, hth, hI⟩, by omega, zWk⟩
  ·have hge := qd hc
   have hN : lessN s t.nodes t.th [] = (th, q) := by rw [jad (by omega)] at hI; exact hI.symm
   refine xN fun _ => ?_
   iterate 4 refine zW ?_
   refine jbe [1, 4, 5, 36, 37] [.box b4 _ _, .box b2 _ _, .arr v 3 1 (q.map .i)] (fun (k : Nat) (v2 : Value) (th2 : Int) (q2 : List Trust) r => (38, .i (k : Int)) :: r) (fun k v2 th2 q2 r => .box b5 48 [.i th2, .v v, .v v2] :: .arr v2 48 3 (avs q2) :: r) (fun k v2 th2 q2 => k ≤ t.inner.length ∧ q2.length ≤ k ∧ TB th2 ∧ lessI s (t.inner.drop k) th2 q2 = lessI s t.inner th []) (fun k v2 th2 q2 => t.inner.length - k) (0) (.slice none 0 0) (th) ([]) zRc ⟨by omega, by simp, hth, by simp⟩ ((jaM 48 3 rfl).trans (zWk)) ?_
   intro k v2 th2 q2 ⟨hk, hql2, hth2, hI2⟩
   have hal : (avs q2).length = q2.length := jaU _
   refine xC ?_ ?_ <;> intro hc
   ·have hlt := qc hc
    obtain ⟨y, hy, hd⟩ := jab (l := t.inner) (k := k) (by omega)
    have hy' := jbj hy
    have hym := qg hy
    refine xL fun b9 => ?_
    refine xA (ih y hym (by have := jbJ hym; omega) (hnn.inner y hym)) ?_
    refine xC ?_ ?_ <;> intro hc
    ·refine xA (je8 _ (by assumption)) ?_
     iterate 10 refine zW ?_
     rw [hd, jdd] at hI2
     rw [qf (by have := qc hc; omega)] at hI2; refine ⟨k + 1, v2, lw th2, q2, ⟨by omega, by omega, (jp1 hth2).1, hI2⟩, by omega, zWk⟩
    ·iterate 4 refine zW ?_
     refine xLt 48 3 56 ?_
     refine xEa 48 3 56 fun v56 hv56 => ?_
     iterate 10 refine zW ?_
     rw [hd, jdd] at hI2
     rw [qe (by have := qd hc; have := (jnX (s := s) (hnn.inner y hym)).1; omega)] at hI2; rw [show D.agg [.i (less s y).th, .sl 1 ((less s y).nodes.map .i), .sl 3 (avs (less s y).inner)] = av (less s y) from rfl, jrI]; refine ⟨k + 1, _, th2, q2 ++ [less s y], ⟨by omega, by simp only [qo, qi, qs]; omega, hth2, hI2⟩, by omega, zWk⟩
   ·have hge := qd hc
    have hL : lessI s t.inner th [] = (th2, q2) := by rw [jad (by omega)] at hI2; exact hI2.symm
    iterate 11 refine zW ?_
    refine zFz v [4] ?_; refine zFz v2 [4] ?_
    refine xP ?_
    rw [jtO hN hL]; rfl
theorem jps (t : Trust) (k : Int) (s : Nat) (hs : s < 1024) (hsz : sizeT t ≤ 200000) (hnn : NN t) : C0 126 [av t, .i k, .i s] (av (delT s k t)) := by
 refine xI Tryz.func126 Tryz.call126 fun hcap => ?_
 have hb := (jnX (s := (s : Int)) hnn).1
 refine xX fun b3 => ?_
 refine zAl fun b6 => ?_
 refine xA (ju7 hs) ?_
 iterate 3 refine zW ?_
 refine jaT rfl jhl ?_
 refine xA (jm2 s t hsz hnn) ?_
 refine zAl fun b7 => ?_
 refine xC ?_ ?_ <;> intro hc
 ·(
 have hle := qc hc
 iterate 3 refine zW ?_
 refine xLt 3 1 8 ?_
 iterate 4 refine zW ?_
 refine jam [6] 3 rfl jdt jcG ?_
 refine xP ?_
 unfold delT; rw [qf (by omega)]; rfl)
 ·(
 have hle := qd hc
 refine xP ?_
 unfold delT; rw [qe (by omega)]; rfl)
theorem jrJ (c : List Mem) (hcl : c.length ≤ 10) (s : Nat) (hs : s < 1024) (hsz : ∀ m ∈ c, sizeT m.t ≤ 200000) (hdc : ∀ m ∈ c, m.decl = true) (hnn : ∀ m ∈ c, NN m.t) : C0 91 [cv c, .i s] (cv (delC c s)) := by
 refine xI Tryz.func91 Tryz.call91 fun hcap => ?_
 have hml : (c.map mv).length = c.length := by simp
 refine xX fun b2 => ?_
 refine zAl fun b4 => ?_
 refine xL fun b5 => ?_
 refine xN fun _ => ?_
 iterate 4 refine zW ?_
 refine jaR [1, 4, 5, 9, 10] [.box b4 _ _, .box b2 _ _] (fun (k : Nat) (v : Value) (q : List Mem) r => (11, .i (k : Int)) :: r) (fun k v q r => .box b5 28 [.v v] :: .arr v 101 4 (q.map mv) :: r) (fun k v q => k ≤ c.length ∧ q.length = k ∧ q ++ delGo s k (c.drop k) = delC c s) (fun k v q => c.length - k) (0) (.slice none 0 0) ([]) zRc ⟨by omega, rfl, by simp [delC]⟩ ((jaM 101 4 rfl).trans (zWk)) ?_
 intro k v q ⟨hk, hql, hI⟩
 have hqm : (q.map mv).length = q.length := by simp
 refine xC ?_ ?_ <;> intro hc
 ·(
 have hlt := qc hc
 obtain ⟨x, hx, hd⟩ := jab (l := c) (k := k) (by omega)
 have hx' := jae mv hx
 have hxd := hdc x (qg hx)
 refine xL fun b7 => ?_
 refine xE (jfk s k) fun c23 hc23 => ?_
 refine xC ?_ ?_ <;> intro hc
 ·(
 iterate 10 refine zW ?_
 refine jaP [1,4,5,9,10,11,35,36] 1 rfl rfl (by repeat (first | exact SelC.nil | apply SelC.cons rfl (Cv.agg (CvL.cons Cv.same (CvL.cons Cv.same (CvL.cons Cv.fz (CvL.cons Cv.same CvL.nil))))) | apply SelC.cons rfl Cv.same)) jb5 ?_; refine jaP [1,4,5,9,10,11,35,36] 3 rfl rfl jdt jb5 ?_; refine xLt 101 4 64 ?_
 refine xEa 101 4 64 (hb := by simp only [qi, qs, qo, qv]; omega) fun v38 hv38 => ?_
 iterate 10 refine zW ?_
 refine ⟨k + 1, v38, q ++ [delM s k x], ⟨by omega, by simp only [qo, qi, qs]; omega, jk2 hd hI⟩, by omega, ?_⟩; rw [← jfC, jve (hc23.trans (by with_reducible assumption))]; exact (zWk))
 ·(
 iterate 7 refine zW ?_
 refine jbS rfl jhl ?_
 refine xA (jps x.t k s hs (hsz x (qg hx)) (hnn x (qg hx))) ?_
 iterate 9 refine zW ?_
 refine jaP [1,4,5,9,10,11,35,36] 1 rfl rfl (by repeat (first | exact SelC.nil | apply SelC.cons rfl (Cv.agg (CvL.cons Cv.same (CvL.cons Cv.same (CvL.cons Cv.fz (CvL.cons Cv.same CvL.nil))))) | apply SelC.cons rfl Cv.same)) jb5 ?_; refine jaP [1,4,5,9,10,11,35,36] 3 rfl rfl jdt jb5 ?_; refine xLt 101 4 64 ?_
 refine xEa 101 4 64 (hb := by simp only [qi, qs, qo, qv]; omega) fun v38 hv38 => ?_
 iterate 10 refine zW ?_
 refine ⟨k + 1, v38, q ++ [delM s k x], ⟨by omega, by simp only [qo, qi, qs]; omega, jk2 hd hI⟩, by omega, ?_⟩; rw [← jfC, jwa (hc23.trans (by with_reducible assumption)) (by with_reducible assumption)]; exact (zWk)))
 ·(
 have hge := qd hc
 have hF : q = delC c s := by rw [jad (by omega)] at hI; simpa [delGo] using hI
 iterate 11 refine zW ?_
 refine zFz v [4] ?_
 refine xP ?_
 rw [← hF]; rfl)
structure OKA (c : List Mem) : Prop where
 len : c.length ≤ 4
 decl : ∀ m ∈ c, m.decl = true
 size : ∀ m ∈ c, sizeT m.t ≤ 200
 nn : ∀ m ∈ c, NN m.t
 ok : validC c = 0
theorem OKA.s9 (h : OKA c) : ∀ m ∈ c, sizeT m.t ≤ 1000000000 := fun m hm => by have := h.size m hm; omega
theorem OKA.s2 (h : OKA c) : ∀ m ∈ c, sizeT m.t ≤ 200000 := fun m hm => by have := h.size m hm; omega
theorem OKA.l10 (h : OKA c) : c.length ≤ 10 := by have := h.len; omega
theorem OKA.any (h : OKA c) : (c.any fun m => !m.decl) = false := by
 rw [List.any_eq_false]
 intro m hm
 rw [h.decl m hm]; decide
theorem jsB (h : n ≤ 4) : 1 ≤ 2 ^ n ∧ 2 ^ n ≤ 16 := by
 have h1 : 0 < 2 ^ n := Nat.pow_pos (by omega)
 have h2 := Nat.pow_le_pow_right (show 0 < 2 by omega) h
 omega
theorem jvD (h : (!decide ((n : Int) = 0)) = false) : n = 0 := by have := jaf h; omega
theorem juP (h : (!decide ((n : Int) = 0)) = true) : ¬ n = 0 := by have := jah h; omega
theorem jfG {α : Type} {p : α → Bool} {x : α} {r : List α} (h : p x = false) : (x :: r).any p = r.any p := by simp [h]
theorem jfY {α : Type} {p : α → Bool} {x : α} {r : List α} (h : p x = true) : (x :: r).any p = true := by simp [h]
theorem jdw (c : List Mem) (hc : c.length ≤ 4) : C0 72 [cv c] (.i ((2 ^ c.length - 1 : Nat) : Int)) := by
 refine xI Tryz.func72 Tryz.call72 fun hcap => ?_
 have hml : (c.map mv).length = c.length := by simp
 have hpos : 0 < 2 ^ c.length := Nat.pow_pos (by omega)
 have hle := Nat.pow_le_pow_right (show 0 < 2 by omega) hc
 refine xX fun b1 => ?_
 refine xN fun _ => ?_
 (rw [hml]; refine zP (ja9 (p := 1) rfl rfl rfl (by omega) (by omega)) ?_)
 refine zP (jbQ (m := ((2 ^ c.length - 1 : Nat) : Int)) rfl rfl (by show some _ = _; simp only [qj]; omega) (by omega)) ?_
 refine xP ?_; exact rfl
theorem jgK (m : Mem) : C0 93 [mv m] (.b (!m.decl)) := by
 refine xI Tryz.func93 Tryz.call93 fun hcap => ?_
 refine xX fun b1 => ?_
 refine xP ?_; exact rfl
theorem jjY (f : FuncId) (p : Mem → Bool) (l : List Mem) (hf : ∀ k, k ∈ l → Con none Tryz.prog f [mv k] [] (Is (.b (p k)) [])) : Con none Tryz.prog 131 [.sl 4 (l.map mv), .v (.func (.func f) #[] #[])] [] (fun d H => ∃ r : Int, d = .i r ∧ decide (0 ≤ r) = l.any p ∧ H = []) := by
 refine xI Tryz.func131 Tryz.call131 fun hcap => ?_
 have hl1 : (l.map mv).length = l.length := by simp
 refine xN fun _ => ?_
 iterate 4 refine zW ?_
 refine jak [0, 1, 7] [] (fun (k : Nat) r => (8, .i (k : Int)) :: r) (fun k r => r) (fun k => k ≤ l.length ∧ (l.drop k).any p = l.any p) (fun k => l.length - k) (0) zRc ⟨by omega, by simp⟩ (zWk) ?_
 intro k ⟨hk, hI⟩
 refine xC ?_ ?_ <;> intro hc
 ·(
 have hlt : k < l.length := by have := qc hc; omega
 obtain ⟨x, hx, hd⟩ := jab hlt
 have hx' := jae mv hx
 rw [hd] at hI
 iterate 17 refine zW ?_
 (refine jd9 (caps := []) rfl zRc (hf x (qg hx)) jan rfl rfl ?_; rintro _ _ ⟨rfl, rfl⟩; obtain ⟨c16, hc16⟩ : ∃ b, b = p x := ⟨_, rfl⟩; rw [← hc16])
 refine xC ?_ ?_ <;> intro hc
 ·(
 iterate 12 refine zW ?_
 refine jat (.tmp rfl .nil) jaY ⟨_, rfl, ?_, rfl⟩
 rw [jfY (hc16.symm.trans hc)] at hI
 rw [← hI]; exact qx (by omega))
 ·(
 iterate 8 refine zW ?_
 rw [jfG (hc16.symm.trans hc)] at hI
 refine ⟨k + 1, ⟨by omega, hI⟩, by omega, zWk⟩))
 ·(
 have hge : l.length ≤ k := by have := qd hc; omega
 rw [jad hge] at hI
 iterate 11 refine zW ?_
 refine jat (.tmp rfl .nil) jaY ⟨_, rfl, ?_, rfl⟩
 rw [← hI]; rfl)
theorem jdl (f : FuncId) (p : Mem → Bool) (l : List Mem) (hf : ∀ k, k ∈ l → Con none Tryz.prog f [mv k] [] (Is (.b (p k)) [])) : C0 94 [.sl 4 (l.map mv), .v (.func (.func f) #[] #[])] (.b (l.any p)) := by
 refine xI Tryz.func94 Tryz.call94 fun hcap => ?_
 refine xB (jjY f p l hf) ?_; rintro _ _ ⟨r, rfl, hr, rfl⟩
 refine xP ?_
 rw [← hr]; rfl
theorem jkf (b3 b7 : Nat) (d3 d7 : List D) (f : FuncId) (p : Vd → Bool) (l : List Vd) (hf : ∀ k, k ∈ l → Con none Tryz.prog f [vv k, .p b3 0, .p b7 0] [.box b7 78 d7, .box b3 145 d3] (Is (.b (p k)) [.box b7 78 d7, .box b3 145 d3])) : Con none Tryz.prog 158 [.sl 5 (l.map vv), .v (.func (.func f) #[] #[.pointer (some ⟨b3, 0, none⟩), .pointer (some ⟨b7, 0, none⟩)])] [.box b7 78 d7, .box b3 145 d3] (fun d H => ∃ r : Int, d = .i r ∧ decide (0 ≤ r) = l.any p ∧ H = [.box b7 78 d7, .box b3 145 d3]) := by
 refine xI Tryz.func158 Tryz.call158 fun hcap => ?_
 have hl1 : (l.map vv).length = l.length := by simp
 refine xN fun _ => ?_
 iterate 4 refine zW ?_
 refine jak [0, 1, 7] [] (fun (k : Nat) r => (8, .i (k : Int)) :: r) (fun k r => .box b7 78 d7 :: .box b3 145 d3 :: r) (fun k => k ≤ l.length ∧ (l.drop k).any p = l.any p) (fun k => l.length - k) (0) zRc ⟨by omega, by simp⟩ (zWk) ?_
 intro k ⟨hk, hI⟩
 refine xC ?_ ?_ <;> intro hc
 ·(
 have hlt : k < l.length := by have := qc hc; omega
 obtain ⟨x, hx, hd⟩ := jab hlt
 have hx' := jae vv hx
 rw [hd] at hI
 iterate 17 refine zW ?_
 (refine jd9 (caps := [.pointer (some ⟨b3, 0, none⟩), .pointer (some ⟨b7, 0, none⟩)]) rfl zRc (hf x (qg hx)) jan rfl rfl ?_; rintro _ _ ⟨rfl, rfl⟩; obtain ⟨c16, hc16⟩ : ∃ b, b = p x := ⟨_, rfl⟩; rw [← hc16])
 refine xC ?_ ?_ <;> intro hc
 ·(
 iterate 12 refine zW ?_
 refine jat (.tmp rfl .nil) jaY ⟨_, rfl, ?_, rfl⟩
 rw [jfY (hc16.symm.trans hc)] at hI
 rw [← hI]; exact qx (by omega))
 ·(
 iterate 8 refine zW ?_
 rw [jfG (hc16.symm.trans hc)] at hI
 refine ⟨k + 1, ⟨by omega, hI⟩, by omega, zWk⟩))
 ·(
 have hge : l.length ≤ k := by have := qd hc; omega
 rw [jad hge] at hI
 iterate 11 refine zW ?_
 refine jat (.tmp rfl .nil) jaY ⟨_, rfl, ?_, rfl⟩
 rw [← hI]; rfl)
theorem jf4 (b3 b7 : Nat) (d3 d7 : List D) (f : FuncId) (p : Vd → Bool) (l : List Vd) (hf : ∀ k, k ∈ l → Con none Tryz.prog f [vv k, .p b3 0, .p b7 0] [.box b7 78 d7, .box b3 145 d3] (Is (.b (p k)) [.box b7 78 d7, .box b3 145 d3])) : Con none Tryz.prog 124 [.sl 5 (l.map vv), .v (.func (.func f) #[] #[.pointer (some ⟨b3, 0, none⟩), .pointer (some ⟨b7, 0, none⟩)])] [.box b7 78 d7, .box b3 145 d3] (Is (.b (l.any p)) [.box b7 78 d7, .box b3 145 d3]) := by
 refine xI Tryz.func124 Tryz.call124 fun hcap => ?_
 refine xB (jkf b3 b7 d3 d7 f p l hf) ?_; rintro _ _ ⟨r, rfl, hr, rfl⟩
 refine xP ?_
 rw [← hr]; rfl
theorem jjs (c : List Mem) (hok : OKA c) (s : Nat) (hs : s < 2 ^ c.length) : C0 46 [cv c, .i s] (.i 0) := by
 refine xI Tryz.func46 Tryz.call46 fun hcap => ?_
 have hp := jsB hok.len
 refine xX fun b2 => ?_
 refine xA (jgQ c hok.s9) ?_
 iterate 11 refine zW ?_
 refine jaT rfl (by rw [hok.ok]; rfl) ?_
 refine xA (jdl _ (fun m => !m.decl) c (fun k _ => jgK k)) ?_
 iterate 3 refine zW ?_
 refine jaT rfl hok.any ?_
 iterate 5 refine zW ?_
 iterate 2 all_goals refine zW ?_
 all_goals (refine zY ?_; refine jaa zRc (jdw c hok.len) rfl rfl ?_)
 iterate 3 all_goals refine zW ?_
 all_goals (
 iterate 2 refine zW ?_
 refine jaT rfl (by first | with_reducible assumption | (refine qA ?_; omega)) ?_
 refine xP ?_; exact rfl)
theorem jgp (c : List Mem) (hok : OKA c) (s : Nat) (hs : s < 2 ^ c.length) : C0 65 [cv c, .i s] (.b (silentC c s)) := by
 refine xI Tryz.func65 Tryz.call65 fun hcap => ?_
 have hp := jsB hok.len
 refine xX fun b2 => ?_
 iterate 4 refine zW ?_
 refine zDr [] ?_
 refine zT 0 ?_; refine zT 1 ?_; refine zT 3 ?_; refine zOn 2 ?_
 refine xA (jdw c hok.len) ?_
 refine zW ?_
 refine zT 4 ?_; refine zOn 5 ?_
 refine xA (jcD c (co c s)) ?_
 refine zW ?_
 refine zT 6 ?_; refine zT 7 ?_
 refine zW ?_
 all_goals (
 refine xP ?_; exact rfl)
theorem jh9 (c : List Mem) (hok : OKA c) (s : Nat) (hs : s < 2 ^ c.length) : C0 47 [cv c, .i s] (.tup [.i ((pairC c s).1 : Nat), .i ((pairC c s).2.1 : Nat), .b (pairC c s).2.2]) := by
 refine xI Tryz.func47 Tryz.call47 fun hcap => ?_
 have hp := jsB hok.len
 refine xX fun b2 => ?_
 refine xA (jrJ c hok.l10 s (by omega) hok.s2 hok.decl hok.nn) ?_
 refine zAl fun b7 => ?_
 refine xA (jdw c hok.len) ?_
 iterate 5 refine zW ?_
 refine jak [2, 7, 14] [.box b7 _ _, .box b2 _ _] (fun (k : Nat) r => (15, .i (k : Int)) :: r) (fun k r => r) (fun k => k ≤ 2 ^ c.length ∧ pairGo (pairL c s) (pairR c s) (2 ^ c.length - k) k = pairC c s) (fun k => 2 ^ c.length - k) (0) zRc ⟨by omega, rfl⟩ (zWk) ?_
 intro k ⟨hk, hI⟩
 refine xC ?_ ?_ <;> intro hc
 ·(
 have hlt := qc hc
 iterate 11 refine zW ?_
 refine zDr [] ?_
 refine zT 0 ?_; refine zT 1 ?_; refine zT 3 ?_; refine zT 4 ?_; refine zT 6 ?_; refine zOn 2 ?_
 refine xA (jcD (delC c s) k) ?_
 refine zW ?_
 refine zOn 5 ?_
 refine xA (jdw c hok.len) ?_
 refine zW ?_
 refine zT 7 ?_; refine zOn 8 ?_
 refine xA (jcD (delC c s) (co c k : Nat)) ?_
 refine zW ?_
 refine zT 9 ?_; refine zT 10 ?_
 refine zW ?_
 all_goals (
 iterate 6 refine zW ?_
 iterate 3 all_goals first | refine zW ?_ | refine xG ?_ ?_ <;> intro hg
 all_goals (
 refine xC ?_ ?_ <;> intro hc
 ·(
 first
 | (exact xQ hc)
 |(
 iterate 15 refine zW ?_
 rw [jnm (by omega) (juP (by unfold pairL; with_reducible assumption)) (juP (by unfold pairR; with_reducible assumption))] at hI
 rw [← hI]
 (refine zPi ?_; exact rfl)))
 ·(
 first
 | (exact xQ hc)
 |(
 iterate 8 refine zW ?_
 have hz : pairL c s k = 0 ∨ pairR c s k = 0 := by
  first
  | (refine .inl (jvD ?_); unfold pairL; with_reducible assumption)
  | (refine .inr (jvD ?_); unfold pairR; with_reducible assumption)
 rw [jjD (by omega) hz] at hI
 refine ⟨k + 1, ⟨by omega, hI⟩, by omega, zWk⟩)))))
 ·(
 have hge := qd hc
 rw [jnh (by omega)] at hI
 iterate 13 refine zW ?_
 rw [← hI]
 (refine zPi ?_; exact rfl))
theorem joj (c : List Mem) (hok : OKA c) (s : Nat) (hs : s < 2 ^ c.length) : C0 83 [cv c, .i s] (vv (judgeC c s)) := by
 refine xI Tryz.func83 Tryz.call83 fun hcap => ?_
 refine xX fun b2 => ?_
 refine zAl fun b4 => ?_
 refine xA (jh9 c hok s hs) ?_
 refine xA (jgp c hok s hs) ?_
 refine xP ?_; exact rfl
theorem jmP (c : List Mem) (hok : OKA c) (s : Nat) (hs : s < 2 ^ c.length) : C0 17 [cv c, .i s] (.b (silentC c s)) := by
 refine xI Tryz.func17 Tryz.call17 fun hcap => ?_
 refine xX fun b2 => ?_
 refine xA (jjs c hok s hs) ?_
 iterate 2 refine zW ?_
 iterate 2 all_goals refine zW ?_
 all_goals (refine zY ?_; refine jaa zRc (jgp c hok s hs) rfl rfl ?_)
 iterate 2 all_goals refine zW ?_
 all_goals (
 refine xP ?_; exact rfl)
def subV (p : Vd → Bool) (v o : Vd) : Bool := p o && (!decide ((o.nodes : Int) = v.nodes) && decide (((o.nodes &&& (2 ^ 63 - 1 - v.nodes) : Nat) : Int) = 0))
def leastGo (p : Vd → Bool) (l : List Vd) : List Vd → List Int → List Int
 | [], out => out
 | v :: r, out => if (p v && !(l.any (subV p v))) = true then leastGo p l r (out ++ [(v.nodes : Int)]) else leastGo p l r out
def leastV (p : Vd → Bool) (l : List Vd) : List Int := leastGo p l l []
theorem jo6 {p : Vd → Bool} {l r : List Vd} {v : Vd} {out : List Int} (h : (p v && !(l.any (subV p v))) = true) : leastGo p l (v :: r) out = leastGo p l r (out ++ [(v.nodes : Int)]) := by rw [leastGo, qf h]
theorem jiY {p : Vd → Bool} {l r : List Vd} {v : Vd} {out : List Int} (h : (p v && !(l.any (subV p v))) = false) : leastGo p l (v :: r) out = leastGo p l r out := by rw [leastGo, qe (by rw [h]; decide)]
theorem jm1 (g : FuncId) (p : Vd → Bool) (hp0 : ∀ v, Con none Tryz.prog g [vv v] [] (Is (.b (p v)) [])) (b3 b7 : Nat) (v o : Vd) (hv : v.nodes < 1024) (ho : o.nodes < 1024) : Con none Tryz.prog 123 [vv o, .p b3 0, .p b7 0] [.box b7 78 [.i v.nodes, .b v.splits, .b v.halts, .i v.l, .i v.r], .box b3 145 [.v (.func (.func g) #[] #[])]] (Is (.b (subV p v o)) [.box b7 78 [.i v.nodes, .b v.splits, .b v.halts, .i v.l, .i v.r], .box b3 145 [.v (.func (.func g) #[] #[])]]) := by
 refine xI Tryz.func123 Tryz.call123 fun hcap => ?_
 refine xX fun b3 => ?_
 iterate 7 refine zW ?_
 refine jcP (caps := []) rfl zRc (hp0 o) rfl rfl (fun c7 hc7 => ?_)
 refine zW ?_
 iterate 15 all_goals first | refine zW ?_ | refine xG ?_ ?_ <;> intro hg
 all_goals (
 refine xP ?_
 unfold subV
 simp_all [resD]; done)
theorem jkj (v : Vd) : C0 85 [vv v] (.b v.splits) := by
 refine xI Tryz.func85 Tryz.call85 fun hcap => ?_
 refine xX fun b1 => ?_
 refine xP ?_; exact rfl
theorem jnf (v : Vd) : C0 86 [vv v] (.b v.halts) := by
 refine xI Tryz.func86 Tryz.call86 fun hcap => ?_
 refine xX fun b1 => ?_
 refine xP ?_; exact rfl
theorem jgE (g : FuncId) (p : Vd → Bool) (hp0 : ∀ v, Con none Tryz.prog g [vv v] [] (Is (.b (p v)) [])) (l : List Vd) (hl : ∀ v ∈ l, v.nodes < 1024) (hlen : l.length ≤ 1000000) : C0 84 [.sl 5 (l.map vv), .v (.func (.func g) #[] #[])] (.sl 1 ((leastV p l).map .i)) := by
 refine xI Tryz.func84 Tryz.call84 fun hcap => ?_
 have hl1 : (l.map vv).length = l.length := by simp
 refine xX fun b3 => ?_
 refine xN fun _ => ?_
 iterate 4 refine zW ?_
 refine jaR [0, 3, 9, 10] [.box b3 _ _] (fun (k : Nat) (v : Value) (q : List Int) r => (5, .v v) :: (11, .i (k : Int)) :: r) (fun k v q r => .arr v 3 1 (q.map .i) :: r) (fun k v q => k ≤ l.length ∧ q.length ≤ k ∧ leastGo p l (l.drop k) q = leastV p l) (fun k v q => l.length - k) (0) (.slice none 0 0) ([]) zRc ⟨by omega, by simp, by simp [leastV]⟩ ((jaM 3 1 rfl).trans (zWk)) ?_
 intro k v q ⟨hk, hql, hI⟩
 have hml : (q.map D.i).length = q.length := by simp
 refine xC ?_ ?_ <;> intro hc
 ·(
 have hlt := qc hc
 obtain ⟨x, hx, hd⟩ := jab (l := l) (k := k) (by omega)
 have hx' := jae vv hx
 refine xL fun b7 => ?_
 iterate 13 refine zW ?_
 refine jcP (caps := []) rfl zRc (hp0 x) rfl rfl (fun c18 hc18 => ?_)
 refine zW ?_
 iterate 2 all_goals first | refine zW ?_ | refine xG ?_ ?_ <;> intro hg
 all_goals first | (refine zY ?_; (refine jiz zRc (jf4 b3 b7 _ _ 123 (subV p x) l (fun o ho => jm1 g p hp0 b3 b7 x o (hl x (qg hx)) (hl o ho))) jan rfl rfl ?_; obtain ⟨c22, hc22⟩ : ∃ b, b = l.any (subV p x) := ⟨_, rfl⟩; rw [← hc22])) | refine zSk ?_
 iterate 2 all_goals refine zW ?_
 all_goals (
 refine xC ?_ ?_ <;> intro hc
 ·(
 first
 | (exact xQ hc)
 |(
 iterate 4 refine zW ?_
 refine xLt 3 1 8 ?_
 refine xEa 3 1 8 fun v29 hv29 => ?_
 iterate 9 refine zW ?_
 rw [hd] at hI
 have h0 : (!c22) = true := (by with_reducible assumption); have h1 : c18 = true := (by with_reducible assumption); rw [jo6 (by rw [hc18, ← hc22, h0, h1]; rfl)] at hI; rw [jbK]; refine ⟨k + 1, _, q ++ [(x.nodes : Int)], ⟨by omega, by simp only [qo, qi, qs]; omega, hI⟩, by omega, zWk⟩))
 ·(
 first
 | (exact xQ hc)
 |(
 iterate 8 refine zW ?_
 rw [hd] at hI
 first
 | (have h0 : c18 = false := (by with_reducible assumption); rw [jiY (by rw [hc18, h0]; rfl)] at hI; refine ⟨k + 1, v, q, ⟨by omega, by omega, hI⟩, by omega, zWk⟩)
 | (have h0 : (!c22) = false := (by with_reducible assumption); rw [jiY (by rw [← hc22, h0, qy])] at hI; refine ⟨k + 1, v, q, ⟨by omega, by omega, hI⟩, by omega, zWk⟩)))))
 ·(
 have hge := qd hc
 rw [jad (by omega)] at hI
 simp only [leastGo] at hI
 refine zFz v [5] ?_
 iterate 12 refine zW ?_
 rw [← hI]
 (refine zPi ?_; exact rfl))
theorem jiC (x y : List Int) : C0 33 [.sl 1 (x.map .i), .sl 1 (y.map .i)] (.b (decide (x = y))) := by
 refine xI Tryz.func33 Tryz.call33 fun hcap => ?_
 have hx1 : (x.map D.i).length = x.length := by simp
 have hy1 : (y.map D.i).length = y.length := by simp
 refine xN fun _ => ?_
 refine xN fun _ => ?_
 refine xC ?_ ?_ <;> intro hc
 ·(
 have hne := jah hc
 refine xP ?_
 rw [qA (fun e => hne (by rw [e]))]; rfl)
 ·(
 have hlen := jaf hc
 have hll : x.length = y.length := by omega
 refine xN fun _ => ?_
 iterate 4 refine zW ?_
 refine jak [0, 1, 12] [] (fun (k : Nat) r => (13, .i (k : Int)) :: r) (fun k r => r) (fun k => k ≤ x.length ∧ x.take k = y.take k) (fun k => x.length - k) (0) zRc ⟨by omega, by simp⟩ (zWk) ?_
 intro k ⟨hk, hI⟩
 refine xC ?_ ?_ <;> intro hc
 ·(
 have hlt := qc hc
 obtain ⟨u, hu, _⟩ := jab (l := x) (k := k) (by omega)
 obtain ⟨v, hv, _⟩ := jab (l := y) (k := k) (by omega)
 have hu' := jae D.i hu
 have hv' := jae D.i hv
 iterate 11 refine zW ?_
 refine zDr [] ?_
 refine zT 0 ?_; refine zT 1 ?_; refine zT 2 ?_; refine zT 3 ?_; refine zT 4 ?_; refine zT 5 ?_; refine zT 6 ?_; refine zT 7 ?_; refine zT 8 ?_
 refine zW ?_
 all_goals (
 refine xC ?_ ?_ <;> intro hc
 ·(
 have hne := jah hc
 refine xP ?_
 rw [qA (fun e => hne (by rw [e, hv] at hu; injection hu with hu; exact hu.symm))]; rfl)
 ·(
 iterate 8 refine zW ?_
 have e := jaf hc
 refine ⟨k + 1, ⟨by omega, by rw [List.take_add_one, List.take_add_one, hI, hu, hv, e]⟩, by omega, zWk⟩)))
 ·(
 have hge := qd hc
 refine xP ?_
 rw [qz (by omega), qz (by omega)] at hI; rw [qx hI]; rfl))
theorem jqF (x : Int) {n : Int} (hn : 0 < n) : 0 ≤ (x.tmod n + n).tmod n ∧ (x.tmod n + n).tmod n < n := by
 have h := joG x hn
 exact ⟨Int.tmod_nonneg n (by omega), Int.tmod_lt_of_pos _ hn⟩
structure OKS (n : Nat) (t : Trust) : Prop where
 ok : OKT n t
 nn : NN t
theorem jpg {th : Int} {q : List Int} {i2 : List Trust} (hn : n ≤ 9) (h1 : 1 ≤ th) (h2 : th ≤ q.length + i2.length) (hq : ∀ k ∈ q, 0 ≤ k ∧ k < (n : Int)) (hd : q.Nodup) (hl : q.length ≤ n) (hi : i2 = [] ∨ ∃ r : Int, (0 ≤ r ∧ r < n) ∧ i2 = [.mk 1 [r] []]) : OKS n (.mk th q i2) := by
 have hs : sizeT (.mk th q i2) ≤ 100 := by
  rcases hi with rfl | ⟨r, hr, rfl⟩ <;> simp [sizeT, Trust.nodes, Trust.inner, sizeL, size0] <;> omega
 have hil : i2.length ≤ 1 := by rcases hi with rfl | ⟨r, hr, rfl⟩ <;> simp
 have hv : validT (.mk th q i2) = 0 := by
  refine joP ?_ (by omega) (jmB h1 (by exact h2) (fun k hk => by have := hq k hk; omega) hd ?_)
  ·rcases hi with rfl | ⟨r, hr, rfl⟩ <;> simp [depthT, Trust.inner, depthL, depth0]
  ·rcases hi with rfl | ⟨r, hr, rfl⟩
   ·exact fun x h => qp h qk
   ·intro x hx
    obtain rfl : x = .mk 1 [r] [] := by simpa using hx
    exact jnw (by omega)
 refine ⟨jv6 ⟨hq, (joF _ _).2 fun x hx => ?_⟩ hv, .mk ⟨by omega, by omega⟩ fun x hx => ?_⟩
 ·(
 rcases hi with rfl | ⟨r, hr, rfl⟩
 ·exact qp hx qk
 ·(
 have hx1 : x ∈ [Trust.mk 1 [r] []] := hx
 obtain rfl : x = .mk 1 [r] [] := by simpa using hx1
 refine ⟨fun k hk => ?_, trivial⟩
 have hk1 : k ∈ [r] := hk
 obtain rfl : k = r := by simpa using hk1
 exact hr))
 ·(
 rcases hi with rfl | ⟨r, hr, rfl⟩
 ·exact qp hx qk
 ·(
 obtain rfl : x = .mk 1 [r] [] := by simpa using hx
 exact .mk ⟨by omega, by omega⟩ (fun y hy => qp hy qk)))
def upN (n : Nat) : List Int := (List.range n).map fun (i : Nat) => (i : Int)
theorem jhz (n : Nat) : (upN n).length = n := by simp [upN]
theorem jlh (n : Nat) : upN (n + 1) = upN n ++ [(n : Int)] := by simp [upN, List.range_succ]
theorem jow {k : Int} (h : k ∈ upN n) : 0 ≤ k ∧ k < (n : Int) := by
 obtain ⟨i, hi, rfl⟩ := List.mem_map.1 h
 have := List.mem_range.1 hi
 omega
theorem jia : ∀ n, (upN n).Nodup
 | 0 => by simp [upN]
 | n + 1 => by rw [jlh]; exact jgJ (jia n) (fun k hk => (jow hk).2) (by omega)
theorem jk1 {k : Int} (hn : 1 ≤ n ∧ n ≤ 9) (h1 : 1 ≤ k) (h2 : k ≤ n) : OKS n (.mk k (upN n) []) :=
 jpg hn.2 h1 (by rw [jhz]; simp; omega) (fun x hx => jow hx) (jia n) (by rw [jhz]; omega) (.inl rfl)
theorem jsF (hl : 1 ≤ c.length ∧ c.length ≤ 4) (h : ∀ m ∈ c, m.decl = true ∧ OKS c.length m.t) : OKA c :=
 ⟨hl.2, fun m hm => (h m hm).1, fun m hm => jbu (h m hm).2.ok.vd, fun m hm => (h m hm).2.nn,
  jpo ⟨by omega, fun m hm => ⟨fun e => (by rw [(h m hm).1] at e; cases e), fun _ => (h m hm).2.ok⟩⟩⟩
theorem jsf (l : List Int) : Con none Tryz.prog 8 [.sl 1 (l.map .i)] [] (fun d H => ∃ b, d = .p b 0 ∧ H = [.box b 97 [.sl 1 ((l.take 800).map .i), .i ((0 : Nat) : Int)]]) := by
 refine xI Tryz.func8 Tryz.call8 fun hcap => ?_
 have hl1 : (l.map D.i).length = l.length := by simp
 refine xN fun _ => ?_
 refine zW ?_
 refine zP (jdu (k := min l.length 800) rfl rfl rfl rfl (by simp only [qv]; omega) (by simp only [qv]; omega)) ?_; rw [← List.map_take]
 refine xX fun b9 => ?_
 iterate 4 refine zW ?_
 have e : l.take 800 = l.take (min l.length 800) := by rw [Nat.min_comm]; exact List.take_eq_take_min
 rw [e]
 refine jat (.tmp rfl .nil) jaY ⟨_, rfl, rfl⟩
theorem jaz (b : Nat) (l : List Int) (a : Nat) (n : Int) (hn : 1 ≤ n ∧ n ≤ 4611686018427387904) : Con none Tryz.prog 43 [.p b 0, .i n] [.box b 97 [.sl 1 (l.map .i), .i ((a : Nat) : Int)]] (fun d H => ∃ (r : Int) (a' : Nat), d = .i r ∧ (0 ≤ r ∧ r < n) ∧ H = [.box b 97 [.sl 1 (l.map .i), .i ((a' : Nat) : Int)]]) := by
 refine xI Tryz.func43 Tryz.call43 fun hcap => ?_
 have hl1 : (l.map D.i).length = l.length := by simp
 iterate 7 refine zW ?_
 refine zDr [] ?_
 refine zT 0 ?_; refine zT 1 ?_; refine zT 2 ?_; refine zT 3 ?_; refine zT 4 ?_; refine zT 5 ?_; refine zT 6 ?_; refine zT 7 ?_; refine zT 8 ?_; refine zT 9 ?_; refine zT 10 ?_
 refine jaj 10 rfl (fun hg => ?_) fun hg => ?_
 rotate_left
 case' _ =>(
 refine zT 11 ?_; refine zT 12 ?_; refine zT 13 ?_
 refine zW ?_)
 rotate_right
 case' _ =>(
 refine zK 11 ?_; refine zK 12 ?_; refine zT 13 ?_
 refine zW ?_)
 all_goals (
 refine xC ?_ ?_ <;> intro hc
 ·(
 first
 | (exact xQ hc)
 |(
 first | (have h18 := qc hc) | (have h18 := hc)
 iterate 7 refine zW ?_
 refine jat (.tmp rfl .nil) jaY ⟨_, _, rfl, ?_, rfl⟩
 omega))
 ·(
 first
 | (exact xQ hc)
 |(
 have h17 := qd hc
 have h15 := qd hg
 have hlt : a < l.length := by omega
 obtain ⟨x, hx, _⟩ := jab hlt
 have hx' := jae D.i hx
 have hn0 : n ≠ 0 := by omega
 have hm := joG x (show 0 < n by omega)
 iterate 4 refine zW ?_
 refine jpT (t := 12) rfl rfl (fun hlen => ?_); refine zP (jkd rfl) ?_
 iterate 10 refine zW ?_
 refine zDr [] ?_
 refine zT 0 ?_; refine zT 1 ?_; refine zT 2 ?_; refine zT 3 ?_; refine zT 4 ?_; refine zT 5 ?_; refine zT 6 ?_; refine zT 7 ?_; refine zT 8 ?_
 refine jar 9 rfl zGd zKr zKr zKr (AP.ar (jao (k := a) rfl rfl rfl rfl (by decide) (by omega) hx')) rfl rfl ?_
 refine zT 10 ?_; refine zT 11 ?_; refine zT 12 ?_; refine zT 13 ?_; refine zT 14 ?_; refine zT 15 ?_; refine zT 16 ?_; refine zT 17 ?_
 refine zW ?_
 all_goals (
 iterate 2 refine zW ?_
 refine jat (.tmp rfl .nil) jaY ⟨_, a + 1, rfl, ?_, rfl⟩
 exact jqF _ (by omega)))))
theorem jaG (b : Nat) (l : List Int) (a : Nat) (x y : Int) (h : x ≤ y ∧ -1000000 ≤ x ∧ y ≤ 1000000000) : Con none Tryz.prog 9 [.p b 0, .i x, .i y] [.box b 97 [.sl 1 (l.map .i), .i ((a : Nat) : Int)]] (fun d H => ∃ (r : Int) (a' : Nat), d = .i r ∧ (x ≤ r ∧ r ≤ y) ∧ H = [.box b 97 [.sl 1 (l.map .i), .i ((a' : Nat) : Int)]]) := by
 refine xI Tryz.func9 Tryz.call9 fun hcap => ?_
 iterate 13 refine zW ?_
 refine jac zRc (jaz _ _ _ _ (by omega)) jan rfl rfl ?_; rintro _ _ ⟨r13, a13, rfl, hr13, rfl⟩
 iterate 5 refine zW ?_
 refine jat (.tmp rfl .nil) jaY ⟨_, _, rfl, ?_, rfl⟩
 omega
theorem jee (b n : Nat) (l : List Int) (hn : 1 ≤ n ∧ n ≤ 9) (a : Nat) : Con none Tryz.prog 45 [.p b 0, .i n] [.box b 97 [.sl 1 (l.map .i), .i ((a : Nat) : Int)]] (fun d H => ∃ (t : Trust) (a' : Nat), d = av t ∧ OKS n t ∧ H = [.box b 97 [.sl 1 (l.map .i), .i ((a' : Nat) : Int)]]) := by
 refine xI Tryz.func45 Tryz.call45 fun hcap => ?_
 refine xL fun b4 => ?_
 refine xL fun b5 => ?_
 iterate 9 refine zW ?_
 refine jbe [0, 1, 4, 5] [.box b4 _ _] (fun (k : Nat) (v : Value) (q : List Int) (a : Nat) r => (6, .i (k : Int)) :: r) (fun k v q a r => .box b5 48 [.i 0, .v v, .nil] :: .arr v 3 1 (q.map .i) :: .box b 97 [.sl 1 (l.map .i), .i ((a : Nat) : Int)] :: r) (fun k v q a => k ≤ n ∧ q.length ≤ k ∧ (∀ x ∈ q, 0 ≤ x ∧ x < (k : Int)) ∧ q.Nodup) (fun k v q a => n - k) (0) (.slice none 0 0) ([]) (a) zRc ⟨by omega, by simp, by simp, by simp⟩ ((jaM 3 1 rfl).trans (zWk)) ?_
 intro k v q a ⟨hk, hql, hqm, hqd⟩
 have hml : (q.map D.i).length = q.length := by simp
 refine xC ?_ ?_ <;> intro hc
 ·(
 have hlt := qc hc
 iterate 7 refine zW ?_
 refine jac zRc (jaz _ _ _ _ (by omega)) jan rfl rfl ?_; rintro _ _ ⟨r14, a14, rfl, hr14, rfl⟩
 refine xC ?_ ?_ <;> intro hc
 ·(
 iterate 4 refine zW ?_
 refine xLt 3 1 8 ?_
 refine xEa 3 1 8 fun v20 hv20 => ?_
 iterate 11 refine zW ?_
 rw [jbK]; refine ⟨k + 1, _, q ++ [(k : Int)], _, ⟨by omega, by simp only [qo, qi, qs]; omega, jh8 (fun y hy => by have := hqm y hy; omega) (by omega), jgJ hqd (fun y hy => (hqm y hy).2) (by omega)⟩, by omega, zWk⟩)
 ·(
 iterate 9 refine zW ?_
 refine ⟨k + 1, _, q, _, ⟨by omega, by omega, fun y hy => by have := hqm y hy; omega, hqd⟩, by omega, zWk⟩))
 ·(
 iterate 10 refine zW ?_
 refine zW ?_
 refine xC ?_ ?_ <;> intro hc
 rotate_left
 case' _ =>(
 obtain ⟨p, hp⟩ : ∃ p : List Int, p = q := ⟨_, rfl⟩
 have hpl : 1 ≤ p.length ∧ p.length ≤ n := by have := qd hc; rw [hp]; omega
 have hpd : p.Nodup := by rw [hp]; exact hqd
 have hpm : ∀ x ∈ p, 0 ≤ x ∧ x < (n : Int) := fun y hy => by have := hqm y (hp ▸ hy); omega
 refine zW ?_)
 rotate_right
 case' _ =>(
 iterate 3 refine zW ?_
 refine jac zRc (jaz _ _ _ _ (by omega)) jan rfl rfl ?_; rintro _ _ ⟨r28, a28, rfl, hr28, rfl⟩; obtain ⟨p, hp⟩ : ∃ p : List Int, p = [r28] := ⟨_, rfl⟩; have hpl : 1 ≤ p.length ∧ p.length ≤ n := (by rw [hp]; simp; omega); have hpd : p.Nodup := (by rw [hp]; simp); have hpm : ∀ x ∈ p, 0 ≤ x ∧ x < (n : Int) := (by rw [hp]; simp; omega)
 refine xLt 3 1 8 ?_
 iterate 3 refine zW ?_)
 all_goals (
 iterate 3 refine zW ?_
 refine zFz v [0,1,4,5] ?_
 first | (rw [show [D.i r28] = p.map D.i from by rw [hp]; rfl]) | rw [← hp]
 have hml2 : (p.map D.i).length = p.length := by simp
 iterate 2 refine zW ?_
 refine jac zRc (jaz _ _ _ _ (by omega)) jan rfl rfl ?_; rintro _ _ ⟨r32, a32, rfl, hr32, rfl⟩
 refine xC ?_ ?_ <;> intro hc
 rotate_left
 case' _ =>(
 refine zW ?_)
 rotate_right
 case' _ =>(
 refine zDr [.box b _ _, .box b5 _ _] ?_
 refine zT 0 ?_; refine zT 2 ?_; refine zT 3 ?_
 refine zE2 1 4 ?_ ?_
 rotate_left
 case' _ =>(
 refine jac zRc (jaz _ _ _ _ (by omega)) jan rfl rfl ?_; rintro _ _ ⟨r38, a38, rfl, hr38, rfl⟩
 refine zW ?_
 refine zE2 1 5 ?_ ?_
 rotate_left
 case' _ =>(
 refine xLt 3 1 8 ?_
 refine zW ?_
 refine zT 6 ?_
 refine zE2 1 7 ?_ ?_
 rotate_left
 case' _ =>(
 first | (refine jaP [0,1,4,5,34,35,40] 3 rfl rfl (by repeat (first | exact SelC.nil | apply SelC.cons rfl (Cv.agg (CvL.cons Cv.same (CvL.cons Cv.same (CvL.cons Cv.fz CvL.nil)))) | apply SelC.cons rfl Cv.same)) jb5 ?_; refine xLt 48 3 56 ?_) | (refine jaP [0,1,4,5,34,40] 3 rfl rfl (by repeat (first | exact SelC.nil | apply SelC.cons rfl (Cv.agg (CvL.cons Cv.same (CvL.cons Cv.same (CvL.cons Cv.fz CvL.nil)))) | apply SelC.cons rfl Cv.same)) jb5 ?_; refine xLt 48 3 56 ?_)
 refine zW ?_
 refine zOn 1 ?_
 iterate 2 refine zW ?_
 refine zOn 8 ?_
 first | refine xEa 48 3 56 fun v42 hv42 => ?_ | refine xEn 48 3 56 fun v42 hv42 => ?_
 refine zW ?_
 refine zT 9 ?_; refine zOn 10 ?_
 iterate 3 refine zW ?_)
 rotate_right
 case' _ =>(
 iterate 2 refine zW ?_
 refine zOn 7 ?_
 refine jaP [0,1,4,5,34,35,40] 3 rfl rfl (by repeat (first | exact SelC.nil | apply SelC.cons rfl (Cv.agg (CvL.cons Cv.same (CvL.cons Cv.same (CvL.cons Cv.fz CvL.nil)))) | apply SelC.cons rfl Cv.same)) jb5 ?_; refine xLt 48 3 56 ?_
 refine zW ?_
 refine zOn 8 ?_
 first | refine xEa 48 3 56 fun v42 hv42 => ?_ | refine xEn 48 3 56 fun v42 hv42 => ?_
 refine zW ?_
 refine zT 9 ?_; refine zOn 10 ?_
 iterate 3 refine zW ?_))
 rotate_right
 case' _ =>(
 iterate 2 refine zW ?_
 refine zOn 5 ?_
 refine xLt 3 1 8 ?_
 refine zW ?_
 refine zT 6 ?_; refine zOn 7 ?_
 refine jaP [0,1,4,5,34,35,40] 3 rfl rfl (by repeat (first | exact SelC.nil | apply SelC.cons rfl (Cv.agg (CvL.cons Cv.same (CvL.cons Cv.same (CvL.cons Cv.fz CvL.nil)))) | apply SelC.cons rfl Cv.same)) jb5 ?_; refine xLt 48 3 56 ?_
 refine zW ?_
 refine zOn 8 ?_
 first | refine xEa 48 3 56 fun v42 hv42 => ?_ | refine xEn 48 3 56 fun v42 hv42 => ?_
 refine zW ?_
 refine zT 9 ?_; refine zOn 10 ?_
 iterate 3 refine zW ?_))
 rotate_right
 case' _ =>(
 iterate 2 refine zW ?_
 refine zOn 4 ?_
 refine jac zRc (jaz _ _ _ _ (by omega)) jan rfl rfl ?_; rintro _ _ ⟨r38, a38, rfl, hr38, rfl⟩
 refine zW ?_
 refine zOn 5 ?_
 refine xLt 3 1 8 ?_
 refine zW ?_
 refine zT 6 ?_; refine zOn 7 ?_
 refine jaP [0,1,4,5,34,35,40] 3 rfl rfl (by repeat (first | exact SelC.nil | apply SelC.cons rfl (Cv.agg (CvL.cons Cv.same (CvL.cons Cv.same (CvL.cons Cv.fz CvL.nil)))) | apply SelC.cons rfl Cv.same)) jb5 ?_; refine xLt 48 3 56 ?_
 refine zW ?_
 refine zOn 8 ?_
 first | refine xEa 48 3 56 fun v42 hv42 => ?_ | refine xEn 48 3 56 fun v42 hv42 => ?_
 refine zW ?_
 refine zT 9 ?_; refine zOn 10 ?_
 iterate 3 refine zW ?_))
 all_goals (
 iterate 2 refine zW ?_
 first | (refine zFz v42 [0,4,5] ?_; obtain ⟨i2, hi2, hii⟩ : ∃ i2 : List Trust, (i2 = [] ∨ ∃ r : Int, (0 ≤ r ∧ r < n) ∧ i2 = [.mk 1 [r] []]) ∧ i2 = [.mk 1 [r38] []] := ⟨_, .inr ⟨r38, hr38, rfl⟩, rfl⟩; rw [show [D.agg [.i 1, .sl 1 [.i r38], .sl 3 []]] = avs i2 from by rw [hii]; rfl]) | (refine jam [0,4,5] 3 rfl jdt jcG ?_; obtain ⟨i2, hi2, hii⟩ : ∃ i2 : List Trust, (i2 = [] ∨ ∃ r : Int, (0 ≤ r ∧ r < n) ∧ i2 = [.mk 1 [r] []]) ∧ i2 = [] := ⟨_, .inl rfl, rfl⟩; rw [show D.sl 3 [] = D.sl 3 (avs i2) from by rw [hii]; rfl])
 have hil : i2.length ≤ 1 := by rcases hi2 with h | ⟨r, _, h⟩ <;> rw [h] <;> simp
 have hal := jaU i2
 refine xN fun _ => ?_
 refine xN fun _ => ?_
 iterate 9 refine zW ?_
 refine zP (jpj rfl rfl (by omega)) ?_
 refine zW ?_
 refine jac zRc (jaG _ _ _ _ _ (by omega)) jan rfl rfl ?_; rintro _ _ ⟨r56, a56, rfl, hr56, rfl⟩
 iterate 8 refine zW ?_
 refine jac zRc (jaz _ _ _ _ (by omega)) jan rfl rfl ?_; rintro _ _ ⟨r59, a59, rfl, hr59, rfl⟩
 refine xC ?_ ?_ <;> intro hc
 rotate_left
 case' _ =>(
 refine zW ?_)
 rotate_right
 case' _ =>(
 iterate 4 refine zW ?_)
 all_goals (
 iterate 8 refine zW ?_
 first | exact jat (.cell rfl jbq rfl rfl .nil) jaY ⟨.mk 1 p i2, _, rfl, jpg hn.2 (by omega) (by omega) hpm hpd hpl.2 hi2, rfl⟩ | exact jat (.cell rfl jbq rfl rfl .nil) jaY ⟨.mk r56 p i2, _, rfl, jpg hn.2 (by omega) (by omega) hpm hpd hpl.2 hi2, rfl⟩))))
theorem jlA (n : Nat) (hn : n ≤ 1000) (k : Int) : C0 44 [.i n, .i k] (av (.mk k (upN n) [])) := by
 refine xI Tryz.func44 Tryz.call44 fun hcap => ?_
 refine xL fun b4 => ?_
 refine xL fun b5 => ?_
 iterate 10 refine zW ?_
 refine jai [0, 4, 5] [.box b4 _ _] (fun (j : Nat) (v : Value) r => (6, .i (j : Int)) :: r) (fun j v r => .box b5 48 [.i k, .v v, .nil] :: .arr v 3 1 ((upN j).map .i) :: r) (fun j v => j ≤ n) (fun j v => n - j) (0) (.slice none 0 0) zRc (by omega) ((jaM 3 1 rfl).trans (zWk)) ?_
 intro j v hj
 have hml : ((upN j).map D.i).length = j := by rw [qv, jhz]
 refine xC ?_ ?_ <;> intro hc
 ·(
 have hlt := qc hc
 iterate 8 refine zW ?_
 refine xLt 3 1 8 ?_
 refine xEa 3 1 8 (hb := by simp only [qi, qs, qo, qv, jhz]; omega) fun v18 hv18 => ?_
 iterate 11 refine zW ?_
 refine ⟨j + 1, v18, by omega, by omega, ?_⟩
 rw [jlh, ← jbK]; exact zWk)
 ·(
 have hge := qd hc
 obtain rfl : j = n := by omega
 refine zFz v [4,5] ?_
 refine jam [4,5] 3 rfl jdt jcG ?_
 refine xP ?_; exact rfl)
theorem jjU (b n : Nat) (l : List Int) (hn : 1 ≤ n ∧ n ≤ 4) (a : Nat) : Con none Tryz.prog 10 [.p b 0, .i n] [.box b 97 [.sl 1 (l.map .i), .i ((a : Nat) : Int)]] (fun d H => ∃ (c : List Mem) (a' : Nat), d = cv c ∧ (OKA c ∧ c.length = n) ∧ H = [.box b 97 [.sl 1 (l.map .i), .i ((a' : Nat) : Int)]]) := by
 refine xI Tryz.func10 Tryz.call10 fun hcap => ?_
 refine xL fun b4 => ?_
 refine xL fun b5 => ?_
 iterate 5 refine zW ?_
 refine jac zRc (jaz _ _ _ _ (by omega)) jan rfl rfl ?_; rintro _ _ ⟨r10, a10, rfl, hr10, rfl⟩
 iterate 11 refine zW ?_
 refine jbe [0, 1, 4, 5, 6] [.box b4 _ _] (fun (k : Nat) (v : Value) (q : List Mem) (a : Nat) r => (7, .i (k : Int)) :: r) (fun k v q a r => .box b5 28 [.v v] :: .arr v 101 4 (q.map mv) :: .box b 97 [.sl 1 (l.map .i), .i ((a : Nat) : Int)] :: r) (fun k v q a => k ≤ n ∧ q.length = k ∧ ∀ m ∈ q, m.decl = true ∧ OKS n m.t) (fun k v q a => n - k) (0) (.slice none 0 0) ([]) (a10) zRc ⟨by omega, rfl, by simp⟩ ((jaM 101 4 rfl).trans (zWk)) ?_
 intro k v q a ⟨hk, hql, hqm⟩
 have hml : (q.map mv).length = q.length := by simp
 refine xC ?_ ?_ <;> intro hc
 ·(
 have hlt := qc hc
 iterate 8 refine zW ?_
 refine zP (jpj rfl rfl (by omega)) ?_
 refine zW ?_
 refine jaa zRc (jlA n (by omega) _) rfl rfl ?_
 refine zAl fun b8 => ?_
 refine xC ?_ ?_ <;> intro hc
 ·(
 iterate 3 refine zW ?_
 refine jac zRc (jee _ _ _ (by omega) _) jan rfl rfl ?_; rintro _ _ ⟨t26, a26, rfl, ht26, rfl⟩
 iterate 8 refine zW ?_
 refine xLt 101 4 64 ?_
 refine xEa 101 4 64 fun v32 hv32 => ?_
 iterate 11 refine zW ?_
 have h0 : (!decide (0 < r10)) = true := (by with_reducible assumption); rw [show .agg [.b true, .i t26.th, .sl 1 (t26.nodes.map .i), .sl 3 (avs t26.inner)] = mv ⟨true, t26⟩ from rfl, jfC]; refine ⟨k + 1, _, q ++ [⟨true, t26⟩], _, ⟨by omega, by simp only [qo, qi, qs]; omega, jh8 hqm ⟨rfl, ht26⟩⟩, by omega, zWk⟩)
 ·(
 iterate 7 refine zW ?_
 refine xLt 101 4 64 ?_
 refine xEa 101 4 64 fun v32 hv32 => ?_
 iterate 11 refine zW ?_
 rw [show .agg [.b true, .i (Trust.mk ((n : Int) / 2 + 1) (upN n) []).th, .sl 1 ((Trust.mk ((n : Int) / 2 + 1) (upN n) []).nodes.map .i), .sl 3 (avs (Trust.mk ((n : Int) / 2 + 1) (upN n) []).inner)] = mv ⟨true, .mk ((n : Int) / 2 + 1) (upN n) []⟩ from rfl, jfC]; refine ⟨k + 1, _, q ++ [⟨true, .mk ((n : Int) / 2 + 1) (upN n) []⟩], _, ⟨by omega, by simp only [qo, qi, qs]; omega, jh8 hqm ⟨rfl, jk1 (by omega) (by omega) (by omega)⟩⟩, by omega, zWk⟩))
 ·(
 have hge := qd hc
 refine zFz v [4,5] ?_
 iterate 12 refine zW ?_
 exact jat (.cell rfl jbq rfl rfl .nil) jaY ⟨q, _, rfl, ⟨jsF (by omega) (fun m hm => by rw [show q.length = n by omega]; exact hqm m hm), by omega⟩, rfl⟩)
theorem jpt (k : Nat) : (List.replicate k m3).map mv ++ [mv m3] = (List.replicate (k + 1) m3).map mv := by rw [jfC, List.replicate_succ']
theorem jv7 : Con none Tryz.prog 44 [.i 3, .i 2] [] (Is (av (.mk 2 (upN 3) [])) []) := jlA 3 (by omega) 2
theorem jsE : OKA c3 := jsF (by decide) (fun m hm => by
 have h : m = m3 := by simp only [c3, List.mem_cons, qk, or_false, or_self] at hm; exact hm
 subst h
 exact ⟨rfl, jk1 (n := 3) (k := 2) (by omega) (by omega) (by omega)⟩)
theorem jfp : C0 48 [] (cv c3) := by
 refine xI Tryz.func48 Tryz.call48 fun hcap => ?_
 refine xL fun b0 => ?_
 refine xL fun b1 => ?_
 iterate 9 refine zW ?_
 refine jai [0, 1] [.box b0 _ _] (fun (k : Nat) (v : Value) r => (2, .i (k : Int)) :: r) (fun k v r => .box b1 28 [.v v] :: .arr v 101 4 ((List.replicate k m3).map mv) :: r) (fun k v => k ≤ 3) (fun k v => 3 - k) (0) (.slice none 0 0) zRc (by omega) ((jaM 101 4 rfl).trans (zWk)) ?_
 intro k v hk
 have hml : ((List.replicate k m3).map mv).length = k := by simp
 refine xC ?_ ?_ <;> intro hc
 ·(
 have hlt := qc hc
 iterate 4 refine zW ?_
 refine zDr [.box b1 _ _, .arr v _ _ _] ?_
 refine zT 0 ?_
 refine zE2 1 2 ?_ ?_
 rotate_left
 case' _ =>(
 refine xA (jv7) ?_
 refine zW ?_
 refine zT 3 ?_
 refine zE2 1 4 ?_ ?_
 rotate_left
 case' _ =>(
 refine xLt 101 4 64 ?_
 refine zW ?_
 refine zOn 1 ?_
 iterate 2 refine zW ?_
 refine zOn 5 ?_
 refine xEa 101 4 64 (hb := by simp only [qi, qs, qo, qv, List.length_replicate]; omega) fun v12 hv12 => ?_
 refine zW ?_
 refine zT 6 ?_; refine zOn 7 ?_
 iterate 3 refine zW ?_)
 rotate_right
 case' _ =>(
 iterate 2 refine zW ?_
 refine zOn 4 ?_
 refine xLt 101 4 64 ?_
 refine zW ?_
 refine zOn 5 ?_
 refine xEa 101 4 64 (hb := by simp only [qi, qs, qo, qv, List.length_replicate]; omega) fun v12 hv12 => ?_
 refine zW ?_
 refine zT 6 ?_; refine zOn 7 ?_
 iterate 3 refine zW ?_))
 rotate_right
 case' _ =>(
 iterate 2 refine zW ?_
 refine zOn 2 ?_
 refine xA (jv7) ?_
 refine zW ?_
 refine zT 3 ?_; refine zOn 4 ?_
 refine xLt 101 4 64 ?_
 refine zW ?_
 refine zOn 5 ?_
 refine xEa 101 4 64 (hb := by simp only [qi, qs, qo, qv, List.length_replicate]; omega) fun v12 hv12 => ?_
 refine zW ?_
 refine zT 6 ?_; refine zOn 7 ?_
 iterate 3 refine zW ?_)
 all_goals (
 iterate 8 refine zW ?_
 rw [show .agg [.b true, .i (Trust.mk 2 (upN 3) []).th, .sl 1 ((Trust.mk 2 (upN 3) []).nodes.map .i), .sl 3 (avs (Trust.mk 2 (upN 3) []).inner)] = mv m3 from rfl, jpt]
 refine ⟨k + 1, _, by omega, by omega, zWk⟩))
 ·(
 have hge := qd hc
 obtain rfl : k = 3 := by omega
 refine zFz v [0,1] ?_
 refine xP ?_; exact rfl)
def valV (x : Vd) : Value := .agg #[.int .i64 x.nodes, .bool x.splits, .bool x.halts, .int .i64 x.l, .int .i64 x.r]
theorem jsu (x : Vd) (w : World) (O : Nat → Prop) : Rep w O (vv x) (valV x) := by
 simp only [vv, valV, Rep, RepL]
 exact ⟨_, rfl, _, _, rfl, rfl, rfl, _, _, rfl, rfl, rfl, _, _, rfl, rfl, rfl, _, _, rfl, rfl, rfl, _, _, rfl, rfl, rfl, rfl⟩
theorem jvC (x : Vd) (w : World) (O : Nat → Prop) (y : Value) (h : Rep w O (vv x) y) : y = valV x := by
 simp only [vv, Rep, RepL] at h
 obtain ⟨cs, rfl, c1, r1, rfl, rfl, -, c2, r2, rfl, rfl, -, c3, r3, rfl, rfl, -, c4, r4, rfl, rfl, -, c5, r5, rfl, rfl, -, rfl⟩ := h
 rfl
theorem jmS (c : List Mem) (hok : OKA c) (ch k : Nat) (hk : k < 2 ^ c.length) : ConW Tryz.prog 82 [.el (.v (.chan (some ch))), .el (cv c), .el (.i k)] ch (valV (judgeC c k)) := by
 refine jt0 4 Tryz.func82 rfl rfl Tryz.call82 rfl (by kernel_rfl) rfl [#[false, false, false, false, false], #[true, false, false, false, false], #[false, true, false, false, false], #[true, true, false, false, false], #[false, false, true, false, false], #[true, false, true, false, false], #[false, true, true, false, false], #[true, true, true, false, false], #[false, true, true, true, false], #[true, true, true, true, false]] (by kernel_rfl) ?_
 refine jeo 0 (by decide) rfl (.none rfl) (by kernel_rfl) (by kernel_rfl) (by kernel_rfl) (AQ.ar (jb0 rfl rfl (.v rfl) (fun _ h => h))) rfl rfl ?_
 refine jeo 1 (by decide) rfl (.none rfl) (by kernel_rfl) (by kernel_rfl) (by kernel_rfl) (AQ.ar (jeg rfl rfl rfl rfl (fun _ h => h))) rfl rfl ?_
 refine jeo 2 (by decide) rfl (.none rfl) (by kernel_rfl) (by kernel_rfl) (by kernel_rfl) (AQ.ar (jb0 rfl rfl (.v rfl) (fun _ h => h))) rfl rfl ?_
 refine jnF 3 (by decide) (by kernel_rfl) rfl ?_
 refine jaa (by repeat constructor) (joj c hok k hk) rfl rfl ?_
 refine jaS ?_
 exact jml (by kernel_rfl) ⟨rfl, _, rfl, jvC _⟩
def pdl (f : Nat → Value) : Nat → List Value
 | 0 => []
 | k + 1 => f k :: pdl f k
def downs : Nat → List Nat
 | 0 => []
 | k + 1 => k :: downs k
theorem jp2 (f : Nat → Value) : ∀ n, pdl f n = (downs n).map f
 | 0 => rfl
 | n + 1 => by rw [pdl, downs, List.map_cons, jp2 f n]
theorem jfV {k : Nat} : ∀ {n}, k ∈ downs n ↔ k < n
 | 0 => by simp [downs]
 | n + 1 => by rw [downs, List.mem_cons, jfV]; omega
theorem je3 : ∀ n, (downs n).length = n
 | 0 => rfl
 | n + 1 => by rw [downs, qi, je3 n]
theorem jih {f : Nat → Value} : ∀ {l : List Nat} {l₁ : List Value} {v : Value} {l₂ : List Value}, l.map f = l₁ ++ v :: l₂ → ∃ m₁ k m₂, l = m₁ ++ k :: m₂ ∧ l₁ = m₁.map f ∧ v = f k ∧ l₂ = m₂.map f
 | [], l₁, v, l₂, h => by cases l₁ <;> simp at h
 | x :: l, [], v, l₂, h => by
  simp only [List.map_cons, List.nil_append, List.cons.injEq] at h
  exact ⟨[], x, l, rfl, rfl, h.1.symm, h.2.symm⟩
 | x :: l, y :: l₁, v, l₂, h => by
  simp only [List.map_cons, List.cons_append, List.cons.injEq] at h
  obtain ⟨m₁, k, m₂, h1, h2, h3, h4⟩ := jih h.2
  exact ⟨x :: m₁, k, m₂, by rw [h1]; rfl, by rw [List.map_cons, ← h2, h.1], h3, h4⟩
def vd0 : Vd := ⟨0, false, false, 0, 0⟩
def zrow : Nat → List Value
 | 0 => []
 | n + 1 => .int .i64 0 :: .bool false :: .bool false :: .int .i64 0 :: .int .i64 0 :: zrow n
theorem jl4 (w : World) (O : Nat → Prop) : ∀ n, RepE w O 5 ((List.replicate n vd0).map vv) (zrow n)
 | 0 => by simp [RepE, zrow]
 | n + 1 => by
  rw [List.replicate_succ, List.map_cons, zrow]
  simp only [RepE]
  exact ⟨valV vd0, zrow n, rfl, rfl, by simp [valV, Value.cells, Value.oneCell'], jsu _ _ _, jl4 w O n⟩
theorem js4 (h : n ≤ 4) : tmade Tryz.prog 78 (2 ^ n * 5) = some (zrow (2 ^ n)) := by
 rcases (show n = 0 ∨ n = 1 ∨ n = 2 ∨ n = 3 ∨ n = 4 by omega) with rfl | rfl | rfl | rfl | rfl <;> kernel_rfl
def allV (c : List Mem) : List Vd := (List.range (2 ^ c.length)).map (judgeC c)
theorem jli (c : List Mem) : (allV c).length = 2 ^ c.length := by simp [allV]
theorem juj {q : List Vd} (hl : q.length = 2 ^ c.length) (h : ∀ k, k < 2 ^ c.length → q[k]? = some (judgeC c k)) : q = allV c := by
 refine List.ext_getElem? fun k => ?_
 by_cases hk : k < 2 ^ c.length
 ·rw [h k hk]; simp [allV, hk]
 ·rw [List.getElem?_eq_none (by omega), List.getElem?_eq_none (by rw [jli]; omega)]
theorem jtp (c : List Mem) (hok : OKA c) : Con (some Ps) Tryz.prog 28 [cv c] [] (Is (.tup [.sl 5 ((allV c).map vv), .i 0]) []) := by
 refine xI Tryz.func28 Tryz.call28 fun hcap => ?_
 have hp := jsB hok.len
 have hml : (c.map mv).length = c.length := by simp
 have hrl : ((List.replicate (2 ^ c.length) vd0).map vv).length = 2 ^ c.length := by simp
 refine jm3 ?_
 refine jaZ ?_
 refine jaN ?_
 refine zBx fun b1 => ?_
 refine zW ?_
 refine zW ?_
 refine jaS ?_
 refine jbd ?_
 refine jaZ ?_
 refine jaZ ?_
 refine jaN ?_
 refine xA (jjs c hok 0 (by omega)) ?_
 refine zW ?_
 refine jaS ?_
 refine jbd ?_
 refine jaZ ?_
 refine jaN ?_
 refine zW ?_
 refine zW ?_
 refine jaS ?_
 refine jbd ?_
 refine jgX rfl jhl ?_
 refine jeL ?_
 refine jbd ?_
 refine jaZ ?_
 refine jaZ ?_
 refine jaN ?_
 refine zW ?_
 refine xN fun _ => ?_
 refine zW ?_
 refine jaS ?_
 refine jbd ?_
 refine jgX rfl (by refine qA ?_; have := hok.len; omega) ?_
 refine jeL ?_
 refine jbd ?_
 refine jaZ ?_
 refine jmk rfl rfl rfl (fun ch => ?_)
 refine jej rfl zRc rfl rfl (fun b5 => ?_)
 refine jdf rfl rfl jdx jbq rfl zRc ?_
 refine jaS ?_
 refine jbd ?_
 refine jaZ ?_
 refine jaZ ?_
 refine jlj (jhc (b := b1) (d := cv c) (live := [1,5]) jvs .agg (by repeat (first | exact .nil | apply SubB.fz rfl | apply SubB.same rfl))) ?_
 refine jlj (jhc (b := b5) (d := .v (.chan (some ch))) (live := [1,5]) jvs (.one (.v rfl)) (by repeat (first | exact .nil | apply SubB.fz rfl | apply SubB.same rfl))) ?_
 refine jaN ?_
 refine xA (jdw c hok.len) ?_
 refine zP (jbQ (m := ((2 ^ c.length : Nat) : Int)) rfl rfl (by show some _ = _; simp only [qj]; omega) (by omega)) ?_
 refine zW ?_
 refine jaS ?_
 refine jbd ?_
 refine jdW ?_
 refine jpH (fun k => some (ch, pdl (fun k => valV (judgeC c k)) k)) [1, 5, 21] [] (fun (k : Nat) r => (22, .i (k : Int)) :: r) (fun k r => r) (fun k => k ≤ 2 ^ c.length) (fun k => 2 ^ c.length - k) (0) zRc (by omega) (zWk) rfl ?_
 intro k hk
 refine jaZ ?_
 refine jaN ?_
 refine zW ?_
 refine jaS ?_
 refine jbd ?_
 refine jaZ ?_
 refine jg7 rfl (fun hc => ?_) fun hc => ?_
 ·(
 have hlt := qc hc
 refine jeL ?_
 refine jbd ?_
 refine jaZ ?_
 refine jdW ?_
 refine jaZ ?_
 refine jaN ?_
 refine xL fun b6 => ?_
 refine zW ?_
 refine jaS ?_
 refine jbd ?_
 refine jlj (jhc (b := b6) (d := .i (k : Int)) (live := [1,5,6,21,22]) jvs (.one (.v rfl)) (by repeat (first | exact .nil | apply SubB.fz rfl | apply SubB.same rfl))) ?_
 refine jwg (xs := [.tmp 5, .tmp 1, .tmp 6]) (valV (judgeC c k)) zRc rfl rfl (jmS c hok ch k (by omega)) ?_
 refine jkD ?_
 refine jbd ?_
 refine jaN ?_
 refine zW ?_
 refine zW ?_
 refine jaS ?_
 refine jbd ?_
 exact ⟨k + 1, by omega, by omega, rfl, zWk⟩)
 ·(
 have hge := qd hc
 obtain rfl : k = 2 ^ c.length := by omega
 refine jlN ?_
 refine jkA ?_
 refine jkA ?_
 refine jlp rfl ?_
 refine jbd ?_
 refine jaZ ?_
 refine jaN ?_
 refine xA (jdw c hok.len) ?_
 refine zP (jbQ (m := ((2 ^ c.length : Nat) : Int)) rfl rfl (by show some _ = _; simp only [qj]; omega) (by omega)) ?_
 refine jdX (N := 2 ^ c.length) (by_ := 32) (l := (List.replicate (2 ^ c.length) vd0).map vv) rfl rfl rfl rfl (js4 hok.len) (by simp) (fun w O => jl4 w O _) ⟨by omega, by omega⟩ rfl rfl (fun g => ?_)
 refine zW ?_
 refine jaS ?_
 refine jbd ?_
 refine jaZ ?_
 refine jaZ ?_
 refine jaN ?_
 refine zW ?_
 refine zW ?_
 refine zW ?_
 refine jaS ?_
 refine jbd ?_
 refine jdW ?_
 refine jpE (fun l q => some (ch, l.map (fun k => valV (judgeC c k)))) [5, 7, 32] [] (fun (l : List Nat) (q : List Vd) r => (33, .i ((2 ^ c.length - l.length : Nat) : Int)) :: r) (fun l q r => .arr (.slice (some ⟨g, 0, none⟩) (2 ^ c.length) (2 ^ c.length)) 78 5 (q.map vv) :: r) (fun l q => q.length = 2 ^ c.length ∧ (l.length ≤ 2 ^ c.length ∧ (∀ k ∈ l, k < 2 ^ c.length)) ∧ ∀ k, k < 2 ^ c.length → k ∈ l ∨ q[k]? = some (judgeC c k)) (fun l q => l.length) (downs (2 ^ c.length)) (List.replicate (2 ^ c.length) vd0) zRc ⟨by simp, ⟨by rw [je3]; omega, fun k hk => jfV.1 hk⟩, fun k hk => .inl (jfV.2 hk)⟩ (by rw [show ((2 ^ c.length - (downs (2 ^ c.length)).length : Nat) : Int) = 0 from by rw [je3]; omega]; exact zWk) (by rw [jp2]) ?_
 intro l q ⟨hqn, ⟨hql, hlm⟩, hI⟩
 refine jaZ ?_
 refine jaN ?_
 refine zW ?_
 refine jaS ?_
 refine jbd ?_
 refine jaZ ?_
 refine jg7 rfl (fun hc => ?_) fun hc => ?_
 ·(
 have hlt := qc hc
 refine jeL ?_
 refine jbd ?_
 refine jaZ ?_
 refine jdW ?_
 refine jaZ ?_
 refine jo3 rfl rfl rfl (by intro e; rw [List.map_eq_nil_iff] at e; subst e; simp only [qs] at hlt; omega) ?_
 refine jlX (jb0 rfl rfl (.v rfl) (fun _ h => qp h qk)) rfl rfl rfl ?_
 refine jaS ⟨rfl, fun l₁ v l₂ hl => ?_⟩
 obtain ⟨m₁, k, m₂, rfl, rfl, rfl, rfl⟩ := jih hl
 have hkN := hlm k (by simp)
 obtain ⟨y, hy, _⟩ := jab (l := q) (k := k) (by omega)
 have hyy := jae vv hy
 refine ⟨vv (judgeC c k), jsu _, ?_⟩
 refine jej rfl zRc rfl rfl (fun b8 => ?_)
 refine jdf rfl rfl jdx jbq rfl zRc ?_
 refine jaS ?_
 refine jbd ?_
 refine jaN ?_
 refine zW ?_
 refine zW ?_
 refine zW ?_
 refine zW ?_
 refine zP (jaX (k := k) rfl rfl rfl rfl rfl hkN) ?_
 refine jaK (off := 0) rfl rfl jdx jbq rfl hyy zRc ?_
 refine jaS ?_
 refine jkD ?_
 refine jbd ?_
 refine jaN ?_
 refine zW ?_
 refine zW ?_
 refine jaS ?_
 refine jbd ?_
 rw [show ((2 ^ c.length - (m₁ ++ k :: m₂).length : Nat) : Int) + 1 = ((2 ^ c.length - (m₁ ++ m₂).length : Nat) : Int) from by simp only [qo, qi] at hql ⊢; omega]
 rw [show (q.map vv).set k (D.agg [.i (judgeC c k).nodes, .b (judgeC c k).splits, .b (judgeC c k).halts, .i (judgeC c k).l, .i (judgeC c k).r]) = (q.set k (judgeC c k)).map vv from by rw [List.map_set]; rfl]
 refine ⟨m₁ ++ m₂, q.set k (judgeC c k), ⟨by rw [List.length_set]; exact hqn, ⟨by simp only [qo, qi] at hql ⊢; omega, fun j hj => hlm j ?_⟩, fun j hj => ?_⟩, by simp only [qo, qi]; omega, by rw [List.map_append], zWk⟩
 ·rw [List.mem_append] at hj; rw [List.mem_append, List.mem_cons]; exact hj.imp id .inr
 ·(
 by_cases e : j = k
 ·subst e; right; rw [List.getElem?_set_self (by omega)]
 ·(
 rcases hI j hj with h | h
 ·(
 left; rw [List.mem_append, List.mem_cons] at h; rw [List.mem_append]; rcases h with h | h | h
 ·exact .inl h
 ·exact qp h e
 ·exact .inr h)
 ·right; rw [List.getElem?_set_ne (fun h => e h.symm)]; exact h)))
 ·(
 have hge := qd hc
 have hl0 : l = [] := List.eq_nil_of_length_eq_zero (by omega)
 subst hl0
 have hqe := juj hqn (fun k hk => (hI k hk).resolve_left qk)
 refine jnG (ch := ch) ?_
 refine jmN (.slice (some ⟨g, 0, none⟩) (2 ^ c.length) (2 ^ c.length)) [7] jvs jdt jcG ?_
 refine jlN ?_
 refine jkA ?_
 refine jkA ?_
 refine jlp rfl ?_
 refine jbd ?_
 refine jaZ ?_
 refine jaN ?_
 refine zW ?_
 refine zW ?_
 refine zW ?_
 refine jaS ?_
 refine jbd ?_
 refine jt9 ?_
 refine ⟨rfl, ?_⟩
 exact jap (.tmp rfl (.tmp rfl .nil)) jaY (by rw [hqe]; rfl)))
theorem jwz : leastV Vd.splits (allV c3) = [1, 2, 4] := by kernel_rfl
theorem jwA : leastV Vd.halts (allV c3) = [3, 5, 6] := by kernel_rfl
theorem jwt : silentC c3 1 = false := by kernel_rfl
theorem jgr (h : c.length ≤ 4) : ∀ v ∈ allV c, v.nodes < 1024 := by
 intro v hv
 obtain ⟨k, hk, rfl⟩ := List.mem_map.1 hv
 have hk' := List.mem_range.1 hk
 have hp := jbD (show c.length ≤ 10 by omega)
 show k < 1024
 omega
theorem joh (h : c.length ≤ 4) : (allV c).length ≤ 1000000 := by
 rw [jli]
 have hp := jbD (show c.length ≤ 10 by omega)
 omega
theorem joE (c : List Mem) (hok : OKA c) : Con (some Ps) Tryz.prog 30 [cv c] [] (Is (.tup [.sl 1 ((leastV Vd.splits (allV c)).map .i), .sl 1 ((leastV Vd.halts (allV c)).map .i), .i 0]) []) := by
 refine xI Tryz.func30 Tryz.call30 fun hcap => ?_
 refine xX fun b1 => ?_
 refine xA (jtp c hok) ?_
 iterate 14 refine zW ?_
 refine jaT rfl jhl ?_
 refine xA ((jgE 85 Vd.splits jkj (allV c) (jgr hok.len) (joh hok.len)).main) ?_
 refine xA ((jgE 86 Vd.halts jnf (allV c) (jgr hok.len) (joh hok.len)).main) ?_
 refine xP ?_; exact rfl
theorem jgq : Con (some Ps) Tryz.prog 12 [] [] (Is (.b true) []) := by
 refine xI Tryz.func12 Tryz.call12 fun hcap => ?_
 refine xA (jfp.main) ?_
 refine xA (joE c3 jsE) ?_
 iterate 14 refine zW ?_
 all_goals refine zW ?_
 all_goals (refine zY ?_; refine xLt 3 1 8 ?_)
 all_goals (refine zY ?_; refine jaa zRc ((jiC (leastV Vd.splits (allV c3)) [1, 2, 4]).main) rfl rfl ?_)
 iterate 3 all_goals first | refine zW ?_ | refine xG ?_ ?_ <;> intro hg
 all_goals first | (refine zY ?_; refine xLt 3 1 8 ?_) | refine zSk ?_
 all_goals first | (refine zY ?_; refine jaa zRc ((jiC (leastV Vd.halts (allV c3)) [3, 5, 6]).main) rfl rfl ?_) | refine zSk ?_
 iterate 2 all_goals refine zW ?_
 all_goals first | (refine zY ?_; refine jaa zRc (jfp.main) rfl rfl ?_) | refine zSk ?_ | (refine zG (fun hg => ?_) fun hg => ?_; case' _ => refine jaa zRc (jfp.main) rfl rfl ?_)
 all_goals first | (refine zY ?_; refine jaa zRc ((jmP c3 jsE 1 (by decide)).main) rfl rfl ?_) | refine zSk ?_
 iterate 3 all_goals refine zW ?_
 all_goals (
 refine xP ?_
 simp_all [resD, jwz, jwA, jwt]; done)
theorem jbN {env : Env} {H : Heap} {dst : Option Tmp} {ty : TypeId} {pos : String} {after : Array Edge} {gd : Option (Nat × Bool)} {x : Operand} {P : Program} {s t k0 p u} (hx : opd env x = some (.v (.int k0 p))) (hs : P.underlying s = some u) (ht : P.underlying t = some (.int .u64)) (hb : 0 ≤ p ∧ p < 18446744073709551616) : AP P n ⟨dst, .convert s t x, ty, pos, after, gd⟩ env H (.v (.int .u64 p)) := by
 have := jeJ (P := P) (n := n) (env := env) (H := H) (dst := dst) (ty := ty) (pos := pos) (after := after) (gd := gd) hx hs ht
 rwa [jvu hb.1 hb.2] at this
theorem juQ (k n : Nat) : ∃ s : Nat, (k : Int) % ((1 * 2 ^ n : Nat) : Int) = s ∧ s < 2 ^ n := ⟨k % (1 * 2 ^ n), by simp, by rw [Nat.one_mul]; exact Nat.mod_lt _ (Nat.pow_pos (by omega))⟩
theorem jgs : ∀ {l : List Trust}, checkL l = 0 → ∀ y ∈ l, checkT y = 0
 | [], _, y, h => qp h qk
 | t :: r, h, y, hy => by
  rw [jbn] at h
  by_cases h0 : checkT t = 0
  ·rw [qe (by simpa using h0)] at h
   rcases List.mem_cons.1 hy with rfl | hy
   ·exact h0
   ·exact jgs h y hy
  ·rw [qf h0] at h; exact qp h h0
theorem jkm : ∀ t : Trust, checkT t = 0 → sizeT t ≤ 1000000000 → NN t := by
 intro t
 induction t using Trust.ind with
 | _ t ih =>
  intro h hs
  have hs0 : sizeT t = t.nodes.length + t.inner.length + sizeL t.inner := rfl
  unfold checkT at h
  split at h
  ·cases h
  ·rename_i h1
   split at h
   ·cases h
   ·split at h
    ·rename_i h2; exact qp h h2
    ·have h3 : NN (.mk t.th t.nodes t.inner) := .mk ⟨by omega, by omega⟩ fun y hy => ih y hy (jgs h y hy) (by have := jbJ hy; omega)
     cases t; exact h3
theorem jic {n : Nat} : ∀ {l : List Mem}, memsV n l = 0 → ∀ m ∈ l, memV m n = 0
 | [], _, m, h => qp h qk
 | x :: r, h, m, hm => by
  simp only [memsV] at h
  by_cases h0 : memV x n = 0
  ·rw [qf h0] at h
   rcases List.mem_cons.1 hm with rfl | hm
   ·exact h0
   ·exact jic h m hm
  ·rw [qe h0] at h; exact qp h h0
structure Lt (c : List Mem) : Prop where
 len : c.length ≤ 4
 size : ∀ m ∈ c, sizeT m.t ≤ 1000
theorem Lt.s9 (h : Lt c) : ∀ m ∈ c, sizeT m.t ≤ 1000000000 := fun m hm => by have := h.size m hm; omega
theorem OKA.lt (h : OKA c) : Lt c := ⟨h.len, fun m hm => by have := h.size m hm; omega⟩
theorem jvy (hL : Lt c) (hv : validC c = 0) (hd : (c.any fun m => !m.decl) = false) : OKA c := by
 have hdc : ∀ m ∈ c, m.decl = true := fun m hm => by
  have := List.any_eq_false.1 hd m hm
  simpa using this
 have hvt : ∀ m ∈ c, validT m.t = 0 := fun m hm => by
  have h1 : memsV c.length c = 0 := by unfold validC at hv; rw [qe (by have := hL.len; omega)] at hv; exact hv
  have h2 := jic h1 m hm
  unfold memV at h2
  rw [qf (hdc m hm)] at h2
  by_cases h3 : validT m.t = 0
  ·exact h3
  ·rw [qe h3] at h2; exact qp h2 h3
 exact ⟨hL.len, hdc, fun m hm => jbu (hvt m hm), fun m hm => jkm m.t (jca (hvt m hm)) (by have := hL.size m hm; omega), hv⟩
def checkE (c : List Mem) (s : Int) : Int := if validC c = 0 then (if (c.any fun m => !m.decl) = true then 10 else if s < 0 ∨ ((2 ^ c.length - 1 : Nat) : Int) < s then 1 else 0) else validC c
theorem jlb (h : ¬ validC c = 0) : checkE c s = validC c := qe h
theorem jlT (h : validC c = 0) (h2 : (c.any fun m => !m.decl) = true) : checkE c s = 10 := by unfold checkE; rw [qf h, qf h2]
theorem jlJ (h : validC c = 0) (h2 : (c.any fun m => !m.decl) = false) (h3 : s < 0 ∨ ((2 ^ c.length - 1 : Nat) : Int) < s) : checkE c s = 1 := by unfold checkE; rw [qf h, qe (by rw [h2]; decide), qf h3]
theorem jkL (h : validC c = 0) (h2 : (c.any fun m => !m.decl) = false) (h3 : ¬ (s < 0 ∨ ((2 ^ c.length - 1 : Nat) : Int) < s)) : checkE c s = 0 := by unfold checkE; rw [qf h, qe (by rw [h2]; decide), qe h3]
theorem jrB (hL : Lt c) (h : checkE c s = 0) : OKA c ∧ ∃ n : Nat, s = n ∧ n < 2 ^ c.length := by
 have hp := jsB hL.len
 by_cases hv : validC c = 0
 ·(
 cases hd : (c.any fun m => !m.decl) with
 | true => rw [jlT hv hd] at h; cases h
 | false =>
  by_cases h3 : s < 0 ∨ ((2 ^ c.length - 1 : Nat) : Int) < s
  ·rw [jlJ hv hd h3] at h; cases h
  ·exact ⟨jvy hL hv hd, s.toNat, by omega, by omega⟩)
 ·rw [jlb hv] at h; exact qp h hv
theorem jmg (hok : OKA c) (h : n < 2 ^ c.length) : checkE c n = 0 := by
 exact jkL hok.ok hok.any (by omega)
theorem jmY (c : List Mem) (hL : Lt c) (s : Int) : C0 46 [cv c, .i s] (.i (checkE c s)) := by
 refine xI Tryz.func46 Tryz.call46 fun hcap => ?_
 have hp := jsB hL.len
 have hlen := hL.len
 refine xX fun b2 => ?_
 refine xA (jgQ c hL.s9) ?_
 refine xC ?_ ?_ <;> intro hc
 ·(
 have hv := jah hc
 refine xP ?_
 rw [jlb hv]; rfl)
 ·(
 have hv : validC c = 0 := jaf hc
 refine xA (jdl _ (fun m => !m.decl) c (fun k _ => jgK k)) ?_
 refine xC ?_ ?_ <;> intro hc
 ·(
 have hd := hc
 refine xP ?_
 rw [jlT hv hd]; rfl)
 ·(
 have hd := hc
 iterate 5 refine zW ?_
 iterate 2 all_goals first | refine zW ?_ | refine xG ?_ ?_ <;> intro hg
 all_goals first | (refine zY ?_; refine jaa zRc (jdw c hL.len) rfl rfl ?_) | refine zSk ?_
 iterate 3 all_goals refine zW ?_
 all_goals (
 refine xC ?_ ?_ <;> intro hc
 ·(
 first
 | (exact xQ hc)
 |(
 iterate 8 refine zW ?_
 refine zPi ?_
 rw [jlJ hv hd (by first | (have h5 := qc hg; omega) | (have h5 := qc hc; omega))]; rfl))
 ·(
 first
 | (exact xQ hc)
 |(
 iterate 9 refine zW ?_
 refine zPi ?_
 have h4 := qd hg
 have h5 := qd hc
 rw [jkL hv hd (by omega)]; rfl)))))
def pairE (c : List Mem) (s : Int) : Nat × Nat × Bool := if checkE c s = 0 then pairC c s.toNat else (0, 0, false)
theorem jqA (h : ¬ checkE c s = 0) : pairE c s = (0, 0, false) := qe h
theorem jk3 (h : checkE c n = 0) : pairE c n = pairC c n := by unfold pairE; rw [qf h, qr]
theorem jnM (c : List Mem) (hL : Lt c) (s : Int) : C0 11 [cv c, .i s] (.tup [.i ((pairE c s).1 : Nat), .i ((pairE c s).2.1 : Nat), .b (pairE c s).2.2]) := by
 refine xI Tryz.func11 Tryz.call11 fun hcap => ?_
 refine xX fun b2 => ?_
 refine xA (jmY c hL s) ?_
 refine xC ?_ ?_ <;> intro hc
 ·(
 have h0 := jah hc
 iterate 9 refine zW ?_
 rw [jqA h0]
 (refine zPi ?_; exact rfl))
 ·(
 have h0 := jaf hc
 obtain ⟨hok, n, rfl, hs⟩ := jrB hL h0
 have hp := jsB hL.len
 refine xA (jh9 c hok n hs) ?_
 iterate 9 refine zW ?_
 rw [jk3 h0]
 (refine zPi ?_; exact rfl))
structure Stp where
 kind : Int
 node : Int
 to : Int
 slot : Int
 count : Int
 val : ByteArray
 lk : Int
 ls : Int
 en : Int
 es : Int
 eq : Int
 th : Int
 tn : List Int
 ek : Int
 bn : Int
 bv : ByteArray
 lo : Int
 hi : Int
 parts : List Int
def stv (x : Stp) : D := .agg [.i x.kind, .i x.node, .i x.to, .i x.slot, .i x.count, .v (.string x.val), .i 0, .sl 1 [], .sl 3 [], .i x.lk, .i x.ls, .i 0, .i 0, .i 0, .sl 1 [], .sl 3 [], .sl 1 [], .sl 1 [], .i x.en, .i x.es, .i x.eq, .i x.th, .sl 1 (x.tn.map .i), .sl 3 [], .i x.ek, .i x.bn, .v (.string x.bv), .i 0, .v (.string ⟨#[]⟩), .i 0, .v (.string ⟨#[]⟩), .i x.lo, .i x.hi, .sl 1 (x.parts.map .i)]
abbrev sE : ByteArray := ⟨#[]⟩
def lieS (i k slot : Int) (w : ByteArray) : Stp := ⟨5, i, k, 0, 0, sE, 2, slot, i, slot, 1, 1, [i], 3, 1, w, 1, 1, []⟩
theorem jws (i k slot : Int) (w : ByteArray) : Cv (.slice none 0 0) 1 [] (.agg [.i 5, .i i, .i k, .i 0, .i 0, .v (.string sE), .i 0, .nil, .nil, .i 2, .i slot, .i 0, .i 0, .i 0, .nil, .nil, .nil, .nil, .i i, .i slot, .i 1, .i 1, .sl 1 [.i i], .nil, .i 3, .i 1, .v (.string w), .i 0, .v (.string ⟨#[]⟩), .i 0, .v (.string ⟨#[]⟩), .i 1, .i 1, .nil]) (stv (lieS i k slot w)) := Cv.agg (by repeat (first | exact CvL.nil | apply CvL.cons (by first | exact Cv.same | exact Cv.nil)))
theorem jrY (i k slot : Int) (w : ByteArray) : C0 90 [.i i, .i k, .i slot, .v (.string w)] (stv (lieS i k slot w)) := by
 refine xI Tryz.func90 Tryz.call90 fun hcap => ?_
 refine xL fun b8 => ?_
 iterate 7 refine zW ?_
 refine xLt 3 1 8 ?_
 refine xL fun b9 => ?_
 iterate 11 refine zW ?_
 refine jaP [8,23] 1 rfl rfl (by repeat (first | exact SelC.nil | apply SelC.cons rfl (jws i k slot w) | apply SelC.cons rfl Cv.same)) jb5 ?_; refine jdf rfl rfl jdx jbq rfl zRc ?_
 refine xP ?_; exact rfl
abbrev sa : ByteArray := ⟨#[97]⟩
abbrev sb : ByteArray := ⟨#[98]⟩
theorem jvO {l r : Nat} (hl : l < 1024) (hr : r < 1024) (hk : k < 2) : ∃ (x : Nat) (w : ByteArray), SubL [D.i l, D.i r] (k * 1) 1 [D.i x] ∧ ((k = 0 ∧ x = l ∧ w = sa) ∨ (k = 1 ∧ x = r ∧ w = sb)) ∧ x < 1024 := by
 match k, hk with
 | 0, _ => exact ⟨l, sa, by repeat constructor, .inl ⟨rfl, rfl, rfl⟩, hl⟩
 | 1, _ => exact ⟨r, sb, by repeat constructor, .inr ⟨rfl, rfl, rfl⟩, hr⟩
theorem bcl {x y : Bool} (h : x = y) : resD [D.b x] = D.b y := by rw [h]; rfl
theorem icl {x y : Int} (h : x = y) : resD [D.i x] = D.i y := by rw [h]; rfl
theorem jdv (q : List Evp) (x : Evp) : q.map ev ++ [ev x] = (q ++ [x]).map ev := by simp
theorem jwo {s u : ByteArray} (h : s.toList = u.toList) : s = u := by
 rw [ByteArray.toList_eq, ByteArray.toList_eq] at h
 cases s; cases u
 simp only at h
 congr 1
 exact Array.toList_inj.1 h
theorem jr7 (a : Int) (s : ByteArray) (c : Int) (u : ByteArray) : EqS Tryz.prog 53 #[.int .i64 a, .string s] #[.int .i64 c, .string u] (decide (a = c) && decide (s = u)) := by
 have u3 := Tryz.underlying3
 have a3 := Tryz.isAgg3
 have z3 := Tryz.sizeOf3
 have u4 := Tryz.underlying9
 have a4 := Tryz.isAgg9
 have z4 := Tryz.sizeOf9
 have hS : Tryz.prog.underlying 53 = some (.struct (Tryz.prog.fieldsOf 53)) := by kernel_rfl
 have hp : Tryz.prog.stoodInHeld 53 = false := by kernel_rfl
 refine ⟨by kernel_rfl, fun w => ⟨?_, ?_⟩⟩
 ·(
 rw [show (10000 : Nat) = 9999 + 1 from rfl, run_equalIn_agg w 9999 53 _ _ hS hp]
 simp only [Program.fieldsOf, Tryz.underlying53]
 go_simp
 by_cases h1 : a = c <;> by_cases h2 : s.toList = u.toList <;> simp [h1, h2]
 ·exact jwo h2
 ·exact fun e => h2 (by rw [e]))
 ·(
 rw [show (10000 : Nat) = 9999 + 1 from rfl, jcJ w 9999 53 _ _ _ hS hp]
 simp only [Program.fieldsOf, Tryz.underlying53]
 go_simp
 by_cases h1 : a = c <;> by_cases h2 : s.toList = u.toList <;> simp [h1, h2]
 all_goals simp only [show (9999 : Nat) = 9998 + 1 from rfl, jd3 _ _ _ _ _ _ _ _ u3, jcT _ _ _ _ _ _ u4])
theorem jaJ (b : Bal) : C0 183 [bv b] (.b (zB b)) := by
 refine xI Tryz.func183 Tryz.call183 fun hcap => ?_
 refine xX fun b1 => ?_
 iterate 7 refine zW ?_
 refine zP (jdy rfl zRc rfl zRc (jr7 _ _ _ _)) ?_
 refine xP ?_; exact rfl
theorem jc9 (b : Bal) : C0 202 [bv b] (.b (vB b)) := by
 refine xI Tryz.func202 Tryz.call202 fun hcap => ?_
 refine xX fun b1 => ?_
 iterate 9 refine zW ?_
 iterate 22 all_goals first | refine zW ?_ | refine xG ?_ ?_ <;> intro hg
 all_goals (
 refine xP ?_; refine (bcl ?_)
 first | rfl | (simp only [vB]; simp [*]; done) | grind [vB])
theorem ja2 (a b : Bal) : C0 204 [bv a, bv b] (.b (cB a b)) := by
 refine xI Tryz.func204 Tryz.call204 fun hcap => ?_
 refine xX fun b2 => ?_
 refine zBx fun b3 => ?_
 refine xP ?_; exact rfl
theorem jn7 (a b : Str) : C0 230 [.v (.string a), .v (.string b)] (.b (decide (cV a b < 0))) := by
 refine xI Tryz.func230 Tryz.call230 fun hcap => ?_
 refine xC ?_ ?_ <;> intro hc
 ·(
 have h1 := jah hc
 refine xP ?_; refine (bcl ?_)
 rw [jpc, qe (by omega)])
 ·(
 have h1 := jaf hc
 refine xP ?_; refine (bcl ?_)
 rw [jpc, qf (by omega)]; rfl)
theorem jcA (a b : Bal) : C0 203 [bv a, bv b] (.b (lB a b)) := by
 refine xI Tryz.func203 Tryz.call203 fun hcap => ?_
 refine xX fun b2 => ?_
 refine zBx fun b3 => ?_
 refine xC ?_ ?_ <;> intro hc
 ·(
 have h1 := jah hc
 refine xP ?_; refine (bcl ?_)
 rw [jrO, qe h1])
 ·(
 have h1 := jaf hc
 refine xA (jn7 a.v b.v) ?_
 refine xP ?_; refine (bcl ?_)
 rw [jrO, qf h1])
theorem jdK (p b : Bal) : C0 231 [bv p, bv b] (.b (covB p b)) := by
 refine xI Tryz.func231 Tryz.call231 fun hcap => ?_
 refine xX fun b2 => ?_
 refine zBx fun b3 => ?_
 refine xA (jaJ p) ?_
 iterate 2 refine zW ?_
 iterate 2 all_goals first | refine zW ?_ | refine xG ?_ ?_ <;> intro hg
 all_goals first | (refine zY ?_; refine jaa zRc (ja2 p b) rfl rfl ?_) | refine zSk ?_
 iterate 9 all_goals first | refine zW ?_ | refine xG ?_ ?_ <;> intro hg
 all_goals (
 refine xP ?_; refine (bcl ?_)
 first | rfl | (simp only [covB]; simp [*]; done))
theorem jes (p b : Bal) : C0 206 [bv p, bv b] (.b (abB p b)) := by
 refine xI Tryz.func206 Tryz.call206 fun hcap => ?_
 refine xX fun b2 => ?_
 refine zBx fun b3 => ?_
 refine xA (jaJ p) ?_
 iterate 2 refine zW ?_
 iterate 2 all_goals first | refine zW ?_ | refine xG ?_ ?_ <;> intro hg
 all_goals first | (refine zY ?_; refine jaa zRc (ja2 p b) rfl rfl ?_) | refine zSk ?_
 iterate 5 all_goals first | refine zW ?_ | refine xG ?_ ?_ <;> intro hg
 all_goals first | (refine zY ?_; refine jaa zRc (jcA b p) rfl rfl ?_) | refine zSk ?_
 iterate 2 all_goals refine zW ?_
 all_goals (
 refine xP ?_; refine (bcl ?_)
 first | rfl | (simp only [abB]; simp [*]; done))
theorem je0 (p q b : Bal) : C0 205 [bv p, bv q, bv b] (.b (prB p q b)) := by
 refine xI Tryz.func205 Tryz.call205 fun hcap => ?_
 refine xX fun b3 => ?_
 refine zBx fun b4 => ?_
 refine zBx fun b5 => ?_
 refine xA (jdK p b) ?_
 refine zW ?_
 iterate 2 all_goals first | refine zW ?_ | refine xG ?_ ?_ <;> intro hg
 all_goals first | (refine zY ?_; refine jaa zRc (jdK q b) rfl rfl ?_) | refine zSk ?_
 iterate 3 all_goals first | refine zW ?_ | refine xG ?_ ?_ <;> intro hg
 all_goals first | (refine zY ?_; refine jaa zRc (jaJ q) rfl rfl ?_) | refine zSk ?_
 iterate 4 all_goals first | refine zW ?_ | refine xG ?_ ?_ <;> intro hg
 all_goals first | (refine zY ?_; refine jaa zRc (jcA b q) rfl rfl ?_) | refine zSk ?_
 iterate 3 all_goals refine zW ?_
 all_goals (
 refine xP ?_; refine (bcl ?_)
 first | rfl | (simp only [prB]; simp [*]; done))
def headR (e : Evp) : Bool := headE e && vB e.bal
theorem jra {e : Evp} (h : headR e = false) : vE e = false := by
 unfold vE headR at *
 cases h1 : headE e with
 | false => rfl
 | true =>
  rw [h1, qq] at h
  rw [qq]
  unfold kindE prepE finB
  rw [h]
  simp
end Go.Proofs.YtgmpjpaekpefdaaGreat
