/- Walks: each says what one function of the program answers, for the arguments that its statement names. No condition beyond what each theorem says. -/
import Derived.Test.YtgmpjpaekpefdaaGreatAnalyserHaltsW5
import Derived.Test.YtgmpjpaekpefdaaGreatProg
import Derived.KernelRfl
import Derived.Tactics
import Derived.Tactics2
import Derived.StillTactics
set_option linter.unusedVariables false
set_option linter.unusedSimpArgs false
set_option maxRecDepth 4000
set_option maxHeartbeats 8000000
namespace Go.Proofs.YtgmpjpaekpefdaaGreat
open Go Go.Av Go.Tq
variable {k i : Nat} {s x : Slt} {n : Nmr} {l : List Nmn} {p : Ptc}
theorem jcT (b n : Nmr) (hb : NB b) (hB : NB n) (hq : 0 ≤ b.seq ∧ b.seq ≤ 2000000) : Con none Tryz.prog 211 [nrv b, nrv n] [] (Is (nrv (settleN b n)) []) := by
 refine xI Tryz.func211 Tryz.call211 fun hcap => ?_
 have hbv := hb.v
 have hba0 := hb.a
 have hml : (n.confs.map strv).length = n.confs.length := by simp
 refine xX fun b2 => ?_
 refine zBx fun b3 => ?_
 refine zAl fun b4 => ?_
 refine xN fun _ => ?_
 refine xC (fun hc => ?_) fun hc => ?_
 ·have h15 : n.confs.length = 0 := by have := of_decide_eq_true hc; omega
  have hfi : firstN n = followN n := if_pos h15
  refine xA (jjW n hB) ?_
  iterate 10 refine zW ?_
  refine jag [2, 3, 4] [.box b2 _ _, .box b4 _ _] (fun (c : Nmr) (g : Bool) r => (5, .b g) :: r) (fun c g r => .box b3 126 [.i c.node, .i c.slot, .i c.round, .i c.seq, .i c.t.th, .sl 1 (c.t.nodes.map .i), .sl 3 (avs c.t.inner), .v (.string c.own), .sl 1 (c.votes.map strv), .sl 1 (c.accs.map strv), .sl 1 (c.confs.map strv), .sl 7 (c.heard.map nmv)] :: r) (fun c g => NB c ∧ (g = true → ∃ k, 40 < k + c.accs.length ∧ againN k c = againN 41 (followN n)) ∧ (g = false → c = againN 41 (followN n))) (fun c g => (40 - c.accs.length) + (if g = true then 1 else 0)) (followN n) (true) zRc ⟨jjn hB, fun _ => ⟨41, by omega, rfl⟩, fun h => Bool.noConfusion h⟩ (zWk) ?_
  intro c g ⟨hBc, hT, hF⟩
  refine xC (fun hc => ?_) fun hc => ?_
  ·have hg9 : g = true := hc
   subst hg9
   obtain ⟨k, hk, hR⟩ := hT rfl
   refine xA (jgE c hBc) ?_
   refine zLn fun _ => ?_
   iterate 4 refine zW ?_
   rename_i hcp
   obtain ⟨K, hK⟩ : ∃ K, K = knownN c := ⟨_, rfl⟩
   rw [← hK] at hcp ⊢
   have hKl : (K.map strv).length = K.length := by simp
   refine jai [2, 3, 4, 20, 21] [.box b3 126 [.i c.node, .i c.slot, .i c.round, .i c.seq, .i c.t.th, .sl 1 (c.t.nodes.map .i), .sl 3 (avs c.t.inner), .v (.string c.own), .sl 1 (c.votes.map strv), .sl 1 (c.accs.map strv), .sl 1 (c.confs.map strv), .sl 7 (c.heard.map nmv)], .box b2 _ _, .box b4 _ _] (fun (i : Nat) r => (5, .b false) :: (22, .i (i : Int)) :: r) (fun i r => r) (fun i => i ≤ K.length ∧ (K.drop i).find? (canN c) = K.find? (canN c)) (fun i => K.length - i) (0) zRc ⟨by omega, rfl⟩ (zWk) ?_
   intro i ⟨hi, hI2⟩
   refine xC (fun hc => ?_) fun hc => ?_
   ·have hlt := of_decide_eq_true hc
    obtain ⟨x, hx, hd2⟩ := jab (l := K) (k := i) (by omega)
    have hx' := jae strv hx
    refine xA (jlR c hBc x) ?_
    refine xC (fun hc => ?_) fun hc => ?_
    ·have h28 : canN c x = true := hc
     refine xA (jdc c.accs (by have := hBc.a; omega) x) ?_
     iterate 16 refine zW ?_
     have hf : (knownN c).find? (canN c) = some x := (by rw [← hK, ← hI2, hd2]; simp [h28]); obtain ⟨hx1, hx2⟩ := jj8 h28; refine ⟨accN c x, true, ⟨jqs hBc x, fun _ => jgD hk hR hf hx2, fun h => Bool.noConfusion h⟩, by show (40 - (putN c.accs x).length) + (if true = true then 1 else 0) < (40 - c.accs.length) + (if true = true then 1 else 0); rw [hx2, if_pos rfl]; omega, zWk⟩
    ·have h28 : canN c x = false := hc
     iterate 8 refine zW ?_
     rw [hd2, List.find?_cons_of_neg (by rw [h28]; decide)] at hI2
     refine ⟨i + 1, ⟨by omega, hI2⟩, by omega, zWk⟩
   ·have hge := of_decide_eq_false hc
    rw [jac (by omega)] at hI2
    iterate 6 refine zW ?_
    refine ⟨c, false, ⟨hBc, fun h => Bool.noConfusion h, fun _ => by rw [← hR, jgA (by rw [← hK, ← hI2]; rfl)]⟩, by show (40 - c.accs.length) + (if false = true then 1 else 0) < (40 - c.accs.length) + (if true = true then 1 else 0); simp, zWk⟩
  ·have hg9 : g = false := hc
   have hcR := hF hg9
   refine xN fun _ => ?_
   iterate 4 refine zW ?_
   have hml3 : (c.accs.map strv).length = c.accs.length := by simp
   have hba := hBc.a
   refine jag [2, 3, 4, 36, 37] [.box b2 _ _, .box b4 _ _] (fun (i : Nat) (q : List Str) r => (38, .i (i : Int)) :: r) (fun i q r => .box b3 126 [.i c.node, .i c.slot, .i c.round, .i c.seq, .i c.t.th, .sl 1 (c.t.nodes.map .i), .sl 3 (avs c.t.inner), .v (.string c.own), .sl 1 (c.votes.map strv), .sl 1 (c.accs.map strv), .sl 1 (q.map strv), .sl 7 (c.heard.map nmv)] :: r) (fun i q => i ≤ c.accs.length ∧ q.length ≤ 1000 ∧ (c.accs.drop i).foldl (cnd1 c) q = c.accs.foldl (cnd1 c) c.confs) (fun i q => c.accs.length - i) (0) (c.confs) zRc ⟨by omega, hBc.c, rfl⟩ (zWk) ?_
   intro i q ⟨hi, hql, hI3⟩
   refine xC (fun hc => ?_) fun hc => ?_
   ·have hlt3 := of_decide_eq_true hc
    obtain ⟨x, hx, hd3⟩ := jab (l := c.accs) (k := i) (by omega)
    have hx' := jae strv hx
    refine xA (jd8 { c with confs := q } (jdv hBc hql) x) ?_
    iterate 8 refine zW ?_
    refine zDr [] ?_
    refine zT 0 ?_; refine zT 2 ?_; refine zT 3 ?_; refine zT 4 ?_; refine zOn 1 ?_
    refine xA (jfA { c with confs := q } (jdv hBc hql)) ?_
    refine zW ?_
    refine zOn 5 ?_
    refine xA (jbI _ _ _) ?_
    refine zW ?_; refine zW ?_
    all_goals (
     refine xC (fun hc => ?_) fun hc => ?_
     ·have h53 : confN c x = true := hc
      refine xA (jdc q (by omega) x) ?_
      iterate 10 refine zW ?_
      rw [hd3, List.foldl_cons] at hI3
      rw [show cnd1 c q x = putN q x from if_pos h53] at hI3; refine ⟨i + 1, putN q x, ⟨by omega, jb1 (by omega) hql, hI3⟩, by omega, zWk⟩
     ·have h53 : ¬ confN c x = true := by rw [show confN c x = false from hc]; decide
      iterate 8 refine zW ?_
      rw [hd3, List.foldl_cons] at hI3
      rw [show cnd1 c q x = q from if_neg h53] at hI3; refine ⟨i + 1, q, ⟨by omega, hql, hI3⟩, by omega, zWk⟩
     )
   ·have hge3 := of_decide_eq_false hc
    rw [jac (by omega)] at hI3
    have hI4 : q = c.accs.foldl (cnd1 c) c.confs := hI3
    have hbd : bodyN n = { c with confs := q } := by unfold bodyN; rw [hfi, ← hcR]; unfold chosenN; rw [← hI4]
    refine xA (jdF b.votes c.votes (by omega) (by have := hBc.v; omega)) ?_
    refine zW ?_; refine zW ?_
    iterate 4 all_goals first | refine zW ?_ | refine xG (fun hg => ?_) fun hg => ?_
    all_goals first | (refine zY ?_; refine jaa zRc (jdF b.accs c.accs (by omega) (by omega)) rfl rfl ?_) | refine zSk ?_
    iterate 7 all_goals first | refine zW ?_ | refine xG (fun hg => ?_) fun hg => ?_
    all_goals first | (refine zY ?_; refine jaa zRc (jbU b.t c.t) rfl rfl ?_) | refine zSk ?_
    iterate 2 all_goals refine zW ?_
    all_goals (
     refine xC (fun hc => ?_) fun hc => ?_
     rotate_left
     case' _ =>
      first
      | (exact absurd hc (by decide))
      | (have h81 : ¬ ((!sameN b.votes c.votes || !sameN b.accs c.accs) || !same b.t c.t) = true := by first | (simp_all; done) | grind
         have mk81f : True := trivial
         refine zW ?_
       )
     rotate_right
     case' _ =>
      first
      | (exact absurd hc (by decide))
      | (have h81 : ((!sameN b.votes c.votes || !sameN b.accs c.accs) || !same b.t c.t) = true := by first | (simp_all; done) | grind
         have mk81t : True := trivial
         iterate 7 refine zW ?_
       )
     all_goals (
      iterate 8 refine zW ?_
      first
      | (have := mk81t; refine zPi ?_; unfold settleN; rw [hbd, if_pos (show turnN b { c with confs := q } = true from h81)]; rfl)
      | (have := mk81f; refine zPi ?_; unfold settleN; rw [hbd, if_neg (show ¬ turnN b { c with confs := q } = true from h81)]; rfl)
      )
     )
 ·have h15 : ¬ n.confs.length = 0 := by have := of_decide_eq_false hc; omega
  have hfi : firstN n = n := if_neg h15
  iterate 9 refine zW ?_
  refine jag [2, 3, 4] [.box b2 _ _, .box b4 _ _] (fun (c : Nmr) (g : Bool) r => (5, .b g) :: r) (fun c g r => .box b3 126 [.i c.node, .i c.slot, .i c.round, .i c.seq, .i c.t.th, .sl 1 (c.t.nodes.map .i), .sl 3 (avs c.t.inner), .v (.string c.own), .sl 1 (c.votes.map strv), .sl 1 (c.accs.map strv), .sl 1 (c.confs.map strv), .sl 7 (c.heard.map nmv)] :: r) (fun c g => NB c ∧ (g = true → ∃ k, 40 < k + c.accs.length ∧ againN k c = againN 41 (n)) ∧ (g = false → c = againN 41 (n))) (fun c g => (40 - c.accs.length) + (if g = true then 1 else 0)) (n) (true) zRc ⟨hB, fun _ => ⟨41, by omega, rfl⟩, fun h => Bool.noConfusion h⟩ (zWk) ?_
  intro c g ⟨hBc, hT, hF⟩
  refine xC (fun hc => ?_) fun hc => ?_
  ·have hg9 : g = true := hc
   subst hg9
   obtain ⟨k, hk, hR⟩ := hT rfl
   refine xA (jgE c hBc) ?_
   refine zLn fun _ => ?_
   iterate 4 refine zW ?_
   rename_i hcp
   obtain ⟨K, hK⟩ : ∃ K, K = knownN c := ⟨_, rfl⟩
   rw [← hK] at hcp ⊢
   have hKl : (K.map strv).length = K.length := by simp
   refine jai [2, 3, 4, 20, 21] [.box b3 126 [.i c.node, .i c.slot, .i c.round, .i c.seq, .i c.t.th, .sl 1 (c.t.nodes.map .i), .sl 3 (avs c.t.inner), .v (.string c.own), .sl 1 (c.votes.map strv), .sl 1 (c.accs.map strv), .sl 1 (c.confs.map strv), .sl 7 (c.heard.map nmv)], .box b2 _ _, .box b4 _ _] (fun (i : Nat) r => (5, .b false) :: (22, .i (i : Int)) :: r) (fun i r => r) (fun i => i ≤ K.length ∧ (K.drop i).find? (canN c) = K.find? (canN c)) (fun i => K.length - i) (0) zRc ⟨by omega, rfl⟩ (zWk) ?_
   intro i ⟨hi, hI2⟩
   refine xC (fun hc => ?_) fun hc => ?_
   ·have hlt := of_decide_eq_true hc
    obtain ⟨x, hx, hd2⟩ := jab (l := K) (k := i) (by omega)
    have hx' := jae strv hx
    refine xA (jlR c hBc x) ?_
    refine xC (fun hc => ?_) fun hc => ?_
    ·have h28 : canN c x = true := hc
     refine xA (jdc c.accs (by have := hBc.a; omega) x) ?_
     iterate 16 refine zW ?_
     have hf : (knownN c).find? (canN c) = some x := (by rw [← hK, ← hI2, hd2]; simp [h28]); obtain ⟨hx1, hx2⟩ := jj8 h28; refine ⟨accN c x, true, ⟨jqs hBc x, fun _ => jgD hk hR hf hx2, fun h => Bool.noConfusion h⟩, by show (40 - (putN c.accs x).length) + (if true = true then 1 else 0) < (40 - c.accs.length) + (if true = true then 1 else 0); rw [hx2, if_pos rfl]; omega, zWk⟩
    ·have h28 : canN c x = false := hc
     iterate 8 refine zW ?_
     rw [hd2, List.find?_cons_of_neg (by rw [h28]; decide)] at hI2
     refine ⟨i + 1, ⟨by omega, hI2⟩, by omega, zWk⟩
   ·have hge := of_decide_eq_false hc
    rw [jac (by omega)] at hI2
    iterate 6 refine zW ?_
    refine ⟨c, false, ⟨hBc, fun h => Bool.noConfusion h, fun _ => by rw [← hR, jgA (by rw [← hK, ← hI2]; rfl)]⟩, by show (40 - c.accs.length) + (if false = true then 1 else 0) < (40 - c.accs.length) + (if true = true then 1 else 0); simp, zWk⟩
  ·have hg9 : g = false := hc
   have hcR := hF hg9
   refine xN fun _ => ?_
   iterate 4 refine zW ?_
   have hml3 : (c.accs.map strv).length = c.accs.length := by simp
   have hba := hBc.a
   refine jag [2, 3, 4, 36, 37] [.box b2 _ _, .box b4 _ _] (fun (i : Nat) (q : List Str) r => (38, .i (i : Int)) :: r) (fun i q r => .box b3 126 [.i c.node, .i c.slot, .i c.round, .i c.seq, .i c.t.th, .sl 1 (c.t.nodes.map .i), .sl 3 (avs c.t.inner), .v (.string c.own), .sl 1 (c.votes.map strv), .sl 1 (c.accs.map strv), .sl 1 (q.map strv), .sl 7 (c.heard.map nmv)] :: r) (fun i q => i ≤ c.accs.length ∧ q.length ≤ 1000 ∧ (c.accs.drop i).foldl (cnd1 c) q = c.accs.foldl (cnd1 c) c.confs) (fun i q => c.accs.length - i) (0) (c.confs) zRc ⟨by omega, hBc.c, rfl⟩ (zWk) ?_
   intro i q ⟨hi, hql, hI3⟩
   refine xC (fun hc => ?_) fun hc => ?_
   ·have hlt3 := of_decide_eq_true hc
    obtain ⟨x, hx, hd3⟩ := jab (l := c.accs) (k := i) (by omega)
    have hx' := jae strv hx
    refine xA (jd8 { c with confs := q } (jdv hBc hql) x) ?_
    iterate 8 refine zW ?_
    refine zDr [] ?_
    refine zT 0 ?_; refine zT 2 ?_; refine zT 3 ?_; refine zT 4 ?_; refine zOn 1 ?_
    refine xA (jfA { c with confs := q } (jdv hBc hql)) ?_
    refine zW ?_
    refine zOn 5 ?_
    refine xA (jbI _ _ _) ?_
    refine zW ?_; refine zW ?_
    all_goals (
     refine xC (fun hc => ?_) fun hc => ?_
     ·have h53 : confN c x = true := hc
      refine xA (jdc q (by omega) x) ?_
      iterate 10 refine zW ?_
      rw [hd3, List.foldl_cons] at hI3
      rw [show cnd1 c q x = putN q x from if_pos h53] at hI3; refine ⟨i + 1, putN q x, ⟨by omega, jb1 (by omega) hql, hI3⟩, by omega, zWk⟩
     ·have h53 : ¬ confN c x = true := by rw [show confN c x = false from hc]; decide
      iterate 8 refine zW ?_
      rw [hd3, List.foldl_cons] at hI3
      rw [show cnd1 c q x = q from if_neg h53] at hI3; refine ⟨i + 1, q, ⟨by omega, hql, hI3⟩, by omega, zWk⟩
     )
   ·have hge3 := of_decide_eq_false hc
    rw [jac (by omega)] at hI3
    have hI4 : q = c.accs.foldl (cnd1 c) c.confs := hI3
    have hbd : bodyN n = { c with confs := q } := by unfold bodyN; rw [hfi, ← hcR]; unfold chosenN; rw [← hI4]
    refine xA (jdF b.votes c.votes (by omega) (by have := hBc.v; omega)) ?_
    refine zW ?_; refine zW ?_
    iterate 4 all_goals first | refine zW ?_ | refine xG (fun hg => ?_) fun hg => ?_
    all_goals first | (refine zY ?_; refine jaa zRc (jdF b.accs c.accs (by omega) (by omega)) rfl rfl ?_) | refine zSk ?_
    iterate 7 all_goals first | refine zW ?_ | refine xG (fun hg => ?_) fun hg => ?_
    all_goals first | (refine zY ?_; refine jaa zRc (jbU b.t c.t) rfl rfl ?_) | refine zSk ?_
    iterate 2 all_goals refine zW ?_
    all_goals (
     refine xC (fun hc => ?_) fun hc => ?_
     rotate_left
     case' _ =>
      first
      | (exact absurd hc (by decide))
      | (have h81 : ¬ ((!sameN b.votes c.votes || !sameN b.accs c.accs) || !same b.t c.t) = true := by first | (simp_all; done) | grind
         have mk81f : True := trivial
         refine zW ?_
       )
     rotate_right
     case' _ =>
      first
      | (exact absurd hc (by decide))
      | (have h81 : ((!sameN b.votes c.votes || !sameN b.accs c.accs) || !same b.t c.t) = true := by first | (simp_all; done) | grind
         have mk81t : True := trivial
         iterate 7 refine zW ?_
       )
     all_goals (
      iterate 8 refine zW ?_
      first
      | (have := mk81t; refine zPi ?_; unfold settleN; rw [hbd, if_pos (show turnN b { c with confs := q } = true from h81)]; rfl)
      | (have := mk81f; refine zPi ?_; unfold settleN; rw [hbd, if_neg (show ¬ turnN b { c with confs := q } = true from h81)]; rfl)
      )
     )
def badN1 (n : Nmr) : Bool := decide (n.node < 0) || (decide (n.node ≥ 10) || (decide (n.slot < 0) || (decide (n.slot > 1000000) || (decide (n.round < 1) || (decide (n.round > 1000) || (decide (n.seq < 1) || decide (n.seq > 1000000)))))))
theorem jpS (n : Nmr) : rngN n = !badN1 n := by
 rw [Bool.eq_iff_iff]
 simp only [rngN, badN1, Bool.and_eq_true, decide_eq_true_eq, Bool.not_eq_true', Bool.or_eq_false_iff, decide_eq_false_iff_not, gt_iff_lt, ge_iff_le]
 omega
def badN2 (n : Nmr) : Bool := !decide (validT n.t = 0) || (decide ((n.own.size : Int) > 200) || (!plainN n.votes || (!plainN n.accs || !plainN n.confs)))
theorem jn8 (n : Nmr) : lstN n = !badN2 n := by
 have h : decide ((n.own.size : Int) ≤ 200) = !decide ((n.own.size : Int) > 200) := by
  rw [Bool.eq_iff_iff]; simp only [decide_eq_true_eq, Bool.not_eq_true', decide_eq_false_iff_not]; omega
 simp only [lstN, badN2, h]
 cases decide (validT n.t = 0) <;> cases decide ((n.own.size : Int) > 200) <;> cases plainN n.votes <;> cases plainN n.accs <;> cases plainN n.confs <;> rfl
theorem joj (h : badN1 n = true) : validNr n = false := by unfold validNr; rw [jpS, h]; rfl
theorem joz (h : badN2 n = true) : validNr n = false := by unfold validNr; rw [jn8, h, Bool.not_true, Bool.and_false, Bool.false_and, Bool.false_and]
theorem jqf (h : n.confs.all (hasN n.accs) = false) : validNr n = false := by unfold validNr; rw [h, Bool.and_false, Bool.false_and]
theorem jiS {c : Bool} (h1 : badN1 n = false) (h2 : badN2 n = false) (h : n.confs.all (hasN n.accs) = true) (h4 : nhGo n none n.heard = c) : validNr n = c := by unfold validNr; rw [jpS, jn8, h1, h2, h, h4]; rfl
def okMn (p : Option Int) (m : Nmn) : Bool := match p with | none => true | some q => decide (q < m.node)
def prevM (l : List Nmn) (k : Nat) : Option Int := if k = 0 then none else (l[k - 1]?).map Nmn.node
theorem jjz (n : Nmr) (p : Option Int) (m : Nmn) (r : List Nmn) : nhGo n p (m :: r) = (((plainNm m && !decide (m.node = n.node)) && okMn p m) && nhGo n (some m.node) r) := by cases p <;> rfl
theorem jnv {x : Nmn} (h : l[k]? = some x) : prevM l (k + 1) = some x.node := by
 unfold prevM
 rw [if_neg (by omega), Nat.add_sub_cancel, h]
 rfl
theorem jua {x y : Nmn} (hy : 0 < k → l[k - 1]? = some y) : okMn (prevM l k) x = if (0 : Int) < (k : Int) then decide (y.node < x.node) else true := by
 unfold prevM
 by_cases h : k = 0
 ·rw [if_pos h, if_neg (by omega)]; rfl
 ·rw [if_neg h, if_pos (by omega), hy (by omega)]; rfl
theorem jqY (x : Nmn) (h : k ≤ l.length) : ∃ y, 0 < k → l[k - 1]? = some y := by
 rcases Nat.eq_zero_or_pos k with h0 | h0
 ·exact ⟨x, fun h1 => by omega⟩
 ·exact ⟨l[k - 1]'(by omega), fun _ => List.getElem?_eq_getElem _⟩
theorem jd5 (n : Nmr) (hB : NB n) : Con none Tryz.prog 168 [nrv n] [] (Is (.b (validNr n)) []) := by
 refine xI Tryz.func168 Tryz.call168 fun hcap => ?_
 have hsz := hB.sz
 have hml : (n.heard.map nmv).length = n.heard.length := by simp
 have hbl := hB.hl
 have hbv := hB.v
 have hba := hB.a
 have hbc := hB.c
 have hcl : (n.confs.map strv).length = n.confs.length := by simp
 refine xX fun b1 => ?_
 iterate 10 refine zW ?_
 iterate 34 all_goals first | refine zW ?_ | refine xG (fun hg => ?_) fun hg => ?_
 all_goals (
  refine xC (fun hc => ?_) fun hc => ?_
  ·first
   | (exact absurd hc (by decide))
   | (have h44 : badN1 n = true := by first | (simp only [badN1, *, Bool.or_true, Bool.true_or, Bool.or_false, Bool.false_or, Bool.and_true, Bool.true_and, Bool.and_false, Bool.false_and, Bool.not_true, Bool.not_false]; done) | (simp only [badN1]; simp [*]; done) | grind [badN1]
      refine xP ?_
      rw [joj h44]; rfl
    )
  ·first
   | (exact absurd hc (by decide))
   | (have h44 : badN1 n = false := by first | (simp only [badN1, *, Bool.or_true, Bool.true_or, Bool.or_false, Bool.false_or, Bool.and_true, Bool.true_and, Bool.and_false, Bool.false_and, Bool.not_true, Bool.not_false]; done) | (simp only [badN1]; simp [*]; done) | grind [badN1]
      refine xA (jaN n.t (by omega)) ?_
      refine zW ?_; refine zW ?_
      iterate 8 all_goals first | refine zW ?_ | refine xG (fun hg => ?_) fun hg => ?_
      all_goals first | (refine zY ?_; refine jaa zRc (jch n.votes (by omega)) rfl rfl ?_) | refine zSk ?_
      iterate 5 all_goals first | refine zW ?_ | refine xG (fun hg => ?_) fun hg => ?_
      all_goals first | (refine zY ?_; refine jaa zRc (jch n.accs (by omega)) rfl rfl ?_) | refine zSk ?_
      iterate 5 all_goals first | refine zW ?_ | refine xG (fun hg => ?_) fun hg => ?_
      all_goals first | (refine zY ?_; refine jaa zRc (jch n.confs (by omega)) rfl rfl ?_) | refine zSk ?_
      iterate 2 all_goals refine zW ?_
      all_goals (
       refine xC (fun hc => ?_) fun hc => ?_
       ·first
        | (exact absurd hc (by decide))
        | (have h72 : badN2 n = true := by first | (simp only [badN2, *, Bool.or_true, Bool.true_or, Bool.or_false, Bool.false_or, Bool.and_true, Bool.true_and, Bool.and_false, Bool.false_and, Bool.not_true, Bool.not_false]; done) | (simp only [badN2]; simp [*]; done) | grind [badN2]
           refine xP ?_
           rw [joz h72]; rfl
         )
       ·first
        | (exact absurd hc (by decide))
        | (have h72 : badN2 n = false := by first | (simp only [badN2, *, Bool.or_true, Bool.true_or, Bool.or_false, Bool.false_or, Bool.and_true, Bool.true_and, Bool.and_false, Bool.false_and, Bool.not_true, Bool.not_false]; done) | (simp only [badN2]; simp [*]; done) | grind [badN2]
           refine xN fun _ => ?_
           iterate 4 refine zW ?_
           refine jai [1, 74, 75] [.box b1 _ _] (fun (i : Nat) r => (76, .i (i : Int)) :: r) (fun i r => r) (fun i => i ≤ n.confs.length ∧ (n.confs.drop i).all (hasN n.accs) = n.confs.all (hasN n.accs)) (fun i => n.confs.length - i) (0) zRc ⟨by omega, rfl⟩ (zWk) ?_
           intro i ⟨hi, hI0⟩
           refine xC (fun hc => ?_) fun hc => ?_
           ·have hlt0 := of_decide_eq_true hc
            obtain ⟨z, hz, hd0⟩ := jab (l := n.confs) (k := i) (by omega)
            have hz' := jae strv hz
            refine xA (jcZ n.accs (by omega) z) ?_
            refine xC (fun hc => ?_) fun hc => ?_
            ·have h84 : hasN n.accs z = false := jau hc
             rw [hd0, List.all_cons, h84, Bool.false_and] at hI0
             refine xP ?_
             rw [jqf hI0.symm]; rfl
            ·have h84 : hasN n.accs z = true := jat hc
             iterate 8 refine zW ?_
             rw [hd0, List.all_cons, h84, Bool.true_and] at hI0
             refine ⟨i + 1, ⟨by omega, hI0⟩, by omega, zWk⟩
           ·have hge0 := of_decide_eq_false hc
            rw [jac (by omega), List.all_nil] at hI0
            refine xN fun _ => ?_
            iterate 4 refine zW ?_
            refine jai [1, 87, 88] [.box b1 _ _] (fun (k : Nat) r => (89, .i (k : Int)) :: r) (fun k r => r) (fun k => k ≤ n.heard.length ∧ nhGo n (prevM n.heard k) (n.heard.drop k) = nhGo n none n.heard) (fun k => n.heard.length - k) (0) zRc ⟨by omega, rfl⟩ (zWk) ?_
            intro k ⟨hk, hI⟩
            refine xC (fun hc => ?_) fun hc => ?_
            ·have hlt := of_decide_eq_true hc
             obtain ⟨x, hx, hd⟩ := jab (l := n.heard) (k := k) (by omega)
             have hx' := jae nmv hx
             obtain ⟨y, hy⟩ := jqY x hk
             have hq := jua (x := x) hy
             have hxs := hB.hs x (List.mem_of_getElem? hx)
             refine xL fun b6 => ?_
             iterate 5 refine zW ?_
             refine zDr [] ?_
             refine zT 0 ?_; refine zOn 1 ?_
             refine xA (jfy x (by have := hxs.1; omega) (by have := hxs.2.1; omega) (by have := hxs.2.2; omega)) ?_
             refine zW ?_
             refine zT 2 ?_; refine zT 3 ?_
             refine jaj 3 rfl (fun hg => ?_) fun hg => ?_
             rotate_left
             case' _ =>
              refine zT 4 ?_; refine zT 5 ?_; refine zT 6 ?_; refine zT 7 ?_; refine zT 8 ?_; refine zT 9 ?_; refine zT 10 ?_
              refine jaj 10 rfl (fun hg => ?_) fun hg => ?_
              rotate_left
              case' _ =>
               refine zT 11 ?_; refine zT 12 ?_; refine zT 13 ?_
               refine jaj 13 rfl (fun hg => ?_) fun hg => ?_
               rotate_left
               case' _ =>
                refine zK 14 ?_; refine zK 15 ?_; refine zK 16 ?_; refine zK 17 ?_; refine zK 18 ?_; refine zK 19 ?_; refine zK 20 ?_; refine zK 21 ?_; refine zK 22 ?_; refine zK 23 ?_; refine zT 24 ?_; refine zT 25 ?_
                refine zW ?_
               rotate_right
               case' _ =>
                refine zT 14 ?_; refine zT 15 ?_; refine zT 16 ?_; refine zT 17 ?_
                refine jam 18 rfl zGd zKr zKr zKr (AP.ar (jap (k := k - 1) rfl rfl rfl rfl (by decide) (by have h9 : decide ((k : Int) > 0) = true := (by first | with_reducible assumption | exact hg); have := of_decide_eq_true h9; omega) (jae nmv (hy (by have h9 : decide ((k : Int) > 0) = true := (by first | with_reducible assumption | exact hg); have := of_decide_eq_true h9; omega))))) rfl rfl ?_
                refine zT 19 ?_; refine zT 20 ?_; refine zT 21 ?_; refine zT 22 ?_; refine zT 23 ?_; refine zT 24 ?_; refine zT 25 ?_
                refine zW ?_
              rotate_right
              case' _ =>
               refine zK 11 ?_; refine zK 12 ?_; refine zKu 13 ?_; refine zK 14 ?_; refine zK 15 ?_; refine zK 16 ?_; refine zK 17 ?_; refine zK 18 ?_; refine zK 19 ?_; refine zK 20 ?_; refine zK 21 ?_; refine zK 22 ?_; refine zK 23 ?_; refine zK 24 ?_; refine zT 25 ?_
               refine zW ?_
             rotate_right
             case' _ =>
              refine zK 4 ?_; refine zK 5 ?_; refine zK 6 ?_; refine zK 7 ?_; refine zK 8 ?_; refine zT 9 ?_; refine zT 10 ?_; refine zK 11 ?_; refine zK 12 ?_; refine zKu 13 ?_; refine zK 14 ?_; refine zK 15 ?_; refine zK 16 ?_; refine zK 17 ?_; refine zK 18 ?_; refine zK 19 ?_; refine zK 20 ?_; refine zK 21 ?_; refine zK 22 ?_; refine zK 23 ?_; refine zK 24 ?_; refine zT 25 ?_
              refine zW ?_
             all_goals (
              refine xC (fun hc => ?_) fun hc => ?_
              ·first
               | (exact absurd hc (by decide))
               | (have hq0 : ((plainNm x && !decide (x.node = n.node)) && okMn (prevM n.heard k) x) = false := by rw [hq]; first | (simp [*]; done) | grind
                  refine xP ?_
                  rw [hd, jjz, hq0, Bool.false_and] at hI
                  rw [jiS h44 h72 hI0.symm hI.symm]; rfl
                )
              ·first
               | (exact absurd hc (by decide))
               | (have hq0 : ((plainNm x && !decide (x.node = n.node)) && okMn (prevM n.heard k) x) = true := by rw [hq]; first | (simp [*]; done) | grind
                  iterate 8 refine zW ?_
                  rw [hd, jjz, hq0, Bool.true_and, ← jnv hx] at hI
                  refine ⟨k + 1, ⟨by omega, hI⟩, by omega, zWk⟩
                )
              )
            ·have hge := of_decide_eq_false hc
             rw [jac (by omega)] at hI
             refine xP ?_
             rw [jiS h44 h72 hI0.symm hI.symm]; rfl
         )
       )
    )
  )
theorem jo7 (n : Nmr) (hN : NI n) : Con none Tryz.prog 175 [nrv n] [] (Is (.tup [nrv (tickN n).1, .i (tickN n).2]) []) := by
 refine xI Tryz.func175 Tryz.call175 fun hcap => ?_
 have hr := hN.round
 refine xX fun b1 => ?_
 refine zAl fun b2 => ?_
 refine xA (jd5 n hN.nb) ?_
 refine xC (fun hc => ?_) fun hc => ?_
 ·have h7 : validNr n = false := jau hc
  refine zW ?_; refine zW ?_
  refine zP (AP.up (jah zKr rfl zRc jav) (d' := nrv zeroN) xUp) ?_
  refine xP ?_
  unfold tickN; rw [if_pos h7]; rfl
 ·have h7 : validNr n = true := jat hc
  refine xC (fun hc => ?_) fun hc => ?_
  ·have h11 : n.round = 1000 := of_decide_eq_true hc
   refine zW ?_; refine zW ?_
   refine zP (AP.up (jah zKr rfl zRc jav) (d' := nrv zeroN) xUp) ?_
   refine xP ?_
   unfold tickN; rw [if_neg (by rw [h7]; decide), if_pos h11]; rfl
  ·have h11 : ¬ n.round = 1000 := of_decide_eq_false hc
   refine xL fun b4 => ?_
   refine xA (jcT n { n with round := n.round + 1 } hN.nb (jkZ hN.nb _) hN.seq) ?_
   refine xP ?_
   unfold tickN; rw [if_neg (by rw [h7]; decide), if_neg h11]; rfl
theorem jno (node slot : Int) (t : Trust) (ht : sizeT t ≤ 100000) (own : Str) : Con none Tryz.prog 182 [.i node, .i slot, av t, .v (.string own)] [] (Is (.tup [nrv (startN node slot t own).1, .i (startN node slot t own).2]) []) := by
 refine xI Tryz.func182 Tryz.call182 fun hcap => ?_
 refine xX fun b6 => ?_
 refine zAl fun b8 => ?_
 iterate 9 refine zW ?_
 iterate 3 all_goals first | refine zW ?_ | refine xG (fun hg => ?_) fun hg => ?_
 all_goals (
  refine xC (fun hc => ?_) fun hc => ?_
  ·first
   | (exact absurd hc (by decide))
   | (have h17 : node < 0 ∨ node ≥ 10 := by first | exact .inl (of_decide_eq_true hg) | exact .inr (of_decide_eq_true hc)
      refine zW ?_; refine zW ?_
      refine zP (AP.up (jah zKr rfl zRc jav) (d' := nrv zeroN) xUp) ?_
      refine xP ?_
      unfold startN; rw [if_pos h17]; rfl
    )
  ·first
   | (exact absurd hc (by decide))
   | (have h17 : ¬ (node < 0 ∨ node ≥ 10) := by rintro (h | h); exact of_decide_eq_false hg h; exact of_decide_eq_false hc h
      iterate 8 refine zW ?_
      iterate 3 all_goals first | refine zW ?_ | refine xG (fun hg => ?_) fun hg => ?_
      all_goals (
       refine xC (fun hc => ?_) fun hc => ?_
       ·first
        | (exact absurd hc (by decide))
        | (have h24 : slot < 0 ∨ slot > 1000000 := by first | exact .inl (of_decide_eq_true hg) | exact .inr (of_decide_eq_true hc)
           refine zW ?_; refine zW ?_
           refine zP (AP.up (jah zKr rfl zRc jav) (d' := nrv zeroN) xUp) ?_
           refine xP ?_
           unfold startN; rw [if_neg h17, if_pos h24]; rfl
         )
       ·first
        | (exact absurd hc (by decide))
        | (have h24 : ¬ (slot < 0 ∨ slot > 1000000) := by rintro (h | h); exact of_decide_eq_false hg h; exact of_decide_eq_false hc h
           refine xA (jaN t (by omega)) ?_
           refine xC (fun hc => ?_) fun hc => ?_
           ·have h29 : ¬ validT t = 0 := jaf hc
            refine zW ?_; refine zW ?_
            refine zP (AP.up (jah zKr rfl zRc jav) (d' := nrv zeroN) xUp) ?_
            refine xP ?_
            unfold startN; rw [if_neg h17, if_neg h24, if_pos h29]; rfl
           ·have h29 : validT t = 0 := jad hc
            refine xC (fun hc => ?_) fun hc => ?_
            ·have h34 : (own.size : Int) > 200 := of_decide_eq_true hc
             refine zW ?_; refine zW ?_
             refine zP (AP.up (jah zKr rfl zRc jav) (d' := nrv zeroN) xUp) ?_
             refine xP ?_
             unfold startN; rw [if_neg h17, if_neg h24, if_neg (fun h => h h29), if_pos h34]; rfl
            ·have h34 : ¬ (own.size : Int) > 200 := of_decide_eq_false hc
             iterate 8 refine zW ?_
             refine zP (AP.up (jah zKr rfl zRc jav) (d' := nrv (newN node slot t own)) xUp) ?_
             refine zAl fun b11 => ?_
             refine xA (jcT (newN node slot t own) (newN node slot t own) (jkp (by omega) ht) (jkp (by omega) ht) (by show (0 : Int) ≤ 1 ∧ (1 : Int) ≤ 2000000; omega)) ?_
             refine xP ?_
             unfold startN; rw [if_neg h17, if_neg h24, if_neg (fun h => h h29), if_neg h34]; rfl
         )
       )
    )
  )
theorem jpd (n : Nmr) (hN : NI n) (m : Nmn) (hm : MB m) : Con none Tryz.prog 173 [nrv n, nmv m] [] (Is (.tup [nrv (hearN n m).1, .i (hearN n m).2]) []) := by
 refine xI Tryz.func173 Tryz.call173 fun hcap => ?_
 have hml : (n.heard.map nmv).length = n.heard.length := by simp
 have hbl := hN.nb.hl
 have hms := hm.sz
 have hmv := hm.v
 have hma := hm.a
 refine xX fun b2 => ?_
 refine zBx fun b3 => ?_
 refine zAl fun b4 => ?_
 refine xA (jd5 n hN.nb) ?_
 refine zW ?_; refine zW ?_
 all_goals refine xG (fun hg => ?_) fun hg => ?_
 all_goals first | (refine zY ?_; refine jaa zRc (jfy m (by omega) (by omega) (by omega)) rfl rfl ?_) | refine zSk ?_
 iterate 9 all_goals first | refine zW ?_ | refine xG (fun hg => ?_) fun hg => ?_
 all_goals (
  refine xC (fun hc => ?_) fun hc => ?_
  ·first
   | (exact absurd hc (by decide))
   | (have h24 : (validNr n = false ∨ plainNm m = false) ∨ m.node = n.node := by first | (simp_all; done) | grind
      refine zW ?_; refine zW ?_
      refine zP (AP.up (jah zKr rfl zRc jav) (d' := nrv zeroN) xUp) ?_
      refine xP ?_
      unfold hearN; rw [if_pos h24]; rfl
    )
  ·first
   | (exact absurd hc (by decide))
   | (have h24 : ¬ ((validNr n = false ∨ plainNm m = false) ∨ m.node = n.node) := by first | (simp_all; done) | grind
      have hv24 : validNr n = true ∧ plainNm m = true := ⟨by cases h : validNr n; exact absurd (.inl (.inl h)) h24; rfl, by cases h : plainNm m; exact absurd (.inl (.inr h)) h24; rfl⟩
      refine xL fun b6 => ?_
      refine xN fun _ => ?_
      iterate 4 refine zW ?_
      refine jbq [2, 3, 4, 6, 29, 30] [.box b2 _ _, .box b3 _ _, .box b4 _ _] (fun (i : Nat) (v : Value) (q : List Nmn) (g : Bool) r => (7, .b g) :: (31, .i (i : Int)) :: r) (fun i v q g r => .box b6 126 [.i n.node, .i n.slot, .i n.round, .i n.seq, .i n.t.th, .sl 1 (n.t.nodes.map .i), .sl 3 (avs n.t.inner), .v (.string n.own), .sl 1 (n.votes.map strv), .sl 1 (n.accs.map strv), .sl 1 (n.confs.map strv), .v v] :: .arr v 51 7 (q.map nmv) :: r) (fun i v q g => i ≤ n.heard.length ∧ q.length ≤ 2 * i ∧ insGo m (n.heard.drop i) g q = insN n m) (fun i v q g => n.heard.length - i) (0) (.slice none 0 0) ([]) (false) zRc ⟨by omega, by simp, rfl⟩ ((jaM 51 7 rfl).trans (zWk)) ?_
      intro i v q g ⟨hi, hql, hI⟩
      have hqm : (q.map nmv).length = q.length := by simp
      refine xC (fun hc => ?_) fun hc => ?_
      ·have hlt := of_decide_eq_true hc
       obtain ⟨x, hx, hd⟩ := jab (l := n.heard) (k := i) (by omega)
       have hx' := jae nmv hx
       refine xL fun b9 => ?_
       refine xC (fun hc => ?_) fun hc => ?_
       ·have h39 : x.node = m.node := of_decide_eq_true hc
        refine xC (fun hc => ?_) fun hc => ?_
        ·have h44 : x.seq ≥ m.seq := of_decide_eq_true hc
         refine zW ?_; refine zW ?_
         refine zP (AP.up (jah zKr rfl zRc jav) (d' := nrv zeroN) xUp) ?_
         iterate 12 refine zW ?_
         rw [hd] at hI; simp only [insGo] at hI; rw [if_pos h39, if_pos h44] at hI
         refine zPi ?_
         unfold hearN; rw [if_neg h24, ← hI]; rfl
        ·have h44 : ¬ x.seq ≥ m.seq := of_decide_eq_false hc
         have mk44f : True := trivial
         iterate 11 refine zW ?_
         rw [hd] at hI; simp only [insGo] at hI
         rw [if_pos h39, if_neg h44] at hI; refine ⟨i + 1, v, q, g, ⟨by omega, by omega, hI⟩, by omega, zWk⟩
       ·have h39 : ¬ x.node = m.node := of_decide_eq_false hc
        iterate 11 refine zW ?_
        iterate 3 all_goals first | refine zW ?_ | refine xG (fun hg => ?_) fun hg => ?_
        all_goals (
         refine xC (fun hc => ?_) fun hc => ?_
         ·first
          | (exact absurd hc (by decide))
          | (have h54 : (decide (x.node > m.node) && !g) = true := by first | (simp_all; done) | grind
             have mk54t : True := trivial
             iterate 4 refine zW ?_
             refine xLt 51 7 120 ?_
             refine xEa 51 7 120 (hb := xLb) fun v59 hv59 => ?_
             iterate 9 refine zW ?_
             refine xLt 51 7 120 ?_
             refine xEa 51 7 120 (hb := xLb) fun v65 hv65 => ?_
             iterate 10 refine zW ?_
             rw [hd] at hI; simp only [insGo] at hI
             rw [if_neg h39, if_pos h54] at hI; rw [show D.agg [.i m.node, .i m.seq, .i m.t.th, .sl 1 (m.t.nodes.map .i), .sl 3 (avs m.t.inner), .sl 1 (m.votes.map strv), .sl 1 (m.accs.map strv)] = nmv m from rfl, show D.agg [.i x.node, .i x.seq, .i x.t.th, .sl 1 (x.t.nodes.map .i), .sl 3 (avs x.t.inner), .sl 1 (x.votes.map strv), .sl 1 (x.accs.map strv)] = nmv x from rfl, jdk, jdk]; refine ⟨i + 1, _, (q ++ [m]) ++ [x], true, ⟨by omega, by simp; omega, hI⟩, by omega, zWk⟩
           )
         ·first
          | (exact absurd hc (by decide))
          | (have h54 : ¬ (decide (x.node > m.node) && !g) = true := by first | (simp_all; done) | grind
             have mk54f : True := trivial
             iterate 6 refine zW ?_
             refine xLt 51 7 120 ?_
             refine xEa 51 7 120 (hb := xLb) fun v65 hv65 => ?_
             iterate 10 refine zW ?_
             rw [hd] at hI; simp only [insGo] at hI
             first
             | (have := mk44f; rw [if_pos h39, if_neg h44] at hI; refine ⟨i + 1, v, q, g, ⟨by omega, by omega, hI⟩, by omega, zWk⟩)
             | (have := mk54t; rw [if_neg h39, if_pos h54] at hI; rw [show D.agg [.i m.node, .i m.seq, .i m.t.th, .sl 1 (m.t.nodes.map .i), .sl 3 (avs m.t.inner), .sl 1 (m.votes.map strv), .sl 1 (m.accs.map strv)] = nmv m from rfl, show D.agg [.i x.node, .i x.seq, .i x.t.th, .sl 1 (x.t.nodes.map .i), .sl 3 (avs x.t.inner), .sl 1 (x.votes.map strv), .sl 1 (x.accs.map strv)] = nmv x from rfl, jdk, jdk]; refine ⟨i + 1, _, (q ++ [m]) ++ [x], true, ⟨by omega, by simp; omega, hI⟩, by omega, zWk⟩)
             | (have := mk54f; rw [if_neg h39, if_neg h54] at hI; rw [show D.agg [.i x.node, .i x.seq, .i x.t.th, .sl 1 (x.t.nodes.map .i), .sl 3 (avs x.t.inner), .sl 1 (x.votes.map strv), .sl 1 (x.accs.map strv)] = nmv x from rfl, jdk]; refine ⟨i + 1, _, q ++ [x], g, ⟨by omega, by simp; omega, hI⟩, by omega, zWk⟩)
           )
         )
      ·have hge := of_decide_eq_false hc
       rw [jac (by omega)] at hI
       refine xC (fun hc => ?_) fun hc => ?_
       rotate_left
       case' _ =>
        have h69 : g = true := jat hc
        have mk69f : True := trivial
        refine zW ?_
       rotate_right
       case' _ =>
        have h69 : g = false := jau hc
        have mk69t : True := trivial
        iterate 4 refine zW ?_
        refine xLt 51 7 120 ?_
        refine xEa 51 7 120 (hb := xLb) fun v74 hv74 => ?_
        iterate 3 refine zW ?_
       all_goals (
        refine zW ?_; refine zW ?_
        first
        | (have := mk69t; have hq9 : insN n m = some (q ++ [m]) := (by cases h69; exact hI.symm); rw [show D.agg [.i m.node, .i m.seq, .i m.t.th, .sl 1 (m.t.nodes.map .i), .sl 3 (avs m.t.inner), .sl 1 (m.votes.map strv), .sl 1 (m.accs.map strv)] = nmv m from rfl, jdk]; obtain ⟨h9, hh9⟩ : ∃ h9, h9 = q ++ [m] := ⟨_, rfl⟩; rw [← hh9]; rw [← hh9] at hq9; refine zFz v74 [2,4,6] ?_)
        | (have := mk69f; have hq9 : insN n m = some q := (by cases h69; exact hI.symm); obtain ⟨h9, hh9⟩ : ∃ h9, h9 = q := ⟨_, rfl⟩; rw [← hh9]; rw [← hh9] at hq9; refine zFz v [2,4,6] ?_)
        refine xA (jcT n { n with heard := h9 } hN.nb (jo8 hN hv24.1 hv24.2 hms hq9) hN.seq) ?_
        refine xP ?_
        unfold hearN; rw [if_neg h24, hq9]; rfl
        )
    )
  )
def slv (s : Slt) : D := .agg [.i s.nom.node, .i s.nom.slot, .i s.nom.round, .i s.nom.seq, .i s.nom.t.th, .sl 1 (s.nom.t.nodes.map .i), .sl 3 (avs s.nom.t.inner), .v (.string s.nom.own), .sl 1 (s.nom.votes.map strv), .sl 1 (s.nom.accs.map strv), .sl 1 (s.nom.confs.map strv), .sl 7 (s.nom.heard.map nmv), .i s.mach.node, .i s.mach.slot, .i s.mach.seq, .i s.mach.t.th, .sl 1 (s.mach.t.nodes.map .i), .sl 3 (avs s.mach.t.inner), .i s.mach.phase, .i s.mach.bal.n, .v (.string s.mach.bal.v), .i s.mach.prep.n, .v (.string s.mach.prep.v), .i s.mach.prime.n, .v (.string s.mach.prime.v), .i s.mach.conf.n, .v (.string s.mach.conf.v), .i s.mach.low, .i s.mach.high, .v (.string s.mach.prop), .sl 15 (s.mach.heard.map ev), .i s.tm.n, .i s.tm.due, .i s.round, .i s.next, .b s.done, .v (.string s.value)]
def ltv (l : Ltr) : D := .agg [.i l.kind, .i l.slot, .i l.nom.node, .i l.nom.seq, .i l.nom.t.th, .sl 1 (l.nom.t.nodes.map .i), .sl 3 (avs l.nom.t.inner), .sl 1 (l.nom.votes.map strv), .sl 1 (l.nom.accs.map strv), .i l.env.node, .i l.env.slot, .i l.env.seq, .i l.env.t.th, .sl 1 (l.env.t.nodes.map .i), .sl 3 (avs l.env.t.inner), .i l.env.kind, .i l.env.bal.n, .v (.string l.env.bal.v), .i l.env.prep.n, .v (.string l.env.prep.v), .i l.env.prime.n, .v (.string l.env.prime.v), .i l.env.low, .i l.env.high]
theorem jba (s : Slt) (hS : SI s) : Con none Tryz.prog 148 [slv s] [] (Is (slv (setS s)) []) := by
 refine xI Tryz.func148 Tryz.call148 fun hcap => ?_
 have hSn := hS.nom
 have hSm := hS.mach
 have hSr := hS.round
 have hcc := hSn.nb.c
 have hsz1 := hSm.inv.sz
 have hhs9 : ∀ e ∈ s.mach.heard, sizeT e.t ≤ 1000000000 := fun e he => by have := (hSm.inv.hs e he).1; omega
 refine xX fun b1 => ?_
 refine zAl fun b2 => ?_
 refine xA (jqv s.nom.confs (by omega)) ?_
 iterate 11 refine zW ?_
 iterate 9 all_goals first | refine zW ?_ | refine xG (fun hg => ?_) fun hg => ?_
 all_goals first | (refine zY ?_; refine jaa zRc (jaH s.mach.conf) rfl rfl ?_) | refine zSk ?_
 iterate 8 all_goals first | refine zW ?_ | refine xG (fun hg => ?_) fun hg => ?_
 all_goals (
  refine xC (fun hc => ?_) fun hc => ?_
  ·first
   | (exact absurd hc (by decide))
   | (have h33 : wantS s = true := by unfold wantS; first | (simp_all; done) | grind
      refine xB (jeu s.mach hSm (compN s.nom.confs).1) ?_; rintro _ _ ⟨rfl, rfl⟩; obtain ⟨p, hp⟩ : ∃ z9, z9 = propV s.mach (compN s.nom.confs).1 := ⟨_, rfl⟩; rw [← hp]
      refine xL fun b5 => ?_
      refine xC (fun hc => ?_) fun hc => ?_
      rotate_left
      case' _ =>
       have h42 : ¬ p.2 = 0 := of_decide_eq_false hc
       have hm9 : setM s = s.mach := by unfold setM; rw [if_neg (fun h => h42 (by rw [hp]; exact h.2))]
       refine zW ?_
      rotate_right
      case' _ =>
       have h42 : p.2 = 0 := of_decide_eq_true hc
       have hm9 : setM s = p.1 := by unfold setM; rw [if_pos ⟨h33, by rw [← hp]; exact h42⟩, ← hp]
       iterate 5 refine zW ?_
      all_goals (
       iterate 5 refine zW ?_
       first | ((refine jaq zRc (jbz p.1 (by have := ((hp ▸ jbS hSm (hp ▸ h42) : InvS p.1)).inv.sz; omega) (fun e he => by have := (((hp ▸ jbS hSm (hp ▸ h42) : InvS p.1)).inv.hs e he).1; omega)) jaw rfl rfl ?_; rintro _ _ ⟨rfl, rfl⟩; obtain ⟨d, hd⟩ : ∃ z9, z9 = dcdV p.1 := ⟨_, rfl⟩; rw [← hd])) | ((refine jaq zRc (jbz s.mach (by have := (hSm).inv.sz; omega) (fun e he => by have := ((hSm).inv.hs e he).1; omega)) jaw rfl rfl ?_; rintro _ _ ⟨rfl, rfl⟩; obtain ⟨d, hd⟩ : ∃ z9, z9 = dcdV s.mach := ⟨_, rfl⟩; rw [← hd]))
       refine xP ?_
       unfold setS; rw [hm9, ← hd]; rfl
       )
    )
  ·first
   | (exact absurd hc (by decide))
   | (have h33 : wantS s = false := by unfold wantS; first | (simp_all; done) | grind
      have hm9 : setM s = s.mach := by unfold setM; rw [if_neg (fun h => by rw [h33] at h; cases h.1)]
      iterate 6 refine zW ?_
      first | ((refine jaq zRc (jbz p.1 (by have := ((hp ▸ jbS hSm (hp ▸ h42) : InvS p.1)).inv.sz; omega) (fun e he => by have := (((hp ▸ jbS hSm (hp ▸ h42) : InvS p.1)).inv.hs e he).1; omega)) jaw rfl rfl ?_; rintro _ _ ⟨rfl, rfl⟩; obtain ⟨d, hd⟩ : ∃ z9, z9 = dcdV p.1 := ⟨_, rfl⟩; rw [← hd])) | ((refine jaq zRc (jbz s.mach (by have := (hSm).inv.sz; omega) (fun e he => by have := ((hSm).inv.hs e he).1; omega)) jaw rfl rfl ?_; rintro _ _ ⟨rfl, rfl⟩; obtain ⟨d, hd⟩ : ∃ z9, z9 = dcdV s.mach := ⟨_, rfl⟩; rw [← hd]))
      refine xP ?_
      unfold setS; rw [hm9, ← hd]; rfl
    )
  )
theorem juS {node number : Int} {t : Trust} {own : Str} {now : Int} {p : Mach × Int} {q : Nmr × Int} (ht : sizeT t ≤ 100000) (hp : p = newV node number t) (hq : q = startN node number t own) (h1 : p.2 = 0) (h2 : q.2 = 0) : SI ⟨q.1, p.1, ⟨0, -1⟩, 1, now + waitV 1, false, noS⟩ :=
 ⟨hq ▸ jiY ht (hq ▸ h2), hp ▸ jeJ ht (hp ▸ h1), by show (0 : Int) ≤ 1 ∧ (1 : Int) ≤ 2000; omega⟩
theorem jmW (node number : Int) (t : Trust) (ht : sizeT t ≤ 100000) (own : Str) (now : Int) : Con none Tryz.prog 146 [.i node, .i number, av t, .v (.string own), .i now] [] (Is (.tup [slv (newS node number t own now).1, .i (newS node number t own now).2]) []) := by
 refine xI Tryz.func146 Tryz.call146 fun hcap => ?_
 have hw9 := jkh 1
 refine xX fun b7 => ?_
 refine zAl fun b10 => ?_
 iterate 9 refine zW ?_
 iterate 3 all_goals first | refine zW ?_ | refine xG (fun hg => ?_) fun hg => ?_
 all_goals (
  refine xC (fun hc => ?_) fun hc => ?_
  ·first
   | (exact absurd hc (by decide))
   | (have h20 : now < 0 ∨ now > 200 := by first | exact .inl (of_decide_eq_true hg) | exact .inr (of_decide_eq_true hc)
      refine zW ?_; refine zW ?_
      refine zP (AP.up (jah zKr rfl zRc jav) (d' := slv zSlt) xUp) ?_
      refine xP ?_
      unfold newS; rw [if_pos h20]; rfl
    )
  ·first
   | (exact absurd hc (by decide))
   | (have h20 : ¬ (now < 0 ∨ now > 200) := by rintro (h | h); exact of_decide_eq_false hg h; exact of_decide_eq_false hc h
      refine xB (jrc node number t (by omega)) ?_; rintro _ _ ⟨rfl, rfl⟩; obtain ⟨p, hp⟩ : ∃ z9, z9 = newV node number t := ⟨_, rfl⟩; rw [← hp]
      refine xL fun b12 => ?_
      refine xC (fun hc => ?_) fun hc => ?_
      ·have h30 : ¬ p.2 = 0 := jaf hc
       refine zW ?_; refine zW ?_
       refine zP (AP.up (jah zKr rfl zRc jav) (d' := slv zSlt) xUp) ?_
       refine xP ?_
       unfold newS; rw [if_neg h20, ← hp, if_pos h30]; rfl
      ·have h30 : p.2 = 0 := jad hc
       refine xB (jno node number t ht own) ?_; rintro _ _ ⟨rfl, rfl⟩; obtain ⟨q, hq⟩ : ∃ z9, z9 = startN node number t own := ⟨_, rfl⟩; rw [← hq]
       refine xL fun b14 => ?_
       refine xC (fun hc => ?_) fun hc => ?_
       ·have h42 : ¬ q.2 = 0 := jaf hc
        refine zW ?_; refine zW ?_
        refine zP (AP.up (jah zKr rfl zRc jav) (d' := slv zSlt) xUp) ?_
        refine xP ?_
        unfold newS; rw [if_neg h20, ← hp, if_neg (fun h => h h30), ← hq, if_pos h42]; rfl
       ·have h42 : q.2 = 0 := jad hc
        iterate 3 refine zW ?_
        refine zDr [.box b10 _ _] ?_
        refine zT 0 ?_; refine zT 1 ?_; refine zT 2 ?_; refine zT 3 ?_; refine zOn 4 ?_
        refine xA (jfg 1 (by omega)) ?_
        refine zW ?_
        refine zT 5 ?_
        refine jam 6 rfl zGd zKr zKr zKr (AP.ar (AP.up (jah zKr rfl zRc jav) (d' := slv ⟨q.1, p.1, ⟨0, -1⟩, 1, now + waitV 1, false, noS⟩) xUp)) rfl rfl ?_
        refine zOn 7 ?_
        refine xA (jba ⟨q.1, p.1, ⟨0, -1⟩, 1, now + waitV 1, false, noS⟩ (juS ht hp hq h30 h42)) ?_
        refine zW ?_
        refine zOn 8 ?_
        refine zW ?_; refine zW ?_
        refine zT 9 ?_
        refine zW ?_
        all_goals (
         refine xP ?_
         unfold newS; rw [if_neg h20, ← hp, if_neg (fun h => h h30), ← hq, if_neg (fun h => h h42)]; rfl
         )
    )
  )
theorem jbl (s : Slt) (hS : SI s) : Con none Tryz.prog 139 [slv s] [] (Is (.b (checkS s)) []) := by
 refine xI Tryz.func139 Tryz.call139 fun hcap => ?_
 have hSn := hS.nom
 have hSm := hS.mach
 have hSr := hS.round
 have hcc := hSn.nb.c
 have hsz1 := hSm.inv.sz
 have hhs9 : ∀ e ∈ s.mach.heard, sizeT e.t ≤ 1000000000 := fun e he => by have := (hSm.inv.hs e he).1; omega
 refine xX fun b1 => ?_
 refine xA (jcp s.mach (by omega) hhs9) ?_
 refine zW ?_; refine zW ?_
 iterate 2 all_goals first | refine zW ?_ | refine xG (fun hg => ?_) fun hg => ?_
 all_goals first | (refine zY ?_; refine jaa zRc (jd5 s.nom hSn.nb) rfl rfl ?_) | refine zSk ?_
 iterate 27 all_goals first | refine zW ?_ | refine xG (fun hg => ?_) fun hg => ?_
 all_goals first | (refine zY ?_; refine jaa zRc (jbU s.nom.t s.mach.t) rfl rfl ?_) | refine zSk ?_
 iterate 5 all_goals first | refine zW ?_ | refine xG (fun hg => ?_) fun hg => ?_
 all_goals first | (refine zY ?_; refine jaa zRc (jfs s.tm) rfl rfl ?_) | refine zSk ?_
 iterate 2 all_goals refine zW ?_
 all_goals (
  refine xC (fun hc => ?_) fun hc => ?_
  ·first
   | (exact absurd hc (by decide))
   | (have h48 : chk1S s = false := by unfold chk1S; first | (simp_all; done) | grind
      refine xP ?_
      unfold checkS; rw [h48]; rfl
    )
  ·first
   | (exact absurd hc (by decide))
   | (have h48 : chk1S s = true := by unfold chk1S; first | (simp_all; done) | grind
      refine xB (jbz s.mach (by have := (hSm).inv.sz; omega) (fun e he => by have := ((hSm).inv.hs e he).1; omega)) ?_; rintro _ _ ⟨rfl, rfl⟩; obtain ⟨d, hd⟩ : ∃ z9, z9 = dcdV s.mach := ⟨_, rfl⟩; rw [← hd]
      iterate 13 refine zW ?_
      iterate 27 all_goals first | refine zW ?_ | refine xG (fun hg => ?_) fun hg => ?_
      all_goals (
       refine xP ?_
       unfold checkS; rw [h48, Bool.true_and]; unfold chk2S; rw [← hd]; first | (simp only [resD, *, Bool.true_and, Bool.false_and, Bool.and_true, Bool.and_false]; done) | (simp_all [resD]; done) | grind [resD]
       )
    )
  )
theorem jdg (s : Slt) (hS : SI s) (m : Nmn) (hm : MB m) : Con none Tryz.prog 141 [slv s, nmv m] [] (Is (.tup [slv (nomS s m).1, .i (nomS s m).2]) []) := by
 refine xI Tryz.func141 Tryz.call141 fun hcap => ?_
 have hSn := hS.nom
 have hSm := hS.mach
 have hSr := hS.round
 have hcc := hSn.nb.c
 have hsz1 := hSm.inv.sz
 have hhs9 : ∀ e ∈ s.mach.heard, sizeT e.t ≤ 1000000000 := fun e he => by have := (hSm.inv.hs e he).1; omega
 refine xX fun b2 => ?_
 refine zBx fun b3 => ?_
 refine zAl fun b4 => ?_
 refine xA (jbl s hS) ?_
 refine xC (fun hc => ?_) fun hc => ?_
 ·have h10 : checkS s = false := jau hc
  refine zW ?_; refine zW ?_
  refine zP (AP.up (jah zKr rfl zRc jav) (d' := slv zSlt) xUp) ?_
  refine xP ?_
  unfold nomS; rw [if_pos h10]; rfl
 ·have h10 : checkS s = true := jat hc
  refine xB (jpd s.nom hSn m hm) ?_; rintro _ _ ⟨rfl, rfl⟩; obtain ⟨p, hp⟩ : ∃ z9, z9 = hearN s.nom m := ⟨_, rfl⟩; rw [← hp]
  refine xL fun b6 => ?_
  refine xC (fun hc => ?_) fun hc => ?_
  ·have h20 : ¬ p.2 = 0 := jaf hc
   refine zW ?_; refine zW ?_
   refine zP (AP.up (jah zKr rfl zRc jav) (d' := slv zSlt) xUp) ?_
   refine xP ?_
   unfold nomS; rw [if_neg (by rw [h10]; decide), ← hp, if_pos h20]; rfl
  ·have h20 : p.2 = 0 := jad hc
   refine xA (jba { s with nom := p.1 } ⟨hp ▸ jlC hSn hm.sz (hp ▸ h20), hSm, hSr⟩) ?_
   refine xP ?_
   unfold nomS; rw [if_neg (by rw [h10]; decide), ← hp, if_neg (fun h => h h20)]; rfl
theorem jdN (s : Slt) (hS : SI s) (e : Evp) (he : sizeT e.t ≤ 100000) : Con none Tryz.prog 142 [slv s, ev e] [] (Is (.tup [slv (balS s e).1, .i (balS s e).2]) []) := by
 refine xI Tryz.func142 Tryz.call142 fun hcap => ?_
 have hSn := hS.nom
 have hSm := hS.mach
 have hSr := hS.round
 have hcc := hSn.nb.c
 have hsz1 := hSm.inv.sz
 have hhs9 : ∀ e ∈ s.mach.heard, sizeT e.t ≤ 1000000000 := fun e he => by have := (hSm.inv.hs e he).1; omega
 refine xX fun b2 => ?_
 refine zBx fun b3 => ?_
 refine zAl fun b4 => ?_
 refine xA (jbl s hS) ?_
 refine xC (fun hc => ?_) fun hc => ?_
 ·have h10 : checkS s = false := jau hc
  refine zW ?_; refine zW ?_
  refine zP (AP.up (jah zKr rfl zRc jav) (d' := slv zSlt) xUp) ?_
  refine xP ?_
  unfold balS; rw [if_pos h10]; rfl
 ·have h10 : checkS s = true := jat hc
  refine xB (jiw s.mach hSm e he) ?_; rintro _ _ ⟨rfl, rfl⟩; obtain ⟨p, hp⟩ : ∃ z9, z9 = recV s.mach e := ⟨_, rfl⟩; rw [← hp]
  refine xL fun b6 => ?_
  refine xC (fun hc => ?_) fun hc => ?_
  ·have h20 : ¬ p.2 = 0 := jaf hc
   refine zW ?_; refine zW ?_
   refine zP (AP.up (jah zKr rfl zRc jav) (d' := slv zSlt) xUp) ?_
   refine xP ?_
   unfold balS; rw [if_neg (by rw [h10]; decide), ← hp, if_pos h20]; rfl
  ·have h20 : p.2 = 0 := jad hc
   refine xA (jba { s with mach := p.1 } ⟨hSn, hp ▸ jls hSm he (hp ▸ h20), hSr⟩) ?_
   refine xP ?_
   unfold balS; rw [if_neg (by rw [h10]; decide), ← hp, if_neg (fun h => h h20)]; rfl
theorem jhO (s : Slt) (hS : SI s) (v : Str) : Con none Tryz.prog 112 [slv s, .v (.string v)] [] (Is (.tup [slv (prefS' s v).1, .i (prefS' s v).2]) []) := by
 refine xI Tryz.func112 Tryz.call112 fun hcap => ?_
 have hSn := hS.nom
 have hSm := hS.mach
 have hSr := hS.round
 have hcc := hSn.nb.c
 have hsz1 := hSm.inv.sz
 have hhs9 : ∀ e ∈ s.mach.heard, sizeT e.t ≤ 1000000000 := fun e he => by have := (hSm.inv.hs e he).1; omega
 refine xX fun b2 => ?_
 refine zAl fun b4 => ?_
 refine xA (jbl s hS) ?_
 refine xC (fun hc => ?_) fun hc => ?_
 ·have h10 : checkS s = false := jau hc
  refine zW ?_; refine zW ?_
  refine zP (AP.up (jah zKr rfl zRc jav) (d' := slv zSlt) xUp) ?_
  refine xP ?_
  unfold prefS'; rw [if_pos h10]; rfl
 ·have h10 : checkS s = true := jat hc
  refine xB (jeu s.mach hSm v) ?_; rintro _ _ ⟨rfl, rfl⟩; obtain ⟨p, hp⟩ : ∃ z9, z9 = propV s.mach v := ⟨_, rfl⟩; rw [← hp]
  refine xL fun b6 => ?_
  refine xC (fun hc => ?_) fun hc => ?_
  ·have h20 : ¬ p.2 = 0 := jaf hc
   refine zW ?_; refine zW ?_
   refine zP (AP.up (jah zKr rfl zRc jav) (d' := slv zSlt) xUp) ?_
   refine xP ?_
   unfold prefS'; rw [if_neg (by rw [h10]; decide), ← hp, if_pos h20]; rfl
  ·have h20 : p.2 = 0 := jad hc
   refine xA (jba { s with mach := p.1 } ⟨hSn, hp ▸ jbS hSm (hp ▸ h20), hSr⟩) ?_
   refine xP ?_
   unfold prefS'; rw [if_neg (by rw [h10]; decide), ← hp, if_neg (fun h => h h20)]; rfl
theorem jvR (h : SI s) (hn : NI n) {r k : Int} (hr : 0 ≤ r ∧ r ≤ 2000) : SI { s with nom := n, round := r, next := k } := ⟨hn, h.mach, hr⟩
theorem juZ (h : SI s) {m : Mach} (hm : InvS m) {t : Tm} : SI { s with tm := t, mach := m } := ⟨h.nom, hm, h.round⟩
theorem jie (s : Slt) (hS : SI s) (now : Int) (r : Slt × Int) (hr0 : tickSl s now = r) : Con none Tryz.prog 143 [slv s, .i now] [] (Is (.tup [slv r.1, .i r.2]) []) := by
 refine xI Tryz.func143 Tryz.call143 fun hcap => ?_
 have hSn := hS.nom
 have hSm := hS.mach
 have hSr := hS.round
 have hcc := hSn.nb.c
 have hsz1 := hSm.inv.sz
 have hhs9 : ∀ e ∈ s.mach.heard, sizeT e.t ≤ 1000000000 := fun e he => by have := (hSm.inv.hs e he).1; omega
 have hwb := jkh (min (s.round + 1) 1000)
 refine xX fun b2 => ?_
 refine zAl fun b4 => ?_
 refine xA (jbl s hS) ?_
 refine xC (fun hc => ?_) fun hc => ?_
 ·have h10 : checkS s = false := jau hc
  refine zW ?_; refine zW ?_
  refine zP (AP.up (jah zKr rfl zRc jav) (d' := slv zSlt) xUp) ?_
  refine xP ?_
  rw [← hr0]; unfold tickSl; rw [if_pos h10]; rfl
 ·have h10 : checkS s = true := jat hc
  iterate 8 refine zW ?_
  iterate 3 all_goals first | refine zW ?_ | refine xG (fun hg => ?_) fun hg => ?_
  all_goals (
   refine xC (fun hc => ?_) fun hc => ?_
   ·first
    | (exact absurd hc (by decide))
    | (have h21 : now < 0 ∨ now > 200 := by first | exact .inl (of_decide_eq_true hg) | exact .inr (of_decide_eq_true hc)
       refine zW ?_; refine zW ?_
       refine zP (AP.up (jah zKr rfl zRc jav) (d' := slv zSlt) xUp) ?_
       refine xP ?_
       rw [← hr0]; unfold tickSl; rw [if_neg (by rw [h10]; decide), if_pos h21]; rfl
     )
   ·first
    | (exact absurd hc (by decide))
    | (have h21 : ¬ (now < 0 ∨ now > 200) := by rintro (h | h); exact of_decide_eq_false hg h; exact of_decide_eq_false hc h
       refine xN fun _ => ?_
       refine zW ?_; refine zW ?_
       iterate 5 all_goals first | refine zW ?_ | refine xG (fun hg => ?_) fun hg => ?_
       all_goals (
        refine xC (fun hc => ?_) fun hc => ?_
        rotate_left
        case' _ =>
         first
         | (exact absurd hc (by decide))
         | (have h33 : ¬ (s.nom.confs.length = 0 ∧ now ≥ s.next) := by rintro ⟨h1, h2⟩; have h3 : (s.nom.confs.map strv).length = s.nom.confs.length := (by simp); first | exact of_decide_eq_false hc h2 | exact of_decide_eq_false hg (by omega)
            obtain ⟨s1, hs1⟩ : ∃ x, x = s := ⟨_, rfl⟩
            have hk1 : s1 = tk1 s now := by rw [hs1]; unfold tk1; rw [if_neg h33]
            rw [← hs1]
            refine zW ?_
          )
        rotate_right
        case' _ =>
         first
         | (exact absurd hc (by decide))
         | (have h33 : s.nom.confs.length = 0 ∧ now ≥ s.next := by have h1 := of_decide_eq_true hg; have h2 := of_decide_eq_true hc; have h3 : (s.nom.confs.map strv).length = s.nom.confs.length := (by simp); omega
            refine xB (jo7 s.nom hSn) ?_; rintro _ _ ⟨rfl, rfl⟩; obtain ⟨p, hp⟩ : ∃ z9, z9 = tickN s.nom := ⟨_, rfl⟩; rw [← hp]
            refine xL fun b6 => ?_
            refine xC (fun hc => ?_) fun hc => ?_
            rotate_left
            case' _ =>
             have h41 : ¬ p.2 = 0 := of_decide_eq_false hc
             have hn9 : tkN s = s.nom := by unfold tkN; rw [← hp, if_neg h41]
             refine zW ?_
            rotate_right
            case' _ =>
             have h41 : p.2 = 0 := of_decide_eq_true hc
             have hn9 : tkN s = p.1 := by unfold tkN; rw [← hp, if_pos h41]
             iterate 5 refine zW ?_
            all_goals (
             refine xA (jfg (min (s.round + 1) 1000) (by omega)) ?_
             iterate 7 refine zW ?_
             first | ((refine jaq zRc (jba { s with nom := p.1, round := min (s.round + 1) 1000, next := now + waitV (min (s.round + 1) 1000) } (jvR hS (hp ▸ jlc hSn (hp ▸ h41)) (by omega))) jaw rfl rfl ?_; rintro _ _ ⟨rfl, rfl⟩; obtain ⟨s1, hs1⟩ : ∃ x, x = setS { s with nom := p.1, round := min (s.round + 1) 1000, next := now + waitV (min (s.round + 1) 1000) } := ⟨_, rfl⟩; rw [← hs1]; have hk1 : s1 = tk1 s now := by rw [hs1]; unfold tk1; rw [if_pos h33, hn9])) | ((refine jaq zRc (jba { s with nom := s.nom, round := min (s.round + 1) 1000, next := now + waitV (min (s.round + 1) 1000) } (jvR hS hSn (by omega))) jaw rfl rfl ?_; rintro _ _ ⟨rfl, rfl⟩; obtain ⟨s1, hs1⟩ : ∃ x, x = setS { s with nom := s.nom, round := min (s.round + 1) 1000, next := now + waitV (min (s.round + 1) 1000) } := ⟨_, rfl⟩; rw [← hs1]; have hk1 : s1 = tk1 s now := by rw [hs1]; unfold tk1; rw [if_pos h33, hn9]))
             refine zW ?_; refine zW ?_
             )
          )
        all_goals (
         refine zW ?_; refine zW ?_
         have hS1 : SI s1 := hk1 ▸ jsO hS
         refine xB (jnc s1.tm s1.mach now (by have := hS1.mach.inv.hl; omega) (by have := hS1.mach.inv.sz; omega) (fun e he => by have := (hS1.mach.inv.hs e he).1; omega)) ?_; rintro _ _ ⟨rfl, rfl⟩; obtain ⟨p2, hp2⟩ : ∃ z9, z9 = stepV s1.tm s1.mach now := ⟨_, rfl⟩; rw [← hp2]
         refine xL fun b8 => ?_
         refine xC (fun hc => ?_) fun hc => ?_
         rotate_left
         case' _ =>
          have h68 : p2.2 = false := hc
          have hk2 : { s1 with tm := p2.1 } = tk2 s1 now := by unfold tk2; rw [← hp2, if_neg (by rw [h68]; decide)]
          refine zW ?_
         rotate_right
         case' _ =>
          have h68 : p2.2 = true := hc
          refine xB (jjv s1.mach hS1.mach) ?_; rintro _ _ ⟨rfl, rfl⟩; obtain ⟨p3, hp3⟩ : ∃ z9, z9 = tmoV s1.mach := ⟨_, rfl⟩; rw [← hp3]
          refine xL fun b10 => ?_
          refine xC (fun hc => ?_) fun hc => ?_
          rotate_left
          case' _ =>
           have h76 : ¬ p3.2 = 0 := of_decide_eq_false hc
           have hm9 : tkM s1.mach = s1.mach := by unfold tkM; rw [← hp3, if_neg h76]
           refine zW ?_
          rotate_right
          case' _ =>
           have h76 : p3.2 = 0 := of_decide_eq_true hc
           have hm9 : tkM s1.mach = p3.1 := by unfold tkM; rw [← hp3, if_pos h76]
           iterate 5 refine zW ?_
          all_goals (
           iterate 3 refine zW ?_
           first | ((refine jaq zRc (jba { s1 with tm := p2.1, mach := p3.1 } (juZ hS1 (hp3 ▸ jk1 hS1.mach (hp3 ▸ h76)))) jaw rfl rfl ?_; rintro _ _ ⟨rfl, rfl⟩; obtain ⟨s2, hs2⟩ : ∃ x, x = setS { s1 with tm := p2.1, mach := p3.1 } := ⟨_, rfl⟩; rw [← hs2]; have hk2 : s2 = tk2 s1 now := by rw [hs2]; unfold tk2; rw [← hp2, if_pos h68, hm9])) | ((refine jaq zRc (jba { s1 with tm := p2.1, mach := s1.mach } (juZ hS1 hS1.mach)) jaw rfl rfl ?_; rintro _ _ ⟨rfl, rfl⟩; obtain ⟨s2, hs2⟩ : ∃ x, x = setS { s1 with tm := p2.1, mach := s1.mach } := ⟨_, rfl⟩; rw [← hs2]; have hk2 : s2 = tk2 s1 now := by rw [hs2]; unfold tk2; rw [← hp2, if_pos h68, hm9]))
           refine zW ?_; refine zW ?_
           )
         all_goals (
          refine xP ?_
          rw [← hr0]; unfold tickSl; rw [if_neg (by rw [h10]; decide), if_neg h21, ← hk1, ← hk2]; rfl
          )
         )
        )
     )
   )
theorem jj9 (s : Slt) (hS : SI s) (now : Int) : Con none Tryz.prog 143 [slv s, .i now] [] (Is (.tup [slv (tickSl s now).1, .i (tickSl s now).2]) []) := jie s hS now _ rfl
theorem jsQ {e : Evp} {b : Bool} (he : e = mesM s.mach) (hb : b = okMsg s.mach) (h : b = true) : ltrE s = [⟨2, s.mach.slot, zNmn, e⟩] := by
 rw [h] at hb
 have hb' : (!zB s.mach.bal && checkM s.mach) = true := hb.symm
 unfold ltrE
 rw [if_pos (by rw [Bool.and_comm]; exact hb'), he]
 unfold mesM
 rw [if_pos hb.symm]
theorem jsN {b : Bool} (hb : b = okMsg s.mach) (h : b = false) : ltrE s = [] := by
 rw [h] at hb
 have hb' : (!zB s.mach.bal && checkM s.mach) = false := hb.symm
 unfold ltrE
 rw [if_neg (by rw [Bool.and_comm, hb']; decide)]
theorem jf8 (s : Slt) (hS : SI s) : Con none Tryz.prog 144 [slv s] [] (Is (.sl 24 ((lettersS s).map ltv)) []) := by
 refine xI Tryz.func144 Tryz.call144 fun hcap => ?_
 have hSn := hS.nom
 have hSm := hS.mach
 have hSr := hS.round
 have hcc := hSn.nb.c
 have hsz1 := hSm.inv.sz
 have hhs9 : ∀ e ∈ s.mach.heard, sizeT e.t ≤ 1000000000 := fun e he => by have := (hSm.inv.hs e he).1; omega
 refine xX fun b1 => ?_
 refine xA (jbl s hS) ?_
 refine xC (fun hc => ?_) fun hc => ?_
 ·have h8 : checkS s = false := jau hc
  iterate 5 refine zW ?_
  refine je1 57 24 rfl ?_
  refine zFz (.slice none 0 0) [2] ?_
  refine xP ?_
  unfold lettersS; rw [if_pos h8]; rfl
 ·have h8 : checkS s = true := jat hc
  refine xC (fun hc => ?_) fun hc => ?_
  ·have h11 : s.done = false := jau hc
   refine zDr [] ?_
   refine zT 0 ?_; refine zT 1 ?_; refine zT 2 ?_; refine zT 3 ?_; refine zT 4 ?_; refine zT 5 ?_; refine zOn 6 ?_
   refine xA (jmf s.nom) ?_
   refine zW ?_
   refine jam 7 rfl zGd zKr zKr zKr (AP.ar (AP.up (jah zKr rfl zRc jav) (d' := ltv ⟨1, s.mach.slot, sayN s.nom, zEvp⟩) xUp)) rfl rfl ?_
   refine zOn 8 ?_
   refine xLt 57 24 312 ?_
   refine zW ?_
   refine zOn 9 ?_
   refine xEn 57 24 312 (hb := xLb) fun v21 hv21 => ?_
   refine zW ?_
   refine zT 10 ?_
   refine zW ?_
   all_goals (
    refine xB (jcO s.mach (by omega) hhs9) ?_; rintro _ _ ⟨rfl, rfl⟩; obtain ⟨e, he⟩ : ∃ x, x = mesM s.mach := ⟨_, rfl⟩; obtain ⟨b, hb⟩ : ∃ x, x = okMsg s.mach := ⟨_, rfl⟩; rw [← he, ← hb]
    refine xL fun b4 => ?_
    refine xC (fun hc => ?_) fun hc => ?_
    ·have h28 : b = true := hc
     iterate 6 refine zW ?_
     refine zP (AP.up (jah zKr rfl zRc jav) (d' := ltv ⟨2, s.mach.slot, zNmn, e⟩) xUp) ?_
     refine xLt 57 24 312 ?_
     refine xEa 57 24 312 (hb := xLb) fun v36 hv36 => ?_
     iterate 9 refine zW ?_
     refine zFz v36 [2] ?_
     refine xP ?_
     unfold lettersS ltrN; rw [if_neg (by rw [h8]; decide), if_neg (by rw [h11]; decide), jsQ he hb h28]; rfl
    ·have h28 : b = false := hc
     iterate 8 refine zW ?_
     refine zFz v21 [2] ?_
     refine xP ?_
     unfold lettersS ltrN; rw [if_neg (by rw [h8]; decide), if_neg (by rw [h11]; decide), jsN hb h28]; rfl
    )
  ·have h11 : s.done = true := jat hc
   refine xB (jcO s.mach (by omega) hhs9) ?_; rintro _ _ ⟨rfl, rfl⟩; obtain ⟨e, he⟩ : ∃ x, x = mesM s.mach := ⟨_, rfl⟩; obtain ⟨b, hb⟩ : ∃ x, x = okMsg s.mach := ⟨_, rfl⟩; rw [← he, ← hb]
   refine xL fun b4 => ?_
   refine xC (fun hc => ?_) fun hc => ?_
   ·have h28 : b = true := hc
    iterate 6 refine zW ?_
    refine zP (AP.up (jah zKr rfl zRc jav) (d' := ltv ⟨2, s.mach.slot, zNmn, e⟩) xUp) ?_
    refine xLt 57 24 312 ?_
    refine xEn 57 24 312 (hb := xLb) fun v36 hv36 => ?_
    iterate 9 refine zW ?_
    refine zFz v36 [2] ?_
    refine xP ?_
    unfold lettersS ltrN; rw [if_neg (by rw [h8]; decide), if_pos h11, jsQ he hb h28]; rfl
   ·have h28 : b = false := hc
    iterate 8 refine zW ?_
    refine je1 57 24 rfl ?_
    refine zFz (.slice none 0 0) [2] ?_
    refine xP ?_
    unfold lettersS ltrN; rw [if_neg (by rw [h8]; decide), if_pos h11, jsN hb h28]; rfl
def ptv (p : Ptc) : D := .agg [.i p.node, .b p.stopped, .i p.t.th, .sl 1 (p.t.nodes.map .i), .sl 3 (avs p.t.inner), .sl 37 (p.slots.map slv)]
theorem jnj {number : Int} {own : Str} {now : Int} (h : PI p) (hl : p.slots.length ≤ 8) : (beginG p number own now).1.slots.length ≤ 20 := by
 by_cases he : (beginG p number own now).2 = 0
 ·exact (jfI h hl he).hl
 ·have : (beginG p number own now).1 = zPtc := by
   unfold beginG at he ⊢
   split
   ·rfl
   ·rename_i h1
    rw [if_neg h1] at he
    split
    ·rfl
    ·rename_i h2
     rw [if_neg h2] at he
     split
     ·rfl
     ·rename_i h3
      rw [if_neg h3] at he
      exact absurd rfl he
  rw [this]; decide
theorem jhj (p : Ptc) (number : Int) (hl : p.slots.length ≤ 1000) : Con none Tryz.prog 117 [ptv p, .i number] [] (Is (.tup [.i (atP p number : Nat), .b (thereP p number)]) []) := by
 refine xI Tryz.func117 Tryz.call117 fun hcap => ?_
 have hml : (p.slots.map slv).length = p.slots.length := by simp
 refine xX fun b2 => ?_
 iterate 11 refine zW ?_
 refine jai [1, 2] [.box b2 _ _] (fun (i : Nat) r => (6, .i (i : Int)) :: r) (fun i r => r) (fun i => i ≤ p.slots.length ∧ posG (ltSl number) (p.slots.drop i) + i = atP p number) (fun i => p.slots.length - i) (0) zRc ⟨by omega, by simp [atP]⟩ (zWk) ?_
 intro i ⟨hi, hI⟩
 obtain ⟨x, hx⟩ := jgb p.slots i zSlt
 refine xN fun _ => ?_
 refine zW ?_; refine zW ?_
 iterate 3 all_goals first | refine zW ?_ | refine xG (fun hg => ?_) fun hg => ?_
 all_goals first | (refine zY ?_; (refine zP (jap (k := i) rfl rfl rfl rfl (by decide) rfl (jae slv (hx (by have h9 : decide ((i : Int) < ((p.slots.map slv).length : Int)) = true := (by first | with_reducible assumption | exact hg | exact hc); have := of_decide_eq_true h9; simp only [List.length_map] at this; omega)))) ?_)) | refine zSk ?_
 iterate 6 all_goals refine zW ?_
 all_goals (
  refine xC (fun hc => ?_) fun hc => ?_
  ·first
   | (exact absurd hc (by decide))
   | (iterate 10 refine zW ?_
      have hlt : i < p.slots.length := (by have h9 : decide ((i : Int) < ((p.slots.map slv).length : Int)) = true := (by first | with_reducible assumption | exact hg | exact hc); have := of_decide_eq_true h9; simp only [List.length_map] at this; omega)
      rw [jep (lt := ltSl number) (hx hlt) (show ltSl number x = true by first | with_reducible assumption | exact hc)] at hI
      refine ⟨i + 1, ⟨by omega, by omega⟩, by omega, zWk⟩
    )
  ·first
   | (exact absurd hc (by decide))
   | (have hat : atP p number = i := by first | (have hge := (show p.slots.length ≤ i by have h9 : decide ((i : Int) < ((p.slots.map slv).length : Int)) = false := (by first | with_reducible assumption | exact hg | exact hc); have := of_decide_eq_false h9; simp only [List.length_map] at this; omega); rw [jcX hge] at hI; omega) | (rw [jb7 (lt := ltSl number) (hx (by have h9 : decide ((i : Int) < ((p.slots.map slv).length : Int)) = true := (by first | with_reducible assumption | exact hg | exact hc); have := of_decide_eq_true h9; simp only [List.length_map] at this; omega)) (show ltSl number x = false by first | with_reducible assumption | exact hc)] at hI; omega)
      iterate 6 refine zW ?_
      refine zDr [] ?_
      refine zT 0 ?_; refine zT 1 ?_; refine zT 2 ?_; refine zT 3 ?_; refine zT 4 ?_; refine zT 5 ?_; refine zT 6 ?_
      refine jaj 6 rfl (fun hg => ?_) fun hg => ?_
      rotate_left
      case' _ =>
       refine zK 7 ?_; refine zK 8 ?_; refine zK 9 ?_; refine zK 10 ?_; refine zK 11 ?_; refine zK 12 ?_; refine zK 13 ?_; refine zK 14 ?_; refine zK 15 ?_; refine zT 16 ?_; refine zT 17 ?_; refine zT 18 ?_
       refine zW ?_
      rotate_right
      case' _ =>
       refine zT 7 ?_; refine zT 8 ?_; refine zT 9 ?_
       refine jam 10 rfl zGd zKr zKr zKr (AP.ar (jap (k := i) rfl rfl rfl rfl (by decide) rfl (jae slv (hx (by have h9 : decide ((i : Int) < ((p.slots.map slv).length : Int)) = true := (by first | with_reducible assumption | exact hg | exact hc); have := of_decide_eq_true h9; simp only [List.length_map] at this; omega))))) rfl rfl ?_
       refine zT 11 ?_; refine zT 12 ?_; refine zT 13 ?_; refine zT 14 ?_; refine zT 15 ?_; refine zT 16 ?_; refine zT 17 ?_; refine zT 18 ?_
       refine zW ?_
      all_goals (
       refine xP ?_
       rw [hat]
       first
       | (have hlt : i < p.slots.length := (by have h9 : decide ((i : Int) < ((p.slots.map slv).length : Int)) = true := (by first | with_reducible assumption | exact hg | exact hc); have := of_decide_eq_true h9; simp only [List.length_map] at this; omega); rw [show thereP p number = decide (x.mach.slot = number) by unfold thereP; rw [hat, hx hlt]]; rfl)
       | (have hge : p.slots.length ≤ i := (by have h9 : decide ((i : Int) < ((p.slots.map slv).length : Int)) = false := (by first | with_reducible assumption | exact hg | exact hc); have := of_decide_eq_false h9; simp only [List.length_map] at this; omega); rw [show thereP p number = false by unfold thereP; rw [hat, List.getElem?_eq_none hge]]; rfl)
       )
    )
  )
theorem jgN (p : Ptc) (hP : PI p) (hl : p.slots.length ≤ 8) (number : Int) (own : Str) (now : Int) : Con none Tryz.prog 110 [ptv p, .i number, .v (.string own), .i now] [] (Is (.tup [ptv (beginG p number own now).1, .i (beginG p number own now).2]) []) := by
 refine xI Tryz.func110 Tryz.call110 fun hcap => ?_
 have hml : (p.slots.map slv).length = p.slots.length := by simp
 have hsz := hP.sz
 refine xX fun b4 => ?_
 refine zAl fun b8 => ?_
 refine xB (jhj p number (by omega)) ?_; rintro _ _ ⟨rfl, rfl⟩; obtain ⟨k, hk⟩ : ∃ x, x = atP p number := ⟨_, rfl⟩; obtain ⟨g, hg0⟩ : ∃ x, x = thereP p number := ⟨_, rfl⟩; rw [← hk, ← hg0]; have hkl : k ≤ p.slots.length := hk ▸ jet (ltSl number) p.slots
 refine xC (fun hc => ?_) fun hc => ?_
 ·have h20 : thereP p number = true := hg0 ▸ hc
  refine zW ?_; refine zW ?_
  refine zP (AP.up (jah zKr rfl zRc jav) (d' := ptv zPtc) xUp) ?_
  refine xP ?_
  unfold beginG; rw [if_pos h20]; rfl
 ·have h20 : thereP p number = false := hg0 ▸ hc
  refine xN fun _ => ?_
  refine xC (fun hc => ?_) fun hc => ?_
  ·have h25 : p.slots.length = 8 := by have := of_decide_eq_true hc; omega
   refine zW ?_; refine zW ?_
   refine zP (AP.up (jah zKr rfl zRc jav) (d' := ptv zPtc) xUp) ?_
   refine xP ?_
   unfold beginG; rw [if_neg (by rw [h20]; decide), if_pos h25]; rfl
  ·have h25 : ¬ p.slots.length = 8 := by have := of_decide_eq_false hc; omega
   refine xB (jmW p.node number p.t hsz own now) ?_; rintro _ _ ⟨rfl, rfl⟩; obtain ⟨q, hq⟩ : ∃ z9, z9 = newS p.node number p.t own now := ⟨_, rfl⟩; rw [← hq]
   refine xL fun b12 => ?_
   refine xC (fun hc => ?_) fun hc => ?_
   ·have h39 : ¬ q.2 = 0 := jaf hc
    refine zW ?_; refine zW ?_
    refine zP (AP.up (jah zKr rfl zRc jav) (d' := ptv zPtc) xUp) ?_
    refine xP ?_
    unfold beginG; rw [if_neg (by rw [h20]; decide), if_neg h25, ← hq, if_pos h39]; rfl
   ·have h39 : q.2 = 0 := jad hc
    iterate 3 refine zW ?_
    refine zDr [.box b4 _ _] ?_
    refine zT 0 ?_; refine zT 2 ?_; refine zT 5 ?_; refine zT 8 ?_; refine zT 10 ?_
    refine jdd 1 6 9 zKr (cho rfl zGd ?_) (cho rfl zGd ?_) (cho rfl zGd ?_)
    rotate_left 2
    case' _ =>
     refine zW ?_; refine zW ?_
     refine zT 11 ?_
     refine zE2 1 6 ?_ ?_
     rotate_left
     case' _ =>
      refine xLt 133 37 496 ?_
      refine zW ?_
      refine zOn 1 ?_
      refine zW ?_; refine zW ?_
      refine zT 3 ?_; refine zOn 4 ?_
      refine xEn 133 37 496 (hb := xLb) fun v46 hv46 => ?_
      refine zW ?_
      refine zOn 7 ?_
      refine xEa 133 37 496 (hb := xLb) fun v49 hv49 => ?_
      refine zW ?_
      refine zOn 12 ?_
      refine xEa 133 37 496 (hb := xLb) fun v54 hv54 => ?_
      refine zW ?_
      refine zT 13 ?_; refine zOn 14 ?_
      iterate 3 refine zW ?_
     rotate_right
     case' _ =>
      refine zW ?_; refine zW ?_
      refine zT 3 ?_
      refine zE2 4 6 ?_ ?_
      rotate_left
      case' _ =>
       refine xLt 133 37 496 ?_
       refine zW ?_
       refine zOn 4 ?_
       refine xEn 133 37 496 (hb := xLb) fun v46 hv46 => ?_
       refine zW ?_
       refine zOn 7 ?_
       refine xEa 133 37 496 (hb := xLb) fun v49 hv49 => ?_
       refine zW ?_
       refine zOn 12 ?_
       refine xEa 133 37 496 (hb := xLb) fun v54 hv54 => ?_
       refine zW ?_
       refine zT 13 ?_; refine zOn 14 ?_
       iterate 3 refine zW ?_
      rotate_right
      case' _ =>
       refine xEn 133 37 496 (hb := xLb) fun v46 hv46 => ?_
       refine zW ?_
       refine zOn 6 ?_
       refine xLt 133 37 496 ?_
       refine zW ?_
       refine zOn 7 ?_
       refine xEa 133 37 496 (hb := xLb) fun v49 hv49 => ?_
       refine zW ?_
       refine zOn 12 ?_
       refine xEa 133 37 496 (hb := xLb) fun v54 hv54 => ?_
       refine zW ?_
       refine zT 13 ?_; refine zOn 14 ?_
       iterate 3 refine zW ?_
    rotate_right
    case' _ =>
     refine xLt 133 37 496 ?_
     refine zW ?_
     refine zE2 1 9 ?_ ?_
     rotate_left
     case' _ =>
      refine zW ?_; refine zW ?_
      refine zT 11 ?_; refine zOn 1 ?_
      refine zW ?_; refine zW ?_
      refine zT 3 ?_; refine zOn 4 ?_
      refine xEn 133 37 496 (hb := xLb) fun v46 hv46 => ?_
      refine zW ?_
      refine zOn 7 ?_
      refine xEa 133 37 496 (hb := xLb) fun v49 hv49 => ?_
      refine zW ?_
      refine zOn 12 ?_
      refine xEa 133 37 496 (hb := xLb) fun v54 hv54 => ?_
      refine zW ?_
      refine zT 13 ?_; refine zOn 14 ?_
      iterate 3 refine zW ?_
     rotate_right
     case' _ =>
      refine zW ?_; refine zW ?_
      refine zT 3 ?_
      refine zE2 4 9 ?_ ?_
      rotate_left
      case' _ =>
       refine zW ?_; refine zW ?_
       refine zT 11 ?_; refine zOn 4 ?_
       refine xEn 133 37 496 (hb := xLb) fun v46 hv46 => ?_
       refine zW ?_
       refine zOn 7 ?_
       refine xEa 133 37 496 (hb := xLb) fun v49 hv49 => ?_
       refine zW ?_
       refine zOn 12 ?_
       refine xEa 133 37 496 (hb := xLb) fun v54 hv54 => ?_
       refine zW ?_
       refine zT 13 ?_; refine zOn 14 ?_
       iterate 3 refine zW ?_
      rotate_right
      case' _ =>
       refine xEn 133 37 496 (hb := xLb) fun v46 hv46 => ?_
       refine zW ?_
       refine zE2 7 9 ?_ ?_
       rotate_left
       case' _ =>
        refine zW ?_; refine zW ?_
        refine zT 11 ?_; refine zOn 7 ?_
        refine xEa 133 37 496 (hb := xLb) fun v49 hv49 => ?_
        refine zW ?_
        refine zOn 12 ?_
        refine xEa 133 37 496 (hb := xLb) fun v54 hv54 => ?_
        refine zW ?_
        refine zT 13 ?_; refine zOn 14 ?_
        iterate 3 refine zW ?_
       rotate_right
       case' _ =>
        refine xEa 133 37 496 (hb := xLb) fun v49 hv49 => ?_
        refine zW ?_
        refine zOn 9 ?_
        refine zW ?_; refine zW ?_
        refine zT 11 ?_; refine zOn 12 ?_
        refine xEa 133 37 496 (hb := xLb) fun v54 hv54 => ?_
        refine zW ?_
        refine zT 13 ?_; refine zOn 14 ?_
        iterate 3 refine zW ?_
    rotate_right
    case' _ =>
     refine zW ?_; refine zW ?_
     refine zT 3 ?_
     refine jdd 4 6 9 zKr (cho rfl zGd ?_) (cho rfl zGd ?_) (cho rfl zGd ?_)
     rotate_left 2
     case' _ =>
      refine zW ?_; refine zW ?_
      refine zT 11 ?_
      refine zE2 4 6 ?_ ?_
      rotate_left
      case' _ =>
       refine xLt 133 37 496 ?_
       refine zW ?_
       refine zOn 4 ?_
       refine xEn 133 37 496 (hb := xLb) fun v46 hv46 => ?_
       refine zW ?_
       refine zOn 7 ?_
       refine xEa 133 37 496 (hb := xLb) fun v49 hv49 => ?_
       refine zW ?_
       refine zOn 12 ?_
       refine xEa 133 37 496 (hb := xLb) fun v54 hv54 => ?_
       refine zW ?_
       refine zT 13 ?_; refine zOn 14 ?_
       iterate 3 refine zW ?_
      rotate_right
      case' _ =>
       refine xEn 133 37 496 (hb := xLb) fun v46 hv46 => ?_
       refine zW ?_
       refine zOn 6 ?_
       refine xLt 133 37 496 ?_
       refine zW ?_
       refine zOn 7 ?_
       refine xEa 133 37 496 (hb := xLb) fun v49 hv49 => ?_
       refine zW ?_
       refine zOn 12 ?_
       refine xEa 133 37 496 (hb := xLb) fun v54 hv54 => ?_
       refine zW ?_
       refine zT 13 ?_; refine zOn 14 ?_
       iterate 3 refine zW ?_
     rotate_right
     case' _ =>
      refine xLt 133 37 496 ?_
      refine zW ?_
      refine zE2 4 9 ?_ ?_
      rotate_left
      case' _ =>
       refine zW ?_; refine zW ?_
       refine zT 11 ?_; refine zOn 4 ?_
       refine xEn 133 37 496 (hb := xLb) fun v46 hv46 => ?_
       refine zW ?_
       refine zOn 7 ?_
       refine xEa 133 37 496 (hb := xLb) fun v49 hv49 => ?_
       refine zW ?_
       refine zOn 12 ?_
       refine xEa 133 37 496 (hb := xLb) fun v54 hv54 => ?_
       refine zW ?_
       refine zT 13 ?_; refine zOn 14 ?_
       iterate 3 refine zW ?_
      rotate_right
      case' _ =>
       refine xEn 133 37 496 (hb := xLb) fun v46 hv46 => ?_
       refine zW ?_
       refine zE2 7 9 ?_ ?_
       rotate_left
       case' _ =>
        refine zW ?_; refine zW ?_
        refine zT 11 ?_; refine zOn 7 ?_
        refine xEa 133 37 496 (hb := xLb) fun v49 hv49 => ?_
        refine zW ?_
        refine zOn 12 ?_
        refine xEa 133 37 496 (hb := xLb) fun v54 hv54 => ?_
        refine zW ?_
        refine zT 13 ?_; refine zOn 14 ?_
        iterate 3 refine zW ?_
       rotate_right
       case' _ =>
        refine xEa 133 37 496 (hb := xLb) fun v49 hv49 => ?_
        refine zW ?_
        refine zOn 9 ?_
        refine zW ?_; refine zW ?_
        refine zT 11 ?_; refine zOn 12 ?_
        refine xEa 133 37 496 (hb := xLb) fun v54 hv54 => ?_
        refine zW ?_
        refine zT 13 ?_; refine zOn 14 ?_
        iterate 3 refine zW ?_
     rotate_right
     case' _ =>
      refine xEn 133 37 496 (hb := xLb) fun v46 hv46 => ?_
      refine zW ?_
      refine zE2 6 9 ?_ ?_
      rotate_left
      case' _ =>
       refine zW ?_; refine zW ?_
       refine zT 11 ?_; refine zOn 6 ?_
       refine xLt 133 37 496 ?_
       refine zW ?_
       refine zOn 7 ?_
       refine xEa 133 37 496 (hb := xLb) fun v49 hv49 => ?_
       refine zW ?_
       refine zOn 12 ?_
       refine xEa 133 37 496 (hb := xLb) fun v54 hv54 => ?_
       refine zW ?_
       refine zT 13 ?_; refine zOn 14 ?_
       iterate 3 refine zW ?_
      rotate_right
      case' _ =>
       refine xLt 133 37 496 ?_
       refine zW ?_
       refine zE2 7 9 ?_ ?_
       rotate_left
       case' _ =>
        refine zW ?_; refine zW ?_
        refine zT 11 ?_; refine zOn 7 ?_
        refine xEa 133 37 496 (hb := xLb) fun v49 hv49 => ?_
        refine zW ?_
        refine zOn 12 ?_
        refine xEa 133 37 496 (hb := xLb) fun v54 hv54 => ?_
        refine zW ?_
        refine zT 13 ?_; refine zOn 14 ?_
        iterate 3 refine zW ?_
       rotate_right
       case' _ =>
        refine xEa 133 37 496 (hb := xLb) fun v49 hv49 => ?_
        refine zW ?_
        refine zOn 9 ?_
        refine zW ?_; refine zW ?_
        refine zT 11 ?_; refine zOn 12 ?_
        refine xEa 133 37 496 (hb := xLb) fun v54 hv54 => ?_
        refine zW ?_
        refine zT 13 ?_; refine zOn 14 ?_
        iterate 3 refine zW ?_
    all_goals (
     refine zW ?_; refine zW ?_
     rw [show D.agg [.i q.1.nom.node, .i q.1.nom.slot, .i q.1.nom.round, .i q.1.nom.seq, .i q.1.nom.t.th, .sl 1 (q.1.nom.t.nodes.map .i), .sl 3 (avs q.1.nom.t.inner), .v (.string q.1.nom.own), .sl 1 (q.1.nom.votes.map strv), .sl 1 (q.1.nom.accs.map strv), .sl 1 (q.1.nom.confs.map strv), .sl 7 (q.1.nom.heard.map nmv), .i q.1.mach.node, .i q.1.mach.slot, .i q.1.mach.seq, .i q.1.mach.t.th, .sl 1 (q.1.mach.t.nodes.map .i), .sl 3 (avs q.1.mach.t.inner), .i q.1.mach.phase, .i q.1.mach.bal.n, .v (.string q.1.mach.bal.v), .i q.1.mach.prep.n, .v (.string q.1.mach.prep.v), .i q.1.mach.prime.n, .v (.string q.1.mach.prime.v), .i q.1.mach.conf.n, .v (.string q.1.mach.conf.v), .i q.1.mach.low, .i q.1.mach.high, .v (.string q.1.mach.prop), .sl 15 (q.1.mach.heard.map ev), .i q.1.tm.n, .i q.1.tm.due, .i q.1.round, .i q.1.next, .b q.1.done, .v (.string q.1.value)] = slv q.1 from rfl, jcl]
     refine zFz v54 [4,8] ?_
     refine xP ?_
     unfold beginG; rw [if_neg (by rw [h20]; decide), if_neg h25, ← hq, if_neg (fun h => h h39), ← hk]; rfl
     )
theorem jdW (p : Ptc) (i : Nat) (s : Slt) (e : Int) (hi : i < p.slots.length) (hl : p.slots.length ≤ 1000) : Con none Tryz.prog 113 [ptv p, .i (i : Int), slv s, .i e] [] (Is (.tup [ptv (withP p i (s, e)).1, .i (withP p i (s, e)).2]) []) := by
 have hcap := jbt
 have hml : (p.slots.map slv).length = p.slots.length := by simp
 obtain ⟨y, hy⟩ : ∃ y, p.slots[i]? = some y := ⟨_, List.getElem?_eq_getElem hi⟩
 have hyy := jae slv hy
 refine jar Tryz.func113 rfl Tryz.call113 rfl ?_
 refine xX fun b4 => ?_
 refine zBx fun b6 => ?_
 refine zAl fun b8 => ?_
 refine xC (fun hc => ?_) fun hc => ?_
 ·have h11 : ¬ e = 0 := jaf hc
  refine zW ?_; refine zW ?_
  refine zP (AP.up (jah zKr rfl zRc jav) (d' := ptv zPtc) xUp) ?_
  refine xP ?_
  unfold withP; rw [if_pos h11]; rfl
 ·have h11 : e = 0 := jad hc
  iterate 6 refine zW ?_
  refine xEn 133 37 496 (hb := xLb) fun v16 hv16 => ?_
  iterate 5 refine zW ?_
  refine jeD jcm (by intro e; have h5 := congrArg List.length e; simp only [List.length_nil] at h5; omega) (fun g cap hv => ?_)
  subst hv
  iterate 6 refine zW ?_
  refine jaI (off := 0) rfl rfl jdG jcm rfl hyy zRc ?_
  iterate 3 refine zW ?_
  rw [show D.agg [.i s.nom.node, .i s.nom.slot, .i s.nom.round, .i s.nom.seq, .i s.nom.t.th, .sl 1 (s.nom.t.nodes.map .i), .sl 3 (avs s.nom.t.inner), .v (.string s.nom.own), .sl 1 (s.nom.votes.map strv), .sl 1 (s.nom.accs.map strv), .sl 1 (s.nom.confs.map strv), .sl 7 (s.nom.heard.map nmv), .i s.mach.node, .i s.mach.slot, .i s.mach.seq, .i s.mach.t.th, .sl 1 (s.mach.t.nodes.map .i), .sl 3 (avs s.mach.t.inner), .i s.mach.phase, .i s.mach.bal.n, .v (.string s.mach.bal.v), .i s.mach.prep.n, .v (.string s.mach.prep.v), .i s.mach.prime.n, .v (.string s.mach.prime.v), .i s.mach.conf.n, .v (.string s.mach.conf.v), .i s.mach.low, .i s.mach.high, .v (.string s.mach.prop), .sl 15 (s.mach.heard.map ev), .i s.tm.n, .i s.tm.due, .i s.round, .i s.next, .b s.done, .v (.string s.value)] = slv s from rfl, ← List.map_set]
  refine zFz (.slice (some ⟨g, 0, none⟩) _ cap) [4,8] ?_
  refine xP ?_
  unfold withP; rw [if_neg (fun h => h h11)]; rfl
def okSp (q : Option Int) (s : Slt) : Bool := match q with | none => true | some k => decide (k < s.mach.slot)
def prevS (l : List Slt) (k : Nat) : Option Int := if k = 0 then none else (l[k - 1]?).map fun s => s.mach.slot
theorem jiH (p : Ptc) (q : Option Int) (s : Slt) (r : List Slt) : psGo p q (s :: r) = ((((checkS s && decide (s.mach.node = p.node)) && same s.mach.t p.t) && okSp q s) && psGo p (some s.mach.slot) r) := by cases q <;> rfl
theorem jmk {l : List Slt} (h : l[k]? = some x) : prevS l (k + 1) = some x.mach.slot := by
 unfold prevS
 rw [if_neg (by omega), Nat.add_sub_cancel, h]
 rfl
theorem jsX {l : List Slt} {y : Slt} (hy : 0 < k → l[k - 1]? = some y) : okSp (prevS l k) x = if (0 : Int) < (k : Int) then decide (y.mach.slot < x.mach.slot) else true := by
 unfold prevS
 by_cases h : k = 0
 ·rw [if_pos h, if_neg (by omega)]; rfl
 ·rw [if_neg h, if_pos (by omega), hy (by omega)]; rfl
theorem jqZ {l : List Slt} (x : Slt) (h : k ≤ l.length) : ∃ y, 0 < k → l[k - 1]? = some y := by
 rcases Nat.eq_zero_or_pos k with h0 | h0
 ·exact ⟨x, fun h1 => by omega⟩
 ·exact ⟨l[k - 1]'(by omega), fun _ => List.getElem?_eq_getElem _⟩
def badP (p : Ptc) : Bool := decide (p.node < 0) || (decide (p.node > 9) || (!decide (validT p.t = 0) || decide ((p.slots.length : Int) > 8)))
theorem jfR (p : Ptc) : checkP p = (!badP p && psGo p none p.slots) := by
 have h : (((decide (p.node ≥ 0) && decide (p.node ≤ 9)) && decide (validT p.t = 0)) && decide (p.slots.length ≤ 8)) = !badP p := by
  rw [Bool.eq_iff_iff]
  simp only [badP, Bool.and_eq_true, decide_eq_true_eq, Bool.not_eq_true', Bool.or_eq_false_iff, decide_eq_false_iff_not, Bool.not_eq_false', gt_iff_lt, ge_iff_le]
  omega
 unfold checkP; rw [h]
theorem jaX (p : Ptc) (hP : PI p) : Con none Tryz.prog 101 [ptv p] [] (Is (.b (checkP p)) []) := by
 refine xI Tryz.func101 Tryz.call101 fun hcap => ?_
 have hsz := hP.sz
 have hml : (p.slots.map slv).length = p.slots.length := by simp
 have hpl := hP.hl
 refine xX fun b1 => ?_
 iterate 10 refine zW ?_
 iterate 7 all_goals first | refine zW ?_ | refine xG (fun hg => ?_) fun hg => ?_
 all_goals first | (refine zY ?_; refine jaa zRc (jaN p.t (by omega)) rfl rfl ?_) | refine zSk ?_
 iterate 5 all_goals first | refine zW ?_ | refine xG (fun hg => ?_) fun hg => ?_
 all_goals first | (refine zY ?_; (first | refine zLn fun _ => ?_ | refine zW ?_)) | refine zSk ?_
 iterate 2 all_goals refine zW ?_
 all_goals (
  refine xC (fun hc => ?_) fun hc => ?_
  ·first
   | (exact absurd hc (by decide))
   | (have h24 : badP p = true := by unfold badP; rw [← hml]; first | (simp only [*, Bool.or_true, Bool.true_or, Bool.or_false, Bool.false_or, Bool.not_true, Bool.not_false]; done) | (simp [*]; done) | grind
      refine xP ?_
      rw [jfR, h24]; rfl
    )
  ·first
   | (exact absurd hc (by decide))
   | (have h24 : badP p = false := by unfold badP; rw [← hml]; first | (simp only [*, Bool.or_true, Bool.true_or, Bool.or_false, Bool.false_or, Bool.not_true, Bool.not_false]; done) | (simp [*]; done) | grind
      refine xN fun _ => ?_
      iterate 4 refine zW ?_
      refine jai [1, 26, 27] [.box b1 _ _] (fun (k : Nat) r => (28, .i (k : Int)) :: r) (fun k r => r) (fun k => k ≤ p.slots.length ∧ psGo p (prevS p.slots k) (p.slots.drop k) = psGo p none p.slots) (fun k => p.slots.length - k) (0) zRc ⟨by omega, rfl⟩ (zWk) ?_
      intro k ⟨hk, hI⟩
      refine xC (fun hc => ?_) fun hc => ?_
      ·have hlt := of_decide_eq_true hc
       obtain ⟨x, hx, hd⟩ := jab (l := p.slots) (k := k) (by omega)
       have hx' := jae slv hx
       obtain ⟨y, hy⟩ := jqZ x hk
       have hq := jsX (x := x) hy
       refine xL fun b4 => ?_
       iterate 5 refine zW ?_
       refine zDr [] ?_
       refine zT 0 ?_; refine zOn 1 ?_
       refine xA (jbl x (hP.hs x (List.mem_of_getElem? hx))) ?_
       refine zW ?_
       refine zT 2 ?_; refine zT 3 ?_
       refine jaj 3 rfl (fun hg => ?_) fun hg => ?_
       rotate_left
       case' _ =>
        refine zT 4 ?_; refine zT 5 ?_; refine zT 6 ?_; refine zT 7 ?_; refine zT 8 ?_; refine zT 9 ?_; refine zT 10 ?_; refine zT 11 ?_
        refine jaj 11 rfl (fun hg => ?_) fun hg => ?_
        rotate_left
        case' _ =>
         refine zT 12 ?_; refine zT 13 ?_; refine zT 14 ?_; refine zT 15 ?_; refine zT 16 ?_; refine zOn 17 ?_
         refine xA (jbU x.mach.t p.t) ?_
         refine zW ?_
         refine zT 18 ?_; refine zT 19 ?_; refine zT 20 ?_
         refine jaj 20 rfl (fun hg => ?_) fun hg => ?_
         rotate_left
         case' _ =>
          refine zT 21 ?_; refine zT 22 ?_; refine zT 23 ?_
          refine jaj 23 rfl (fun hg => ?_) fun hg => ?_
          rotate_left
          case' _ =>
           refine zK 24 ?_; refine zK 25 ?_; refine zK 26 ?_; refine zK 27 ?_; refine zK 28 ?_; refine zK 29 ?_; refine zK 30 ?_; refine zK 31 ?_; refine zK 32 ?_; refine zK 33 ?_; refine zK 34 ?_; refine zK 35 ?_; refine zT 36 ?_; refine zT 37 ?_
           refine zW ?_
          rotate_right
          case' _ =>
           refine zT 24 ?_; refine zT 25 ?_; refine zT 26 ?_; refine zT 27 ?_
           refine jam 28 rfl zGd zKr zKr zKr (AP.ar (jap (k := k - 1) rfl rfl rfl rfl (by decide) (by have h9 : decide ((k : Int) > 0) = true := (by first | with_reducible assumption | exact hg); have := of_decide_eq_true h9; omega) (jae slv (hy (by have h9 : decide ((k : Int) > 0) = true := (by first | with_reducible assumption | exact hg); have := of_decide_eq_true h9; omega))))) rfl rfl ?_
           refine zT 29 ?_; refine zT 30 ?_; refine zT 31 ?_; refine zT 32 ?_; refine zT 33 ?_; refine zT 34 ?_; refine zT 35 ?_; refine zT 36 ?_; refine zT 37 ?_
           refine zW ?_
         rotate_right
         case' _ =>
          refine zK 21 ?_; refine zK 22 ?_; refine zKu 23 ?_; refine zK 24 ?_; refine zK 25 ?_; refine zK 26 ?_; refine zK 27 ?_; refine zK 28 ?_; refine zK 29 ?_; refine zK 30 ?_; refine zK 31 ?_; refine zK 32 ?_; refine zK 33 ?_; refine zK 34 ?_; refine zK 35 ?_; refine zK 36 ?_; refine zT 37 ?_
          refine zW ?_
        rotate_right
        case' _ =>
         refine zK 12 ?_; refine zK 13 ?_; refine zK 14 ?_; refine zK 15 ?_; refine zK 16 ?_; refine zK 17 ?_; refine zK 18 ?_; refine zT 19 ?_; refine zT 20 ?_; refine zK 21 ?_; refine zK 22 ?_; refine zKu 23 ?_; refine zK 24 ?_; refine zK 25 ?_; refine zK 26 ?_; refine zK 27 ?_; refine zK 28 ?_; refine zK 29 ?_; refine zK 30 ?_; refine zK 31 ?_; refine zK 32 ?_; refine zK 33 ?_; refine zK 34 ?_; refine zK 35 ?_; refine zK 36 ?_; refine zT 37 ?_
         refine zW ?_
       rotate_right
       case' _ =>
        refine zK 4 ?_; refine zK 5 ?_; refine zK 6 ?_; refine zK 7 ?_; refine zK 8 ?_; refine zK 9 ?_; refine zT 10 ?_; refine zT 11 ?_; refine zK 12 ?_; refine zK 13 ?_; refine zK 14 ?_; refine zK 15 ?_; refine zK 16 ?_; refine zK 17 ?_; refine zK 18 ?_; refine zT 19 ?_; refine zT 20 ?_; refine zK 21 ?_; refine zK 22 ?_; refine zKu 23 ?_; refine zK 24 ?_; refine zK 25 ?_; refine zK 26 ?_; refine zK 27 ?_; refine zK 28 ?_; refine zK 29 ?_; refine zK 30 ?_; refine zK 31 ?_; refine zK 32 ?_; refine zK 33 ?_; refine zK 34 ?_; refine zK 35 ?_; refine zK 36 ?_; refine zT 37 ?_
        refine zW ?_
       all_goals (
        refine xC (fun hc => ?_) fun hc => ?_
        ·first
         | (exact absurd hc (by decide))
         | (have hq0 : (((checkS x && decide (x.mach.node = p.node)) && same x.mach.t p.t) && okSp (prevS p.slots k) x) = false := by rw [hq]; first | (simp [*]; done) | grind
            refine xP ?_
            rw [hd, jiH, hq0, Bool.false_and] at hI
            rw [jfR, h24, ← hI]; rfl
          )
        ·first
         | (exact absurd hc (by decide))
         | (have hq0 : (((checkS x && decide (x.mach.node = p.node)) && same x.mach.t p.t) && okSp (prevS p.slots k) x) = true := by rw [hq]; first | (simp [*]; done) | grind
            iterate 8 refine zW ?_
            rw [hd, jiH, hq0, Bool.true_and, ← jmk hx] at hI
            refine ⟨k + 1, ⟨by omega, hI⟩, by omega, zWk⟩
          )
        )
      ·have hge := of_decide_eq_false hc
       rw [jac (by omega)] at hI
       refine xP ?_
       rw [jfR, h24, ← hI]; rfl
    )
  )
theorem joU (p : Ptc) (hP : PI p) : Con none Tryz.prog 61 [ptv p] [] (Is (ptv (stopP p)) []) := by
 refine xI Tryz.func61 Tryz.call61 fun hcap => ?_
 refine xX fun b1 => ?_
 refine zAl fun b2 => ?_
 refine xA (jaX p hP) ?_
 refine xC (fun hc => ?_) fun hc => ?_
 ·have h5 : checkP p = false := jau hc
  refine xP ?_
  unfold stopP; rw [if_pos h5]; rfl
 ·have h5 : checkP p = true := jat hc
  refine xP ?_
  unfold stopP; rw [if_neg (by rw [h5]; decide)]; rfl
theorem jmF (p : Ptc) (hP : PI p) (number : Int) (own : Str) (now : Int) : Con none Tryz.prog 59 [ptv p, .i number, .v (.string own), .i now] [] (Is (.tup [ptv (beginP p number own now).1, .i (beginP p number own now).2]) []) := by
 refine xI Tryz.func59 Tryz.call59 fun hcap => ?_
 refine xX fun b4 => ?_
 refine zAl fun b8 => ?_
 refine xA (jaX p hP) ?_
 refine xC (fun hc => ?_) fun hc => ?_
 ·have h10 : checkP p = false := jau hc
  refine zW ?_; refine zW ?_
  refine zP (AP.up (jah zKr rfl zRc jav) (d' := ptv zPtc) xUp) ?_
  refine xP ?_
  unfold beginP; rw [if_pos h10]; rfl
 ·have h10 : checkP p = true := jat hc
  have hl8 := (jaY h10).2.2.1
  refine xC (fun hc => ?_) fun hc => ?_
  ·have h19 : p.stopped = true := hc
   refine xP ?_
   unfold beginP; rw [if_neg (by rw [h10]; decide), if_pos h19]; rfl
  ·have h19 : p.stopped = false := hc
   refine xA (jgN p hP hl8 number own now) ?_
   refine xP ?_
   unfold beginP; rw [if_neg (by rw [h10]; decide), if_neg (by rw [h19]; decide)]; rfl
theorem jgM (p : Ptc) (hP : PI p) (hl : p.slots.length ≤ 8) (number : Int) (own : Str) (now : Int) : Con none Tryz.prog 111 [ptv p, .i number, .v (.string own), .i now] [] (Is (.tup [ptv (readyP p number own now).1, .i (atP (readyP p number own now).1 number : Nat), .i (readyP p number own now).2]) []) := by
 refine xI Tryz.func111 Tryz.call111 fun hcap => ?_
 refine xX fun b4 => ?_
 refine zAl fun b8 => ?_
 refine xB (jhj p number (by omega)) ?_; rintro _ _ ⟨rfl, rfl⟩; obtain ⟨k, hk⟩ : ∃ x, x = atP p number := ⟨_, rfl⟩; obtain ⟨g, hg0⟩ : ∃ x, x = thereP p number := ⟨_, rfl⟩; rw [← hk, ← hg0]; have hkl : k ≤ p.slots.length := hk ▸ jet (ltSl number) p.slots
 refine xC (fun hc => ?_) fun hc => ?_
 ·have h22 : thereP p number = true := hg0 ▸ hc
  have hr9 : readyP p number own now = (p, 0) := by unfold readyP; rw [if_pos h22]
  refine xP ?_
  rw [hr9, hk]; rfl
 ·have h22 : thereP p number = false := hg0 ▸ hc
  refine xB (jgN p hP hl number own now) ?_; rintro _ _ ⟨rfl, rfl⟩; have hbl := jnj (number := number) (own := own) (now := now) hP hl; obtain ⟨q, hq⟩ : ∃ x, x = beginG p number own now := ⟨_, rfl⟩; rw [← hq] at hbl ⊢
  refine xA (jhj q.1 number (by omega)) ?_
  refine xP ?_
  rw [show readyP p number own now = q by unfold readyP; rw [if_neg (by rw [h22]; decide), ← hq]]; rfl
theorem jhN (p : Ptc) (hP : PI p) (number : Int) (v : Str) (now : Int) : Con none Tryz.prog 60 [ptv p, .i number, .v (.string v), .i now] [] (Is (.tup [ptv (prefP p number v now).1, .i (prefP p number v now).2]) []) := by
 refine xI Tryz.func60 Tryz.call60 fun hcap => ?_
 refine xX fun b4 => ?_
 refine zAl fun b8 => ?_
 refine xA (jaX p hP) ?_
 refine xC (fun hc => ?_) fun hc => ?_
 ·have h10 : checkP p = false := jau hc
  refine zW ?_; refine zW ?_
  refine zP (AP.up (jah zKr rfl zRc jav) (d' := ptv zPtc) xUp) ?_
  refine xP ?_
  unfold prefP; rw [if_pos h10]; rfl
 ·have h10 : checkP p = true := jat hc
  have hl8 := (jaY h10).2.2.1
  refine xC (fun hc => ?_) fun hc => ?_
  ·have h19 : p.stopped = true := hc
   refine xP ?_
   unfold prefP; rw [if_neg (by rw [h10]; decide), if_pos h19]; rfl
  ·have h19 : p.stopped = false := hc
   refine xB (jgM p hP hl8 number v now) ?_; rintro _ _ ⟨rfl, rfl⟩; obtain ⟨q, hq⟩ : ∃ x, x = readyP p number v now := ⟨_, rfl⟩; rw [← hq]; obtain ⟨k, hk⟩ : ∃ x, x = atP q.1 number := ⟨_, rfl⟩; rw [← hk]
   refine xL fun b10 => ?_
   refine xC (fun hc => ?_) fun hc => ?_
   ·have h31 : ¬ q.2 = 0 := jaf hc
    refine zW ?_; refine zW ?_
    refine zP (AP.up (jah zKr rfl zRc jav) (d' := ptv zPtc) xUp) ?_
    refine xP ?_
    unfold prefP; rw [if_neg (by rw [h10]; decide), if_neg (by rw [h19]; decide), ← hq, if_pos h31]; rfl
   ·have h31 : q.2 = 0 := jad hc
    have hqp := jdp hP hl8 (hq ▸ h31)
    rw [← hq] at hqp
    have hat := jeP hP.sz (hq ▸ h31)
    rw [← hq, ← hk] at hat
    obtain ⟨s9, hs9⟩ := hat
    have hs9' := jae slv hs9
    have hks := (List.getElem?_eq_some_iff.1 hs9).1
    have hqs := hqp.1.hs s9 (List.mem_of_getElem? hs9)
    have hql := hqp.1.hl
    iterate 7 refine zW ?_
    refine zP (jap (k := k) rfl rfl rfl rfl (by decide) rfl hs9') ?_
    refine xB (jhO s9 hqs v) ?_; rintro _ _ ⟨rfl, rfl⟩; obtain ⟨x, hx⟩ : ∃ z9, z9 = prefS' s9 v := ⟨_, rfl⟩; rw [← hx]
    refine xL fun b13 => ?_
    refine xA (jdW q.1 k x.1 x.2 hks (by omega)) ?_
    refine xP ?_
    unfold prefP; rw [if_neg (by rw [h10]; decide), if_neg (by rw [h19]; decide), ← hq, if_neg (fun h => h h31)]; unfold onP; rw [← hk, hs9]; simp only; rw [← hx]; rfl
theorem jjk (p : Ptc) (hP : PI p) (l : Ltr) (hL : LB l) (now : Int) : Con none Tryz.prog 104 [ptv p, ltv l, .i now] [] (Is (.tup [ptv (hearP p l now).1, .i (hearP p l now).2]) []) := by
 refine xI Tryz.func104 Tryz.call104 fun hcap => ?_
 refine xX fun b3 => ?_
 refine zBx fun b4 => ?_
 refine zAl fun b6 => ?_
 refine xA (jaX p hP) ?_
 refine xC (fun hc => ?_) fun hc => ?_
 ·have h10 : checkP p = false := jau hc
  refine zW ?_; refine zW ?_
  refine zP (AP.up (jah zKr rfl zRc jav) (d' := ptv zPtc) xUp) ?_
  refine xP ?_
  unfold hearP; rw [if_pos h10]; rfl
 ·have h10 : checkP p = true := jat hc
  have hl8 := (jaY h10).2.2.1
  refine xC (fun hc => ?_) fun hc => ?_
  ·have h19 : p.stopped = true := hc
   refine xP ?_
   unfold hearP; rw [if_neg (by rw [h10]; decide), if_pos h19]; rfl
  ·have h19 : p.stopped = false := hc
   iterate 9 refine zW ?_
   iterate 17 all_goals first | refine zW ?_ | refine xG (fun hg => ?_) fun hg => ?_
   all_goals (
    refine xC (fun hc => ?_) fun hc => ?_
    ·first
     | (exact absurd hc (by decide))
     | (have h41 : badL l = true := by unfold badL; first | (simp_all; done) | grind
        refine zW ?_; refine zW ?_
        refine zP (AP.up (jah zKr rfl zRc jav) (d' := ptv zPtc) xUp) ?_
        refine xP ?_
        unfold hearP; rw [if_neg (by rw [h10]; decide), if_neg (by rw [h19]; decide), if_pos h41]; rfl
      )
    ·first
     | (exact absurd hc (by decide))
     | (have h41 : badL l = false := by unfold badL; first | (simp_all; done) | grind
        refine xB (jgM p hP hl8 l.slot sZ now) ?_; rintro _ _ ⟨rfl, rfl⟩; obtain ⟨q, hq⟩ : ∃ x, x = readyP p l.slot sZ now := ⟨_, rfl⟩; rw [← hq]; obtain ⟨k, hk⟩ : ∃ x, x = atP q.1 l.slot := ⟨_, rfl⟩; rw [← hk]
        refine xL fun b8 => ?_
        refine xC (fun hc => ?_) fun hc => ?_
        ·have h31 : ¬ q.2 = 0 := jaf hc
         refine zW ?_; refine zW ?_
         refine zP (AP.up (jah zKr rfl zRc jav) (d' := ptv zPtc) xUp) ?_
         refine xP ?_
         unfold hearP; rw [if_neg (by rw [h10]; decide), if_neg (by rw [h19]; decide), if_neg (by rw [h41]; decide), ← hq, if_pos h31]; rfl
        ·have h31 : q.2 = 0 := jad hc
         have hqp := jdp hP hl8 (hq ▸ h31)
         rw [← hq] at hqp
         have hat := jeP hP.sz (hq ▸ h31)
         rw [← hq, ← hk] at hat
         obtain ⟨s9, hs9⟩ := hat
         have hs9' := jae slv hs9
         have hks := (List.getElem?_eq_some_iff.1 hs9).1
         have hqs := hqp.1.hs s9 (List.mem_of_getElem? hs9)
         have hql := hqp.1.hl
         refine xC (fun hc => ?_) fun hc => ?_
         ·have h58 : l.kind = 1 := of_decide_eq_true hc
          refine zW ?_
          refine zDr [] ?_
          refine zT 0 ?_; refine zT 1 ?_; refine zT 2 ?_
          refine jam 3 rfl zGd zKr zKr zKr (AP.ar (jap (k := k) rfl rfl rfl rfl (by decide) rfl hs9')) rfl rfl ?_
          refine zT 4 ?_; refine zT 5 ?_; refine zT 6 ?_
          refine zE2 7 11 ?_ ?_
          rotate_left
          case' _ =>
           refine zAl fun b11 => ?_
           refine zW ?_
           refine zOn 7 ?_
           refine xB (jdg s9 hqs l.nom hL.nom) ?_; rintro _ _ ⟨rfl, rfl⟩; obtain ⟨x, hx⟩ : ∃ z9, z9 = nomS s9 l.nom := ⟨_, rfl⟩; rw [← hx]
           refine zW ?_
           refine zT 8 ?_; refine zT 9 ?_; refine zT 10 ?_; refine zOn 12 ?_
           refine zW ?_; refine zW ?_
           refine zT 13 ?_
           refine zW ?_
          rotate_right
          case' _ =>
           refine xB (jdg s9 hqs l.nom hL.nom) ?_; rintro _ _ ⟨rfl, rfl⟩; obtain ⟨x, hx⟩ : ∃ z9, z9 = nomS s9 l.nom := ⟨_, rfl⟩; rw [← hx]
           refine zW ?_
           refine zT 8 ?_; refine zT 9 ?_; refine zT 10 ?_; refine zOn 11 ?_
           refine zAl fun b11 => ?_
           refine zW ?_
           refine zOn 12 ?_
           refine zW ?_; refine zW ?_
           refine zT 13 ?_
           refine zW ?_
          all_goals (
           refine xA (jdW q.1 k x.1 x.2 hks (by omega)) ?_
           refine xP ?_
           unfold hearP; rw [if_neg (by rw [h10]; decide), if_neg (by rw [h19]; decide), if_neg (by rw [h41]; decide), ← hq, if_neg (fun h => h h31)]; unfold onP; rw [← hk, hs9]; simp only; rw [if_pos h58, ← hx]; rfl
           )
         ·have h58 : ¬ l.kind = 1 := of_decide_eq_false hc
          iterate 3 refine zW ?_
          refine zDr [] ?_
          refine zT 0 ?_; refine zT 1 ?_; refine zT 2 ?_
          refine jam 3 rfl zGd zKr zKr zKr (AP.ar (jap (k := k) rfl rfl rfl rfl (by decide) rfl hs9')) rfl rfl ?_
          refine zT 4 ?_; refine zT 5 ?_; refine zT 6 ?_
          refine zE2 7 11 ?_ ?_
          rotate_left
          case' _ =>
           refine zAl fun b13 => ?_
           refine zW ?_
           refine zOn 7 ?_
           refine xB (jdN s9 hqs l.env hL.env) ?_; rintro _ _ ⟨rfl, rfl⟩; obtain ⟨x, hx⟩ : ∃ z9, z9 = balS s9 l.env := ⟨_, rfl⟩; rw [← hx]
           refine zW ?_
           refine zT 8 ?_; refine zT 9 ?_; refine zT 10 ?_; refine zOn 12 ?_
           refine zW ?_; refine zW ?_
           refine zT 13 ?_
           refine zW ?_
          rotate_right
          case' _ =>
           refine xB (jdN s9 hqs l.env hL.env) ?_; rintro _ _ ⟨rfl, rfl⟩; obtain ⟨x, hx⟩ : ∃ z9, z9 = balS s9 l.env := ⟨_, rfl⟩; rw [← hx]
           refine zW ?_
           refine zT 8 ?_; refine zT 9 ?_; refine zT 10 ?_; refine zOn 11 ?_
           refine zAl fun b13 => ?_
           refine zW ?_
           refine zOn 12 ?_
           refine zW ?_; refine zW ?_
           refine zT 13 ?_
           refine zW ?_
          all_goals (
           refine xA (jdW q.1 k x.1 x.2 hks (by omega)) ?_
           refine xP ?_
           unfold hearP; rw [if_neg (by rw [h10]; decide), if_neg (by rw [h19]; decide), if_neg (by rw [h41]; decide), ← hq, if_neg (fun h => h h31)]; unfold onP; rw [← hk, hs9]; simp only; rw [if_neg h58, ← hx]; rfl
           )
      )
    )
theorem jr8 {s : Slt × Int} (h : ¬ (withP p i s).2 = 0) : ¬ s.2 = 0 ∧ (withP p i s).2 = s.2 := by
 unfold withP at h ⊢
 split at h
 ·rename_i h1; rw [if_pos h1]; exact ⟨h1, rfl⟩
 ·exact absurd rfl h
theorem jr6 {s : Slt × Int} (h : (withP p i s).2 = 0) : s.2 = 0 ∧ (withP p i s).1 = { p with slots := p.slots.set i s.1 } := by
 unfold withP at h ⊢
 split at h
 ·rename_i h1; exact absurd h h1
 ·rename_i h1; rw [if_neg h1]; exact ⟨by simpa using h1, rfl⟩
theorem jtU {q r : List Slt} (h : q.length = i) : (q ++ s :: r).set i x = (q ++ [x]) ++ r := by
 subst h
 rw [List.set_append_right _ _ (Nat.le_refl _), Nat.sub_self, List.set_cons_zero, List.append_assoc]; rfl
theorem jui {q r : List Slt} (h : q.length = i) : (q ++ s :: r)[i]? = some s := by
 subst h
 rw [List.getElem?_append_right (Nat.le_refl _), Nat.sub_self]; rfl
theorem jfT (p : Ptc) (hP : PI p) (now : Int) : Con none Tryz.prog 105 [ptv p, .i now] [] (Is (.tup [ptv (tickP p now).1, .i (tickP p now).2]) []) := by
 refine xI Tryz.func105 Tryz.call105 fun hcap => ?_
 have hml : (p.slots.map slv).length = p.slots.length := by simp
 have hpl := hP.hl
 refine xX fun b2 => ?_
 refine zAl fun b4 => ?_
 refine xA (jaX p hP) ?_
 refine xC (fun hc => ?_) fun hc => ?_
 ·have h10 : checkP p = false := jau hc
  refine zW ?_; refine zW ?_
  refine zP (AP.up (jah zKr rfl zRc jav) (d' := ptv zPtc) xUp) ?_
  refine xP ?_
  unfold tickP; rw [if_pos h10]; rfl
 ·have h10 : checkP p = true := jat hc
  have hl8 := (jaY h10).2.2.1
  refine xC (fun hc => ?_) fun hc => ?_
  ·have h19 : p.stopped = true := hc
   refine xP ?_
   unfold tickP; rw [if_neg (by rw [h10]; decide), if_pos h19]; rfl
  ·have h19 : p.stopped = false := hc
   refine xN fun _ => ?_
   iterate 4 refine zW ?_
   refine jag [1, 2, 4, 19] [.box b4 _ _] (fun (i : Nat) (q : List Slt) r => (20, .i (i : Int)) :: r) (fun i q r => .box b2 107 [.i p.node, .b p.stopped, .i p.t.th, .sl 1 (p.t.nodes.map .i), .sl 3 (avs p.t.inner), .sl 37 ((q ++ p.slots.drop i).map slv)] :: r) (fun i q => (q.length = i ∧ i ≤ p.slots.length) ∧ tksGo now (p.slots.drop i) q = tksGo now p.slots []) (fun i q => p.slots.length - i) (0) ([]) zRc ⟨⟨rfl, by omega⟩, rfl⟩ (zWk) ?_
   intro i q ⟨⟨hqi, hi⟩, hI⟩
   refine xC (fun hc => ?_) fun hc => ?_
   ·have hlt := of_decide_eq_true hc
    obtain ⟨s9, hs0, hd⟩ := jab (l := p.slots) (k := i) (by omega)
    have hqs := hP.hs s9 (List.mem_of_getElem? hs0)
    have hs9 : (q ++ p.slots.drop i)[i]? = some s9 := by rw [hd]; exact jui hqi
    iterate 15 refine zW ?_
    refine zP (jap (k := i) rfl rfl rfl rfl (by decide) rfl (jae slv hs9)) ?_
    refine xB (jj9 s9 hqs now) ?_; rintro _ _ ⟨rfl, rfl⟩; obtain ⟨x, hx⟩ : ∃ z9, z9 = tickSl s9 now := ⟨_, rfl⟩; rw [← hx]
    refine xL fun b7 => ?_
    refine xB (jdW { p with slots := q ++ p.slots.drop i } i x.1 x.2 (by show i < (q ++ p.slots.drop i).length; rw [List.length_append, List.length_drop]; omega) (by show (q ++ p.slots.drop i).length ≤ 1000; rw [List.length_append, List.length_drop]; omega)) ?_; rintro _ _ ⟨rfl, rfl⟩; obtain ⟨y, hy⟩ : ∃ z9, z9 = withP { p with slots := q ++ p.slots.drop i } i (x.1, x.2) := ⟨_, rfl⟩; rw [← hy]
    refine xL fun b9 => ?_
    refine xC (fun hc => ?_) fun hc => ?_
    ·have h42 : ¬ y.2 = 0 := jaf hc
     have hx0 := jr8 (hy ▸ h42)
     rw [hd, tksGo, ← hx, if_pos hx0.1] at hI
     rw [← hy] at hx0
     refine zW ?_; refine zW ?_
     refine zP (AP.up (jah zKr rfl zRc jav) (d' := ptv zPtc) xUp) ?_
     refine xP ?_
     rw [hx0.2]; unfold tickP; rw [if_neg (by rw [h10]; decide), if_neg (by rw [h19]; decide), ← hI, if_pos hx0.1]; rfl
    ·have h42 : y.2 = 0 := jad hc
     have hx1 := jr6 (hy ▸ h42)
     have hx0 : x.2 = 0 := hx1.1
     have hy1 : y.1 = { p with slots := (q ++ [x.1]) ++ p.slots.drop (i + 1) } := by rw [hy, hx1.2]; show (⟨p.node, p.stopped, p.t, (q ++ p.slots.drop i).set i x.1⟩ : Ptc) = _; rw [hd, jtU hqi]
     rw [hy1]
     iterate 13 refine zW ?_
     rw [hd, tksGo, ← hx, if_neg (fun h => h hx0)] at hI
     refine ⟨i + 1, q ++ [x.1], ⟨⟨by simp; omega, by omega⟩, hI⟩, by omega, zWk⟩
   ·have hge := of_decide_eq_false hc
    rw [jac (by omega), tksGo] at hI
    have ht9 : tksGo now p.slots [] = (q, 0) := hI.symm
    have hdn : p.slots.drop i = [] := jac (by omega)
    rw [hdn, List.append_nil]
    refine xP ?_
    unfold tickP; rw [if_neg (by rw [h10]; decide), if_neg (by rw [h19]; decide), ht9]; rfl
end Go.Proofs.YtgmpjpaekpefdaaGreat
