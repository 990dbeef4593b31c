/- Walks: each says what one function of the program answers, for the arguments that its statement names. No condition beyond what each theorem says. -/
import Derived.Test.YtgmpjpaekpefdaaGreatAnalyserHarmlessW7
import Derived.Test.YtgmpjpaekpefdaaGreatProg
import Derived.KernelRfl
import Derived.Tactics
import Derived.Tactics2
import Derived.StillTactics
set_option linter.unusedVariables false
set_option linter.unusedSimpArgs false
set_option maxRecDepth 4000
set_option maxHeartbeats 16000000
namespace Go.Proofs.YtgmpjpaekpefdaaGreat
open Go Go.Av Go.Tq
variable {t : Trust} {q : List Otc} {a : Otc} {s j : Nat} {l : List Int}
theorem jup (w : Wld) (hW : WI w) (s : Sp) (hs : SB s) (hk3 : ¬ s.kind = 3) : C0 15 [wv w, spv s] (.tup [wv (doW w s).1, .i (doW w s).2]) := by
 refine xI Tryz.func15 Tryz.call15 fun hcap => ?_
 have hml : (w.nodes.map ptv).length = w.nodes.length := by simp
 have hwl := hW.len
 refine xX fun b2 => ?_
 refine zBx fun b3 => ?_
 refine zAl fun b4 => ?_
 refine xA (jez w hW) ?_
 refine xC ?_ ?_ <;> intro hc
 ·(
 have h18 : checkW w = false := jax hc
 iterate 2 refine zW ?_
 refine zP (AP.up (jag zKr rfl zRc jav) (d' := wv zWld) xUp) ?_
 refine xP ?_
 unfold doW; rw [qf h18]; rfl)
 ·(
 have h18 : checkW w = true := jaw hc
 iterate 9 refine zW ?_
 iterate 4 all_goals first | refine zW ?_ | refine xG ?_ ?_ <;> intro hg
 all_goals (
 refine xC ?_ ?_ <;> intro hc
 ·(
 first
 | (exact xQ hc)
 |(
 have h27 : s.kind < 1 ∨ s.kind > 8 := by first | exact .inl (qc hg) | exact .inr (qc hc)
 iterate 2 refine zW ?_
 refine zP (AP.up (jag zKr rfl zRc jav) (d' := wv zWld) xUp) ?_
 refine xP ?_
 unfold doW; rw [qe (by rw [h18]; decide), qf h27]; rfl))
 ·(
 first
 | (exact xQ hc)
 |(
 have h27 : ¬ (s.kind < 1 ∨ s.kind > 8) := by rintro (h | h); exact qd hg h; exact qd hc h
 iterate 9 refine zW ?_
 iterate 8 all_goals first | refine zW ?_ | refine xG ?_ ?_ <;> intro hg
 all_goals first | (refine zY ?_; refine jaa zRc (jgV w s.node) rfl rfl ?_) | refine zSk ?_
 iterate 2 all_goals refine zW ?_
 all_goals (
 refine xC ?_ ?_ <;> intro hc
 ·(
 first
 | (exact xQ hc)
 |(
 have h43 : (¬ s.kind = 2 ∧ ¬ s.kind = 6) ∧ thereW w s.node = false := by first | (simp_all; done) | grind
 iterate 2 refine zW ?_
 refine zP (AP.up (jag zKr rfl zRc jav) (d' := wv zWld) xUp) ?_
 refine xP ?_
 unfold doW; rw [qe (by rw [h18]; decide), qe h27, qf h43]; rfl))
 ·(
 first
 | (exact xQ hc)
 |(
 have h43 : ¬ ((¬ s.kind = 2 ∧ ¬ s.kind = 6) ∧ thereW w s.node = false) := by first | (simp_all; done) | grind
 refine xC ?_ ?_ <;> intro hc
 ·(
 have h47 : s.kind = 2 := qc hc
 iterate 7 refine zW ?_
 iterate 4 all_goals first | refine zW ?_ | refine xG ?_ ?_ <;> intro hg
 all_goals (
 refine xC ?_ ?_ <;> intro hc
 ·(
 first
 | (exact xQ hc)
 |(
 have h56 : s.count < 1 ∨ s.count > 200 := by first | exact .inl (qc hg) | exact .inr (qc hc)
 iterate 2 refine zW ?_
 refine zP (AP.up (jag zKr rfl zRc jav) (d' := wv zWld) xUp) ?_
 refine xP ?_
 unfold doW; rw [qe (by rw [h18]; decide), qe h27, qe h43, qf h47, qf h56]; rfl))
 ·(
 first
 | (exact xQ hc)
 |(
 have h56 : ¬ (s.count < 1 ∨ s.count > 200) := by rintro (h | h); exact qd hg h; exact qd hc h
 iterate 9 refine zW ?_
 obtain ⟨cnt, hcnt⟩ : ∃ n : Nat, s.count = (n : Int) := ⟨s.count.toNat, by omega⟩
 refine jai [2, 3, 4] [.box b3 _ _, .box b4 _ _] (fun (k : Nat) (c : Wld) r => (6, .i (k : Int)) :: r) (fun k c r => .box b2 40 [.i c.time, .sl 6 (c.nodes.map ptv), .i c.ill, .sl 28 (c.net.pcs.map pcv), .i c.net.next, .sl 1 (c.net.parts.map .i), .sl 1 (c.net.dls.map .i), .sl 1 (c.trs.map trv)] :: r) (fun k c => k ≤ cnt ∧ WI c ∧ ticksW (cnt - k) c = ticksW cnt w) (fun k c => cnt - k) (0) (w) zRc ⟨by omega, hW, by rw [Nat.sub_zero]⟩ (zWk) ?_
 intro k c ⟨hk, hWc, hI⟩
 refine xC ?_ ?_ <;> intro hc
 ·(
 have hlt : k < cnt := by have := qc hc; omega
 refine xB (jj7 c hWc) ?_; rintro _ _ ⟨rfl, rfl⟩; obtain ⟨r, hr⟩ : ∃ z9, z9 = tickW c := ⟨_, rfl⟩; rw [← hr]
 refine xL fun b7 => ?_
 refine xC ?_ ?_ <;> intro hc
 ·(
 have h70 : ¬ r.2 = 0 := jah hc
 rw [jly hlt, ← hr, qf h70] at hI
 iterate 2 refine zW ?_
 refine zP (AP.up (jag zKr rfl zRc jav) (d' := wv zWld) xUp) ?_
 refine xP ?_
 unfold doW; rw [qe (by rw [h18]; decide), qe h27, qe h43, qf h47, qe h56, show s.count.toNat = cnt by omega, ← hI]; rfl)
 ·(
 have h70 : r.2 = 0 := jaf hc
 iterate 14 refine zW ?_
 rw [jly hlt, ← hr, qe (fun h => h h70)] at hI
 refine ⟨k + 1, r.1, ⟨by omega, hr ▸ jkQ hWc (hr ▸ h70), hI⟩, by omega, zWk⟩))
 ·(
 have hke : k = cnt := by have := qd hc; omega
 rw [hke, Nat.sub_self, ticksW] at hI
 refine xP ?_
 unfold doW; rw [qe (by rw [h18]; decide), qe h27, qe h43, qf h47, qe h56, show s.count.toNat = cnt by omega, ← hI]; rfl)))))
 ·(
 have h47 : ¬ s.kind = 2 := qd hc
 refine xC ?_ ?_ <;> intro hc
 ·(
 have h75 : s.kind = 6 := qc hc
 refine xB (jks w.net hW.net s.parts) ?_; rintro _ _ ⟨rfl, rfl⟩; obtain ⟨r, hr⟩ : ∃ z9, z9 = partN w.net s.parts := ⟨_, rfl⟩; rw [← hr]
 refine xL fun b9 => ?_
 refine xC ?_ ?_ <;> intro hc
 ·(
 have h86 : ¬ r.2 = 0 := jah hc
 iterate 2 refine zW ?_
 refine zP (AP.up (jag zKr rfl zRc jav) (d' := wv zWld) xUp) ?_
 refine xP ?_
 unfold doW; rw [qe (by rw [h18]; decide), qe h27, qe h43, qe h47, qf h75, ← hr, qf h86]; rfl)
 ·(
 have h86 : r.2 = 0 := jaf hc
 refine xP ?_
 unfold doW; rw [qe (by rw [h18]; decide), qe h27, qe h43, qe h47, qf h75, ← hr, qe (fun h => h h86)]; rfl))
 ·(
 have h75 : ¬ s.kind = 6 := qd hc
 have hnr := jn1 hW (show thereW w s.node = true by cases hh : thereW w s.node; exact qp ⟨⟨h47, h75⟩, hh⟩ h43; rfl)
 refine xC ?_ ?_ <;> intro hc
 ·(
 have h92 : s.kind = 7 := qc hc
 refine xB (jie w.net hW.net s.node s.to s.count) ?_; rintro _ _ ⟨rfl, rfl⟩; obtain ⟨r, hr⟩ : ∃ z9, z9 = delayN w.net s.node s.to s.count := ⟨_, rfl⟩; rw [← hr]
 refine xL fun b11 => ?_
 refine xC ?_ ?_ <;> intro hc
 ·(
 have h107 : ¬ r.2 = 0 := jah hc
 iterate 2 refine zW ?_
 refine zP (AP.up (jag zKr rfl zRc jav) (d' := wv zWld) xUp) ?_
 refine xP ?_
 unfold doW; rw [qe (by rw [h18]; decide), qe h27, qe h43, qe h47, qe h75, qf h92, ← hr, qf h107]; rfl)
 ·(
 have h107 : r.2 = 0 := jaf hc
 refine xP ?_
 unfold doW; rw [qe (by rw [h18]; decide), qe h27, qe h43, qe h47, qe h75, qf h92, ← hr, qe (fun h => h h107)]; rfl))
 ·(
 have h92 : ¬ s.kind = 7 := qd hc
 refine xC ?_ ?_ <;> intro hc
 ·(
 have h113 : s.kind = 5 := qc hc
 refine xA (jnH w hW s hs hnr.1) ?_
 refine xP ?_
 unfold doW; rw [qe (by rw [h18]; decide), qe h27, qe h43, qe h47, qe h75, qe h92, qf h113]; rfl)
 ·(
 have h113 : ¬ s.kind = 5 := qd hc
 refine xA (jch w s.node hnr.1 hW.ill) ?_
 refine xC ?_ ?_ <;> intro hc
 ·(
 have h123 : sickV w s.node = true := hc
 iterate 2 refine zW ?_
 refine zP (AP.up (jag zKr rfl zRc jav) (d' := wv zWld) xUp) ?_
 refine xP ?_
 unfold doW; rw [qe (by rw [h18]; decide), qe h27, qe h43, qe h47, qe h75, qe h92, qe h113]; rw [jhV h123, jhV h123, jhV h123]; by_cases ha : s.kind = 1
 ·rw [qf ha]; rfl
 ·rw [qe ha, ite_self]; rfl)
 ·(
 have h123 : sickV w s.node = false := hc
 obtain ⟨d, hdd, hd9⟩ := jf9 hnr.1
 obtain ⟨y, hy⟩ : ∃ y, w.nodes[d]? = some y := ⟨_, List.getElem?_eq_getElem (by omega)⟩
 have hyP := (hW.nd d y hy).2
 iterate 8 refine zW ?_
 refine zP (jao (k := d) rfl rfl rfl rfl (by decide) hdd (jae ptv hy)) ?_
 refine xL fun b13 => ?_
 refine xL fun b14 => ?_
 refine xC ?_ ?_ <;> intro hc
 ·(
 have h138 : s.kind = 1 := qc hc
 have mk138t : True := trivial
 refine xB (jmx y hyP s.slot s.val w.time) ?_; rintro _ _ ⟨rfl, rfl⟩; obtain ⟨r, hr⟩ : ∃ z9, z9 = beginP y s.slot s.val w.time := ⟨_, rfl⟩; rw [← hr]
 refine xC ?_ ?_ <;> intro hc
 ·(
 first
 | (exact xQ hc)
 |(
 have h169 : ¬ r.2 = 0 := jah hc
 iterate 2 refine zW ?_
 refine zP (AP.up (jag zKr rfl zRc jav) (d' := wv zWld) xUp) ?_
 refine xP ?_
 unfold doW; rw [qe (by rw [h18]; decide), qe h27, qe h43, qe h47, qe h75, qe h92, qe h113, qf h138, jdT (f := fun p => beginP p s.slot s.val w.time) h123 hdd hy hr, qf h169]; rfl))
 ·(
 first
 | (exact xQ hc)
 |(
 have h169 : r.2 = 0 := by first | exact jaf hc | rw [hr]
 have hrn : r.1.node = (d : Int) := by first | (have := mk138t; exact jcp hW hy (f := fun p => beginP p s.slot s.val w.time) (fun p hp e => jcI hp e) hr h169) | (have := mk151t; exact jcp hW hy (f := fun p => prefP p s.slot s.val w.time) (fun p hp e => jdV hp e) hr h169) | (have := mk164t; exact jcp hW hy (f := fun p => (stopP p, 0)) (fun p hp e => jdZ hp) hr h169)
 refine xA (jb3 w r.1 d hrn (by omega) (by omega)) ?_
 refine xP ?_
 unfold doW; rw [qe (by rw [h18]; decide), qe h27, qe h43, qe h47, qe h75, qe h92, qe h113, qf h138, jdT (f := fun p => beginP p s.slot s.val w.time) h123 hdd hy hr, qe (fun h => h h169)]; rfl)))
 ·(
 have h138 : ¬ s.kind = 1 := qd hc
 refine xC ?_ ?_ <;> intro hc
 ·(
 have h151 : s.kind = 8 := qc hc
 have mk151t : True := trivial
 refine xB (jhZ y hyP s.slot s.val w.time) ?_; rintro _ _ ⟨rfl, rfl⟩; obtain ⟨r, hr⟩ : ∃ z9, z9 = prefP y s.slot s.val w.time := ⟨_, rfl⟩; rw [← hr]
 refine xC ?_ ?_ <;> intro hc
 ·(
 first
 | (exact xQ hc)
 |(
 have h169 : ¬ r.2 = 0 := jah hc
 iterate 2 refine zW ?_
 refine zP (AP.up (jag zKr rfl zRc jav) (d' := wv zWld) xUp) ?_
 refine xP ?_
 unfold doW; rw [qe (by rw [h18]; decide), qe h27, qe h43, qe h47, qe h75, qe h92, qe h113, qe h138, qf h151, jdT (f := fun p => prefP p s.slot s.val w.time) h123 hdd hy hr, qf h169]; rfl))
 ·(
 first
 | (exact xQ hc)
 |(
 have h169 : r.2 = 0 := by first | exact jaf hc | rw [hr]
 have hrn : r.1.node = (d : Int) := by first | (have := mk138t; exact jcp hW hy (f := fun p => beginP p s.slot s.val w.time) (fun p hp e => jcI hp e) hr h169) | (have := mk151t; exact jcp hW hy (f := fun p => prefP p s.slot s.val w.time) (fun p hp e => jdV hp e) hr h169) | (have := mk164t; exact jcp hW hy (f := fun p => (stopP p, 0)) (fun p hp e => jdZ hp) hr h169)
 refine xA (jb3 w r.1 d hrn (by omega) (by omega)) ?_
 refine xP ?_
 unfold doW; rw [qe (by rw [h18]; decide), qe h27, qe h43, qe h47, qe h75, qe h92, qe h113, qe h138, qf h151, jdT (f := fun p => prefP p s.slot s.val w.time) h123 hdd hy hr, qe (fun h => h h169)]; rfl)))
 ·(
 have h151 : ¬ s.kind = 8 := qd hc
 have h164 : s.kind = 4 := by omega
 have mk164t : True := trivial
 iterate 6 refine zW ?_
 refine jbS rfl (qx h164) ?_
 refine xB (jqb y hyP) ?_; rintro _ _ ⟨rfl, rfl⟩; obtain ⟨r, hr⟩ : ∃ z9 : Ptc × Int, z9 = (stopP y, 0) := ⟨_, rfl⟩; rw [show stopP y = r.1 by rw [hr]]
 refine xC ?_ ?_ <;> intro hc
 ·exact xQ hc
 ·(
 first
 | (exact xQ hc)
 |(
 have h169 : r.2 = 0 := by first | exact jaf hc | rw [hr]
 have hrn : r.1.node = (d : Int) := by first | (have := mk138t; exact jcp hW hy (f := fun p => beginP p s.slot s.val w.time) (fun p hp e => jcI hp e) hr h169) | (have := mk151t; exact jcp hW hy (f := fun p => prefP p s.slot s.val w.time) (fun p hp e => jdV hp e) hr h169) | (have := mk164t; exact jcp hW hy (f := fun p => (stopP p, 0)) (fun p hp e => jdZ hp) hr h169)
 refine xA (jb3 w r.1 d hrn (by omega) (by omega)) ?_
 refine xP ?_
 unfold doW; rw [qe (by rw [h18]; decide), qe h27, qe h43, qe h47, qe h75, qe h92, qe h113, qe h138, qe h151, jdT (f := fun p => (stopP p, 0)) h123 hdd hy hr, qe (fun h => h h169)]; rfl))))))))))))))))
def otv (o : Otc) : D := .agg [.i o.node, .i o.slot, .v (.string o.val)]
theorem jnQ (q : List Otc) (x : Otc) : List.map otv q ++ [otv x] = (q ++ [x]).map otv := by rw [List.map_append]; rfl
theorem jhs (w : Wld) (hW : WI w) : C0 21 [wv w] (.sl 3 ((outcomes w).map otv)) := by
 refine xI Tryz.func21 Tryz.call21 fun hcap => ?_
 have hml : (w.nodes.map ptv).length = w.nodes.length := by simp
 have hwl := hW.len
 refine xX fun b1 => ?_
 refine xA (jez w hW) ?_
 refine xC ?_ ?_ <;> intro hc
 ·(
 have h12 : checkW w = false := jax hc
 iterate 5 refine zW ?_
 refine jfJ 71 3 rfl ?_
 refine zFz (.slice none 0 0) [2] ?_
 refine xP ?_
 unfold outcomes; rw [qf h12]; rfl)
 ·(
 have h12 : checkW w = true := jaw hc
 refine xN fun _ => ?_
 iterate 4 refine zW ?_
 refine jaR [1, 14, 15] [.box b1 _ _] (fun (i : Nat) (v : Value) (q : List Otc) r => (3, .v v) :: (16, .i (i : Int)) :: r) (fun i v q r => .arr v 71 3 (q.map otv) :: r) (fun i v q => (i ≤ w.nodes.length ∧ q.length ≤ 20 * i) ∧ q ++ otcGo w (w.nodes.drop i) i = otcGo w w.nodes 0) (fun i v q => w.nodes.length - i) (0) (.slice none 0 0) ([]) zRc ⟨⟨by omega, by simp⟩, by simp⟩ ((jaM 71 3 rfl).trans (zWk)) ?_
 intro i v q ⟨⟨hi, hql⟩, hI⟩
 refine xC ?_ ?_ <;> intro hc
 ·(
 have hlt := qc hc
 obtain ⟨y, hy, hd⟩ := jab (l := w.nodes) (k := i) (by omega)
 have hy' := jae ptv hy
 have hyP := hW.nd i y hy
 refine xL fun b5 => ?_
 refine xN fun _ => ?_
 iterate 4 refine zW ?_
 have hsm : (y.slots.map slv).length = y.slots.length := by simp
 have hsl20 := hyP.2.hl
 refine jaR [1, 4, 5, 14, 15, 16, 22, 23] [.box b1 _ _, .box b5 _ _] (fun (j : Nat) (v2 : Value) (q2 : List Otc) r => (3, .v v2) :: (24, .i (j : Int)) :: r) (fun j v2 q2 r => .arr v2 71 3 (q2.map otv) :: r) (fun j v2 q2 => (j ≤ y.slots.length ∧ q2.length ≤ 20 * i + j) ∧ q2 ++ (y.slots.drop j).flatMap (otcS w i y) = q ++ y.slots.flatMap (otcS w i y)) (fun j v2 q2 => y.slots.length - j) (0) (v) (q) zRc ⟨⟨by omega, by omega⟩, rfl⟩ (zWk) ?_
 intro j v2 q2 ⟨⟨hj, hql2⟩, hI2⟩
 have hqm : (q2.map otv).length = q2.length := by simp
 refine xC ?_ ?_ <;> intro hc
 ·(
 have hlt2 := qc hc
 obtain ⟨s, hx, hd2⟩ := jab (l := y.slots) (k := j) (by omega)
 have hx' := jae slv hx
 refine xL fun b7 => ?_
 refine xB (jf3 y hyP.2 s.mach.slot) ?_; rintro _ _ ⟨rfl, rfl⟩; obtain ⟨r, hr⟩ : ∃ z9, z9 = decidedP y s.mach.slot := ⟨_, rfl⟩; rw [← hr]
 iterate 11 refine zW ?_
 iterate 2 all_goals first | refine zW ?_ | refine xG ?_ ?_ <;> intro hg
 all_goals first | (refine zY ?_; refine jaa zRc (jch w (i : Int) (by omega) hW.ill) rfl rfl ?_) | refine zSk ?_
 iterate 2 all_goals refine zW ?_
 all_goals (
 refine xC ?_ ?_ <;> intro hc
 ·(
 first
 | (exact xQ hc)
 |(
 have h42 : (r.2 && !sickV w i) = true := by first | (simp_all; done) | grind
 have mk42t : True := trivial
 iterate 8 refine zW ?_
 refine xLt 71 3 32 ?_
 refine xEa 71 3 32 (hb := xLb) fun v51 hv51 => ?_
 iterate 9 refine zW ?_
 rw [hd2, List.flatMap_cons, ← List.append_assoc] at hI2
 rw [show otcS w i y s = [⟨(i : Int), s.mach.slot, r.1⟩] by unfold otcS; rw [← hr, qf h42]] at hI2; rw [show D.agg [.i (i : Int), .i s.mach.slot, .v (.string r.1)] = otv ⟨(i : Int), s.mach.slot, r.1⟩ from rfl, jnQ]; refine ⟨j + 1, _, q2 ++ [⟨(i : Int), s.mach.slot, r.1⟩], ⟨⟨by omega, by simp; omega⟩, hI2⟩, by omega, zWk⟩))
 ·(
 first
 | (exact xQ hc)
 |(
 have h42 : ¬ (r.2 && !sickV w i) = true := by first | (simp_all; done) | grind
 have mk42f : True := trivial
 iterate 8 refine zW ?_
 rw [hd2, List.flatMap_cons, ← List.append_assoc] at hI2
 first
 | (have := mk42t; rw [show otcS w i y s = [⟨(i : Int), s.mach.slot, r.1⟩] by unfold otcS; rw [← hr, qf h42]] at hI2; rw [show D.agg [.i (i : Int), .i s.mach.slot, .v (.string r.1)] = otv ⟨(i : Int), s.mach.slot, r.1⟩ from rfl, jnQ]; refine ⟨j + 1, _, q2 ++ [⟨(i : Int), s.mach.slot, r.1⟩], ⟨⟨by omega, by simp; omega⟩, hI2⟩, by omega, zWk⟩)
 | (have := mk42f; rw [show otcS w i y s = [] by unfold otcS; rw [← hr, qe h42], List.append_nil] at hI2; refine ⟨j + 1, v2, q2, ⟨⟨by omega, by omega⟩, hI2⟩, by omega, zWk⟩)))))
 ·(
 have hge2 := qd hc
 rw [jad (by omega), List.flatMap_nil, List.append_nil] at hI2
 iterate 11 refine zW ?_
 rw [hd, otcGo, ← List.append_assoc, ← hI2] at hI
 refine ⟨i + 1, v2, q2, ⟨⟨by omega, by omega⟩, hI⟩, by omega, zWk⟩))
 ·(
 have hge := qd hc
 rw [jad (by omega), otcGo, List.append_nil] at hI
 refine zFz v [3] ?_
 refine xP ?_
 unfold outcomes; rw [qe (by rw [h12]; decide), ← hI]; rfl))
def hdB (a : Otc) : List Otc → Bool
 | [] => true
 | x :: _ => decide (a.slot < x.slot)
theorem jjN {s : Int} {b : Otc} {r : List Otc} : divIn s a (b :: r) q = divIn s a r (if divB s a b = true ∧ hdB a q = true then [a, b] else q) := by
 cases q <;> rfl
theorem jsI {y : Otc} (h : 0 < q.length → q[0]? = some y) (hn : ¬ q = []) : hdB a q = decide (a.slot < y.slot) := by
 cases q with
 | nil => exact qp rfl hn
 | cons x r =>
  have := h (by simp)
  simp only [List.getElem?_cons_zero, qj] at this
  subst this; rfl
theorem jwr (h : decide (((q.map otv).length : Int) = 0) = true) : q = [] := List.eq_nil_of_length_eq_zero (by have := qc h; simpa using this)
theorem lenN (h : decide (((q.map otv).length : Int) = 0) = false) : ¬ q = [] := by rintro rfl; exact qp h (by decide)
theorem ji0 {P : Program} {n : Nat} {o : Oper} {env : Env} {H : Heap} {d d' : D} (h : AP P n o env H d) (e : d = d') : AP P n o env H d' := e ▸ h
theorem bitZ {k : Nat} : decide (((s / 2 ^ k &&& 1 : Nat) : Int) = 0) = !s.testBit k := by
 rw [Nat.testBit_eq_decide_div_mod_eq, Nat.and_one_is_mod]
 have := Nat.mod_two_eq_zero_or_one (s / 2 ^ k)
 rcases this with h | h <;> rw [h] <;> rfl
theorem jwd {k : Nat} (h : s < 1024) : s / 2 ^ k < 9223372036854775808 := Nat.lt_of_le_of_lt (Nat.div_le_self _ _) (by omega)
theorem joS {i : Nat} {b : Otc} (ha : a.node = (i : Int)) (hb : b.node = (j : Int)) : divB (s : Int) a b = (((decide (a.slot = b.slot) && !decide (a.val = b.val)) && s.testBit i) && s.testBit j) := by
 unfold divB; rw [ha, hb]; rfl
theorem jhL (w : Wld) (hW : WI w) (s : Nat) (hs : s < 1024) : C0 64 [wv w, .i (s : Int)] (.sl 3 ((divV w (s : Int)).map otv)) := by
 have hcap := jbv
 obtain ⟨l, hl⟩ : ∃ l, l = outcomes w := ⟨_, rfl⟩
 have hml : (l.map otv).length = l.length := by simp
 have hln : ∀ o ∈ l, 0 ≤ o.node ∧ o.node ≤ 9 := fun o ho => jhg hW o (hl ▸ ho)
 refine jas Tryz.func64 rfl Tryz.call64 rfl ?_
 refine xX fun b2 => ?_
 refine xA ((jhs w hW).is (by rw [← hl])) ?_
 iterate 10 refine zW ?_
 refine jam [1,2,5,6] 3 rfl jdt jcG ?_
 iterate 2 refine zW ?_
 first | refine zLn fun _ => ?_ | refine zW ?_
 iterate 4 refine zW ?_
 refine jai [1, 5, 13, 14] [.box b2 _ _] (fun (i : Nat) (q : List Otc) r => (6, .sl 3 (q.map otv)) :: (15, .i (i : Int)) :: r) (fun i q r => r) (fun i q => i ≤ l.length ∧ divGo (s : Int) (l.drop i) q = divGo (s : Int) l []) (fun i q => l.length - i) (0) ([]) zRc ⟨by omega, rfl⟩ (zWk) ?_
 intro i q ⟨hi, hI⟩
 refine xC ?_ ?_ <;> intro hc
 ·(
 have hlt := qc hc
 obtain ⟨a, hx, hd⟩ := jab (l := l) (k := i) (by omega)
 have hx' := jae otv hx
 refine xL fun b8 => ?_
 iterate 9 refine zW ?_
 refine zP (jdM (k := i + 1) rfl rfl rfl rfl (by omega) (by omega)) ?_
 first | refine zLn fun _ => ?_ | refine zW ?_
 iterate 4 refine zW ?_
 obtain ⟨na, ha9, ha10⟩ := jf9 (hln a (qg hx))
 have hmd : (List.drop (i + 1) (l.map otv)).length = (l.drop (i + 1)).length := by simp
 refine jai [1, 5, 8, 13, 14, 15, 23, 24] [.box b8 _ _, .box b2 _ _] (fun (j : Nat) (q2 : List Otc) r => (6, .sl 3 (q2.map otv)) :: (25, .i (j : Int)) :: r) (fun j q2 r => r) (fun j q2 => j ≤ (l.drop (i + 1)).length ∧ divIn (s : Int) a ((l.drop (i + 1)).drop j) q2 = divIn (s : Int) a (l.drop (i + 1)) q) (fun j q2 => (l.drop (i + 1)).length - j) (0) (q) zRc ⟨by omega, rfl⟩ (zWk) ?_
 intro j q2 ⟨hj, hI2⟩
 refine xC ?_ ?_ <;> intro hc
 ·(
 have hlt2 := qc hc
 obtain ⟨b, hxb, hd2⟩ := jab (l := l.drop (i + 1)) (k := j) (by omega)
 have hxb' : (List.drop (i + 1) (l.map otv))[j]? = some (otv b) := by rw [← List.map_drop]; exact jae otv hxb
 have hq1 := jwd (k := na) hs
 obtain ⟨nb, hb9, hb10⟩ := jf9 (hln b (List.mem_of_mem_drop (qg hxb)))
 have hq2 := jwd (k := nb) hs
 refine xL fun b10 => ?_
 iterate 12 refine zW ?_
 iterate 10 all_goals first | refine zW ?_ | refine xG ?_ ?_ <;> intro hg
 all_goals first | (refine zY ?_; refine zP (ji0 (jbN rfl rfl rfl (by omega)) (congrArg (fun z => D.v (.int .u64 z)) ha9)) ?_) | refine zSk ?_ | (refine zG (fun hg => ?_) fun hg => ?_; case' _ => refine zP (ji0 (jbN rfl rfl rfl (by omega)) (congrArg (fun z => D.v (.int .u64 z)) ha9)) ?_)
 all_goals first | (refine zY ?_; refine zP (jcR rfl rfl (by omega)) ?_) | refine zSk ?_ | (refine zG (fun hg => ?_) fun hg => ?_; case' _ => refine zP (jcR rfl rfl (by omega)) ?_)
 all_goals first | (refine zY ?_; refine zP (jbL (q := 1) rfl rfl rfl (by omega) (by omega)) ?_) | refine zSk ?_ | (refine zG (fun hg => ?_) fun hg => ?_; case' _ => refine zP (jbL (q := 1) rfl rfl rfl (by omega) (by omega)) ?_)
 iterate 6 all_goals first | refine zW ?_ | refine xG ?_ ?_ <;> intro hg
 all_goals first | (refine zY ?_; refine zP (ji0 (jbN rfl rfl rfl (by omega)) (congrArg (fun z => D.v (.int .u64 z)) hb9)) ?_) | refine zSk ?_ | (refine zG (fun hg => ?_) fun hg => ?_; case' _ => refine zP (ji0 (jbN rfl rfl rfl (by omega)) (congrArg (fun z => D.v (.int .u64 z)) hb9)) ?_)
 all_goals first | (refine zY ?_; refine zP (jcR rfl rfl (by omega)) ?_) | refine zSk ?_ | (refine zG (fun hg => ?_) fun hg => ?_; case' _ => refine zP (jcR rfl rfl (by omega)) ?_)
 all_goals first | (refine zY ?_; refine zP (jbL (q := 1) rfl rfl rfl (by omega) (by omega)) ?_) | refine zSk ?_ | (refine zG (fun hg => ?_) fun hg => ?_; case' _ => refine zP (jbL (q := 1) rfl rfl rfl (by omega) (by omega)) ?_)
 iterate 2 all_goals first | refine zW ?_ | refine xG ?_ ?_ <;> intro hg
 all_goals (
 refine xC ?_ ?_ <;> intro hc
 ·(
 first
 | (exact xQ hc)
 |(
 have h58 : divB (s : Int) a b = false := by rw [joS ha9 hb9]; first | (simp_all [bitZ]; done) | grind
 have mk58t : True := trivial
 iterate 9 refine zW ?_
 rw [hd2, jjN] at hI2
 first
 | (have := mk58t; rw [qe (fun h => by rw [h58] at h; exact qp h.1 (by decide))] at hI2; exact ⟨j + 1, q2, ⟨by omega, hI2⟩, by omega, zWk⟩)
 | (have := mk70t; rw [qf ⟨h58, h70⟩] at hI2; exact ⟨j + 1, [a, b], ⟨by omega, hI2⟩, by omega, zWk⟩)
 | (have := mk70f; rw [qe (fun h => h70 h.2)] at hI2; exact ⟨j + 1, q2, ⟨by omega, hI2⟩, by omega, zWk⟩)))
 ·(
 first
 | (exact xQ hc)
 |(
 have h58 : divB (s : Int) a b = true := by rw [joS ha9 hb9]; first | (simp_all [bitZ]; done) | grind
 have mk58f : True := trivial
 iterate 3 refine zW ?_
 obtain ⟨y, hy⟩ := jfL q2 0 a
 have hqm : (q2.map otv).length = q2.length := by simp
 refine zDr [] ?_
 refine zT 0 ?_; refine zT 1 ?_; refine zT 2 ?_; refine zT 3 ?_
 refine jaj 3 rfl (fun hg => ?_) fun hg => ?_
 rotate_left
 case' _ =>(
 first
 | (exact xQ hg)
 | (exfalso; simp at hg; done)
 |(
 refine zT 4 ?_
 refine zT 5 ?_; refine zT 6 ?_
 refine jar 7 rfl zGd zKr zKr zKr (AP.ar (jao (k := 0) rfl rfl rfl rfl (by decide) rfl (jae otv (hy (by have h9 : decide (((q2.map otv).length : Int) = 0) = false := (by first | with_reducible assumption | exact hg); have := qd h9; omega))))) rfl rfl ?_
 refine zT 8 ?_; refine zT 9 ?_; refine zT 10 ?_; refine zT 11 ?_
 refine zW ?_))
 rotate_right
 case' _ =>(
 first
 | (exact xQ hg)
 | (exfalso; simp at hg; done)
 |(
 refine zK 4 ?_
 refine zK 5 ?_; refine zK 6 ?_; refine zK 7 ?_; refine zK 8 ?_; refine zK 9 ?_; refine zK 10 ?_; refine zT 11 ?_
 refine zW ?_))
 all_goals (
 refine xC ?_ ?_ <;> intro hc
 ·(
 first
 | (exact xQ hc)
 |(
 have h70 : hdB a q2 = true := by first | (have h9 := jwr (q := q2) (by first | with_reducible assumption | exact hg); rw [h9]; rfl) | (rw [jsI hy (lenN (by first | with_reducible assumption | exact hg))]; exact hc)
 have mk70t : True := trivial
 iterate 3 refine zW ?_
 refine xLt 71 3 32 ?_
 iterate 9 refine zW ?_
 rw [hd2, jjN] at hI2
 first
 | (have := mk58t; rw [qe (fun h => by rw [h58] at h; exact qp h.1 (by decide))] at hI2; exact ⟨j + 1, q2, ⟨by omega, hI2⟩, by omega, zWk⟩)
 | (have := mk70t; rw [qf ⟨h58, h70⟩] at hI2; exact ⟨j + 1, [a, b], ⟨by omega, hI2⟩, by omega, zWk⟩)
 | (have := mk70f; rw [qe (fun h => h70 h.2)] at hI2; exact ⟨j + 1, q2, ⟨by omega, hI2⟩, by omega, zWk⟩)))
 ·(
 first
 | (exact xQ hc)
 |(
 have h70 : ¬ hdB a q2 = true := by first | (rw [jsI hy (lenN (by first | with_reducible assumption | exact hg))]; exact fun h => qp (h.symm.trans hc) (by decide)) | exact xQ hc
 have mk70f : True := trivial
 iterate 8 refine zW ?_
 rw [hd2, jjN] at hI2
 first
 | (have := mk58t; rw [qe (fun h => by rw [h58] at h; exact qp h.1 (by decide))] at hI2; exact ⟨j + 1, q2, ⟨by omega, hI2⟩, by omega, zWk⟩)
 | (have := mk70t; rw [qf ⟨h58, h70⟩] at hI2; exact ⟨j + 1, [a, b], ⟨by omega, hI2⟩, by omega, zWk⟩)
 | (have := mk70f; rw [qe (fun h => h70 h.2)] at hI2; exact ⟨j + 1, q2, ⟨by omega, hI2⟩, by omega, zWk⟩))))))))
 ·(
 have hge2 := qd hc
 rw [jad (l := l.drop (i + 1)) (k := j) (by omega)] at hI2
 have hI2 : q2 = divIn (s : Int) a (l.drop (i + 1)) q := hI2
 iterate 11 refine zW ?_
 rw [hd, divGo, ← hI2] at hI
 exact ⟨i + 1, q2, ⟨by omega, hI⟩, by omega, zWk⟩))
 ·(
 have hge := qd hc
 rw [jad (by omega), divGo] at hI
 refine xP ?_
 unfold divV; rw [← hl, ← hI]; rfl)
theorem jhx (w : Wld) (hW : WI w) : C0 16 [wv w] (.sl 3 ((divV w 1023).map otv)) := by
 refine xI Tryz.func16 Tryz.call16 fun hcap => ?_
 refine xX fun b1 => ?_
 refine xA (jhL w hW 1023 (by omega)) ?_
 refine xP ?_
 rfl
theorem jwl {s0 s1 s2 s3 : Str} (h : (1 ≤ s0.size ∧ s0.size ≤ 200) ∧ (1 ≤ s1.size ∧ s1.size ≤ 200) ∧ (1 ≤ s2.size ∧ s2.size ≤ 200) ∧ (1 ≤ s3.size ∧ s3.size ≤ 200)) (hj : j < 4) : ∃ v : Str, ([.v (.string s0), .v (.string s1), .v (.string s2), .v (.string s3)] : List D)[j]? = some (.v (.string v)) ∧ 1 ≤ v.size ∧ v.size ≤ 200 := by
 match j, hj with
 | 0, _ => exact ⟨s0, rfl, h.1⟩
 | 1, _ => exact ⟨s1, rfl, h.2.1⟩
 | 2, _ => exact ⟨s2, rfl, h.2.2.1⟩
 | 3, _ => exact ⟨s3, rfl, h.2.2.2⟩
theorem jpF (b : Nat) (l : List Int) (a : Nat) (s0 s1 s2 s3 : Str) (h : (1 ≤ s0.size ∧ s0.size ≤ 200) ∧ (1 ≤ s1.size ∧ s1.size ≤ 200) ∧ (1 ≤ s2.size ∧ s2.size ≤ 200) ∧ (1 ≤ s3.size ∧ s3.size ≤ 200)) : Con none Tryz.prog 50 [.p b 0, .sl 1 [.v (.string s0), .v (.string s1), .v (.string s2), .v (.string s3)]] [.box b 97 [.sl 1 (l.map .i), .i ((a : Nat) : Int)]] (fun d H => ∃ (v : Str) (a' : Nat), d = .v (.string v) ∧ (1 ≤ v.size ∧ v.size ≤ 200) ∧ H = [.box b 97 [.sl 1 (l.map .i), .i ((a' : Nat) : Int)]]) := by
 refine xI Tryz.func50 Tryz.call50 fun hcap => ?_
 iterate 10 refine zW ?_
 first | refine zLn fun _ => ?_ | refine zW ?_
 refine xB (jaz _ _ _ 4 (by omega)) ?_; rintro _ _ ⟨r9, a9, rfl, hr9, rfl⟩
 obtain ⟨j, rfl⟩ := qw hr9.1; obtain ⟨v, hx', hv⟩ := jwl h (j := j) (by omega); refine zP (jao (k := j) rfl rfl rfl rfl (by decide) rfl hx') ?_
 iterate 5 refine zW ?_
 refine jat (.tmp rfl .nil) jaY ⟨_, _, rfl, hv, rfl⟩
theorem jcj (b : Nat) (l : List Int) (a : Nat) : Con none Tryz.prog 22 [.p b 0] [.box b 97 [.sl 1 (l.map .i), .i ((a : Nat) : Int)]] (fun d H => ∃ (v : Str) (a' : Nat), d = .v (.string v) ∧ (1 ≤ v.size ∧ v.size ≤ 200) ∧ H = [.box b 97 [.sl 1 (l.map .i), .i ((a' : Nat) : Int)]]) := by
 refine xI Tryz.func22 Tryz.call22 fun hcap => ?_
 iterate 8 refine zW ?_
 refine xLt 9 1 16 ?_
 refine jac zRc (jpF _ _ _ _ _ _ _ (by decide)) jan rfl rfl ?_; rintro _ _ ⟨v, a5, rfl, hv, rfl⟩
 iterate 4 refine zW ?_
 refine jat (.tmp rfl .nil) jaY ⟨_, _, rfl, hv, rfl⟩
theorem jeN (b : Nat) (l : List Int) (a : Nat) : Con none Tryz.prog 165 [.p b 0] [.box b 97 [.sl 1 (l.map .i), .i ((a : Nat) : Int)]] (fun d H => ∃ (x : Bal) (a' : Nat), d = bv x ∧ (1 ≤ x.v.size ∧ x.v.size ≤ 200) ∧ H = [.box b 97 [.sl 1 (l.map .i), .i ((a' : Nat) : Int)]]) := by
 refine xI Tryz.func165 Tryz.call165 fun hcap => ?_
 refine xL fun b2 => ?_
 refine xB (jaG b l a 1 6 (by omega)) ?_; rintro _ _ ⟨r4, a4, rfl, hr4, rfl⟩
 refine xB (jcj b l a4) ?_; rintro _ _ ⟨v6, a6, rfl, hv6, rfl⟩
 iterate 5 refine zW ?_
 exact jat (.cell rfl jbq rfl rfl .nil) jaY ⟨⟨r4, v6⟩, _, rfl, hv6, rfl⟩
theorem jaW {n : Nat} (h : OKS n t) : sizeT t ≤ 100000 := by have := jbu h.ok.vd; omega
theorem jbM {node slot seq kind n1 n2 n3 lo hi : Int} {w1 w2 w3 : Str} (hs : sizeT t ≤ 100000) : Con none Tryz.prog 166 [.agg [.i node, .i slot, .i seq, .i t.th, .sl 1 (t.nodes.map .i), .sl 3 (avs t.inner), .i kind, .i n1, .v (.string w1), .i n2, .v (.string w2), .i n3, .v (.string w3), .i lo, .i hi]] [] (fun d H => ∃ c : Bool, d = .b c ∧ H = []) := by
 have h := jay ⟨node, slot, seq, t, kind, ⟨n1, w1⟩, ⟨n2, w2⟩, ⟨n3, w3⟩, lo, hi⟩ (by show sizeT t ≤ _; omega)
 exact h.mono fun d H ⟨h1, h2⟩ => ⟨_, h1, h2⟩
theorem jgR {node slot seq kind n1 n2 n3 lo hi : Int} {w1 w2 w3 : Str} {b a : Nat} (hs : sizeT t ≤ 100000) (hq : 1 ≤ seq ∧ seq ≤ 9) : ∃ (x : Evp) (a' : Nat), D.agg [.i node, .i slot, .i seq, .i t.th, .sl 1 (t.nodes.map .i), .sl 3 (avs t.inner), .i kind, .i n1, .v (.string w1), .i n2, .v (.string w2), .i n3, .v (.string w3), .i lo, .i hi] = ev x ∧ (sizeT x.t ≤ 100000 ∧ 1 ≤ x.seq ∧ x.seq ≤ 9) ∧ ([.box b 97 [.sl 1 (l.map .i), .i ((a : Nat) : Int)]] : Heap) = [.box b 97 [.sl 1 (l.map .i), .i ((a' : Nat) : Int)]] :=
 ⟨⟨node, slot, seq, t, kind, ⟨n1, w1⟩, ⟨n2, w2⟩, ⟨n3, w3⟩, lo, hi⟩, a, rfl, ⟨hs, hq⟩, rfl⟩
theorem sb0 {a b c d e : Int} {v : Str} : SB ⟨a, b, c, d, e, v, t, zLtr, l⟩ := ⟨⟨jj8, joA⟩⟩
theorem sb1 {a b c d e k : Int} {v : Str} {x : Evp} {i : Int} (h : sizeT x.t ≤ 100000) : SB ⟨a, b, c, d, e, v, t, ⟨k, i, zNmn, x⟩, l⟩ := ⟨⟨jj8, h⟩⟩
theorem jrS (b : Nat) (l : List Int) (a : Nat) (node slot : Int) (n : Nat) (hn : 1 ≤ n ∧ n ≤ 9) : Con none Tryz.prog 137 [.p b 0, .i node, .i slot, .i n] [.box b 97 [.sl 1 (l.map .i), .i ((a : Nat) : Int)]] (fun d H => ∃ (x : Evp) (a' : Nat), d = ev x ∧ (sizeT x.t ≤ 100000 ∧ 1 ≤ x.seq ∧ x.seq ≤ 9) ∧ H = [.box b 97 [.sl 1 (l.map .i), .i ((a' : Nat) : Int)]]) := by
 refine xI Tryz.func137 Tryz.call137 fun hcap => ?_
 refine xL fun b8 => ?_
 iterate 7 refine zW ?_
 refine jac zRc (jaG _ _ _ _ _ (by omega)) jan rfl rfl ?_; rintro _ _ ⟨r14, a14, rfl, hr14, rfl⟩
 iterate 2 refine zW ?_
 refine jac zRc (jee _ _ _ (by omega) _) jan rfl rfl ?_; rintro _ _ ⟨t17, a17, rfl, ht17, rfl⟩
 refine xL fun b9 => ?_
 refine xB (jcj _ _ _) ?_; rintro _ _ ⟨v20, a20, rfl, hv20, rfl⟩
 iterate 7 refine zW ?_
 refine jac zRc (jaz _ _ _ _ (by omega)) jan rfl rfl ?_; rintro _ _ ⟨r22, a22, rfl, hr22, rfl⟩
 refine xC ?_ ?_ <;> intro hc
 ·(
 iterate 9 refine zW ?_
 refine jac zRc (jaG _ _ _ _ _ (by omega)) jan rfl rfl ?_; rintro _ _ ⟨r28, a28, rfl, hr28, rfl⟩
 iterate 11 refine zW ?_
 refine jac zRc (jaG _ _ _ _ _ (by omega)) jan rfl rfl ?_; rintro _ _ ⟨r34, a34, rfl, hr34, rfl⟩
 iterate 5 refine zW ?_
 refine zDr [.box b _ _, .box b9 _ _] ?_
 refine zT 0 ?_; refine zT 2 ?_
 refine zE2 1 3 ?_ ?_
 rotate_left
 case' _ =>(
 refine jac zRc (jaz _ _ _ _ (by omega)) jan rfl rfl ?_; rintro _ _ ⟨r39, a39, rfl, hr39, rfl⟩
 refine zW ?_
 refine zOn 1 ?_
 iterate 2 refine zW ?_
 refine zT 4 ?_; refine zT 5 ?_; refine zOn 6 ?_
 iterate 3 refine zW ?_)
 rotate_right
 case' _ =>(
 iterate 2 refine zW ?_
 refine zOn 3 ?_
 refine jac zRc (jaz _ _ _ _ (by omega)) jan rfl rfl ?_; rintro _ _ ⟨r39, a39, rfl, hr39, rfl⟩
 refine zW ?_
 refine zT 4 ?_; refine zT 5 ?_; refine zOn 6 ?_
 iterate 3 refine zW ?_)
 all_goals (
 refine zW ?_
 refine zDr [.box b _ _, .box b9 _ _] ?_
 refine zT 0 ?_; refine zT 2 ?_; refine zT 5 ?_
 refine zE2 1 3 ?_ ?_
 rotate_left
 case' _ =>(
 refine jac zRc (jaz _ _ _ _ (by omega)) jan rfl rfl ?_; rintro _ _ ⟨r45, a45, rfl, hr45, rfl⟩
 refine zW ?_
 refine zOn 1 ?_
 iterate 2 refine zW ?_
 refine zT 4 ?_; refine zT 6 ?_; refine zT 7 ?_; refine zOn 8 ?_
 iterate 3 refine zW ?_)
 rotate_right
 case' _ =>(
 iterate 2 refine zW ?_
 refine zOn 3 ?_
 refine jac zRc (jaz _ _ _ _ (by omega)) jan rfl rfl ?_; rintro _ _ ⟨r45, a45, rfl, hr45, rfl⟩
 refine zW ?_
 refine zT 4 ?_; refine zT 6 ?_; refine zT 7 ?_; refine zOn 8 ?_
 iterate 3 refine zW ?_)
 all_goals (
 iterate 15 refine zW ?_
 exact jat (.cell rfl jbq rfl rfl .nil) jaY (jgR (jaW ht17) hr14))))
 ·(
 refine xC ?_ ?_ <;> intro hc
 ·(
 iterate 9 refine zW ?_
 refine jac zRc (jaz _ _ _ _ (by omega)) jan rfl rfl ?_; rintro _ _ ⟨r51, a51, rfl, hr51, rfl⟩
 refine xC ?_ ?_ <;> intro hc
 ·(
 iterate 3 refine zW ?_
 refine jac zRc (jaG _ _ _ _ _ (by omega)) jan rfl rfl ?_; rintro _ _ ⟨r54, a54, rfl, hr54, rfl⟩
 iterate 11 refine zW ?_
 refine jac zRc (jaG _ _ _ _ _ (by omega)) jan rfl rfl ?_; rintro _ _ ⟨r60, a60, rfl, hr60, rfl⟩
 iterate 5 refine zW ?_
 refine zDr [.box b _ _, .box b9 _ _] ?_
 refine zT 0 ?_; refine zT 2 ?_
 refine zE2 1 3 ?_ ?_
 rotate_left
 case' _ =>(
 refine jac zRc (jaz _ _ _ _ (by omega)) jan rfl rfl ?_; rintro _ _ ⟨r65, a65, rfl, hr65, rfl⟩
 refine zW ?_
 refine zOn 1 ?_
 iterate 2 refine zW ?_
 refine zT 4 ?_; refine zT 5 ?_; refine zOn 6 ?_
 iterate 3 refine zW ?_)
 rotate_right
 case' _ =>(
 iterate 2 refine zW ?_
 refine zOn 3 ?_
 refine jac zRc (jaz _ _ _ _ (by omega)) jan rfl rfl ?_; rintro _ _ ⟨r65, a65, rfl, hr65, rfl⟩
 refine zW ?_
 refine zT 4 ?_; refine zT 5 ?_; refine zOn 6 ?_
 iterate 3 refine zW ?_)
 all_goals (
 iterate 13 refine zW ?_
 exact jat (.cell rfl jbq rfl rfl .nil) jaY (jgR (jaW ht17) hr14)))
 ·(
 iterate 7 refine zW ?_
 refine jac zRc (jaG _ _ _ _ _ (by omega)) jan rfl rfl ?_; rintro _ _ ⟨r69, a69, rfl, hr69, rfl⟩
 iterate 12 refine zW ?_
 refine jac zRc (jaz _ _ _ _ (by omega)) jan rfl rfl ?_; rintro _ _ ⟨r75, a75, rfl, hr75, rfl⟩
 refine xC ?_ ?_ <;> intro hc
 ·(
 refine xB (jeN _ _ _) ?_; rintro _ _ ⟨x78, a78, rfl, hx78, rfl⟩
 iterate 7 refine zW ?_
 refine jac zRc (jaz _ _ _ _ (by omega)) jan rfl rfl ?_; rintro _ _ ⟨r81, a81, rfl, hr81, rfl⟩
 refine xC ?_ ?_ <;> intro hc
 rotate_left
 case' _ =>(
 refine zW ?_)
 rotate_right
 case' _ =>(
 refine xB (jeN _ _ _) ?_; rintro _ _ ⟨x84, a84, rfl, hx84, rfl⟩
 iterate 3 refine zW ?_)
 all_goals (
 iterate 8 refine zW ?_
 refine jac zRc (jaz _ _ _ _ (by omega)) jan rfl rfl ?_; rintro _ _ ⟨r91, a91, rfl, hr91, rfl⟩
 iterate 10 refine zW ?_
 refine jac zRc (jaz _ _ _ _ (by omega)) jan rfl rfl ?_; rintro _ _ ⟨r97, a97, rfl, hr97, rfl⟩
 refine xB (jbM (jaW ht17)) ?_; rintro _ _ ⟨c100, rfl, rfl⟩
 refine xC ?_ ?_ <;> intro hc
 rotate_left
 case' _ =>(
 refine zW ?_)
 rotate_right
 case' _ =>(
 iterate 4 refine zW ?_)
 all_goals (
 refine xB (jbM (jaW ht17)) ?_; rintro _ _ ⟨c104, rfl, rfl⟩
 refine xC ?_ ?_ <;> intro hc
 rotate_left
 case' _ =>(
 refine zW ?_)
 rotate_right
 case' _ =>(
 iterate 4 refine zW ?_)
 all_goals (
 refine xB (jbM (jaW ht17)) ?_; rintro _ _ ⟨c108, rfl, rfl⟩
 refine xC ?_ ?_ <;> intro hc
 rotate_left
 case' _ =>(
 refine zW ?_)
 rotate_right
 case' _ =>(
 iterate 5 refine zW ?_)
 all_goals (
 iterate 11 refine zW ?_
 exact jat (.cell rfl jbq rfl rfl .nil) jaY (jgR (jaW ht17) hr14))))))
 ·(
 iterate 9 refine zW ?_
 refine jac zRc (jaz _ _ _ _ (by omega)) jan rfl rfl ?_; rintro _ _ ⟨r91, a91, rfl, hr91, rfl⟩
 iterate 10 refine zW ?_
 refine jac zRc (jaz _ _ _ _ (by omega)) jan rfl rfl ?_; rintro _ _ ⟨r97, a97, rfl, hr97, rfl⟩
 refine xB (jbM (jaW ht17)) ?_; rintro _ _ ⟨c100, rfl, rfl⟩
 refine xC ?_ ?_ <;> intro hc
 rotate_left
 case' _ =>(
 refine zW ?_)
 rotate_right
 case' _ =>(
 iterate 4 refine zW ?_)
 all_goals (
 refine xB (jbM (jaW ht17)) ?_; rintro _ _ ⟨c104, rfl, rfl⟩
 refine xC ?_ ?_ <;> intro hc
 rotate_left
 case' _ =>(
 refine zW ?_)
 rotate_right
 case' _ =>(
 iterate 4 refine zW ?_)
 all_goals (
 refine xB (jbM (jaW ht17)) ?_; rintro _ _ ⟨c108, rfl, rfl⟩
 refine xC ?_ ?_ <;> intro hc
 rotate_left
 case' _ =>(
 refine zW ?_)
 rotate_right
 case' _ =>(
 iterate 5 refine zW ?_)
 all_goals (
 iterate 11 refine zW ?_
 exact jat (.cell rfl jbq rfl rfl .nil) jaY (jgR (jaW ht17) hr14)))))))
 ·(
 iterate 13 refine zW ?_
 refine jac zRc (jaG _ _ _ _ _ (by omega)) jan rfl rfl ?_; rintro _ _ ⟨r69, a69, rfl, hr69, rfl⟩
 iterate 12 refine zW ?_
 refine jac zRc (jaz _ _ _ _ (by omega)) jan rfl rfl ?_; rintro _ _ ⟨r75, a75, rfl, hr75, rfl⟩
 refine xC ?_ ?_ <;> intro hc
 ·(
 refine xB (jeN _ _ _) ?_; rintro _ _ ⟨x78, a78, rfl, hx78, rfl⟩
 iterate 7 refine zW ?_
 refine jac zRc (jaz _ _ _ _ (by omega)) jan rfl rfl ?_; rintro _ _ ⟨r81, a81, rfl, hr81, rfl⟩
 refine xC ?_ ?_ <;> intro hc
 rotate_left
 case' _ =>(
 refine zW ?_)
 rotate_right
 case' _ =>(
 refine xB (jeN _ _ _) ?_; rintro _ _ ⟨x84, a84, rfl, hx84, rfl⟩
 iterate 3 refine zW ?_)
 all_goals (
 iterate 8 refine zW ?_
 refine jac zRc (jaz _ _ _ _ (by omega)) jan rfl rfl ?_; rintro _ _ ⟨r91, a91, rfl, hr91, rfl⟩
 iterate 10 refine zW ?_
 refine jac zRc (jaz _ _ _ _ (by omega)) jan rfl rfl ?_; rintro _ _ ⟨r97, a97, rfl, hr97, rfl⟩
 refine xB (jbM (jaW ht17)) ?_; rintro _ _ ⟨c100, rfl, rfl⟩
 refine xC ?_ ?_ <;> intro hc
 rotate_left
 case' _ =>(
 refine zW ?_)
 rotate_right
 case' _ =>(
 iterate 4 refine zW ?_)
 all_goals (
 refine xB (jbM (jaW ht17)) ?_; rintro _ _ ⟨c104, rfl, rfl⟩
 refine xC ?_ ?_ <;> intro hc
 rotate_left
 case' _ =>(
 refine zW ?_)
 rotate_right
 case' _ =>(
 iterate 4 refine zW ?_)
 all_goals (
 refine xB (jbM (jaW ht17)) ?_; rintro _ _ ⟨c108, rfl, rfl⟩
 refine xC ?_ ?_ <;> intro hc
 rotate_left
 case' _ =>(
 refine zW ?_)
 rotate_right
 case' _ =>(
 iterate 5 refine zW ?_)
 all_goals (
 iterate 11 refine zW ?_
 exact jat (.cell rfl jbq rfl rfl .nil) jaY (jgR (jaW ht17) hr14))))))
 ·(
 iterate 9 refine zW ?_
 refine jac zRc (jaz _ _ _ _ (by omega)) jan rfl rfl ?_; rintro _ _ ⟨r91, a91, rfl, hr91, rfl⟩
 iterate 10 refine zW ?_
 refine jac zRc (jaz _ _ _ _ (by omega)) jan rfl rfl ?_; rintro _ _ ⟨r97, a97, rfl, hr97, rfl⟩
 refine xB (jbM (jaW ht17)) ?_; rintro _ _ ⟨c100, rfl, rfl⟩
 refine xC ?_ ?_ <;> intro hc
 rotate_left
 case' _ =>(
 refine zW ?_)
 rotate_right
 case' _ =>(
 iterate 4 refine zW ?_)
 all_goals (
 refine xB (jbM (jaW ht17)) ?_; rintro _ _ ⟨c104, rfl, rfl⟩
 refine xC ?_ ?_ <;> intro hc
 rotate_left
 case' _ =>(
 refine zW ?_)
 rotate_right
 case' _ =>(
 iterate 4 refine zW ?_)
 all_goals (
 refine xB (jbM (jaW ht17)) ?_; rintro _ _ ⟨c108, rfl, rfl⟩
 refine xC ?_ ?_ <;> intro hc
 rotate_left
 case' _ =>(
 refine zW ?_)
 rotate_right
 case' _ =>(
 iterate 5 refine zW ?_)
 all_goals (
 iterate 11 refine zW ?_
 exact jat (.cell rfl jbq rfl rfl .nil) jaY (jgR (jaW ht17) hr14)))))))
theorem jnT (b : Nat) (l : List Int) (a n ill : Nat) (hn : 1 ≤ n ∧ n ≤ 4) (hi : ill < 1024) : Con none Tryz.prog 99 [.p b 0, .i n, .i ill] [.box b 97 [.sl 1 (l.map .i), .i ((a : Nat) : Int)]] (fun d H => ∃ (s : Sp) (a' : Nat), d = spv s ∧ SB s ∧ H = [.box b 97 [.sl 1 (l.map .i), .i ((a' : Nat) : Int)]]) := by
 refine xI Tryz.func99 Tryz.call99 fun hcap => ?_
 have hpn : 2 ≤ 2 ^ n ∧ 2 ^ n ≤ 16 := by rcases (show n = 1 ∨ n = 2 ∨ n = 3 ∨ n = 4 by omega) with h | h | h | h <;> rw [h] <;> decide
 refine xL fun b6 => ?_
 iterate 6 refine zW ?_
 refine jac zRc (jaz _ _ _ _ (by omega)) jan rfl rfl ?_; rintro _ _ ⟨r11, a11, rfl, hr11, rfl⟩; obtain ⟨nd, rfl⟩ := qw hr11.1
 iterate 7 refine zW ?_
 refine jac zRc (jaz _ _ _ _ (by omega)) jan rfl rfl ?_; rintro _ _ ⟨r13, a13, rfl, hr13, rfl⟩
 refine xC ?_ ?_ <;> intro hc
 ·(
 iterate 4 refine zW ?_
 refine jac zRc (jaG _ _ _ _ _ (by omega)) jan rfl rfl ?_; rintro _ _ ⟨r18, a18, rfl, hr18, rfl⟩
 refine xB (jcj _ _ _) ?_; rintro _ _ ⟨v20, a20, rfl, hv20, rfl⟩
 refine zP (AP.up (jag zKr rfl zRc jav) (d' := spv ⟨1, (nd : Int), 0, r18, 0, v20, Trust.none, zLtr, []⟩) xUp) ?_
 iterate 6 refine zW ?_
 exact jat (.cell rfl jbq rfl rfl .nil) jaY ⟨⟨1, (nd : Int), 0, r18, 0, v20, Trust.none, zLtr, []⟩, _, rfl, sb0, rfl⟩)
 ·(
 refine xC ?_ ?_ <;> intro hc
 rotate_left
 case' _ =>(
 iterate 4 refine zW ?_)
 rotate_right
 case' _ =>(
 refine zW ?_)
 all_goals (
 refine xC ?_ ?_ <;> intro hc
 ·(
 refine xB (jcj _ _ _) ?_; rintro _ _ ⟨v27, a27, rfl, hv27, rfl⟩
 refine zP (AP.up (jag zKr rfl zRc jav) (d' := spv ⟨8, (nd : Int), 0, 1, 0, v27, Trust.none, zLtr, []⟩) xUp) ?_
 iterate 6 refine zW ?_
 exact jat (.cell rfl jbq rfl rfl .nil) jaY ⟨⟨8, (nd : Int), 0, 1, 0, v27, Trust.none, zLtr, []⟩, _, rfl, sb0, rfl⟩)
 ·(
 refine xC ?_ ?_ <;> intro hc
 ·(
 iterate 4 refine zW ?_
 refine jac zRc (jaz _ _ _ _ (by omega)) jan rfl rfl ?_; rintro _ _ ⟨r32, a32, rfl, hr32, rfl⟩
 refine xC ?_ ?_ <;> intro hc
 ·(
 iterate 4 refine zW ?_
 refine zP (jbN rfl rfl rfl (by omega)) ?_
 refine zP (ja9 (p := 1) rfl rfl rfl (by omega) (by omega)) ?_
 refine zW ?_
 refine jac zRc (jaz _ _ _ _ (by omega)) jan rfl rfl ?_; rintro _ _ ⟨r39, a39, rfl, hr39, rfl⟩
 refine zW ?_
 refine xLt 3 1 8 ?_
 refine zP (AP.up (jag zKr rfl zRc jav) (d' := spv ⟨6, 0, 0, 0, 0, noS, Trust.none, zLtr, [1 + r39]⟩) xUp) ?_
 iterate 7 refine zW ?_
 exact jat (.cell rfl jbq rfl rfl .nil) jaY ⟨⟨6, 0, 0, 0, 0, noS, Trust.none, zLtr, [1 + r39]⟩, _, rfl, sb0, rfl⟩)
 ·(
 iterate 4 refine zW ?_
 refine zP (AP.up (jag zKr rfl zRc jav) (d' := spv ⟨6, 0, 0, 0, 0, noS, Trust.none, zLtr, []⟩) xUp) ?_
 iterate 6 refine zW ?_
 exact jat (.cell rfl jbq rfl rfl .nil) jaY ⟨⟨6, 0, 0, 0, 0, noS, Trust.none, zLtr, []⟩, _, rfl, sb0, rfl⟩))
 ·(
 refine xC ?_ ?_ <;> intro hc
 ·(
 iterate 5 refine zW ?_
 refine jac zRc (jaz _ _ _ _ (by omega)) jan rfl rfl ?_; rintro _ _ ⟨r49, a49, rfl, hr49, rfl⟩
 refine zW ?_
 refine jac zRc (jaz _ _ _ _ (by omega)) jan rfl rfl ?_; rintro _ _ ⟨r51, a51, rfl, hr51, rfl⟩
 refine zP (AP.up (jag zKr rfl zRc jav) (d' := spv ⟨7, (nd : Int), r49, 0, r51, noS, Trust.none, zLtr, []⟩) xUp) ?_
 iterate 6 refine zW ?_
 exact jat (.cell rfl jbq rfl rfl .nil) jaY ⟨⟨7, (nd : Int), r49, 0, r51, noS, Trust.none, zLtr, []⟩, _, rfl, sb0, rfl⟩)
 ·(
 refine xC ?_ ?_ <;> intro hc
 ·(
 iterate 4 refine zW ?_
 refine jac zRc (jaz _ _ _ _ (by omega)) jan rfl rfl ?_; rintro _ _ ⟨r56, a56, rfl, hr56, rfl⟩
 refine xC ?_ ?_ <;> intro hc
 ·(
 iterate 3 refine zW ?_
 refine zP (AP.up (jag zKr rfl zRc jav) (d' := spv ⟨4, (nd : Int), 0, 0, 0, noS, Trust.none, zLtr, []⟩) xUp) ?_
 iterate 7 refine zW ?_
 exact jat (.cell rfl jbq rfl rfl .nil) jaY ⟨⟨4, (nd : Int), 0, 0, 0, noS, Trust.none, zLtr, []⟩, _, rfl, sb0, rfl⟩)
 ·(
 iterate 5 refine zW ?_
 refine jac zRc (jaG _ _ _ _ _ (by omega)) jan rfl rfl ?_; rintro _ _ ⟨r61, a61, rfl, hr61, rfl⟩
 refine zP (AP.up (jag zKr rfl zRc jav) (d' := spv ⟨2, 0, 0, 0, r61, noS, Trust.none, zLtr, []⟩) xUp) ?_
 iterate 6 refine zW ?_
 exact jat (.cell rfl jbq rfl rfl .nil) jaY ⟨⟨2, 0, 0, 0, r61, noS, Trust.none, zLtr, []⟩, _, rfl, sb0, rfl⟩))
 ·(
 refine xC ?_ ?_ <;> intro hc
 ·(
 iterate 2 refine zW ?_
 have hdiv : ill / 2 ^ nd < 9223372036854775808 := Nat.lt_of_le_of_lt (Nat.div_le_self _ _) (by omega)
 iterate 3 refine zW ?_
 refine zP (jbN rfl rfl rfl (by omega)) ?_
 refine zP (jcR rfl rfl (by omega)) ?_
 refine zP (jbL (q := 1) rfl rfl rfl (by omega) (by omega)) ?_
 refine xC ?_ ?_ <;> intro hc
 ·(
 iterate 5 refine zW ?_
 refine jac zRc (jrS _ _ _ _ _ _ (by omega)) jan rfl rfl ?_; rintro _ _ ⟨x74, a74, rfl, hx74, rfl⟩
 refine zAl fun b8 => ?_
 iterate 4 refine zW ?_
 refine zDr [.box b8 _ _, .box b _ _] ?_
 refine zT 0 ?_; refine zT 2 ?_
 refine zE2 1 3 ?_ ?_
 rotate_left
 case' _ =>(
 refine jac zRc (jaz _ _ _ _ (by omega)) jan rfl rfl ?_; rintro _ _ ⟨r78, a78, rfl, hr78, rfl⟩
 refine zW ?_
 refine zOn 1 ?_
 iterate 2 refine zW ?_
 refine zT 4 ?_; refine zT 5 ?_; refine zOn 6 ?_
 iterate 3 refine zW ?_)
 rotate_right
 case' _ =>(
 iterate 2 refine zW ?_
 refine zOn 3 ?_
 refine jac zRc (jaz _ _ _ _ (by omega)) jan rfl rfl ?_; rintro _ _ ⟨r78, a78, rfl, hr78, rfl⟩
 refine zW ?_
 refine zT 4 ?_; refine zT 5 ?_; refine zOn 6 ?_
 iterate 3 refine zW ?_)
 all_goals (
 iterate 2 refine zW ?_
 refine zDr [.box b _ _, .box b6 _ _] ?_
 refine zT 0 ?_; refine zT 1 ?_; refine zT 2 ?_; refine zT 4 ?_
 refine jar 5 rfl zGd zKr zKr zKr (AP.ar (AP.up (jag zKr rfl zRc jav) (d' := ltv ⟨2, 1, zNmn, { x74 with seq := x74.seq + r78 }⟩) xUp)) rfl rfl ?_
 refine zOn 3 ?_
 refine jac zRc (jaz _ _ _ _ (by omega)) jan rfl rfl ?_; rintro _ _ ⟨r84, a84, rfl, hr84, rfl⟩
 refine zW ?_
 refine jar 6 rfl zGd zKr zKr zKr (AP.ar (AP.up (jag zKr rfl zRc jav) (d' := spv ⟨5, (nd : Int), r84, 0, 0, noS, Trust.none, ⟨2, 1, zNmn, { x74 with seq := x74.seq + r78 }⟩, []⟩) xUp)) rfl rfl ?_
 refine zOn 7 ?_
 iterate 3 refine zW ?_
 all_goals (
 iterate 5 refine zW ?_
 exact jat (.cell rfl jbq rfl rfl .nil) jaY ⟨⟨5, (nd : Int), r84, 0, 0, noS, Trust.none, ⟨2, 1, zNmn, { x74 with seq := x74.seq + r78 }⟩, []⟩, _, rfl, sb1 hx74.1, rfl⟩)))
 ·(
 iterate 5 refine zW ?_
 refine jac zRc (jaz _ _ _ _ (by omega)) jan rfl rfl ?_; rintro _ _ ⟨r89, a89, rfl, hr89, rfl⟩
 refine xC ?_ ?_ <;> intro hc
 ·(
 iterate 5 refine zW ?_
 refine jac zRc (jee _ _ _ (by omega) _) jan rfl rfl ?_; rintro _ _ ⟨t94, a94, rfl, ht94, rfl⟩
 refine zP (AP.up (jag zKr rfl zRc jav) (d' := spv ⟨3, (nd : Int), 0, 0, 0, noS, t94, zLtr, []⟩) xUp) ?_
 iterate 6 refine zW ?_
 exact jat (.cell rfl jbq rfl rfl .nil) jaY ⟨⟨3, (nd : Int), 0, 0, 0, noS, t94, zLtr, []⟩, _, rfl, sb0, rfl⟩)
 ·(
 iterate 6 refine zW ?_
 refine jac zRc (jaG _ _ _ _ _ (by omega)) jan rfl rfl ?_; rintro _ _ ⟨r112, a112, rfl, hr112, rfl⟩
 refine zP (AP.up (jag zKr rfl zRc jav) (d' := spv ⟨2, 0, 0, 0, r112, noS, Trust.none, zLtr, []⟩) xUp) ?_
 iterate 4 refine zW ?_
 exact jat (.cell rfl jbq rfl rfl .nil) jaY ⟨⟨2, 0, 0, 0, r112, noS, Trust.none, zLtr, []⟩, _, rfl, sb0, rfl⟩)))
 ·(
 refine xC ?_ ?_ <;> intro hc
 ·(
 refine zW ?_
 have hdiv : ill / 2 ^ nd < 9223372036854775808 := Nat.lt_of_le_of_lt (Nat.div_le_self _ _) (by omega)
 iterate 3 refine zW ?_
 refine zP (jbN rfl rfl rfl (by omega)) ?_
 refine zP (jcR rfl rfl (by omega)) ?_
 refine zP (jbL (q := 1) rfl rfl rfl (by omega) (by omega)) ?_
 refine xC ?_ ?_ <;> intro hc
 ·(
 iterate 5 refine zW ?_
 refine jac zRc (jaz _ _ _ _ (by omega)) jan rfl rfl ?_; rintro _ _ ⟨r107, a107, rfl, hr107, rfl⟩
 refine xB (jcj _ _ _) ?_; rintro _ _ ⟨v109, a109, rfl, hv109, rfl⟩
 refine xA ((jrY (nd : Int) r107 1 v109).main) ?_
 iterate 6 refine zW ?_
 exact jat (.cell rfl jbq rfl rfl .nil) jaY ⟨⟨5, (nd : Int), r107, 0, 0, noS, Trust.none, ⟨2, 1, zNmn, ⟨(nd : Int), 1, 1, .mk 1 [(nd : Int)] [], 3, ⟨1, v109⟩, Bal.none, Bal.none, 1, 1⟩⟩, []⟩, _, rfl, sb1 (by simp [sizeT, Trust.nodes, Trust.inner, sizeL, size0]), rfl⟩)
 ·(
 iterate 6 refine zW ?_
 refine jac zRc (jaG _ _ _ _ _ (by omega)) jan rfl rfl ?_; rintro _ _ ⟨r112, a112, rfl, hr112, rfl⟩
 refine zP (AP.up (jag zKr rfl zRc jav) (d' := spv ⟨2, 0, 0, 0, r112, noS, Trust.none, zLtr, []⟩) xUp) ?_
 iterate 4 refine zW ?_
 exact jat (.cell rfl jbq rfl rfl .nil) jaY ⟨⟨2, 0, 0, 0, r112, noS, Trust.none, zLtr, []⟩, _, rfl, sb0, rfl⟩))
 ·(
 iterate 6 refine zW ?_
 refine jac zRc (jaG _ _ _ _ _ (by omega)) jan rfl rfl ?_; rintro _ _ ⟨r112, a112, rfl, hr112, rfl⟩
 refine zP (AP.up (jag zKr rfl zRc jav) (d' := spv ⟨2, 0, 0, 0, r112, noS, Trust.none, zLtr, []⟩) xUp) ?_
 iterate 4 refine zW ?_
 exact jat (.cell rfl jbq rfl rfl .nil) jaY ⟨⟨2, 0, 0, 0, r112, noS, Trust.none, zLtr, []⟩, _, rfl, sb0, rfl⟩))))))))
theorem jvOx {s0 s1 : Str} (h : (1 ≤ s0.size ∧ s0.size ≤ 200) ∧ (1 ≤ s1.size ∧ s1.size ≤ 200)) (hj : j < 2) : ∃ v : Str, ([.v (.string s0), .v (.string s1)] : List D)[j]? = some (.v (.string v)) ∧ 1 ≤ v.size ∧ v.size ≤ 200 := by
 match j, hj with
 | 0, _ => exact ⟨s0, rfl, h.1⟩
 | 1, _ => exact ⟨s1, rfl, h.2⟩
theorem jpN (q : List Sp) (x : Sp) : (q ++ [x]).map spv = q.map spv ++ [spv x] := by rw [List.map_append]; rfl
theorem jpW {q : List Sp} {x : Sp} (h : ∀ s ∈ q, SB s) (hx : SB x) : ∀ s ∈ q ++ [x], SB s := fun s hs => by
 rcases List.mem_append.1 hs with hs | hs
 ·exact h s hs
 ·rw [List.mem_singleton.1 hs]; exact hx
theorem jvX {q p : List Sp} (h : ∀ s ∈ q, SB s) (hx : ∀ s ∈ p, SB s) : ∀ s ∈ q ++ p, SB s := fun s hs => (List.mem_append.1 hs).elim (h s) (hx s)
theorem jqy (c : List Mem) (hok : OKA c) (n : Nat) (hn : n < 2 ^ c.length) : C0 11 [cv c, .i n] (.tup [.i ((pairC c n).1 : Nat), .i ((pairC c n).2.1 : Nat), .b (pairC c n).2.2]) := by
 have h := jnM c hok.lt n
 rwa [jk3 (jmg hok hn)] at h
theorem jqT (w : Wld) (hW : WI w) (h : divV w 1023 = []) : C0 16 [wv w] (.sl 3 []) := by
 have := jhx w hW
 rwa [h] at this
theorem jmJ (b : Nat) (l : List Int) (a : Nat) (s0 s1 : Str) (h : (1 ≤ s0.size ∧ s0.size ≤ 200) ∧ (1 ≤ s1.size ∧ s1.size ≤ 200)) : Con none Tryz.prog 50 [.p b 0, .sl 1 [.v (.string s0), .v (.string s1)]] [.box b 97 [.sl 1 (l.map .i), .i ((a : Nat) : Int)]] (fun d H => ∃ (v : Str) (a' : Nat), d = .v (.string v) ∧ (1 ≤ v.size ∧ v.size ≤ 200) ∧ H = [.box b 97 [.sl 1 (l.map .i), .i ((a' : Nat) : Int)]]) := by
 refine xI Tryz.func50 Tryz.call50 fun hcap => ?_
 refine xN fun _ => ?_
 refine jac zRc (jaz _ _ _ 2 (by omega)) jan rfl rfl ?_; rintro _ _ ⟨r9, a9, rfl, hr9, rfl⟩
 obtain ⟨j, rfl⟩ := qw hr9.1; obtain ⟨v, hx', hv⟩ := jvOx h (j := j) (by omega); refine zP (jao (k := j) rfl rfl rfl rfl (by decide) rfl hx') ?_
 iterate 5 refine zW ?_
 refine jat (.tmp rfl .nil) jaY ⟨_, _, rfl, hv, rfl⟩
theorem jnq (b : Nat) (l : List Int) (a n ill most : Nat) (hn : 1 ≤ n ∧ n ≤ 4) (hi : ill < 1024) (hm : most ≤ 100) : Con none Tryz.prog 51 [.p b 0, .i n, .i ill, .i most] [.box b 97 [.sl 1 (l.map .i), .i ((a : Nat) : Int)]] (fun d H => ∃ (q : List Sp) (a' : Nat), d = .sl 34 (q.map spv) ∧ ((∀ s ∈ q, SB s) ∧ q.length ≤ most) ∧ H = [.box b 97 [.sl 1 (l.map .i), .i ((a' : Nat) : Int)]]) := by
 refine xI Tryz.func51 Tryz.call51 fun hcap => ?_
 iterate 16 refine zW ?_
 refine jac zRc (jaz _ _ _ _ (by omega)) jan rfl rfl ?_; rintro _ _ ⟨r14, a14, rfl, hr14, rfl⟩; obtain ⟨k0, rfl⟩ := qw hr14.1
 iterate 4 refine zW ?_
 refine jbe [0, 1, 2] [] (fun (k : Nat) (v : Value) (q : List Sp) (a : Nat) r => (9, .v v) :: (10, .i (k : Int)) :: r) (fun k v q a r => .arr v 59 34 (q.map spv) :: .box b 97 [.sl 1 (l.map .i), .i ((a : Nat) : Int)] :: r) (fun k v q a => q.length + k ≤ most ∧ (∀ s ∈ q, SB s)) (fun k v q a => k) (k0) (.slice none 0 0) ([]) (a14) zRc ⟨by simp; omega, by simp⟩ ((jaM 59 34 rfl).trans (zWk)) ?_
 intro k v q a ⟨hk, hq⟩
 have hml : (q.map spv).length = q.length := by simp
 refine xC ?_ ?_ <;> intro hc
 ·(
 have hlt := qc hc
 refine xB (jnT _ _ _ n ill hn hi) ?_; rintro _ _ ⟨s23, a23, rfl, hs23, rfl⟩
 refine xLt 59 34 448 ?_
 refine xEa 59 34 448 (hb := by simp only [qi, qs]; omega) fun v25 hv25 => ?_
 iterate 6 refine zW ?_
 refine zP (ji0 (jbQ rfl rfl rfl (by omega)) (congrArg D.i (show ((k : Nat) : Int) - 1 = ((k - 1 : Nat) : Int) by omega))) ?_
 iterate 3 refine zW ?_
 refine ⟨k - 1, v25, q ++ [s23], a23, ⟨by simp; omega, jpW hq hs23⟩, by omega, ?_⟩
 rw [jpN]; exact zWk)
 ·(
 have hge := qd hc
 iterate 11 refine zW ?_
 refine zFz v [8] ?_
 refine zW ?_
 refine jat (.tmp rfl .nil) jaY ⟨q, _, rfl, ⟨hq, by omega⟩, rfl⟩)
theorem jno (b : Nat) (l : List Int) (a n ill most : Nat) (hn : 1 ≤ n ∧ n ≤ 4) (hi : ill < 1024) (hm : most ≤ 100) : Con none Tryz.prog 14 [.p b 0, .i n, .i ill, .i most] [.box b 97 [.sl 1 (l.map .i), .i ((a : Nat) : Int)]] (fun d H => ∃ (q : List Sp) (a' : Nat), d = .sl 34 (q.map spv) ∧ (∀ s ∈ q, SB s) ∧ H = [.box b 97 [.sl 1 (l.map .i), .i ((a' : Nat) : Int)]]) := by
 refine xI Tryz.func14 Tryz.call14 fun hcap => ?_
 iterate 17 refine zW ?_
 refine jbe [0, 1, 2, 3] [] (fun (i : Nat) (v : Value) (q : List Sp) (a : Nat) r => (9, .v v) :: (10, .i (i : Int)) :: r) (fun i v q a r => .arr v 59 34 (q.map spv) :: .box b 97 [.sl 1 (l.map .i), .i ((a : Nat) : Int)] :: r) (fun i v q a => i ≤ n ∧ q.length ≤ i ∧ (∀ s ∈ q, SB s)) (fun i v q a => n - i) (0) (.slice none 0 0) ([]) (a) zRc ⟨by omega, by simp, by simp⟩ ((jaM 59 34 rfl).trans (zWk)) ?_
 intro i v q a ⟨hk, hql, hq⟩
 have hml : (q.map spv).length = q.length := by simp
 refine xC ?_ ?_ <;> intro hc
 ·(
 have hlt := qc hc
 iterate 5 refine zW ?_
 have hdiv : ill / 2 ^ i < 9223372036854775808 := Nat.lt_of_le_of_lt (Nat.div_le_self _ _) (by omega)
 iterate 3 refine zW ?_
 refine zP (jbN rfl rfl rfl (by omega)) ?_
 refine zP (jcR rfl rfl (by omega)) ?_
 refine zP (jbL (q := 1) rfl rfl rfl (by omega) (by omega)) ?_
 refine xC ?_ ?_ <;> intro hc
 ·(
 have mk21t : True := trivial
 iterate 4 refine zW ?_
 refine xLt 9 1 16 ?_
 refine jac zRc (jmJ _ _ _ _ _ (by decide)) jan rfl rfl ?_; rintro _ _ ⟨v26, a26, rfl, hv26, rfl⟩
 refine zP (AP.up (jag zKr rfl zRc jav) (d' := spv ⟨8, (i : Int), 0, 1, 0, v26, Trust.none, zLtr, []⟩) xUp) ?_
 refine xLt 59 34 448 ?_
 refine xEa 59 34 448 (hb := by simp only [qi, qs, qo, qv] at *; omega) fun v29 hv29 => ?_
 iterate 10 refine zW ?_
 refine ⟨i + 1, v29, q ++ [⟨8, (i : Int), 0, 1, 0, v26, Trust.none, zLtr, []⟩], a26, ⟨by omega, by simp; omega, jpW hq sb0⟩, by omega, ?_⟩; rw [jpN]; exact zWk)
 ·(
 have mk21f : True := trivial
 iterate 9 refine zW ?_
 exact ⟨i + 1, v, q, a, ⟨by omega, by omega, hq⟩, by omega, zWk⟩))
 ·(
 have hge := qd hc
 refine xB (jnq _ _ _ n ill most hn hi hm) ?_; rintro _ _ ⟨q2, a35, rfl, ⟨hq2, hq2l⟩, rfl⟩; have hml2 : (q2.map spv).length = q2.length := (by simp)
 refine xEa 59 34 448 (hb := by simp only [qi, qs, qo, qv] at *; omega) fun v36 hv36 => ?_
 iterate 3 refine zW ?_
 refine zFz v36 [8] ?_
 refine zW ?_
 refine jat (.tmp rfl .nil) jaY ⟨q ++ q2, _, by rw [List.map_append]; rfl, jvX hq hq2, rfl⟩)
theorem jjf {Ps : Value → World → Prop} (l : List Int) (k : Nat) (hk : k ≤ 255) : Con (some Ps) Tryz.prog 3 [.sl 1 (l.map .i), .v (.int .u8 k)] [] (Is (.b true) []) := by
 refine xI Tryz.func3 Tryz.call3 fun hcap => ?_
 refine xB ((jsf _).main) ?_; rintro _ _ ⟨b19, rfl, rfl⟩
 iterate 6 refine zW ?_
 refine jac zRc ((jaG _ _ _ 2 4 (by omega)).main) jan rfl rfl ?_; rintro _ _ ⟨r21, a21, rfl, hr21, rfl⟩; obtain ⟨n, rfl⟩ := qw (show 0 ≤ r21 by omega); have hn : 1 ≤ n ∧ n ≤ 4 := (by omega)
 refine xB ((jjU _ n _ hn _).main) ?_; rintro _ _ ⟨c, a24, rfl, ⟨hok, hcl⟩, rfl⟩; subst hcl; have hp := jsB hok.len
 refine zAl fun b7 => ?_
 iterate 6 refine zW ?_
 refine zP (jiH rfl rfl rfl (by omega)) ?_
 refine zW ?_
 refine zP (jbN rfl rfl rfl (by omega)) ?_
 refine zP (ja9 (p := 1) rfl rfl rfl (by omega) (by omega)) ?_
 refine zP (jtN rfl rfl (by omega)) ?_
 iterate 5 refine zW ?_
 obtain ⟨s, hse, hs⟩ := juQ k c.length
 rw [hse]
 refine xA ((jqy c hok s hs).main) ?_
 refine xC ?_ ?_ <;> intro hc
 ·(
 refine xA (jgq) ?_
 refine xP ?_; exact rfl)
 ·(
 have hp0 : (pairC c s).2.2 = false := by first | exact hc | simpa using hc
 refine xB ((jmE c ⟨by omega, hok.l10⟩ (fun m hm => by have := hok.size m hm; omega) hok.ok hok.decl (s : Int) ⟨by omega, by exact_mod_cast hs⟩).main) ?_; rintro _ _ ⟨rfl, rfl⟩; rw [show (⟨0, newPtcs c 0, (s : Int), zNtw, c.map (fun m => [m.t])⟩ : Wld) = startW c s from rfl]
 refine xL fun b12 => ?_
 iterate 11 refine zW ?_
 refine jaT rfl jhl ?_
 iterate 8 refine zW ?_
 refine jac zRc ((jno _ _ _ c.length s 14 hn (by omega) (by omega)).main) jan rfl rfl ?_; rintro _ _ ⟨q, a51, rfl, hq, rfl⟩; have hqm : (q.map spv).length = q.length := (by simp)
 refine zLn fun _ => ?_
 iterate 4 refine zW ?_
 refine jai [12, 51, 52] [] (fun (i : Nat) (c2 : Wld) r => (53, .i (i : Int)) :: r) (fun i c2 r => .box b12 40 [.i c2.time, .sl 6 (c2.nodes.map ptv), .i c2.ill, .sl 28 (c2.net.pcs.map pcv), .i c2.net.next, .sl 1 (c2.net.parts.map .i), .sl 1 (c2.net.dls.map .i), .sl 1 (c2.trs.map trv)] :: r) (fun i c2 => i ≤ q.length ∧ HS c s c2) (fun i c2 => q.length - i) (0) (startW c s) zRc ⟨by omega, jrz hok.l10 hok.decl hs (fun m hm => by have := hok.size m hm; omega)⟩ (zWk) ?_
 intro i c2 ⟨hi9, hS⟩
 refine xC ?_ ?_ <;> intro hc
 ·(
 have hlt := qc hc
 obtain ⟨x, hx, hd⟩ := jab (l := q) (k := i) (by omega)
 have hx' := jae spv hx
 have hxs := hq x (qg hx)
 refine xL fun b15 => ?_
 refine xC ?_ ?_ <;> intro hc
 ·(
 have h59 : x.kind = 3 := qc hc
 iterate 9 refine zW ?_
 exact ⟨i + 1, c2, ⟨by omega, hS⟩, by omega, zWk⟩)
 ·(
 have h59 : ¬ x.kind = 3 := qd hc
 refine xB ((jup c2 hS.wi x hxs h59).main) ?_; rintro _ _ ⟨rfl, rfl⟩; obtain ⟨r, hr⟩ : ∃ z9, z9 = doW c2 x := ⟨_, rfl⟩; rw [← hr]
 refine xL fun b16 => ?_
 refine xC ?_ ?_ <;> intro hc
 ·(
 have h67 : r.2 = 0 := qc hc
 iterate 11 refine zW ?_
 refine ⟨i + 1, r.1, ⟨by omega, hr ▸ jwu hS hxs (hr ▸ h67)⟩, by omega, zWk⟩)
 ·(
 have h67 : ¬ r.2 = 0 := qd hc
 iterate 8 refine zW ?_
 exact ⟨i + 1, c2, ⟨by omega, hS⟩, by omega, zWk⟩)))
 ·(
 have hge := qd hc
 refine xA ((jqT c2 hS.wi (juR hok.len hp0 hS)).main) ?_
 refine zLn fun _ => ?_
 iterate 2 refine zW ?_
 all_goals (refine zY ?_; refine jaa zRc (jgq) rfl rfl ?_)
 iterate 2 all_goals refine zW ?_
 all_goals (
 refine xP ?_; exact rfl)))
end Go.Proofs.YtgmpjpaekpefdaaGreat
