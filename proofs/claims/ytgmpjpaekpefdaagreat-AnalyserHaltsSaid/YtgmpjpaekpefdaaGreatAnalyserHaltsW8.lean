/- Walks: each says what one function of the program answers, for the arguments that its statement names. No condition beyond what each theorem says. -/
import Derived.Test.YtgmpjpaekpefdaaGreatAnalyserHaltsW7
import Derived.Test.YtgmpjpaekpefdaaGreatProg
import Derived.KernelRfl
import Derived.Tactics
import Derived.Tactics2
import Derived.StillTactics
set_option linter.unusedVariables false
set_option linter.unusedSimpArgs false
set_option maxRecDepth 4000
set_option maxHeartbeats 16000000
namespace Go.Proofs.YtgmpjpaekpefdaaGreat
open Go Go.Av Go.Tq
variable {c : List Mem} {s n k : Nat}
theorem jt0 (w : Wld) (hW : WI w) (s : Sp) (hs : SB s) (hk3 : ¬ s.kind = 3) : Con none Tryz.prog 15 [wv w, spv s] [] (Is (.tup [wv (doW w s).1, .i (doW w s).2]) []) := by
 refine xI Tryz.func15 Tryz.call15 fun hcap => ?_
 have hml : (w.nodes.map ptv).length = w.nodes.length := by simp
 have hwl := hW.len
 refine xX fun b2 => ?_
 refine zBx fun b3 => ?_
 refine zAl fun b4 => ?_
 refine xA (jeB w hW) ?_
 refine xC (fun hc => ?_) fun hc => ?_
 ·have h18 : checkW w = false := jau hc
  refine zW ?_; refine zW ?_
  refine zP (AP.up (jah zKr rfl zRc jav) (d' := wv zWld) xUp) ?_
  refine xP ?_
  unfold doW; rw [if_pos h18]; rfl
 ·have h18 : checkW w = true := jat hc
  iterate 9 refine zW ?_
  iterate 4 all_goals first | refine zW ?_ | refine xG (fun hg => ?_) fun hg => ?_
  all_goals (
   refine xC (fun hc => ?_) fun hc => ?_
   ·first
    | (exact absurd hc (by decide))
    | (have h27 : s.kind < 1 ∨ s.kind > 8 := by first | exact .inl (of_decide_eq_true hg) | exact .inr (of_decide_eq_true hc)
       refine zW ?_; refine zW ?_
       refine zP (AP.up (jah zKr rfl zRc jav) (d' := wv zWld) xUp) ?_
       refine xP ?_
       unfold doW; rw [if_neg (by rw [h18]; decide), if_pos h27]; rfl
     )
   ·first
    | (exact absurd hc (by decide))
    | (have h27 : ¬ (s.kind < 1 ∨ s.kind > 8) := by rintro (h | h); exact of_decide_eq_false hg h; exact of_decide_eq_false hc h
       iterate 9 refine zW ?_
       iterate 8 all_goals first | refine zW ?_ | refine xG (fun hg => ?_) fun hg => ?_
       all_goals first | (refine zY ?_; refine jaa zRc (jgy w s.node) rfl rfl ?_) | refine zSk ?_
       iterate 2 all_goals refine zW ?_
       all_goals (
        refine xC (fun hc => ?_) fun hc => ?_
        ·first
         | (exact absurd hc (by decide))
         | (have h43 : (¬ s.kind = 2 ∧ ¬ s.kind = 6) ∧ thereW w s.node = false := by first | (simp_all; done) | grind
            refine zW ?_; refine zW ?_
            refine zP (AP.up (jah zKr rfl zRc jav) (d' := wv zWld) xUp) ?_
            refine xP ?_
            unfold doW; rw [if_neg (by rw [h18]; decide), if_neg h27, if_pos h43]; rfl
          )
        ·first
         | (exact absurd hc (by decide))
         | (have h43 : ¬ ((¬ s.kind = 2 ∧ ¬ s.kind = 6) ∧ thereW w s.node = false) := by first | (simp_all; done) | grind
            refine xC (fun hc => ?_) fun hc => ?_
            ·have h47 : s.kind = 2 := of_decide_eq_true hc
             iterate 7 refine zW ?_
             iterate 4 all_goals first | refine zW ?_ | refine xG (fun hg => ?_) fun hg => ?_
             all_goals (
              refine xC (fun hc => ?_) fun hc => ?_
              ·first
               | (exact absurd hc (by decide))
               | (have h56 : s.count < 1 ∨ s.count > 200 := by first | exact .inl (of_decide_eq_true hg) | exact .inr (of_decide_eq_true hc)
                  refine zW ?_; refine zW ?_
                  refine zP (AP.up (jah zKr rfl zRc jav) (d' := wv zWld) xUp) ?_
                  refine xP ?_
                  unfold doW; rw [if_neg (by rw [h18]; decide), if_neg h27, if_neg h43, if_pos h47, if_pos h56]; rfl
                )
              ·first
               | (exact absurd hc (by decide))
               | (have h56 : ¬ (s.count < 1 ∨ s.count > 200) := by rintro (h | h); exact of_decide_eq_false hg h; exact of_decide_eq_false hc h
                  iterate 9 refine zW ?_
                  obtain ⟨cnt, hcnt⟩ : ∃ n : Nat, s.count = (n : Int) := ⟨s.count.toNat, by omega⟩
                  refine jag [2, 3, 4] [.box b3 _ _, .box b4 _ _] (fun (k : Nat) (c : Wld) r => (6, .i (k : Int)) :: r) (fun k c r => .box b2 40 [.i c.time, .sl 6 (c.nodes.map ptv), .i c.ill, .sl 28 (c.net.pcs.map pcv), .i c.net.next, .sl 1 (c.net.parts.map .i), .sl 1 (c.net.dls.map .i), .sl 1 (c.trs.map trv)] :: r) (fun k c => k ≤ cnt ∧ WI c ∧ ticksW (cnt - k) c = ticksW cnt w) (fun k c => cnt - k) (0) (w) zRc ⟨by omega, hW, by rw [Nat.sub_zero]⟩ (zWk) ?_
                  intro k c ⟨hk, hWc, hI⟩
                  refine xC (fun hc => ?_) fun hc => ?_
                  ·have hlt : k < cnt := by have := of_decide_eq_true hc; omega
                   refine xB (jjQ c hWc) ?_; rintro _ _ ⟨rfl, rfl⟩; obtain ⟨r, hr⟩ : ∃ z9, z9 = tickW c := ⟨_, rfl⟩; rw [← hr]
                   refine xL fun b7 => ?_
                   refine xC (fun hc => ?_) fun hc => ?_
                   ·have h70 : ¬ r.2 = 0 := jaf hc
                    rw [jk7 hlt, ← hr, if_pos h70] at hI
                    refine zW ?_; refine zW ?_
                    refine zP (AP.up (jah zKr rfl zRc jav) (d' := wv zWld) xUp) ?_
                    refine xP ?_
                    unfold doW; rw [if_neg (by rw [h18]; decide), if_neg h27, if_neg h43, if_pos h47, if_neg h56, show s.count.toNat = cnt by omega, ← hI]; rfl
                   ·have h70 : r.2 = 0 := jad hc
                    iterate 14 refine zW ?_
                    rw [jk7 hlt, ← hr, if_neg (fun h => h h70)] at hI
                    refine ⟨k + 1, r.1, ⟨by omega, hr ▸ jlU hWc (hr ▸ h70), hI⟩, by omega, zWk⟩
                  ·have hke : k = cnt := by have := of_decide_eq_false hc; omega
                   rw [hke, Nat.sub_self, ticksW] at hI
                   refine xP ?_
                   unfold doW; rw [if_neg (by rw [h18]; decide), if_neg h27, if_neg h43, if_pos h47, if_neg h56, show s.count.toNat = cnt by omega, ← hI]; rfl
                )
              )
            ·have h47 : ¬ s.kind = 2 := of_decide_eq_false hc
             refine xC (fun hc => ?_) fun hc => ?_
             ·have h75 : s.kind = 6 := of_decide_eq_true hc
              refine xB (jjR w.net hW.net s.parts) ?_; rintro _ _ ⟨rfl, rfl⟩; obtain ⟨r, hr⟩ : ∃ z9, z9 = partN w.net s.parts := ⟨_, rfl⟩; rw [← hr]
              refine xL fun b9 => ?_
              refine xC (fun hc => ?_) fun hc => ?_
              ·have h86 : ¬ r.2 = 0 := jaf hc
               refine zW ?_; refine zW ?_
               refine zP (AP.up (jah zKr rfl zRc jav) (d' := wv zWld) xUp) ?_
               refine xP ?_
               unfold doW; rw [if_neg (by rw [h18]; decide), if_neg h27, if_neg h43, if_neg h47, if_pos h75, ← hr, if_pos h86]; rfl
              ·have h86 : r.2 = 0 := jad hc
               refine xP ?_
               unfold doW; rw [if_neg (by rw [h18]; decide), if_neg h27, if_neg h43, if_neg h47, if_pos h75, ← hr, if_neg (fun h => h h86)]; rfl
             ·have h75 : ¬ s.kind = 6 := of_decide_eq_false hc
              have hnr := jnR hW (show thereW w s.node = true by cases hh : thereW w s.node; exact absurd ⟨⟨h47, h75⟩, hh⟩ h43; rfl)
              refine xC (fun hc => ?_) fun hc => ?_
              ·have h92 : s.kind = 7 := of_decide_eq_true hc
               refine xB (jiC w.net hW.net s.node s.to s.count) ?_; rintro _ _ ⟨rfl, rfl⟩; obtain ⟨r, hr⟩ : ∃ z9, z9 = delayN w.net s.node s.to s.count := ⟨_, rfl⟩; rw [← hr]
               refine xL fun b11 => ?_
               refine xC (fun hc => ?_) fun hc => ?_
               ·have h107 : ¬ r.2 = 0 := jaf hc
                refine zW ?_; refine zW ?_
                refine zP (AP.up (jah zKr rfl zRc jav) (d' := wv zWld) xUp) ?_
                refine xP ?_
                unfold doW; rw [if_neg (by rw [h18]; decide), if_neg h27, if_neg h43, if_neg h47, if_neg h75, if_pos h92, ← hr, if_pos h107]; rfl
               ·have h107 : r.2 = 0 := jad hc
                refine xP ?_
                unfold doW; rw [if_neg (by rw [h18]; decide), if_neg h27, if_neg h43, if_neg h47, if_neg h75, if_pos h92, ← hr, if_neg (fun h => h h107)]; rfl
              ·have h92 : ¬ s.kind = 7 := of_decide_eq_false hc
               refine xC (fun hc => ?_) fun hc => ?_
               ·have h113 : s.kind = 5 := of_decide_eq_true hc
                refine xA (jqg w hW s hs hnr.1) ?_
                refine xP ?_
                unfold doW; rw [if_neg (by rw [h18]; decide), if_neg h27, if_neg h43, if_neg h47, if_neg h75, if_neg h92, if_pos h113]; rfl
               ·have h113 : ¬ s.kind = 5 := of_decide_eq_false hc
                refine xA (jcb w s.node hnr.1 hW.ill) ?_
                refine xC (fun hc => ?_) fun hc => ?_
                ·have h123 : sickV w s.node = true := hc
                 refine zW ?_; refine zW ?_
                 refine zP (AP.up (jah zKr rfl zRc jav) (d' := wv zWld) xUp) ?_
                 refine xP ?_
                 unfold doW; rw [if_neg (by rw [h18]; decide), if_neg h27, if_neg h43, if_neg h47, if_neg h75, if_neg h92, if_neg h113]; rw [jh6 h123, jh6 h123, jh6 h123]; by_cases ha : s.kind = 1
                 ·rw [if_pos ha]; rfl
                 ·rw [if_neg ha, ite_self]; rfl
                ·have h123 : sickV w s.node = false := hc
                 obtain ⟨d, hdd, hd9⟩ := jjf hnr.1
                 obtain ⟨y, hy⟩ : ∃ y, w.nodes[d]? = some y := ⟨_, List.getElem?_eq_getElem (by omega)⟩
                 have hyP := (hW.nd d y hy).2
                 iterate 8 refine zW ?_
                 refine zP (jap (k := d) rfl rfl rfl rfl (by decide) hdd (jae ptv hy)) ?_
                 refine xL fun b13 => ?_
                 refine xL fun b14 => ?_
                 refine xC (fun hc => ?_) fun hc => ?_
                 ·have h138 : s.kind = 1 := of_decide_eq_true hc
                  have mk138t : True := trivial
                  refine xB (jmF y hyP s.slot s.val w.time) ?_; rintro _ _ ⟨rfl, rfl⟩; obtain ⟨r, hr⟩ : ∃ z9, z9 = beginP y s.slot s.val w.time := ⟨_, rfl⟩; rw [← hr]
                  refine xC (fun hc => ?_) fun hc => ?_
                  ·first
                   | (exact absurd hc (by decide))
                   | (have h169 : ¬ r.2 = 0 := jaf hc
                      refine zW ?_; refine zW ?_
                      refine zP (AP.up (jah zKr rfl zRc jav) (d' := wv zWld) xUp) ?_
                      refine xP ?_
                      unfold doW; rw [if_neg (by rw [h18]; decide), if_neg h27, if_neg h43, if_neg h47, if_neg h75, if_neg h92, if_neg h113, if_pos h138, jdI (f := fun p => beginP p s.slot s.val w.time) h123 hdd hy hr, if_pos h169]; rfl
                    )
                  ·first
                   | (exact absurd hc (by decide))
                   | (have h169 : r.2 = 0 := by first | exact jad hc | rw [hr]
                      have hrn : r.1.node = (d : Int) := by first | (have := mk138t; exact jcy hW hy (f := fun p => beginP p s.slot s.val w.time) (fun p hp e => jdC hp e) hr h169) | (have := mk151t; exact jcy hW hy (f := fun p => prefP p s.slot s.val w.time) (fun p hp e => jdM hp e) hr h169) | (have := mk164t; exact jcy hW hy (f := fun p => (stopP p, 0)) (fun p hp e => jeM hp) hr h169)
                      refine xA (jbW w r.1 d hrn (by omega) (by omega)) ?_
                      refine xP ?_
                      unfold doW; rw [if_neg (by rw [h18]; decide), if_neg h27, if_neg h43, if_neg h47, if_neg h75, if_neg h92, if_neg h113, if_pos h138, jdI (f := fun p => beginP p s.slot s.val w.time) h123 hdd hy hr, if_neg (fun h => h h169)]; rfl
                    )
                 ·have h138 : ¬ s.kind = 1 := of_decide_eq_false hc
                  refine xC (fun hc => ?_) fun hc => ?_
                  ·have h151 : s.kind = 8 := of_decide_eq_true hc
                   have mk151t : True := trivial
                   refine xB (jhN y hyP s.slot s.val w.time) ?_; rintro _ _ ⟨rfl, rfl⟩; obtain ⟨r, hr⟩ : ∃ z9, z9 = prefP y s.slot s.val w.time := ⟨_, rfl⟩; rw [← hr]
                   refine xC (fun hc => ?_) fun hc => ?_
                   ·first
                    | (exact absurd hc (by decide))
                    | (have h169 : ¬ r.2 = 0 := jaf hc
                       refine zW ?_; refine zW ?_
                       refine zP (AP.up (jah zKr rfl zRc jav) (d' := wv zWld) xUp) ?_
                       refine xP ?_
                       unfold doW; rw [if_neg (by rw [h18]; decide), if_neg h27, if_neg h43, if_neg h47, if_neg h75, if_neg h92, if_neg h113, if_neg h138, if_pos h151, jdI (f := fun p => prefP p s.slot s.val w.time) h123 hdd hy hr, if_pos h169]; rfl
                     )
                   ·first
                    | (exact absurd hc (by decide))
                    | (have h169 : r.2 = 0 := by first | exact jad hc | rw [hr]
                       have hrn : r.1.node = (d : Int) := by first | (have := mk138t; exact jcy hW hy (f := fun p => beginP p s.slot s.val w.time) (fun p hp e => jdC hp e) hr h169) | (have := mk151t; exact jcy hW hy (f := fun p => prefP p s.slot s.val w.time) (fun p hp e => jdM hp e) hr h169) | (have := mk164t; exact jcy hW hy (f := fun p => (stopP p, 0)) (fun p hp e => jeM hp) hr h169)
                       refine xA (jbW w r.1 d hrn (by omega) (by omega)) ?_
                       refine xP ?_
                       unfold doW; rw [if_neg (by rw [h18]; decide), if_neg h27, if_neg h43, if_neg h47, if_neg h75, if_neg h92, if_neg h113, if_neg h138, if_pos h151, jdI (f := fun p => prefP p s.slot s.val w.time) h123 hdd hy hr, if_neg (fun h => h h169)]; rfl
                     )
                  ·have h151 : ¬ s.kind = 8 := of_decide_eq_false hc
                   have h164 : s.kind = 4 := by omega
                   have mk164t : True := trivial
                   iterate 6 refine zW ?_
                   refine jbs rfl (decide_eq_true h164) ?_
                   refine xB (joU y hyP) ?_; rintro _ _ ⟨rfl, rfl⟩; obtain ⟨r, hr⟩ : ∃ z9 : Ptc × Int, z9 = (stopP y, 0) := ⟨_, rfl⟩; rw [show stopP y = r.1 by rw [hr]]
                   refine xC (fun hc => ?_) fun hc => ?_
                   ·exact absurd hc (by decide)
                   ·first
                    | (exact absurd hc (by decide))
                    | (have h169 : r.2 = 0 := by first | exact jad hc | rw [hr]
                       have hrn : r.1.node = (d : Int) := by first | (have := mk138t; exact jcy hW hy (f := fun p => beginP p s.slot s.val w.time) (fun p hp e => jdC hp e) hr h169) | (have := mk151t; exact jcy hW hy (f := fun p => prefP p s.slot s.val w.time) (fun p hp e => jdM hp e) hr h169) | (have := mk164t; exact jcy hW hy (f := fun p => (stopP p, 0)) (fun p hp e => jeM hp) hr h169)
                       refine xA (jbW w r.1 d hrn (by omega) (by omega)) ?_
                       refine xP ?_
                       unfold doW; rw [if_neg (by rw [h18]; decide), if_neg h27, if_neg h43, if_neg h47, if_neg h75, if_neg h92, if_neg h113, if_neg h138, if_neg h151, jdI (f := fun p => (stopP p, 0)) h123 hdd hy hr, if_neg (fun h => h h169)]; rfl
                     )
          )
        )
     )
   )
def otv (o : Otc) : D := .agg [.i o.node, .i o.slot, .v (.string o.val)]
theorem jp2 (q : List Otc) (x : Otc) : List.map otv q ++ [otv x] = (q ++ [x]).map otv := by rw [List.map_append]; rfl
theorem jri (c : List Mem) (hlen : 1 ≤ c.length ∧ c.length ≤ 10) (hs : ∀ m ∈ c, sizeT m.t ≤ 100000) (hv : validC c = 0) (hdc : ∀ m ∈ c, m.decl = true) (ill : Int) (hi : 0 ≤ ill ∧ ill < (2 ^ c.length : Nat)) (l : List Sp) (hl : ∀ s ∈ l, SB s ∧ ¬ s.kind = 3) : Con none Tryz.prog 19 [cv c, .i ill, .sl 34 (l.map spv)] [] (Is (.tup [wv (runV (startW c ill) l).1, .i ((runV (startW c ill) l).2.1 : Int), .i (runV (startW c ill) l).2.2]) []) := by
 refine xI Tryz.func19 Tryz.call19 fun hcap => ?_
 have hml : (l.map spv).length = l.length := by simp
 have hW0 := jfr hlen.2 hs hi
 refine xX fun b3 => ?_
 refine zAl fun b6 => ?_
 refine xB (jmZ c hlen hs hv hdc ill hi) ?_; rintro _ _ ⟨rfl, rfl⟩; rw [show (⟨0, newPtcs c 0, ill, zNtw, c.map (fun m => [m.t])⟩ : Wld) = startW c ill from rfl]
 refine xL fun b9 => ?_
 iterate 11 refine zW ?_
 refine jaF rfl jgr ?_
 refine xN fun _ => ?_
 refine xC (fun hc => ?_) fun hc => ?_
 ·have h27 : l.length > 300 := by have := of_decide_eq_true hc; omega
  refine xP ?_
  unfold runV; rw [if_pos h27]; rfl
 ·have h27 : ¬ l.length > 300 := by have := of_decide_eq_false hc; omega
  refine xN fun _ => ?_
  iterate 4 refine zW ?_
  refine jag [2, 6, 9, 29, 30] [.box b6 _ _] (fun (i : Nat) (c2 : Wld) r => (31, .i (i : Int)) :: r) (fun i c2 r => .box b9 40 [.i c2.time, .sl 6 (c2.nodes.map ptv), .i c2.ill, .sl 28 (c2.net.pcs.map pcv), .i c2.net.next, .sl 1 (c2.net.parts.map .i), .sl 1 (c2.net.dls.map .i), .sl 1 (c2.trs.map trv)] :: r) (fun i c2 => i ≤ l.length ∧ WI c2 ∧ runGo c2 (l.drop i) i = runGo (startW c ill) l 0) (fun i c2 => l.length - i) (0) (startW c ill) zRc ⟨by omega, hW0, rfl⟩ (zWk) ?_
  intro i c2 ⟨hi9, hWc, hI⟩
  refine xC (fun hc => ?_) fun hc => ?_
  ·have hlt := of_decide_eq_true hc
   obtain ⟨s, hx, hd⟩ := jab (l := l) (k := i) (by omega)
   have hx' := jae spv hx
   have hsl := hl s (List.mem_of_getElem? hx)
   refine xL fun b12 => ?_
   refine xB (jt0 c2 hWc s hsl.1 hsl.2) ?_; rintro _ _ ⟨rfl, rfl⟩; obtain ⟨r, hr⟩ : ∃ z9, z9 = doW c2 s := ⟨_, rfl⟩; rw [← hr]
   refine xL fun b13 => ?_
   refine xC (fun hc => ?_) fun hc => ?_
   ·have h43 : ¬ r.2 = 0 := jaf hc
    rw [hd, runGo, ← hr, if_pos h43] at hI
    refine xP ?_
    unfold runV; rw [if_neg h27, ← hI]; rfl
   ·have h43 : r.2 = 0 := jad hc
    iterate 13 refine zW ?_
    rw [hd, runGo, ← hr, if_neg (fun h => h h43)] at hI
    refine ⟨i + 1, r.1, ⟨by omega, hr ▸ jsy hWc hsl.1 (hr ▸ h43), hI⟩, by omega, zWk⟩
  ·have hge := of_decide_eq_false hc
   rw [jac (by omega), runGo] at hI
   refine xN fun _ => ?_
   refine xP ?_
   unfold runV; rw [if_neg h27, ← hI, hml, show i = l.length by omega]; rfl
theorem jhk (w : Wld) (hW : WI w) : Con none Tryz.prog 21 [wv w] [] (Is (.sl 3 ((outcomes w).map otv)) []) := by
 refine xI Tryz.func21 Tryz.call21 fun hcap => ?_
 have hml : (w.nodes.map ptv).length = w.nodes.length := by simp
 have hwl := hW.len
 refine xX fun b1 => ?_
 refine xA (jeB w hW) ?_
 refine xC (fun hc => ?_) fun hc => ?_
 ·have h12 : checkW w = false := jau hc
  iterate 5 refine zW ?_
  refine je1 71 3 rfl ?_
  refine zFz (.slice none 0 0) [2] ?_
  refine xP ?_
  unfold outcomes; rw [if_pos h12]; rfl
 ·have h12 : checkW w = true := jat hc
  refine xN fun _ => ?_
  iterate 4 refine zW ?_
  refine jaO [1, 14, 15] [.box b1 _ _] (fun (i : Nat) (v : Value) (q : List Otc) r => (3, .v v) :: (16, .i (i : Int)) :: r) (fun i v q r => .arr v 71 3 (q.map otv) :: r) (fun i v q => (i ≤ w.nodes.length ∧ q.length ≤ 20 * i) ∧ q ++ otcGo w (w.nodes.drop i) i = otcGo w w.nodes 0) (fun i v q => w.nodes.length - i) (0) (.slice none 0 0) ([]) zRc ⟨⟨by omega, by simp⟩, by simp⟩ ((jaM 71 3 rfl).trans (zWk)) ?_
  intro i v q ⟨⟨hi, hql⟩, hI⟩
  refine xC (fun hc => ?_) fun hc => ?_
  ·have hlt := of_decide_eq_true hc
   obtain ⟨y, hy, hd⟩ := jab (l := w.nodes) (k := i) (by omega)
   have hy' := jae ptv hy
   have hyP := hW.nd i y hy
   refine xL fun b5 => ?_
   refine xN fun _ => ?_
   iterate 4 refine zW ?_
   have hsm : (y.slots.map slv).length = y.slots.length := by simp
   have hsl20 := hyP.2.hl
   refine jaO [1, 4, 5, 14, 15, 16, 22, 23] [.box b1 _ _, .box b5 _ _] (fun (j : Nat) (v2 : Value) (q2 : List Otc) r => (3, .v v2) :: (24, .i (j : Int)) :: r) (fun j v2 q2 r => .arr v2 71 3 (q2.map otv) :: r) (fun j v2 q2 => (j ≤ y.slots.length ∧ q2.length ≤ 20 * i + j) ∧ q2 ++ (y.slots.drop j).flatMap (otcS w i y) = q ++ y.slots.flatMap (otcS w i y)) (fun j v2 q2 => y.slots.length - j) (0) (v) (q) zRc ⟨⟨by omega, by omega⟩, rfl⟩ (zWk) ?_
   intro j v2 q2 ⟨⟨hj, hql2⟩, hI2⟩
   have hqm : (q2.map otv).length = q2.length := by simp
   refine xC (fun hc => ?_) fun hc => ?_
   ·have hlt2 := of_decide_eq_true hc
    obtain ⟨s, hx, hd2⟩ := jab (l := y.slots) (k := j) (by omega)
    have hx' := jae slv hx
    refine xL fun b7 => ?_
    refine xB (jgd y hyP.2 s.mach.slot) ?_; rintro _ _ ⟨rfl, rfl⟩; obtain ⟨r, hr⟩ : ∃ z9, z9 = decidedP y s.mach.slot := ⟨_, rfl⟩; rw [← hr]
    iterate 11 refine zW ?_
    iterate 2 all_goals first | refine zW ?_ | refine xG (fun hg => ?_) fun hg => ?_
    all_goals first | (refine zY ?_; refine jaa zRc (jcb w (i : Int) (by omega) hW.ill) rfl rfl ?_) | refine zSk ?_
    iterate 2 all_goals refine zW ?_
    all_goals (
     refine xC (fun hc => ?_) fun hc => ?_
     ·first
      | (exact absurd hc (by decide))
      | (have h42 : (r.2 && !sickV w i) = true := by first | (simp_all; done) | grind
         have mk42t : True := trivial
         iterate 8 refine zW ?_
         refine xLt 71 3 32 ?_
         refine xEa 71 3 32 (hb := xLb) fun v51 hv51 => ?_
         iterate 9 refine zW ?_
         rw [hd2, List.flatMap_cons, ← List.append_assoc] at hI2
         rw [show otcS w i y s = [⟨(i : Int), s.mach.slot, r.1⟩] by unfold otcS; rw [← hr, if_pos h42]] at hI2; rw [show D.agg [.i (i : Int), .i s.mach.slot, .v (.string r.1)] = otv ⟨(i : Int), s.mach.slot, r.1⟩ from rfl, jp2]; refine ⟨j + 1, _, q2 ++ [⟨(i : Int), s.mach.slot, r.1⟩], ⟨⟨by omega, by simp; omega⟩, hI2⟩, by omega, zWk⟩
       )
     ·first
      | (exact absurd hc (by decide))
      | (have h42 : ¬ (r.2 && !sickV w i) = true := by first | (simp_all; done) | grind
         have mk42f : True := trivial
         iterate 8 refine zW ?_
         rw [hd2, List.flatMap_cons, ← List.append_assoc] at hI2
         first
         | (have := mk42t; rw [show otcS w i y s = [⟨(i : Int), s.mach.slot, r.1⟩] by unfold otcS; rw [← hr, if_pos h42]] at hI2; rw [show D.agg [.i (i : Int), .i s.mach.slot, .v (.string r.1)] = otv ⟨(i : Int), s.mach.slot, r.1⟩ from rfl, jp2]; refine ⟨j + 1, _, q2 ++ [⟨(i : Int), s.mach.slot, r.1⟩], ⟨⟨by omega, by simp; omega⟩, hI2⟩, by omega, zWk⟩)
         | (have := mk42f; rw [show otcS w i y s = [] by unfold otcS; rw [← hr, if_neg h42], List.append_nil] at hI2; refine ⟨j + 1, v2, q2, ⟨⟨by omega, by omega⟩, hI2⟩, by omega, zWk⟩)
       )
     )
   ·have hge2 := of_decide_eq_false hc
    rw [jac (by omega), List.flatMap_nil, List.append_nil] at hI2
    iterate 11 refine zW ?_
    rw [hd, otcGo, ← List.append_assoc, ← hI2] at hI
    refine ⟨i + 1, v2, q2, ⟨⟨by omega, by omega⟩, hI⟩, by omega, zWk⟩
  ·have hge := of_decide_eq_false hc
   rw [jac (by omega), otcGo, List.append_nil] at hI
   refine zFz v [3] ?_
   refine xP ?_
   unfold outcomes; rw [if_neg (by rw [h12]; decide), ← hI]; rfl
def stopS (k : Int) : Stp := ⟨4, k, 0, 0, 0, sE, 0, 0, 0, 0, 0, 0, [], 0, 0, sE, 0, 0, []⟩
theorem jvJ (k : Int) : Cv (.slice none 0 0) 1 [] (.agg [.i 4, .i k, .i 0, .i 0, .i 0, .v (.string sE), .i 0, .nil, .nil, .i 0, .i 0, .i 0, .i 0, .i 0, .nil, .nil, .nil, .nil, .i 0, .i 0, .i 0, .i 0, .nil, .nil, .i 0, .i 0, .v (.string sE), .i 0, .v (.string ⟨#[]⟩), .i 0, .v (.string ⟨#[]⟩), .i 0, .i 0, .nil]) (stv (stopS k)) := Cv.agg (by repeat (first | exact CvL.nil | apply CvL.cons (by first | exact Cv.same | exact Cv.nil)))
theorem jds {n : Nat} : ∀ (c : List Mem), memsV n c = 0 → ∀ m ∈ c, m.decl = true → validT m.t = 0
 | [], _, m, hm, _ => absurd hm List.not_mem_nil
 | x :: r, h, m, hm, hd => by
  simp only [memsV] at h
  by_cases h0 : memV x n = 0
  ·rw [if_pos h0] at h
   rcases List.mem_cons.1 hm with rfl | hm
   ·unfold memV at h0
    rw [if_pos hd] at h0
    split at h0
    ·assumption
    ·assumption
   ·exact jds r h m hm hd
  ·rw [if_neg h0] at h
   exact absurd h h0
theorem OKA.trusts (h : OKA c) : ∀ m ∈ c, validT m.t = 0 := fun m hm => by
 have h1 := h.ok
 unfold validC at h1
 rw [if_neg (by have := h.l10; omega)] at h1
 exact jds c h1 m hm (h.decl m hm)
theorem OKA.cfg (h : OKA c) (h1 : 1 ≤ c.length) : CfgOk c := ⟨⟨h1, h.l10⟩, fun k m hm => ⟨h.decl m (List.mem_of_getElem? hm), h.trusts m (List.mem_of_getElem? hm)⟩, fun m hm => by have := h.size m hm; omega⟩
def strA : ByteArray := ⟨#[97]⟩
theorem jvV {a b : Nat} (ha : a < 2 ^ n) (hb : b < 2 ^ n) : a ||| b < 2 ^ n := Nat.or_lt_two_pow ha hb
theorem jvi (a b : Nat) : Sub a (a ||| b) := fun i h => by rw [Nat.testBit_or, h]; rfl
theorem jpv {e : Nat} (hc : c.length ≤ 4) (hs : s < 2 ^ c.length) (he : e < 2 ^ c.length) (h : silentC c s = true) : silentC c (s ||| e) = true := jrS hc (jvV hs he) (jvi s e) h
def bitL (s n : Nat) : List Nat := (List.range n).filter fun i => s.testBit i
theorem ju0 (h : s.testBit k = true) : bitL s (k + 1) = bitL s k ++ [k] := by
 unfold bitL; rw [List.range_succ, List.filter_append]; simp [h]
theorem juG (h : s.testBit k = false) : bitL s (k + 1) = bitL s k := by
 unfold bitL; rw [List.range_succ, List.filter_append]; simp [h]
theorem jhg (s k : Nat) : (bitL s k).length ≤ k := by
 unfold bitL
 have := List.length_filter_le (fun i => s.testBit i) (List.range k)
 simpa using this
theorem jqJ {i : Nat} : i ∈ bitL s n ↔ i < n ∧ s.testBit i = true := by
 unfold bitL; rw [List.mem_filter, List.mem_range]
theorem ju7 : decide (((s / 2 ^ k &&& 1 : Nat) : Int) = 1) = s.testBit k := by
 rw [Nat.testBit_eq_decide_div_mod_eq, Nat.and_one_is_mod, decide_eq_decide]
 omega
def stopL (s n : Nat) : List Stp := (bitL s n).map fun i : Nat => stopS i
theorem jok (hn : n ≤ 4) : nodesOf ((2 ^ n - 1 : Nat) : Int) = upTo n := by
 match n, hn with
 | 0, _ => decide
 | 1, _ => decide
 | 2, _ => decide
 | 3, _ => decide
 | 4, _ => decide
theorem jix (hok : OKA c) : plainL c strA = ((List.range c.length).map fun i : Nat => prefS i strA) ++ [tickS] := by
 unfold plainL prefL
 rw [if_pos hok.ok, jok hok.len, upTo, List.map_map]; rfl
def stepsA (c : List Mem) (s : Nat) : List Sp := ((bitL s c.length).map fun i : Nat => stopSp i) ++ (((List.range c.length).map fun i : Nat => prefSp strA i) ++ [tickSp])
theorem jpa (hok : OKA c) (s : Nat) : (stopL s c.length ++ plainL c strA).map stv = (stepsA c s).map spv := by
 rw [jix hok, stepsA, stopL, List.map_append, List.map_append, List.map_append, List.map_append, List.map_map, List.map_map, List.map_map, List.map_map]; rfl
theorem jj0 (s : Sp) (h : s.l = zLtr) : SB s := ⟨by rw [h]; exact ⟨jpq, joV⟩⟩
theorem jjI : ∀ x ∈ stepsA c s, SB x ∧ ¬ x.kind = 3 := by
 intro x hx
 rcases List.mem_append.1 hx with hx | hx
 ·obtain ⟨i, _, rfl⟩ := List.mem_map.1 hx
  exact ⟨jj0 _ rfl, by show ¬ (4 : Int) = 3; omega⟩
 ·rcases List.mem_append.1 hx with hx | hx
  ·obtain ⟨i, _, rfl⟩ := List.mem_map.1 hx
   exact ⟨jj0 _ rfl, by show ¬ (8 : Int) = 3; omega⟩
  ·rw [List.mem_singleton.1 hx]
   exact ⟨jj0 _ rfl, by show ¬ (2 : Int) = 3; omega⟩
theorem jpO (hok : OKA c) (h1 : 1 ≤ c.length) (hs : s < 2 ^ c.length) (h : silentC c s = true) : ∃ w k, runV (startW c 0) (stepsA c s) = (w, k, 0) ∧ outcomes w = [] ∧ WI w := by
 have hp := jsJ hok.len
 have hl := jhg s c.length
 have hlen := hok.len
 have hc := hok.cfg h1
 have hS : Still c s strA := ⟨hok.l10, hc.ok, by unfold silentC at h; have := of_decide_eq_true h; omega, by omega, by decide⟩
 obtain ⟨w, k, h2, h3⟩ := jqr hc hS (bitL s c.length) (List.range c.length) (fun i => jqJ) (fun i => List.mem_range) List.nodup_range (by rw [List.length_range]; omega)
 refine ⟨w, k, h2, h3, ?_⟩
 have h4 := js9 (l := stepsA c s) (jfr (c := c) hok.l10 (fun m hm => by have := hok.size m hm; omega) (ill := 0) ⟨by omega, Int.natCast_pos.2 (by omega)⟩) (fun x hx => (jjI x hx).1)
 rw [show runV (startW c 0) (stepsA c s) = (w, k, 0) from h2] at h4
 exact h4
theorem jvn {P : Program} {o : Oper} {env : Env} {H : Heap} {d d' : D} (h : AP P n o env H d) (e : d = d') : AP P n o env H d' := e ▸ h
theorem jr3 (w : Wld) (hW : WI w) (ho : outcomes w = []) : Con none Tryz.prog 21 [wv w] [] (Is (.sl 3 []) []) := by
 have := jhk w hW
 rwa [ho] at this
theorem jeK {w : Wld} (hok : OKA c) (h1 : 1 ≤ c.length) (h : runV (startW c 0) (stepsA c s) = (w, k, 0)) : Con none Tryz.prog 19 [cv c, .i 0, .sl 34 ((stepsA c s).map spv)] [] (Is (.tup [wv w, .i (k : Int), .i 0]) []) := by
 have hp := jsJ hok.len
 have := jri c ⟨h1, hok.l10⟩ (fun m hm => by have := hok.size m hm; omega) hok.ok hok.decl 0 ⟨by omega, Int.natCast_pos.2 (by omega)⟩ (stepsA c s) jjI
 rwa [h] at this
theorem jqm {Ps : Value → World → Prop} (l : List Int) (k k2 : Nat) (hk : k ≤ 255) (hk2 : k2 ≤ 255) : Con (some Ps) Tryz.prog 4 [.sl 1 (l.map .i), .v (.int .u8 k), .v (.int .u8 k2)] [] (Is (.b true) []) := by
 refine xI Tryz.func4 Tryz.call4 fun hcap => ?_
 refine xB ((jqQ _).main) ?_; rintro _ _ ⟨b18, rfl, rfl⟩
 refine xB ((jgV _ _ _ 1 4 (by omega)).main) ?_; rintro _ _ ⟨r20, a20, rfl, hr20, rfl⟩; obtain ⟨n, rfl⟩ := Int.eq_ofNat_of_zero_le (show 0 ≤ r20 by omega); have hn : 1 ≤ n ∧ n ≤ 4 := (by omega)
 refine xB ((jkt _ n _ hn _).main) ?_; rintro _ _ ⟨c, a23, rfl, ⟨hok, hcl⟩, rfl⟩; subst hcl; have hp := jsJ hok.len
 refine zAl fun b9 => ?_
 iterate 6 refine zW ?_
 refine zP (jfX rfl rfl rfl (by omega)) ?_
 refine zW ?_
 refine zP (jeI rfl rfl rfl (by omega)) ?_
 refine zP (ja2 (p := 1) rfl rfl rfl (by omega) (by omega)) ?_
 refine zP (jpZ rfl rfl (by omega)) ?_
 iterate 5 refine zW ?_
 obtain ⟨s, hse, hs⟩ := jsx k c.length
 rw [hse]
 refine xE ((jd7 c hok s hs).main) fun c32 hc32 => ?_
 refine xC (fun hc => ?_) fun hc => ?_
 ·refine xA (jgZ) ?_
  refine xP ?_; exact rfl
 ·have hsil : silentC c s = true := by first | exact jat hc | (simp_all; done)
  iterate 9 refine zW ?_
  refine jai [2, 8, 9, 10] [.box b9 _ _] (fun (a : Nat) r => (11, .i (a : Int)) :: r) (fun a r => r) (fun a => 1 ≤ a ∧ a ≤ 2 ^ c.length) (fun a => 2 ^ c.length - a) (1) zRc (by omega) (zWk) ?_
  intro a ha
  iterate 5 refine zW ?_
  refine zP (jeI rfl rfl rfl (by omega)) ?_
  refine zP (ja2 (p := 1) rfl rfl rfl (by omega) (by omega)) ?_
  refine xC (fun hc => ?_) fun hc => ?_
  ·have hlt := of_decide_eq_true hc
   iterate 11 refine zW ?_
   iterate 2 all_goals first | refine zW ?_ | refine xG (fun hg => ?_) fun hg => ?_
   all_goals first | (refine zY ?_; refine jaa zRc ((rqN c a (by omega)).main) rfl rfl ?_) | refine zSk ?_
   all_goals refine zW ?_
   all_goals (
    refine zW ?_; refine zW ?_
    refine jaF rfl (by first | rfl | exact (jfj hok.len hs).1 hsil a (by omega) (by omega) (by have := of_decide_eq_true hg; omega)) ?_
    iterate 9 refine zW ?_
    exact ⟨a + 1, by omega, by omega, zWk⟩
    )
  ·have hge := of_decide_eq_false hc
   iterate 7 refine zW ?_
   obtain ⟨e2, he2, he2l⟩ := jsx k2 c.length
   refine zDr [] ?_
   refine zT 0 ?_; refine zT 1 ?_; refine zT 2 ?_
   refine jam 3 rfl zGd zKr zKr zKr (AP.ar (jfX rfl rfl rfl (by omega))) rfl rfl ?_
   refine zT 4 ?_
   refine jam 5 rfl zGd zKr zKr zKr (AP.ar (jeI rfl rfl rfl (by omega))) rfl rfl ?_
   refine jam 6 rfl zGd zKr zKr zKr (AP.ar (ja2 (p := 1) rfl rfl rfl (by omega) (by omega))) rfl rfl ?_
   refine jam 7 rfl zGd zKr zKr zKr (AP.ar (jvn (jpZ rfl rfl (by omega)) (congrArg D.i he2))) rfl rfl ?_
   refine zT 8 ?_; refine zOn 9 ?_
   refine xA ((jd7 c hok (s ||| e2) (jvV hs he2l)).main) ?_
   refine zW ?_
   refine zT 10 ?_
   refine zW ?_
   all_goals (
    refine zW ?_
    refine jaF rfl (by rw [jpv hok.len hs he2l hsil]; rfl) ?_
    iterate 14 refine zW ?_
    refine jag [8, 9, 10] [.box b9 _ _] (fun (i : Nat) (v : Value) r => (12, .v v) :: (13, .i (i : Int)) :: r) (fun i v r => .arr v 59 34 ((stopL s i).map stv) :: r) (fun i v => i ≤ c.length) (fun i v => c.length - i) (0) (.slice none 0 0) zRc (by omega) ((jaM 59 34 rfl).trans (zWk)) ?_
    intro i v hi
    have hql : ((stopL s i).map stv).length ≤ 10 := by have := jhg s i; simp only [stopL, List.length_map]; omega
    refine xC (fun hc => ?_) fun hc => ?_
    ·have hlti := of_decide_eq_true hc
     iterate 5 refine zW ?_
     have hdiv : s / 2 ^ i < 9223372036854775808 := Nat.lt_of_le_of_lt (Nat.div_le_self _ _) (by omega)
     iterate 3 refine zW ?_
     refine zP (jeI rfl rfl rfl (by omega)) ?_
     refine zP (jin rfl rfl (by omega)) ?_
     refine zP (jee (q := 1) rfl rfl rfl (by omega) (by omega)) ?_
     refine xC (fun hc => ?_) fun hc => ?_
     ·have h72 : s.testBit i = true := by rw [← ju7]; exact hc
      iterate 4 refine zW ?_
      refine jaA [8,9,10,13,73,75] 1 rfl rfl (by repeat (first | exact SelC.nil | apply SelC.cons rfl (jvJ i) | apply SelC.cons rfl Cv.same)) jbF ?_; refine xLt 59 34 448 ?_
      refine xEa 59 34 448 (hb := by first | omega | (simp only [List.length_cons, List.length_nil]; omega)) fun v77 hv77 => ?_
      iterate 10 refine zW ?_
      have h0 : s.testBit i = true := h72; rw [jj7, show stopL s i ++ [stopS i] = stopL s (i + 1) from by unfold stopL; rw [ju0 h0, List.map_append]; rfl]; exact ⟨i + 1, _, by omega, by omega, zWk⟩
     ·have h72 : s.testBit i = false := by rw [← ju7]; exact hc
      iterate 9 refine zW ?_
      have h0 : s.testBit i = false := h72; rw [show stopL s i = stopL s (i + 1) from by unfold stopL; rw [juG h0]]; exact ⟨i + 1, v, by omega, by omega, zWk⟩
    ·have hgei := of_decide_eq_false hc
     obtain rfl : i = c.length := by omega
     iterate 6 refine zW ?_
     have hq20 := jpa hok s
     obtain ⟨w9, k9, hr9, ho9, hw9⟩ := jpO hok (by omega) hs hsil
     have hnl : ((plainL c strA).map stv).length ≤ 10 := by rw [jix hok]; simp; omega
     have hql : ((stopL s c.length).map stv).length ≤ 10 := by have := jhg s c.length; simp only [stopL, List.length_map]; omega
     refine zDr [.arr v 59 34 ((stopL s c.length).map stv)] ?_
     refine zT 0 ?_; refine zT 1 ?_; refine zT 2 ?_
     refine zE2 3 10 ?_ ?_
     rotate_left
     case' _ =>
      refine zAl fun b14 => ?_
      refine zW ?_
      refine zOn 3 ?_
      refine xA ((jiU c hok.lt strA).main) ?_
      refine zW ?_
      refine zOn 4 ?_
      refine xEa 59 34 448 (hb := by first | omega | (simp only [List.length_cons, List.length_nil]; omega)) fun v83 hv83 => ?_
      refine zW ?_
      refine zOn 5 ?_
      rw [← List.map_append, hq20]; (first | (have h14 : Nat := b14; refine ja9 v83 [79,83,14] rfl jmv jbR jbp ?_) | refine ja9 v83 [79,83] rfl jmv jbR jbp ?_); (refine jaq zRc (jeK hok (by omega) hr9).main jaw rfl rfl ?_; rintro _ _ ⟨rfl, rfl⟩)
      refine zW ?_
      refine zT 6 ?_; refine zT 7 ?_; refine zT 8 ?_; refine zT 9 ?_; refine zOn 11 ?_
      refine zW ?_; refine zW ?_
      refine zT 12 ?_; refine zT 13 ?_
      refine zW ?_
     rotate_right
     case' _ =>
      refine xA ((jiU c hok.lt strA).main) ?_
      refine zW ?_
      refine zE2 4 10 ?_ ?_
      rotate_left
      case' _ =>
       refine zAl fun b14 => ?_
       refine zW ?_
       refine zOn 4 ?_
       refine xEa 59 34 448 (hb := by first | omega | (simp only [List.length_cons, List.length_nil]; omega)) fun v83 hv83 => ?_
       refine zW ?_
       refine zOn 5 ?_
       rw [← List.map_append, hq20]; (first | (have h14 : Nat := b14; refine ja9 v83 [79,83,14] rfl jmv jbR jbp ?_) | refine ja9 v83 [79,83] rfl jmv jbR jbp ?_); (refine jaq zRc (jeK hok (by omega) hr9).main jaw rfl rfl ?_; rintro _ _ ⟨rfl, rfl⟩)
       refine zW ?_
       refine zT 6 ?_; refine zT 7 ?_; refine zT 8 ?_; refine zT 9 ?_; refine zOn 11 ?_
       refine zW ?_; refine zW ?_
       refine zT 12 ?_; refine zT 13 ?_
       refine zW ?_
      rotate_right
      case' _ =>
       refine xEa 59 34 448 (hb := by first | omega | (simp only [List.length_cons, List.length_nil]; omega)) fun v83 hv83 => ?_
       refine zW ?_
       refine zE2 5 10 ?_ ?_
       rotate_left
       case' _ =>
        refine zAl fun b14 => ?_
        refine zW ?_
        refine zOn 5 ?_
        rw [← List.map_append, hq20]; (first | (have h14 : Nat := b14; refine ja9 v83 [79,83,14] rfl jmv jbR jbp ?_) | refine ja9 v83 [79,83] rfl jmv jbR jbp ?_); (refine jaq zRc (jeK hok (by omega) hr9).main jaw rfl rfl ?_; rintro _ _ ⟨rfl, rfl⟩)
        refine zW ?_
        refine zT 6 ?_; refine zT 7 ?_; refine zT 8 ?_; refine zT 9 ?_; refine zOn 11 ?_
        refine zW ?_; refine zW ?_
        refine zT 12 ?_; refine zT 13 ?_
        refine zW ?_
       rotate_right
       case' _ =>
        rw [← List.map_append, hq20]; (first | (have h14 : Nat := b14; refine ja9 v83 [79,83,14] rfl jmv jbR jbp ?_) | refine ja9 v83 [79,83] rfl jmv jbR jbp ?_); (refine jaq zRc (jeK hok (by omega) hr9).main jaw rfl rfl ?_; rintro _ _ ⟨rfl, rfl⟩)
        refine zW ?_
        refine zT 6 ?_; refine zT 7 ?_; refine zT 8 ?_; refine zT 9 ?_; refine zOn 10 ?_
        refine zAl fun b14 => ?_
        refine zW ?_
        refine zOn 11 ?_
        refine zW ?_; refine zW ?_
        refine zT 12 ?_; refine zT 13 ?_
        refine zW ?_
     all_goals (
      iterate 6 refine zW ?_
      all_goals refine zW ?_
      all_goals (refine zY ?_; refine jaa zRc ((jr3 w9 hw9 ho9).main) rfl rfl ?_)
      all_goals (refine zY ?_; (first | refine zLn fun _ => ?_ | refine zW ?_))
      iterate 3 all_goals refine zW ?_
      all_goals (refine zY ?_; refine jaa zRc (jgZ) rfl rfl ?_)
      iterate 2 all_goals refine zW ?_
      all_goals (
       refine xP ?_; exact rfl
       )
      )
    )
end Go.Proofs.YtgmpjpaekpefdaaGreat
