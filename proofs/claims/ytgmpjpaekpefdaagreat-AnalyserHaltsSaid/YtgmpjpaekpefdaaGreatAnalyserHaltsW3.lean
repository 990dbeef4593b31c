/- Walks: each says what one function of the program answers, for the arguments that its statement names. No condition beyond what each theorem says. -/
import Derived.Test.YtgmpjpaekpefdaaGreatAnalyserHaltsW2
import Derived.Test.YtgmpjpaekpefdaaGreatProg
import Derived.KernelRfl
import Derived.Tactics
import Derived.Tactics2
import Derived.StillTactics
set_option linter.unusedVariables false
set_option linter.unusedSimpArgs false
set_option maxRecDepth 4000
set_option maxHeartbeats 8000000
namespace Go.Proofs.YtgmpjpaekpefdaaGreat
open Go Go.Av Go.Tq
variable {n : Nat} {e : Evp} {q : List Mem} {m : Mach}
theorem jay (e : Evp) (hs : sizeT e.t ≤ 1000000000) : Con none Tryz.prog 166 [ev e] [] (Is (.b (vE e)) []) := by
 refine xI Tryz.func166 Tryz.call166 fun hcap => ?_
 refine xX fun b1 => ?_
 iterate 10 refine zW ?_
 iterate 27 all_goals first | refine zW ?_ | refine xG (fun hg => ?_) fun hg => ?_
 all_goals first | (refine zY ?_; refine jaa zRc (jaN e.t hs) rfl rfl ?_) | refine zSk ?_
 iterate 5 all_goals first | refine zW ?_ | refine xG (fun hg => ?_) fun hg => ?_
 all_goals first | (refine zY ?_; refine jaa zRc (jc1 e.bal) rfl rfl ?_) | refine zSk ?_
 iterate 2 all_goals refine zW ?_
 all_goals (
  refine xC (fun hc => ?_) fun hc => ?_
  ·first
   | (exact absurd hc (by decide))
   | (have hb : vE e = false := jqW (by first | (simp only [headR, headE]; simp [*]; done) | grind [headR, headE])
      refine xP ?_; exact (bcl hb.symm)
    )
  ·first
   | (exact absurd hc (by decide))
   | (have hh : headE e = true := by first | (simp only [headE]; simp [*]; done) | grind [headE]
      have hvb : vB e.bal = true := by first | (simp [*]; done) | grind
      refine xA (jaH e.prep) ?_
      iterate 4 refine zW ?_
      refine zDr [] ?_
      refine zT 0 ?_; refine zT 1 ?_; refine zT 2 ?_; refine zT 3 ?_; refine zT 4 ?_; refine zT 5 ?_; refine zT 6 ?_; refine zT 7 ?_; refine zT 8 ?_; refine zT 9 ?_; refine zT 10 ?_; refine zT 11 ?_
      refine zE2 12 13 ?_ ?_
      rotate_left
      case' _ =>
       refine zAl fun b5 => ?_
       refine zW ?_
       refine zOn 12 ?_
       refine zAl fun b4 => ?_
       refine zW ?_
       refine zOn 14 ?_
       refine zW ?_; refine zW ?_
       refine zOn 15 ?_
       iterate 3 refine zW ?_
      rotate_right
      case' _ =>
       refine zAl fun b4 => ?_
       refine zW ?_
       refine zOn 13 ?_
       refine zAl fun b5 => ?_
       refine zW ?_
       refine zOn 14 ?_
       refine zW ?_; refine zW ?_
       refine zOn 15 ?_
       iterate 3 refine zW ?_
      all_goals (
       refine xC (fun hc => ?_) fun hc => ?_
       ·have hk1 := of_decide_eq_true hc
        iterate 8 refine zW ?_
        iterate 5 all_goals first | refine zW ?_ | refine xG (fun hg => ?_) fun hg => ?_
        all_goals first | (refine zY ?_; refine jaa zRc (jc1 e.prep) rfl rfl ?_) | refine zSk ?_
        iterate 3 all_goals refine zW ?_
        all_goals (
         refine xC (fun hc => ?_) fun hc => ?_
         ·first
          | (exact absurd hc (by decide))
          | (iterate 9 refine zW ?_
             (refine zPi ?_; refine (bcl ?_))
             unfold vE; rw [hh, Bool.true_and]
             first | (simp only [kindE, prepE, finB, optB, rngE]; simp [*]; done) | grind [kindE, prepE, finB, optB, rngE]
           )
         ·first
          | (exact absurd hc (by decide))
          | (iterate 7 refine zW ?_
             refine xA (jaH e.prime) ?_
             refine zW ?_; refine zW ?_
             iterate 4 all_goals first | refine zW ?_ | refine xG (fun hg => ?_) fun hg => ?_
             all_goals first | (refine zY ?_; refine jaa zRc (jc1 e.prime) rfl rfl ?_) | refine zSk ?_
             iterate 7 all_goals first | refine zW ?_ | refine xG (fun hg => ?_) fun hg => ?_
             all_goals first | (refine zY ?_; refine jaa zRc (jcz e.prime e.prep) rfl rfl ?_) | refine zSk ?_
             iterate 7 all_goals first | refine zW ?_ | refine xG (fun hg => ?_) fun hg => ?_
             all_goals first | (refine zY ?_; refine jaa zRc (jaZ e.prime e.prep) rfl rfl ?_) | refine zSk ?_
             iterate 2 all_goals refine zW ?_
             all_goals (
              refine xC (fun hc => ?_) fun hc => ?_
              ·first
               | (exact absurd hc (by decide))
               | (iterate 9 refine zW ?_
                  (refine zPi ?_; refine (bcl ?_))
                  unfold vE; rw [hh, Bool.true_and]
                  first | (simp only [kindE, prepE, finB, optB, rngE]; simp [*]; done) | grind [kindE, prepE, finB, optB, rngE]
                )
              ·first
               | (exact absurd hc (by decide))
               | (iterate 9 refine zW ?_
                  iterate 14 all_goals first | refine zW ?_ | refine xG (fun hg => ?_) fun hg => ?_
                  all_goals (
                   refine xC (fun hc => ?_) fun hc => ?_
                   ·first
                    | (exact absurd hc (by decide))
                    | (iterate 9 refine zW ?_
                       (refine zPi ?_; refine (bcl ?_))
                       unfold vE; rw [hh, Bool.true_and]
                       first | (simp only [kindE, prepE, finB, optB, rngE]; simp [*]; done) | grind [kindE, prepE, finB, optB, rngE]
                     )
                   ·first
                    | (exact absurd hc (by decide))
                    | (iterate 9 refine zW ?_
                       iterate 5 all_goals first | refine zW ?_ | refine xG (fun hg => ?_) fun hg => ?_
                       all_goals first | (refine zY ?_; refine jaa zRc (jfD e.prep e.prime (at_ e e.high)) rfl rfl ?_) | refine zSk ?_
                       iterate 2 all_goals refine zW ?_
                       all_goals (
                        refine xC (fun hc => ?_) fun hc => ?_
                        ·first
                         | (exact absurd hc (by decide))
                         | (iterate 9 refine zW ?_
                            (refine zPi ?_; refine (bcl ?_))
                            unfold vE; rw [hh, Bool.true_and]
                            first | (simp only [kindE, prepE, finB, optB, rngE]; simp [*]; done) | grind [kindE, prepE, finB, optB, rngE]
                          )
                        ·first
                         | (exact absurd hc (by decide))
                         | (iterate 8 refine zW ?_
                            iterate 3 all_goals first | refine zW ?_ | refine xG (fun hg => ?_) fun hg => ?_
                            all_goals first | (refine zY ?_; refine jaa zRc (jd6 e.prep (at_ e e.low)) rfl rfl ?_) | refine zSk ?_
                            iterate 5 all_goals first | refine zW ?_ | refine xG (fun hg => ?_) fun hg => ?_
                            all_goals first | (refine zY ?_; refine jaa zRc (jd6 e.prime (at_ e e.low)) rfl rfl ?_) | refine zSk ?_
                            iterate 4 all_goals refine zW ?_
                            all_goals (
                             refine xP ?_; refine (bcl ?_)
                             unfold vE; rw [hh, Bool.true_and]
                             first | (simp only [kindE, prepE, finB, optB, rngE]; simp [*]; done) | grind [kindE, prepE, finB, optB, rngE]
                             )
                          )
                        )
                     )
                   )
                )
              )
           )
         )
       ·have hk1 := of_decide_eq_false hc
        refine xC (fun hc => ?_) fun hc => ?_
        ·have hk2 := of_decide_eq_true hc
         iterate 7 refine zW ?_
         iterate 2 all_goals first | refine zW ?_ | refine xG (fun hg => ?_) fun hg => ?_
         all_goals first | (refine zY ?_; refine jaa zRc (jc1 e.prep) rfl rfl ?_) | refine zSk ?_
         iterate 6 all_goals first | refine zW ?_ | refine xG (fun hg => ?_) fun hg => ?_
         all_goals first | (refine zY ?_; refine jaa zRc (jaZ e.prep e.bal) rfl rfl ?_) | refine zSk ?_
         iterate 4 all_goals first | refine zW ?_ | refine xG (fun hg => ?_) fun hg => ?_
         all_goals first | (refine zY ?_; refine jaa zRc (jaH e.prime) rfl rfl ?_) | refine zSk ?_
         iterate 27 all_goals first | refine zW ?_ | refine xG (fun hg => ?_) fun hg => ?_
         all_goals (
          refine xP ?_; refine (bcl ?_)
          unfold vE; rw [hh, Bool.true_and]
          simp only [kindE, prepE, finB, optB, rngE]; simp [*]; done
          )
        ·have hk2 := of_decide_eq_false hc
         refine xC (fun hc => ?_) fun hc => ?_
         ·have hk3 := of_decide_eq_true hc
          iterate 4 refine zW ?_
          iterate 2 all_goals first | refine zW ?_ | refine xG (fun hg => ?_) fun hg => ?_
          all_goals first | (refine zY ?_; refine jaa zRc (jaH e.prime) rfl rfl ?_) | refine zSk ?_
          iterate 19 all_goals first | refine zW ?_ | refine xG (fun hg => ?_) fun hg => ?_
          all_goals (
           refine xP ?_; refine (bcl ?_)
           unfold vE; rw [hh, Bool.true_and]
           simp only [kindE, prepE, finB, optB, rngE]; simp [*]; done
           )
         ·have hk3 := of_decide_eq_false hc
          refine xP ?_; refine (bcl ?_)
          unfold vE; rw [hh, Bool.true_and]
          simp only [kindE, prepE, finB, optB, rngE]; simp [*]; done
       )
    )
  )
theorem juB (e : Evp) (hs : sizeT e.t ≤ 1000000000) (b : Bal) : Con none Tryz.prog 293 [ev e, bv b] [] (Is (.b (apR e b)) []) := by
 refine xI Tryz.func293 Tryz.call293 fun hcap => ?_
 refine xX fun b2 => ?_
 refine zBx fun b3 => ?_
 refine xA (jay e hs) ?_
 refine zW ?_; refine zW ?_
 all_goals refine xG (fun hg => ?_) fun hg => ?_
 all_goals first | (refine zY ?_; refine jaa zRc (jaH b) rfl rfl ?_) | refine zSk ?_
 all_goals refine zW ?_
 all_goals (
  refine xC (fun hc => ?_) fun hc => ?_
  ·first
   | (exact absurd hc (by decide))
   | (iterate 7 refine zW ?_
      (refine zPi ?_; refine (bcl ?_))
      first | rfl | (simp only [apR]; simp [*]; done) | grind [apR]
    )
  ·first
   | (exact absurd hc (by decide))
   | (iterate 10 refine zW ?_
      refine zC (fun hc => ?_) fun hc => ?_
      ·refine xA (jaZ e.bal b) ?_
       refine xP ?_; refine (bcl ?_)
       grind [apR]
      ·refine xA (jfD e.prep e.prime b) ?_
       refine xP ?_; refine (bcl ?_)
       grind [apR]
    )
  )
theorem jud (e : Evp) (hs : sizeT e.t ≤ 1000000000) (b : Bal) : Con none Tryz.prog 294 [ev e, bv b] [] (Is (.b (vpR e b)) []) := by
 refine xI Tryz.func294 Tryz.call294 fun hcap => ?_
 refine xX fun b2 => ?_
 refine zBx fun b3 => ?_
 refine xA (jay e hs) ?_
 refine zW ?_; refine zW ?_
 all_goals refine xG (fun hg => ?_) fun hg => ?_
 all_goals first | (refine zY ?_; refine jaa zRc (jaH b) rfl rfl ?_) | refine zSk ?_
 all_goals refine zW ?_
 all_goals (
  refine xC (fun hc => ?_) fun hc => ?_
  ·first
   | (exact absurd hc (by decide))
   | (iterate 7 refine zW ?_
      (refine zPi ?_; refine (bcl ?_))
      first | rfl | (simp only [vpR]; simp [*]; done) | grind [vpR]
    )
  ·first
   | (exact absurd hc (by decide))
   | (iterate 10 refine zW ?_
      refine zC (fun hc => ?_) fun hc => ?_
      ·refine xA (jdR e.bal b) ?_
       refine xP ?_; refine (bcl ?_)
       grind [vpR]
      ·refine xA (jaZ e.bal b) ?_
       refine xP ?_; refine (bcl ?_)
       grind [vpR]
    )
  )
theorem js7 (e : Evp) (hs : sizeT e.t ≤ 1000000000) (v : Str) (lo hi : Int) : Con none Tryz.prog 295 [ev e, .v (.string v), .i lo, .i hi] [] (Is (.b (acR e v lo hi)) []) := by
 refine xI Tryz.func295 Tryz.call295 fun hcap => ?_
 refine xX fun b4 => ?_
 refine xA (jay e hs) ?_
 refine zW ?_; refine zW ?_
 iterate 26 all_goals first | refine zW ?_ | refine xG (fun hg => ?_) fun hg => ?_
 all_goals (
  refine xC (fun hc => ?_) fun hc => ?_
  ·first
   | (exact absurd hc (by decide))
   | (iterate 7 refine zW ?_
      (refine zPi ?_; refine (bcl ?_))
      first | rfl | (simp only [acR]; simp_all; done) | (simp only [acR]; simp_all; omega)
    )
  ·first
   | (exact absurd hc (by decide))
   | (iterate 8 refine zW ?_
      iterate 6 all_goals first | refine zW ?_ | refine xG (fun hg => ?_) fun hg => ?_
      all_goals (
       refine xP ?_; refine (bcl ?_)
       first | rfl | (simp only [acR]; simp_all; done)
       )
    )
  )
theorem jue (e : Evp) (hs : sizeT e.t ≤ 1000000000) (v : Str) (lo hi : Int) : Con none Tryz.prog 296 [ev e, .v (.string v), .i lo, .i hi] [] (Is (.b (vcR e v lo hi)) []) := by
 refine xI Tryz.func296 Tryz.call296 fun hcap => ?_
 refine xX fun b4 => ?_
 refine xA (jay e hs) ?_
 refine zW ?_; refine zW ?_
 iterate 26 all_goals first | refine zW ?_ | refine xG (fun hg => ?_) fun hg => ?_
 all_goals (
  refine xC (fun hc => ?_) fun hc => ?_
  ·first
   | (exact absurd hc (by decide))
   | (iterate 7 refine zW ?_
      (refine zPi ?_; refine (bcl ?_))
      first | rfl | (simp only [vcR]; simp_all; done) | (simp only [vcR]; simp_all; omega)
    )
  ·first
   | (exact absurd hc (by decide))
   | (iterate 8 refine zW ?_
      iterate 6 all_goals first | refine zW ?_ | refine xG (fun hg => ?_) fun hg => ?_
      all_goals (
       refine xP ?_; refine (bcl ?_)
       first | rfl | (simp only [vcR]; simp_all; done)
       )
    )
  )
theorem jc0 (e : Evp) (hs : sizeT e.t ≤ 1000000000) : Con none Tryz.prog 240 [ev e] [] (Is (.i (cntR e)) []) := by
 refine xI Tryz.func240 Tryz.call240 fun hcap => ?_
 refine xX fun b1 => ?_
 refine xA (jay e hs) ?_
 refine xC (fun hc => ?_) fun hc => ?_
 ·have hv : vE e = false := jau hc
  refine xP ?_; refine (icl ?_)
  unfold cntR
  rw [if_neg (by rw [hv]; decide)]; done
 ·have hv : vE e = true := jat hc
  refine xC (fun hc => ?_) fun hc => ?_
  ·have h3 := of_decide_eq_true hc
   refine xP ?_; refine (icl ?_)
   unfold cntR
   rw [if_pos hv]; unfold cntE; rw [if_pos h3]; done
  ·have h3 := of_decide_eq_false hc
   refine xP ?_; refine (icl ?_)
   unfold cntR
   rw [if_pos hv]; unfold cntE; rw [if_neg h3]; done
theorem jkx (e f : Evp) : Con none Tryz.prog 198 [ev e, ev f] [] (Is (.b (sameE e f)) []) := by
 refine xI Tryz.func198 Tryz.call198 fun hcap => ?_
 refine xX fun b2 => ?_
 refine zBx fun b3 => ?_
 iterate 11 refine zW ?_
 iterate 18 all_goals first | refine zW ?_ | refine xG (fun hg => ?_) fun hg => ?_
 all_goals first | (refine zY ?_; refine jaa zRc (jbU e.t f.t) rfl rfl ?_) | refine zSk ?_
 iterate 13 all_goals first | refine zW ?_ | refine xG (fun hg => ?_) fun hg => ?_
 all_goals first | (refine zY ?_; refine zP (jdt rfl zRc rfl zRc (jrB _ _ _ _)) ?_) | refine zSk ?_
 iterate 6 all_goals first | refine zW ?_ | refine xG (fun hg => ?_) fun hg => ?_
 all_goals first | (refine zY ?_; refine zP (jdt rfl zRc rfl zRc (jrB _ _ _ _)) ?_) | refine zSk ?_
 iterate 6 all_goals first | refine zW ?_ | refine xG (fun hg => ?_) fun hg => ?_
 all_goals first | (refine zY ?_; refine zP (jdt rfl zRc rfl zRc (jrB _ _ _ _)) ?_) | refine zSk ?_
 iterate 16 all_goals first | refine zW ?_ | refine xG (fun hg => ?_) fun hg => ?_
 all_goals (
  refine xP ?_; refine (bcl ?_)
  first | rfl | (simp only [sameE, beqB]; simp [*]; done)
  )
theorem jgb {α : Type} (l : List α) (k : Nat) (d : α) : ∃ y, k < l.length → l[k]? = some y := by
 by_cases h : k < l.length
 ·exact ⟨l[k], fun _ => List.getElem?_eq_getElem h⟩
 ·exact ⟨d, fun h' => absurd h' h⟩
theorem jcl {α : Type} (f : α → D) (l : List α) (x : α) (k j : Nat) : (List.take k (l.map f) ++ [f x]) ++ List.drop j (l.map f) = (l.take k ++ [x] ++ l.drop j).map f := by simp [List.map_take, List.map_drop]
theorem jlb (l : List Bal) (hlen : l.length ≤ 1000) (b : Bal) : Con none Tryz.prog 287 [.sl 2 (l.map bv), bv b] [] (Is (.sl 2 ((intoV l b).map bv)) []) := by
 refine xI Tryz.func287 Tryz.call287 fun hcap => ?_
 have hml : (l.map bv).length = l.length := by simp
 refine xX fun b3 => ?_
 refine xA (jaH b) ?_
 refine xC (fun hc => ?_) fun hc => ?_
 ·have hbz : zB b = true := hc
  refine xP ?_
  rw [jts hbz]; rfl
 ·have hbz : zB b = false := hc
  iterate 9 refine zW ?_
  refine jai [0, 3] [.box b3 _ _] (fun (k : Nat) r => (5, .i (k : Int)) :: r) (fun k r => r) (fun k => k ≤ l.length ∧ posG (fun x => lB b x) (l.drop k) + k = posG (fun x => lB b x) l) (fun k => l.length - k) (0) zRc ⟨by omega, by simp⟩ (zWk) ?_
  intro k ⟨hk, hI⟩
  obtain ⟨y, hy⟩ := jgb l k b
  refine zW ?_; refine zW ?_
  refine zDr [] ?_
  refine zT 0 ?_; refine zT 1 ?_; refine zT 2 ?_; refine zT 3 ?_; refine zT 4 ?_
  refine jaj 4 rfl (fun hg => ?_) fun hg => ?_
  rotate_left
  case' _ =>
   refine zK 5 ?_; refine zK 6 ?_; refine zK 7 ?_; refine zK 8 ?_; refine zK 9 ?_; refine zK 10 ?_; refine zT 11 ?_
   refine zW ?_
  rotate_right
  case' _ =>
   refine zT 5 ?_; refine zT 6 ?_; refine zT 7 ?_
   refine jam 8 rfl zGd zKr zKr zKr (AP.ar (jap (k := k) rfl rfl rfl rfl (by decide) rfl (jae bv (hy (by have h9 : decide ((k : Int) < ((l.map bv).length : Int)) = true := (by first | with_reducible assumption | exact hg); have := of_decide_eq_true h9; simp only [List.length_map] at this; omega))))) rfl rfl ?_
   refine zT 9 ?_; refine zOn 10 ?_
   refine xA (jcz b y) ?_
   refine zW ?_
   refine zT 11 ?_
   refine zW ?_
  all_goals (
   refine xC (fun hc => ?_) fun hc => ?_
   ·first
    | (exact absurd hc (by decide))
    | (iterate 10 refine zW ?_
       have hlt : k < l.length := by have h9 : decide ((k : Int) < ((l.map bv).length : Int)) = true := (by first | with_reducible assumption | exact hg | exact hc); have := of_decide_eq_true h9; omega
       rw [jep (lt := fun x => lB b x) (hy hlt) (show lB b y = true by first | with_reducible assumption | exact hc)] at hI
       refine ⟨k + 1, ⟨by omega, by omega⟩, by omega, zWk⟩
     )
   ·first
    | (exact absurd hc (by decide))
    | (have hpos : posG (fun x => lB b x) l = k := by first | (have h9 : decide ((k : Int) < ((l.map bv).length : Int)) = false := (by first | with_reducible assumption | exact hg | exact hc); have := of_decide_eq_false h9; rw [jcX (by omega)] at hI; omega) | (have h9 : lB b y = false := (by first | with_reducible assumption | exact hg | exact hc); rw [jb7 (lt := fun x => lB b x) (hy (by have h8 : decide ((k : Int) < ((l.map bv).length : Int)) = true := (by first | with_reducible assumption | exact hg | exact hc); have := of_decide_eq_true h8; omega)) h9] at hI; omega)
       iterate 7 refine zW ?_
       refine zDr [] ?_
       refine zT 0 ?_; refine zT 1 ?_; refine zT 2 ?_; refine zT 3 ?_; refine zT 4 ?_
       refine jaj 4 rfl (fun hg => ?_) fun hg => ?_
       rotate_left
       case' _ =>
        refine zK 5 ?_; refine zK 6 ?_; refine zK 7 ?_; refine zK 8 ?_; refine zK 9 ?_; refine zK 10 ?_; refine zT 11 ?_
        refine zW ?_
       rotate_right
       case' _ =>
        refine zT 5 ?_; refine zT 6 ?_
        refine jam 7 rfl zGd zKr zKr zKr (AP.ar (jap (k := k) rfl rfl rfl rfl (by decide) rfl (jae bv (hy (by have h9 : decide ((k : Int) < ((l.map bv).length : Int)) = true := (by first | with_reducible assumption | exact hg); have := of_decide_eq_true h9; simp only [List.length_map] at this; omega))))) rfl rfl ?_
        refine zT 8 ?_; refine zT 9 ?_
        refine jam 10 rfl zGd zKr zKr zKr (AP.ar (jdt rfl zRc rfl zRc (jrB _ _ _ _))) rfl rfl ?_
        refine zT 11 ?_
        refine zW ?_
       all_goals (
        refine xC (fun hc => ?_) fun hc => ?_
        ·first
         | (exact absurd hc (by decide))
         | (have he9 : intoV l b = l := by rw [jo1 hbz]; exact jqb hpos (hy (by have h8 : decide ((k : Int) < ((l.map bv).length : Int)) = true := (by first | with_reducible assumption | exact hg); have := of_decide_eq_true h8; omega)) hc
            refine xP ?_
            rw [he9]; rfl
          )
        ·first
         | (exact absurd hc (by decide))
         | (have he9 : intoV l b = l.take k ++ [b] ++ l.drop k := by
             rw [jo1 hbz]; refine jpP hpos (fun z hz => ?_)
             first | (have h9 : decide ((k : Int) < ((l.map bv).length : Int)) = false := (by first | with_reducible assumption | exact hg); have := of_decide_eq_false h9; rw [List.getElem?_eq_none (by omega)] at hz; cases hz) | (have h8 : decide ((k : Int) < ((l.map bv).length : Int)) = true := (by first | with_reducible assumption | exact hg); have := of_decide_eq_true h8; have hyk := hy (by omega); rw [hyk] at hz; cases hz; exact hc)
            iterate 3 refine zW ?_
            refine zDr [] ?_
            refine zT 0 ?_; refine zT 1 ?_; refine zT 2 ?_; refine zT 4 ?_; refine zT 7 ?_; refine zT 8 ?_; refine zT 9 ?_
            refine zE2 3 5 ?_ ?_
            rotate_left
            case' _ =>
             refine xLt 53 2 24 ?_
             refine zW ?_
             refine zOn 3 ?_
             first | refine xEa 53 2 24 (hb := xLb) fun v39 hv39 => ?_ | refine xEn 53 2 24 (hb := xLb) fun v39 hv39 => ?_
             refine zW ?_
             refine zOn 6 ?_
             refine xEa 53 2 24 (hb := xLb) fun v42 hv42 => ?_
             refine zW ?_
             refine zOn 10 ?_
             refine xEa 53 2 24 (hb := xLb) fun v46 hv46 => ?_
             refine zW ?_
             refine zT 11 ?_
             refine zW ?_
            rotate_right
            case' _ =>
             first | refine xEa 53 2 24 (hb := xLb) fun v39 hv39 => ?_ | refine xEn 53 2 24 (hb := xLb) fun v39 hv39 => ?_
             refine zW ?_
             refine zOn 5 ?_
             refine xLt 53 2 24 ?_
             refine zW ?_
             refine zOn 6 ?_
             refine xEa 53 2 24 (hb := xLb) fun v42 hv42 => ?_
             refine zW ?_
             refine zOn 10 ?_
             refine xEa 53 2 24 (hb := xLb) fun v46 hv46 => ?_
             refine zW ?_
             refine zT 11 ?_
             refine zW ?_
            all_goals (
             refine zW ?_
             rw [show D.agg [.i b.n, .v (.string b.v)] = bv b from rfl, List.nil_append, jcl]
             refine zFz v46 [4] ?_
             refine xP ?_
             rw [he9]; rfl
             )
          )
        )
     )
   )
def strv (s : Str) : D := .v (.string s)
theorem jlI (e : Evp) : (ownB e).length ≤ 3 := by unfold ownB; split <;> simp
theorem jbD : ∀ (ys : List Bal) (q : List Bal), (ys.foldl intoV q).length ≤ q.length + ys.length
 | [], q => by simp
 | y :: r, q => by
  have h1 := jbD r (intoV q y)
  have h2 := jod (l := q) (b := y)
  simp only [List.foldl_cons, List.length_cons]; omega
theorem jgj {ys : List Bal} {j : Nat} {y : Bal} {q : List Bal} (h : ys[j]? = some y) : (ys.take (j + 1)).foldl intoV q = intoV ((ys.take j).foldl intoV q) y := by
 rw [List.take_add_one, h]; simp
theorem jey (l : List Evp) (hlen : l.length ≤ 100) (hl : ∀ e ∈ l, sizeT e.t ≤ 1000000000) : Con none Tryz.prog 273 [.sl 15 (l.map ev)] [] (Is (.sl 2 ((ballotsV l).map bv)) []) := by
 refine xI Tryz.func273 Tryz.call273 fun hcap => ?_
 have hml : (l.map ev).length = l.length := by simp
 iterate 12 refine zW ?_
 refine jal [0,3] 2 rfl jbR jbp ?_
 refine xN fun _ => ?_
 iterate 4 refine zW ?_
 refine jag [9, 10] [] (fun (k : Nat) (q : List Bal) r => (3, .sl 2 (q.map bv)) :: (11, .i (k : Int)) :: r) (fun k q r => r) (fun k q => k ≤ l.length ∧ q.length ≤ 3 * k ∧ ballotsGo (l.drop k) q = ballotsV l) (fun k q => l.length - k) (0) ([]) zRc ⟨by omega, by simp, by simp [ballotsV]⟩ (zWk) ?_
 intro k q ⟨hk, hql, hI⟩
 refine xC (fun hc => ?_) fun hc => ?_
 ·have hlt := of_decide_eq_true hc
  obtain ⟨x, hx, hd⟩ := jab (l := l) (k := k) (by omega)
  have hx' := jae ev hx
  have hxs := hl x (List.mem_of_getElem? hx)
  refine xL fun b5 => ?_
  refine xA (jay x hxs) ?_
  refine xC (fun hc => ?_) fun hc => ?_
  ·have hvn : vE x = false := jau hc
   iterate 9 refine zW ?_
   rw [hd] at hI; simp only [ballotsGo] at hI
   rw [if_neg (by rw [hvn]; decide)] at hI; refine ⟨k + 1, q, ⟨by omega, by omega, hI⟩, by omega, zWk⟩
  ·have hve : vE x = true := jat hc
   iterate 10 refine zW ?_
   refine xLt 53 2 24 ?_
   refine xC (fun hc => ?_) fun hc => ?_
   ·have hk1 := jaf hc
    iterate 7 refine zW ?_
    refine xLt 53 2 24 ?_
    iterate 4 refine zW ?_
    obtain ⟨ys, hys⟩ : ∃ ys : List Bal, ys = ownB x := ⟨_, rfl⟩
    have hysl : ys.length ≤ 3 := by rw [hys]; exact jlI x
    rw [show [D.agg [.i x.prep.n, .v (.string x.prep.v)], D.agg [.i 1000000, .v (.string x.bal.v)]] = ys.map bv from by rw [hys]; unfold ownB; rw [if_neg hk1]; rfl]
    have hym : (ys.map bv).length = ys.length := by simp
    refine xN fun _ => ?_
    iterate 4 refine zW ?_
    refine jai [9, 10, 11, 35, 36] [] (fun (j : Nat) r => (3, .sl 2 (((ys.take j).foldl intoV q).map bv)) :: (37, .i (j : Int)) :: r) (fun j r => r) (fun j => j ≤ ys.length) (fun j => ys.length - j) (0) zRc (by omega) (zWk) ?_
    intro j hj
    have hfl := jbD (ys.take j) q
    have htl : (ys.take j).length ≤ 3 := by rw [List.length_take]; omega
    refine xC (fun hc => ?_) fun hc => ?_
    ·have hlt2 := of_decide_eq_true hc
     obtain ⟨y, hy, _⟩ := jab (l := ys) (k := j) (by omega)
     have hy' := jae bv hy
     refine xL fun b8 => ?_
     refine xA (jlb ((ys.take j).foldl intoV q) (by omega) y) ?_
     iterate 9 refine zW ?_
     rw [← jgj hy]
     refine ⟨j + 1, by omega, by omega, zWk⟩
    ·have hge2 := of_decide_eq_false hc
     iterate 11 refine zW ?_
     rw [hd] at hI; simp only [ballotsGo] at hI
     have hj9 : (j : Nat) = j := rfl; rw [if_pos hve, ← hys] at hI; have hyf := jbD ys q; rw [List.take_of_length_le (by omega)]; refine ⟨k + 1, ys.foldl intoV q, ⟨by omega, by omega, hI⟩, by omega, zWk⟩
   ·have hk1 := jad hc
    iterate 3 refine zW ?_
    obtain ⟨ys, hys⟩ : ∃ ys : List Bal, ys = ownB x := ⟨_, rfl⟩
    have hysl : ys.length ≤ 3 := by rw [hys]; exact jlI x
    rw [show [D.agg [.i x.bal.n, .v (.string x.bal.v)], D.agg [.i x.prep.n, .v (.string x.prep.v)], D.agg [.i x.prime.n, .v (.string x.prime.v)]] = ys.map bv from by rw [hys]; unfold ownB; rw [if_pos hk1]; rfl]
    have hym : (ys.map bv).length = ys.length := by simp
    refine xN fun _ => ?_
    iterate 4 refine zW ?_
    refine jai [9, 10, 11, 35, 36] [] (fun (j : Nat) r => (3, .sl 2 (((ys.take j).foldl intoV q).map bv)) :: (37, .i (j : Int)) :: r) (fun j r => r) (fun j => j ≤ ys.length) (fun j => ys.length - j) (0) zRc (by omega) (zWk) ?_
    intro j hj
    have hfl := jbD (ys.take j) q
    have htl : (ys.take j).length ≤ 3 := by rw [List.length_take]; omega
    refine xC (fun hc => ?_) fun hc => ?_
    ·have hlt2 := of_decide_eq_true hc
     obtain ⟨y, hy, _⟩ := jab (l := ys) (k := j) (by omega)
     have hy' := jae bv hy
     refine xL fun b8 => ?_
     refine xA (jlb ((ys.take j).foldl intoV q) (by omega) y) ?_
     iterate 9 refine zW ?_
     rw [← jgj hy]
     refine ⟨j + 1, by omega, by omega, zWk⟩
    ·have hge2 := of_decide_eq_false hc
     iterate 11 refine zW ?_
     rw [hd] at hI; simp only [ballotsGo] at hI
     have hj9 : (j : Nat) = j := rfl; rw [if_pos hve, ← hys] at hI; have hyf := jbD ys q; rw [List.take_of_length_le (by omega)]; refine ⟨k + 1, ys.foldl intoV q, ⟨by omega, by omega, hI⟩, by omega, zWk⟩
 ·have hge := of_decide_eq_false hc
  rw [jac (by omega)] at hI; simp only [ballotsGo] at hI
  refine xP ?_
  rw [← hI]; rfl
theorem jen {ys : List Int} {j : Nat} {y : Int} {q : List Int} (h : ys[j]? = some y) : (ys.take (j + 1)).foldl intoI q = intoI ((ys.take j).foldl intoI q) y := by
 rw [List.take_add_one, h]; simp
theorem arr2 (a b : Int) {i : Nat} (h : i < 2) : ∃ z, SubL [D.i a, D.i b] (i * 1) 1 [D.i z] ∧ [a, b][i]? = some z := by
 have : i = 0 ∨ i = 1 := by omega
 rcases this with rfl | rfl
 ·exact ⟨a, by repeat constructor, rfl⟩
 ·exact ⟨b, by repeat constructor, rfl⟩
theorem jjS (l : List Evp) (hlen : l.length ≤ 100) (hl : ∀ e ∈ l, sizeT e.t ≤ 1000000000) : Con none Tryz.prog 277 [.sl 15 (l.map ev)] [] (Is (.sl 1 ((valuesV l).map strv)) []) := by
 refine xI Tryz.func277 Tryz.call277 fun hcap => ?_
 have hml : (l.map ev).length = l.length := by simp
 iterate 12 refine zW ?_
 refine jal [0,3] 1 rfl jbR jbp ?_
 refine xN fun _ => ?_
 iterate 4 refine zW ?_
 refine jag [7, 8] [] (fun (i : Nat) (q : List Str) r => (3, .sl 1 (q.map strv)) :: (9, .i (i : Int)) :: r) (fun i q r => r) (fun i q => i ≤ l.length ∧ q.length ≤ i ∧ valuesGo (l.drop i) q = valuesV l) (fun i q => l.length - i) (0) ([]) zRc ⟨by omega, by simp, by simp [valuesV]⟩ (zWk) ?_
 intro i q ⟨hi, hql, hI⟩
 have hqm : (q.map strv).length = q.length := by simp
 refine xC (fun hc => ?_) fun hc => ?_
 ·have hlt := of_decide_eq_true hc
  obtain ⟨x, hx, hd⟩ := jab (l := l) (k := i) (by omega)
  have hx' := jae ev hx
  have hxs := hl x (List.mem_of_getElem? hx)
  refine xL fun b5 => ?_
  refine xA (jay x hxs) ?_
  refine xC (fun hc => ?_) fun hc => ?_
  ·have hvn : vE x = false := jau hc
   iterate 4 refine zW ?_
   skip
   iterate 5 refine zW ?_
   rw [hd] at hI; simp only [valuesGo] at hI
   have hil : (intoS q x.bal.v).length ≤ q.length + 1 := jcY
   rw [if_neg (by rw [hvn]; decide)] at hI; refine ⟨i + 1, q, ⟨by omega, by omega, hI⟩, by omega, zWk⟩
  ·have hve : vE x = true := jat hc
   iterate 9 refine zW ?_
   refine jai [3, 5, 7, 8, 9] [.box b5 _ _] (fun (k : Nat) r => (6, .i (k : Int)) :: r) (fun k r => r) (fun k => k ≤ q.length ∧ posG (fun y => decide (cV y x.bal.v < 0)) (q.drop k) + k = posG (fun y => decide (cV y x.bal.v < 0)) q) (fun k => q.length - k) (0) zRc ⟨by omega, by simp⟩ (zWk) ?_
   intro k ⟨hk, hJ⟩
   obtain ⟨y, hy⟩ := jgb q k x.bal.v
   refine zW ?_; refine zW ?_
   refine zDr [] ?_
   refine zT 0 ?_; refine zT 1 ?_; refine zT 2 ?_; refine zT 3 ?_; refine zT 4 ?_
   refine jaj 4 rfl (fun hg => ?_) fun hg => ?_
   rotate_left
   case' _ =>
    refine zK 5 ?_; refine zK 6 ?_; refine zK 7 ?_; refine zK 8 ?_; refine zK 9 ?_; refine zK 10 ?_; refine zK 11 ?_; refine zK 12 ?_; refine zT 13 ?_
    refine zW ?_
   rotate_right
   case' _ =>
    refine zT 5 ?_; refine zT 6 ?_
    refine jam 7 rfl zGd zKr zKr zKr (AP.ar (jap (k := k) rfl rfl rfl rfl (by decide) rfl (jae strv (hy (by have h9 : decide ((k : Int) < ((q.map strv).length : Int)) = true := (by first | with_reducible assumption | exact hg); have := of_decide_eq_true h9; simp only [List.length_map] at this; omega))))) rfl rfl ?_
    refine zT 8 ?_; refine zT 9 ?_; refine zT 10 ?_; refine zT 11 ?_; refine zOn 12 ?_
    refine xA (jpH y x.bal.v) ?_
    refine zW ?_
    refine zT 13 ?_
    refine zW ?_
   all_goals (
    refine xC (fun hc => ?_) fun hc => ?_
    ·first
     | (exact absurd hc (by decide))
     | (iterate 10 refine zW ?_
        have hlt : k < q.length := by have h9 : decide ((k : Int) < ((q.map strv).length : Int)) = true := (by first | with_reducible assumption | exact hg | exact hc); have := of_decide_eq_true h9; omega
        rw [jep (lt := (fun y => decide (cV y x.bal.v < 0))) (hy hlt) (show decide (cV y x.bal.v < 0) = true by first | with_reducible assumption | exact hc)] at hJ
        refine ⟨k + 1, ⟨by omega, by omega⟩, by omega, zWk⟩
      )
    ·first
     | (exact absurd hc (by decide))
     | (have hpos : posG (fun y => decide (cV y x.bal.v < 0)) q = k := by first | (have h9 : decide ((k : Int) < ((q.map strv).length : Int)) = false := (by first | with_reducible assumption | exact hg | exact hc); have := of_decide_eq_false h9; rw [jcX (by omega)] at hJ; omega) | (rw [jb7 (lt := (fun y => decide (cV y x.bal.v < 0))) (hy (by have h8 : decide ((k : Int) < ((q.map strv).length : Int)) = true := (by first | with_reducible assumption | exact hg | exact hc); have := of_decide_eq_true h8; omega)) (show decide (cV y x.bal.v < 0) = false by first | with_reducible assumption | exact hc | exact hg)] at hJ; omega)
        iterate 6 refine zW ?_
        refine zDr [] ?_
        refine zT 0 ?_; refine zT 1 ?_; refine zT 2 ?_; refine zT 3 ?_; refine zT 4 ?_
        refine jaj 4 rfl (fun hg => ?_) fun hg => ?_
        rotate_left
        case' _ =>
         refine zT 5 ?_; refine zT 6 ?_
         refine jam 7 rfl zGd zKr zKr zKr (AP.ar (jap (k := k) rfl rfl rfl rfl (by decide) rfl (jae strv (hy (by have h9 : decide ((k : Int) = ((q.map strv).length : Int)) = false := (by first | with_reducible assumption | exact hg); have := of_decide_eq_false h9; simp only [List.length_map] at this; omega))))) rfl rfl ?_
         refine zT 8 ?_; refine zT 9 ?_; refine zT 10 ?_; refine zT 11 ?_; refine zT 12 ?_; refine zT 13 ?_
         refine zW ?_
        rotate_right
        case' _ =>
         refine zK 5 ?_; refine zK 6 ?_; refine zK 7 ?_; refine zK 8 ?_; refine zK 9 ?_; refine zK 10 ?_; refine zK 11 ?_; refine zK 12 ?_; refine zT 13 ?_
         refine zW ?_
        all_goals (
         refine xC (fun hc => ?_) fun hc => ?_
         ·first
          | (exact absurd hc (by decide))
          | (have he9 : intoS q x.bal.v = q.take k ++ [x.bal.v] ++ q.drop k := by
              refine jpP hpos (fun z hz => ?_)
              first | (have h9 : decide ((k : Int) = ((q.map strv).length : Int)) = true := (by first | with_reducible assumption | exact hg); have := of_decide_eq_true h9; rw [List.getElem?_eq_none (by omega)] at hz; cases hz) | (have h8 : decide ((k : Int) = ((q.map strv).length : Int)) = false := (by first | with_reducible assumption | exact hg); have := of_decide_eq_false h8; have hyk := hy (by omega); rw [hyk] at hz; cases hz; exact jau hc)
             refine zDr [] ?_
             refine zT 0 ?_; refine zT 1 ?_; refine zT 2 ?_; refine zT 4 ?_; refine zT 5 ?_; refine zT 6 ?_; refine zT 9 ?_; refine zT 10 ?_; refine zT 11 ?_
             refine zE2 3 7 ?_ ?_
             rotate_left
             case' _ =>
              refine xLt 9 1 16 ?_
              refine zW ?_
              refine zOn 3 ?_
              first | refine xEa 9 1 16 (hb := xLb) fun v49 hv49 => ?_ | refine xEn 9 1 16 (hb := xLb) fun v49 hv49 => ?_
              refine zW ?_
              refine zOn 8 ?_
              refine xEa 9 1 16 (hb := xLb) fun v54 hv54 => ?_
              refine zW ?_
              refine zOn 12 ?_
              refine xEa 9 1 16 (hb := xLb) fun v58 hv58 => ?_
              refine zW ?_
              refine zT 13 ?_
              refine zW ?_
             rotate_right
             case' _ =>
              first | refine xEa 9 1 16 (hb := xLb) fun v49 hv49 => ?_ | refine xEn 9 1 16 (hb := xLb) fun v49 hv49 => ?_
              refine zW ?_
              refine zOn 7 ?_
              refine xLt 9 1 16 ?_
              refine zW ?_
              refine zOn 8 ?_
              refine xEa 9 1 16 (hb := xLb) fun v54 hv54 => ?_
              refine zW ?_
              refine zOn 12 ?_
              refine xEa 9 1 16 (hb := xLb) fun v58 hv58 => ?_
              refine zW ?_
              refine zT 13 ?_
              refine zW ?_
             all_goals (
              refine zW ?_; refine zW ?_
              rw [show D.v (.string x.bal.v) = strv x.bal.v from rfl, List.nil_append, jcl]; refine zFz v58 [3,7,8,9] ?_
              iterate 5 refine zW ?_
              rw [hd] at hI; simp only [valuesGo] at hI
              have hil : (intoS q x.bal.v).length ≤ q.length + 1 := jcY
              have h58 : Value := v58; rw [if_pos hve] at hI; rw [← he9]; refine ⟨i + 1, intoS q x.bal.v, ⟨by omega, by omega, hI⟩, by omega, zWk⟩
              )
           )
         ·first
          | (exact absurd hc (by decide))
          | (have he9 : intoS q x.bal.v = q := jqb hpos (hy (by have h8 : decide ((k : Int) = ((q.map strv).length : Int)) = false := (by first | with_reducible assumption | exact hg); have := of_decide_eq_false h8; omega)) (jat hc)
             iterate 3 refine zW ?_
             first | (rw [show D.v (.string x.bal.v) = strv x.bal.v from rfl, List.nil_append, jcl]; refine zFz v58 [3,7,8,9] ?_) | skip
             iterate 5 refine zW ?_
             rw [hd] at hI; simp only [valuesGo] at hI
             have hil : (intoS q x.bal.v).length ≤ q.length + 1 := jcY
             first
             | (have h58 : Value := v58; rw [if_pos hve] at hI; rw [← he9]; refine ⟨i + 1, intoS q x.bal.v, ⟨by omega, by omega, hI⟩, by omega, zWk⟩)
             | (rw [if_pos hve, he9] at hI; refine ⟨i + 1, q, ⟨by omega, by omega, hI⟩, by omega, zWk⟩)
           )
         )
      )
    )
 ·have hge := of_decide_eq_false hc
  rw [jac (by omega)] at hI; simp only [valuesGo] at hI
  refine xP ?_
  rw [← hI]; rfl
theorem jbQ (l : List Evp) (hlen : l.length ≤ 100) (hl : ∀ e ∈ l, sizeT e.t ≤ 1000000000) (v : Str) : Con none Tryz.prog 278 [.sl 15 (l.map ev), .v (.string v)] [] (Is (.sl 1 ((boundsV l v).map .i)) []) := by
 refine xI Tryz.func278 Tryz.call278 fun hcap => ?_
 have hml : (l.map ev).length = l.length := by simp
 iterate 12 refine zW ?_
 refine jal [0,1,5] 1 rfl jbR jbp ?_
 refine xN fun _ => ?_
 iterate 4 refine zW ?_
 refine jag [1, 11, 12] [] (fun (i : Nat) (q : List Int) r => (5, .sl 1 (q.map .i)) :: (13, .i (i : Int)) :: r) (fun i q r => r) (fun i q => i ≤ l.length ∧ q.length ≤ 2 * i ∧ boundsGo v (l.drop i) q = boundsV l v) (fun i q => l.length - i) (0) ([]) zRc ⟨by omega, by simp, by simp [boundsV]⟩ (zWk) ?_
 intro i q ⟨hi, hql, hI⟩
 refine xC (fun hc => ?_) fun hc => ?_
 ·have hlt := of_decide_eq_true hc
  obtain ⟨x, hx, hd⟩ := jab (l := l) (k := i) (by omega)
  have hx' := jae ev hx
  have hxs := hl x (List.mem_of_getElem? hx)
  refine xL fun b7 => ?_
  refine xA (jay x hxs) ?_
  refine zW ?_; refine zW ?_
  iterate 11 all_goals first | refine zW ?_ | refine xG (fun hg => ?_) fun hg => ?_
  all_goals (
   refine xC (fun hc => ?_) fun hc => ?_
   ·first
    | (exact absurd hc (by decide))
    | (have hin : (vE x && (decide (x.bal.v = v) && !decide (x.low = 0))) = false := by first | (simp_all; done) | grind
       iterate 9 refine zW ?_
       rw [hd] at hI; simp only [boundsGo] at hI
       first
       | (have hj9 : q = q' := hq'.trans rfl; skip; fail)
       | (have hj9 := hq'; rw [if_pos hin] at hI; have e2 : q' = intoI (intoI q0 x.low) x.high := (by rw [hq', List.take_of_length_le (by simp; omega)]; rfl); rw [← e2] at hI; refine ⟨i + 1, q', ⟨by omega, by omega, hI⟩, by omega, zWk⟩)
       | (rw [if_neg (by rw [hin]; decide)] at hI; refine ⟨i + 1, q, ⟨by omega, by omega, hI⟩, by omega, zWk⟩)
     )
   ·first
    | (exact absurd hc (by decide))
    | (have hin : (vE x && (decide (x.bal.v = v) && !decide (x.low = 0))) = true := by first | (simp_all; done) | grind
       obtain ⟨q0, hq0⟩ : ∃ q0 : List Int, q0 = q := ⟨_, rfl⟩
       rw [← hq0] at hI hql ⊢
       iterate 13 refine zW ?_
       refine jag [1, 11, 12, 13, 36] [] (fun (j : Nat) (q : List Int) r => (5, .sl 1 (q.map .i)) :: (37, .i (j : Int)) :: r) (fun j q r => r) (fun j q => j ≤ 2 ∧ q.length ≤ 2 * i + j ∧ q = ([x.low, x.high].take j).foldl intoI q0) (fun j q => 2 - j) (0) (q0) zRc ⟨by omega, by omega, by simp⟩ (zWk) ?_
       intro j q' ⟨hj, hql', hq'⟩
       have hqm : (q'.map D.i).length = q'.length := by simp
       refine xC (fun hc => ?_) fun hc => ?_
       ·have hj2 := of_decide_eq_true hc
        obtain ⟨z, hz, hz2⟩ := arr2 x.low x.high (i := j) (by omega)
        iterate 6 refine zW ?_
        refine zP (jgw (k := j) rfl rfl rfl rfl rfl rfl (by omega) hz) ?_
        iterate 10 refine zW ?_
        refine jai [1, 5, 9, 11, 12, 13, 36, 37] [] (fun (k : Nat) r => (10, .i (k : Int)) :: r) (fun k r => r) (fun k => k ≤ q'.length ∧ posG (fun y => decide (y < z)) (q'.drop k) + k = posG (fun y => decide (y < z)) q') (fun k => q'.length - k) (0) zRc ⟨by omega, by simp⟩ (zWk) ?_
        intro k ⟨hk, hJ⟩
        obtain ⟨y, hy⟩ := jgb q' k 0
        refine xN fun _ => ?_
        refine zW ?_; refine zW ?_
        iterate 2 all_goals first | refine zW ?_ | refine xG (fun hg => ?_) fun hg => ?_
        all_goals first | (refine zY ?_; (refine zP (jap (k := k) rfl rfl rfl rfl (by decide) rfl (jae D.i (hy (by have h9 : decide ((k : Int) < ((q'.map D.i).length : Int)) = true := (by first | with_reducible assumption | exact hg); have := of_decide_eq_true h9; simp only [List.length_map] at this; omega)))) ?_)) | refine zSk ?_
        iterate 4 all_goals refine zW ?_
        all_goals (
         refine xC (fun hc => ?_) fun hc => ?_
         ·first
          | (exact absurd hc (by decide))
          | (iterate 10 refine zW ?_
             have hlt : k < q'.length := by have h9 : decide ((k : Int) < ((q'.map D.i).length : Int)) = true := (by first | with_reducible assumption | exact hg | exact hc); have := of_decide_eq_true h9; omega
             rw [jep (lt := (fun y => decide (y < z))) (hy hlt) (show decide (y < z) = true by first | with_reducible assumption | exact hc)] at hJ
             refine ⟨k + 1, ⟨by omega, by omega⟩, by omega, zWk⟩
           )
         ·first
          | (exact absurd hc (by decide))
          | (have hpos : posG (fun y => decide (y < z)) q' = k := by first | (have h9 : decide ((k : Int) < ((q'.map D.i).length : Int)) = false := (by first | with_reducible assumption | exact hg | exact hc); have := of_decide_eq_false h9; rw [jcX (by omega)] at hJ; omega) | (rw [jb7 (lt := (fun y => decide (y < z))) (hy (by have h8 : decide ((k : Int) < ((q'.map D.i).length : Int)) = true := (by first | with_reducible assumption | exact hg | exact hc); have := of_decide_eq_true h8; omega)) (show decide (y < z) = false by first | with_reducible assumption | exact hc | exact hg)] at hJ; omega)
             refine xN fun _ => ?_
             refine zW ?_; refine zW ?_
             iterate 2 all_goals first | refine zW ?_ | refine xG (fun hg => ?_) fun hg => ?_
             all_goals first | (refine zY ?_; (refine zP (jap (k := k) rfl rfl rfl rfl (by decide) rfl (jae D.i (hy (by have h9 : decide ((k : Int) = ((q'.map D.i).length : Int)) = false := (by first | with_reducible assumption | exact hg); have := of_decide_eq_false h9; simp only [List.length_map] at this; omega)))) ?_)) | refine zSk ?_
             iterate 4 all_goals refine zW ?_
             all_goals (
              refine xC (fun hc => ?_) fun hc => ?_
              ·first
               | (exact absurd hc (by decide))
               | (have he9 : intoI q' z = q'.take k ++ [z] ++ q'.drop k := by
                   refine jpP hpos (fun u hu => ?_)
                   first | (have h9 : decide ((k : Int) = ((q'.map D.i).length : Int)) = true := (by first | with_reducible assumption | exact hg); have := of_decide_eq_true h9; rw [List.getElem?_eq_none (by omega)] at hu; cases hu) | (have h8 : decide ((k : Int) = ((q'.map D.i).length : Int)) = false := (by first | with_reducible assumption | exact hg); have := of_decide_eq_false h8; have hyk := hy (by omega); rw [hyk] at hu; cases hu; exact jau hc)
                  refine zDr [] ?_
                  refine zT 0 ?_; refine zT 1 ?_; refine zT 2 ?_; refine zT 4 ?_; refine zT 7 ?_; refine zT 8 ?_; refine zT 9 ?_
                  refine zE2 3 5 ?_ ?_
                  rotate_left
                  case' _ =>
                   refine xLt 3 1 8 ?_
                   refine zW ?_
                   refine zOn 3 ?_
                   first | refine xEa 3 1 8 (hb := xLb) fun v69 hv69 => ?_ | refine xEn 3 1 8 (hb := xLb) fun v69 hv69 => ?_
                   refine zW ?_
                   refine zOn 6 ?_
                   refine xEa 3 1 8 (hb := xLb) fun v72 hv72 => ?_
                   refine zW ?_
                   refine zOn 10 ?_
                   refine xEa 3 1 8 (hb := xLb) fun v76 hv76 => ?_
                   refine zW ?_
                   refine zT 11 ?_
                   refine zW ?_
                  rotate_right
                  case' _ =>
                   first | refine xEa 3 1 8 (hb := xLb) fun v69 hv69 => ?_ | refine xEn 3 1 8 (hb := xLb) fun v69 hv69 => ?_
                   refine zW ?_
                   refine zOn 5 ?_
                   refine xLt 3 1 8 ?_
                   refine zW ?_
                   refine zOn 6 ?_
                   refine xEa 3 1 8 (hb := xLb) fun v72 hv72 => ?_
                   refine zW ?_
                   refine zOn 10 ?_
                   refine xEa 3 1 8 (hb := xLb) fun v76 hv76 => ?_
                   refine zW ?_
                   refine zT 11 ?_
                   refine zW ?_
                  all_goals (
                   refine zW ?_; refine zW ?_
                   rw [jcl D.i]; refine zFz v76 [1,5,11,12,13,36,37] ?_
                   iterate 5 refine zW ?_
                   have hil : (intoI q' z).length ≤ q'.length + 1 := jcY
                   have h76 : Value := v76; rw [← he9]; refine ⟨j + 1, intoI q' z, ⟨by omega, by omega, by rw [jen hz2, ← hq']⟩, by omega, zWk⟩
                   )
                )
              ·first
               | (exact absurd hc (by decide))
               | (have he9 : intoI q' z = q' := jqb hpos (hy (by have h8 : decide ((k : Int) = ((q'.map D.i).length : Int)) = false := (by first | with_reducible assumption | exact hg); have := of_decide_eq_false h8; omega)) (jat hc)
                  iterate 3 refine zW ?_
                  first | (rw [jcl D.i]; refine zFz v76 [1,5,11,12,13,36,37] ?_) | skip
                  iterate 5 refine zW ?_
                  have hil : (intoI q' z).length ≤ q'.length + 1 := jcY
                  first
                  | (have h76 : Value := v76; rw [← he9]; refine ⟨j + 1, intoI q' z, ⟨by omega, by omega, by rw [jen hz2, ← hq']⟩, by omega, zWk⟩)
                  | (refine ⟨j + 1, q', ⟨by omega, by omega, by rw [jen hz2, ← hq', he9]⟩, by omega, zWk⟩)
                )
              )
           )
         )
       ·have hj2 := of_decide_eq_false hc
        iterate 11 refine zW ?_
        rw [hd] at hI; simp only [boundsGo] at hI
        have hj9 := hq'; rw [if_pos hin] at hI; have e2 : q' = intoI (intoI q0 x.low) x.high := (by rw [hq', List.take_of_length_le (by simp; omega)]; rfl); rw [← e2] at hI; refine ⟨i + 1, q', ⟨by omega, by omega, hI⟩, by omega, zWk⟩
     )
   )
 ·have hge := of_decide_eq_false hc
  rw [jac (by omega)] at hI; simp only [boundsGo] at hI
  refine xP ?_
  rw [← hI]; rfl
theorem jbI (c : List Mem) (v a : Int) : Con none Tryz.prog 237 [cv c, .i v, .i a] [] (Is (.b (confirmsC c v a)) []) := by
 refine xI Tryz.func237 Tryz.call237 fun hcap => ?_
 refine xX fun b3 => ?_
 refine xA (jei c a) ?_
 refine xA (jcq _ _) ?_
 refine xP ?_; exact rfl
theorem jvI {m : Nat} (h : m < 1024) : 1023 &&& (2 ^ 63 - 1 - m) = 1023 - m := by
 refine Nat.eq_of_testBit_eq fun i => ?_
 rw [Nat.testBit_and, show (1023 : Nat) - m = 2 ^ 10 - (m + 1) from by omega, Nat.testBit_two_pow_sub_succ (n := 10) h, show (1023 : Nat) = 2 ^ 10 - 1 from rfl, Nat.testBit_two_pow_sub_one]
 by_cases hi : i < 10
 ·rw [jiE h hi]
 ·simp [hi]
theorem jdD (c : List Mem) (v s : Int) : Con none Tryz.prog 271 [cv c, .i v, .i s] [] (Is (.b (blocksC c v s)) []) := by
 refine xI Tryz.func271 Tryz.call271 fun hcap => ?_
 refine xX fun b3 => ?_
 refine xE (ja4 s) fun c8 hc8 => ?_
 refine zW ?_; refine zW ?_
 all_goals refine xG (fun hg => ?_) fun hg => ?_
 all_goals first | (refine zY ?_; refine jaa zRc (jdA c) rfl rfl ?_) | refine zSk ?_
 all_goals refine zW ?_
 all_goals first | (refine zY ?_; refine jbw zRc (jcq (declC c) v) rfl rfl fun c14 hc14 => ?_) | refine zSk ?_
 iterate 2 all_goals refine zW ?_
 all_goals (
  refine xC (fun hc => ?_) fun hc => ?_
  ·first
   | (exact absurd hc (by decide))
   | (iterate 7 refine zW ?_
      refine zPi ?_
      first | (rw [jow (hc14.trans (jau (c := c14) (by with_reducible assumption)))]; rfl) | (rw [jo9 (hc8.trans (jau (c := c8) (by with_reducible assumption)))]; rfl)
    )
  ·first
   | (exact absurd hc (by decide))
   | (have hv0 := hc8.trans (jat (c := c8) (by with_reducible assumption))
      have hh0 := hc14.trans (jat hc)
      obtain ⟨m, rfl, hm⟩ := jbo hv0
      obtain ⟨j, x, rfl, hj, hx, _⟩ := jq1 hh0
      have hx' := jae mv hx
      have hp := jaG hj
      have hxt := jbf hx
      have hsub : (1023 : Int) - (m : Int) = ((1023 - m : Nat) : Int) := by omega
      have hand : 1023 - m < 1024 := by omega
      iterate 3 refine zW ?_
      refine zDr [] ?_
      refine zT 0 ?_; refine zT 1 ?_; refine zT 2 ?_
      refine jam 3 rfl zGd zKr zKr zKr (AP.ar (jap (k := j) rfl rfl rfl rfl (by decide) rfl hx')) rfl rfl ?_
      refine zT 4 ?_; refine zT 5 ?_; refine zT 6 ?_
      refine jam 7 rfl zGd zKr zKr zKr (AP.ar (jb0 (m := ((1023 - m : Nat) : Int)) rfl rfl (by simp only [addI, Option.some.injEq]; omega) (by omega))) rfl rfl ?_
      refine zT 8 ?_
      refine jam 9 rfl zGd zKr zKr zKr (AP.ar (ja2 (p := 1) rfl rfl rfl (by omega) (by omega))) rfl rfl ?_
      refine zT 10 ?_; refine zOn 11 ?_
      refine xE (jhl _ x.t) fun c28 hc28 => ?_
      refine zW ?_
      refine zT 12 ?_; refine zT 13 ?_
      refine zW ?_
      all_goals (
       refine xP ?_
       rw [jrU hv0 hh0 hxt, show (1023 &&& (2 ^ 63 - 1 - m)) = 1023 - m from jvI (by omega), hc28]; rfl
       )
    )
  )
theorem jcK (c : List Mem) (v a b : Int) : Con none Tryz.prog 256 [cv c, .i v, .i a, .i b] [] (Is (.b (acceptsC c v a b)) []) := by
 refine xI Tryz.func256 Tryz.call256 fun hcap => ?_
 refine xX fun b4 => ?_
 refine xE (ja4 a) fun c10 hc10 => ?_
 refine zW ?_; refine zW ?_
 all_goals refine xG (fun hg => ?_) fun hg => ?_
 all_goals first | (refine zY ?_; refine jbw zRc (ja4 b) rfl rfl fun c14 hc14 => ?_) | refine zSk ?_
 iterate 2 all_goals refine zW ?_
 all_goals (
  refine xC (fun hc => ?_) fun hc => ?_
  ·first
   | (exact absurd hc (by decide))
   | (iterate 7 refine zW ?_
      refine zPi ?_
      first | (rw [jmm (hc14.trans (jau (c := c14) (by with_reducible assumption)))]; rfl) | (rw [jnD (hc10.trans (jau (c := c10) (by with_reducible assumption)))]; rfl)
    )
  ·first
   | (exact absurd hc (by decide))
   | (have hv0 := hc10.trans (jat (c := c10) (by with_reducible assumption))
      have hw0 := hc14.trans (jat hc)
      obtain ⟨m, rfl, hm⟩ := jbo hv0
      obtain ⟨j, rfl, hj⟩ := jbo hw0
      refine xE (jdD c v _) fun c20 hc20 => ?_
      refine zW ?_
      iterate 4 all_goals first | refine zW ?_ | refine xG (fun hg => ?_) fun hg => ?_
      all_goals first | (refine zY ?_; refine jaa zRc (jei c _) rfl rfl ?_) | refine zSk ?_
      all_goals refine zW ?_
      all_goals first | (refine zY ?_; refine jbw zRc (jcq _ _) rfl rfl fun c28 hc28 => ?_) | refine zSk ?_
      iterate 2 all_goals refine zW ?_
      all_goals (
       refine xP ?_
       rw [joX hv0 hw0, hc20]
       first | (rw [hc28, show c20 = false by with_reducible assumption]; rfl) | (rw [show c20 = true by with_reducible assumption]; rfl)
       )
    )
  )
def setR : Nat → List Evp → List Bool → Nat
 | s, [], _ => s
 | s, e :: r, [] => setR s r []
 | s, e :: r, o :: os => setR (if (o && (decide (0 ≤ e.node) && decide (e.node ≤ 9))) = true then s ||| 1 * 2 ^ e.node.toNat else s) r os
theorem jst {s : Nat} {r : List Evp} {o : Bool} {os : List Bool} (h : o = true) (hn : e.node = n) (h9 : n ≤ 9) : setR s (e :: r) (o :: os) = setR (s ||| 1 * 2 ^ n) r os := by
 simp only [setR]
 rw [if_pos (by rw [h, hn]; simp; omega), hn, Int.toNat_natCast]
theorem jvg {s : Nat} {r : List Evp} {o : Bool} {os : List Bool} (h : o = false ∨ ¬ (0 ≤ e.node ∧ e.node ≤ 9)) : setR s (e :: r) (o :: os) = setR s r os := by
 simp only [setR]
 rw [if_neg]
 intro h2
 simp only [Bool.and_eq_true, decide_eq_true_eq] at h2
 rcases h with h | h
 ·rw [h] at h2; cases h2.1
 ·exact h h2.2
theorem joi (h : n ≤ 9) : IntKind.u64.wrap (n : Int) = (n : Int) := by
 have : n = 0 ∨ n = 1 ∨ n = 2 ∨ n = 3 ∨ n = 4 ∨ n = 5 ∨ n = 6 ∨ n = 7 ∨ n = 8 ∨ n = 9 := by omega
 rcases this with h | h | h | h | h | h | h | h | h | h <;> subst h <;> decide
def bV (b : Bool) : D := .b b
theorem jcW (l : List Evp) (os : List Bool) (hlo : l.length = os.length) : Con none Tryz.prog 242 [.sl 15 (l.map ev), .sl 1 (os.map bV)] [] (Is (.i (setR 0 l os : Nat)) []) := by
 refine xI Tryz.func242 Tryz.call242 fun hcap => ?_
 have hml : (l.map ev).length = l.length := by simp
 have hmo : (os.map bV).length = os.length := by simp
 refine xN fun _ => ?_
 iterate 4 refine zW ?_
 refine jag [1, 8, 9] [] (fun (k : Nat) (s : Nat) r => (5, .i (s : Int)) :: (10, .i (k : Int)) :: r) (fun k s r => r) (fun k s => k ≤ l.length ∧ s < 1024 ∧ setR s (l.drop k) (os.drop k) = setR 0 l os) (fun k s => l.length - k) (0) (0) zRc ⟨by omega, by omega, by simp⟩ (zWk) ?_
 intro k s ⟨hk, hs, hI⟩
 refine xC (fun hc => ?_) fun hc => ?_
 ·have hlt := of_decide_eq_true hc
  obtain ⟨x, hx, hd⟩ := jab (l := l) (k := k) (by omega)
  have hx' := jae ev hx
  obtain ⟨o, ho, hd2⟩ := jab (l := os) (k := k) (by omega)
  have ho' := jae bV ho
  refine xL fun b7 => ?_
  refine xN fun _ => ?_
  refine zW ?_; refine zW ?_
  iterate 2 all_goals refine zW ?_
  all_goals (refine zY ?_; refine zP (jap (k := k) rfl rfl rfl rfl (by decide) rfl ho') ?_)
  iterate 12 all_goals first | refine zW ?_ | refine xG (fun hg => ?_) fun hg => ?_
  all_goals (
   refine xC (fun hc => ?_) fun hc => ?_
   ·first
    | (exact absurd hc (by decide))
    | (obtain ⟨n9, hn9, hn99⟩ : ∃ n : Nat, x.node = n ∧ n ≤ 9 := by have h1 := of_decide_eq_true (show decide (x.node ≤ 9) = true by first | with_reducible assumption | exact hc); have h2 := of_decide_eq_true (show decide (x.node ≥ 0) = true by first | with_reducible assumption | exact hg); exact ⟨x.node.toNat, by omega, by omega⟩
       rw [hn9]
       have hpn := jaG (k := n9) (by omega)
       iterate 5 refine zW ?_
       (rw [joi (by omega : n9 ≤ 9)]; refine zP (ja2 (p := 1) rfl rfl rfl (by omega) (by omega)) ?_)
       iterate 10 refine zW ?_
       rw [hd, hd2] at hI
       have h9 : Nat := n9; rw [jst (by with_reducible assumption) hn9 hn99] at hI; refine ⟨k + 1, s ||| 1 * 2 ^ n9, ⟨by omega, jb5 hs (by omega), hI⟩, by omega, zWk⟩
     )
   ·first
    | (exact absurd hc (by decide))
    | (iterate 8 refine zW ?_
       rw [hd, hd2] at hI
       first
       | (have h9 : Nat := n9; rw [jst (by with_reducible assumption) hn9 hn99] at hI; refine ⟨k + 1, s ||| 1 * 2 ^ n9, ⟨by omega, jb5 hs (by omega), hI⟩, by omega, zWk⟩)
       | (have hff : o = false ∨ ¬ (0 ≤ x.node ∧ x.node ≤ 9) := (by first | exact .inl (by with_reducible assumption) | exact .inr (by have := of_decide_eq_false (show decide (x.node ≤ 9) = false by with_reducible assumption); omega) | exact .inr (by have := of_decide_eq_false (show decide (x.node ≥ 0) = false by with_reducible assumption); omega)); rw [jvg hff] at hI; refine ⟨k + 1, s, ⟨by omega, hs, hI⟩, by omega, zWk⟩)
     )
   )
 ·have hge := of_decide_eq_false hc
  rw [jac (by omega)] at hI
  refine xP ?_
  rw [← hI]; cases os.drop k <;> rfl
theorem jlT (p : Evp → Bool) : ∀ (l : List Evp) (s : Nat), setR s l (l.map p) = whoGo (fun e => p e && (decide (0 ≤ e.node) && decide (e.node ≤ 9))) l s
 | [], _ => rfl
 | e :: r, s => by
  simp only [List.map_cons, setR, whoGo]
  exact jlT p r _
theorem jfx (p : Evp → Bool) (l : List Evp) : setR 0 l (l.map p) = setP p l := jlT p l 0
theorem jik : tmade Tryz.prog 101 (10 * 4) = some (List.replicate 10 zeroMem.cells.toList).flatten := by kernel_rfl
theorem jsC {y : Mem} (hv : vE e = true) (hn : n = e.node.toNat) (hy : q[n]? = some y) (hd : y.decl = false) : putE q e = q.set n ⟨true, e.t⟩ := by
 subst hn
 unfold putE
 rw [if_pos hv, hy]
 show (if y.decl = true then q else _) = _
 rw [if_neg (by rw [hd]; decide)]
theorem juv (hv : vE e = false) : putE q e = q := by unfold putE; rw [if_neg (by rw [hv]; decide)]
theorem jtW {y : Mem} (hv : vE e = true) (hn : n = e.node.toNat) (hy : q[n]? = some y) (hd : y.decl = true) : putE q e = q := by
 subst hn
 unfold putE
 rw [if_pos hv, hy]
 show (if y.decl = true then q else _) = _
 rw [if_pos hd]
theorem jve (h : q.length = 10) : ∃ y, n < 10 → q[n]? = some y := by
 by_cases hn : n < 10
 ·exact ⟨q[n]'(by omega), fun _ => List.getElem?_eq_getElem _⟩
 ·exact ⟨⟨false, Trust.none⟩, fun h => absurd h hn⟩
theorem jqq : (List.replicate 10 noMem) = nobody := rfl
theorem joH {node : Int} {t : Trust} {l : List Evp} (h : node < 0 ∨ 10 ≤ node) : viewE node t l = nobody := by unfold viewE; rw [if_pos h]
theorem jrj {t : Trust} {l : List Evp} (h : n < 10) : viewE (n : Int) t l = putsE l (nobody.set n ⟨true, t⟩) := by unfold viewE; rw [if_neg (by omega), Int.toNat_natCast]
theorem jb9 (node : Int) (t : Trust) (l : List Evp) (hl : ∀ e ∈ l, sizeT e.t ≤ 1000000000) : Con none Tryz.prog 241 [.i node, av t, .sl 15 (l.map ev)] [] (Is (cv (viewE node t l)) []) := by
 refine xI Tryz.func241 Tryz.call241 fun hcap => ?_
 have hml : (l.map ev).length = l.length := by simp
 refine xX fun b4 => ?_
 refine zAl fun b6 => ?_
 iterate 4 refine zW ?_
 refine jdV (N := 10) (l := (List.replicate 10 noMem).map mv) rfl rfl rfl rfl jik (by simp) jkM ⟨by decide, by decide⟩ rfl rfl (fun g => ?_)
 refine xL fun b7 => ?_
 iterate 9 refine zW ?_
 iterate 3 all_goals first | refine zW ?_ | refine xG (fun hg => ?_) fun hg => ?_
 all_goals (
  refine xC (fun hc => ?_) fun hc => ?_
  ·first
   | (exact absurd hc (by decide))
   | (have hbad : node < 0 ∨ 10 ≤ node := by first | (have := of_decide_eq_true hg; omega) | (have := of_decide_eq_true hc; omega)
      iterate 6 refine zW ?_
      refine zFz (.slice (some ⟨g, 0, none⟩) 10 10) [6] ?_
      refine xP ?_
      rw [joH hbad]; rfl
    )
  ·first
   | (exact absurd hc (by decide))
   | (have hgood : ¬ (node < 0 ∨ 10 ≤ node) := by have h1 := of_decide_eq_false hc; have h2 := of_decide_eq_false (by first | with_reducible assumption | exact hg : decide (node < 0) = false); omega
      iterate 3 refine zW ?_
      obtain ⟨n0, rfl, hn10⟩ : ∃ n : Nat, node = n ∧ n < 10 := ⟨node.toNat, by omega, by omega⟩
      obtain ⟨y0, hy0, _⟩ := jab (l := List.replicate 10 noMem) (k := n0) (by simp; omega)
      have hyy0 := jae mv hy0
      iterate 6 refine zW ?_
      refine zP (jaS (k := n0) rfl rfl rfl rfl rfl (by omega)) ?_
      refine jaI (off := 0) rfl rfl jdG jcm rfl hyy0 zRc ?_
      refine xN fun _ => ?_
      iterate 4 refine zW ?_
      refine jag [6, 7, 25, 26] [.box b7 _ _, .box b6 _ _, .box b4 _ _] (fun (k : Nat) (q : List Mem) r => (27, .i (k : Int)) :: r) (fun k q r => .arr (.slice (some ⟨g, 0, none⟩) 10 10) 101 4 (q.map mv) :: r) (fun k q => k ≤ l.length ∧ q.length = 10 ∧ putsE (l.drop k) q = putsE l (nobody.set n0 ⟨true, t⟩)) (fun k q => l.length - k) (0) (((List.replicate 10 noMem).set n0 ⟨true, t⟩)) zRc ⟨by omega, by simp, by rw [jqq]; simp⟩ (by rw [show D.agg [.b true, .i t.th, .sl 1 (t.nodes.map .i), .sl 3 (avs t.inner)] = mv ⟨true, t⟩ from rfl, ← List.map_set]; exact (zWk)) ?_
      intro k q ⟨hk, hql, hI⟩
      refine xC (fun hc => ?_) fun hc => ?_
      ·have hlt := of_decide_eq_true hc
       obtain ⟨x, hx, hd⟩ := jab (l := l) (k := k) (by omega)
       have hx' := jae ev hx
       have hxs := hl x (List.mem_of_getElem? hx)
       obtain ⟨n, hn⟩ : ∃ n, n = x.node.toNat := ⟨_, rfl⟩
       have hnn : vE x = true → x.node = (n : Int) ∧ n < 10 := fun h => by have := jh8 h; omega
       obtain ⟨y, hy⟩ := jve (n := n) hql
       refine xL fun b9 => ?_
       refine xA (jay x hxs) ?_
       refine zW ?_
       iterate 4 all_goals first | refine zW ?_ | refine xG (fun hg => ?_) fun hg => ?_
       all_goals first | (refine zY ?_; (rw [(hnn (by first | with_reducible assumption | exact hg)).1]; refine zP (jaS (k := n) rfl rfl rfl rfl rfl (hnn (by first | with_reducible assumption | exact hg)).2) ?_)) | refine zSk ?_
       all_goals refine zW ?_
       all_goals first | (refine zY ?_; (refine jla (jhK (off := 0) rfl jcm List.not_mem_nil rfl (jae mv (hy (hnn (by first | with_reducible assumption | exact hg)).2)) zRc) rfl rfl rfl ?_)) | refine zSk ?_
       iterate 2 all_goals refine zW ?_
       all_goals (
        refine xC (fun hc => ?_) fun hc => ?_
        ·first
         | (exact absurd hc (by decide))
         | (have hve : vE x = true := by first | with_reducible assumption | assumption
            have hn1 := hnn hve
            have hy1 := hy hn1.2
            have hyd : y.decl = false := jau (by with_reducible assumption)
            have hyy1 := jae mv hy1
            iterate 8 refine zW ?_
            refine zP (jaS (k := n) rfl rfl rfl rfl rfl (by omega)) ?_
            refine jaI (off := 0) rfl rfl jdG jcm rfl hyy1 zRc ?_
            iterate 8 refine zW ?_
            rw [hd] at hI
            simp only [putsE] at hI
            rw [jsC hve hn hy1 hyd] at hI; refine ⟨k + 1, q.set n ⟨true, x.t⟩, ⟨by omega, by rw [List.length_set]; exact hql, hI⟩, by omega, ?_⟩; rw [List.map_set]; exact (zWk)
          )
        ·first
         | (exact absurd hc (by decide))
         | (iterate 8 refine zW ?_
            rw [hd] at hI
            simp only [putsE] at hI
            first
            | (rw [jsC hve hn hy1 hyd] at hI; refine ⟨k + 1, q.set n ⟨true, x.t⟩, ⟨by omega, by rw [List.length_set]; exact hql, hI⟩, by omega, ?_⟩; rw [List.map_set]; exact (zWk))
            | (rw [juv (by with_reducible assumption)] at hI; refine ⟨k + 1, q, ⟨by omega, hql, hI⟩, by omega, zWk⟩)
            | (rw [jtW (by first | with_reducible assumption | exact hg) hn (hy (hnn (by first | with_reducible assumption | exact hg)).2) (jat (by with_reducible assumption))] at hI; refine ⟨k + 1, q, ⟨by omega, hql, hI⟩, by omega, zWk⟩)
          )
        )
      ·have hge := of_decide_eq_false hc
       rw [jac (by omega)] at hI; simp only [putsE] at hI
       refine zFz (.slice (some ⟨g, 0, none⟩) 10 10) [6,7] ?_
       refine xP ?_
       rw [jrj hn10, ← hI]; rfl
    )
  )
theorem bsn (q : List Bool) (y : Bool) : List.map bV q ++ [D.b y] = List.map bV (q ++ [y]) := by rw [List.map_append]; rfl
theorem jbG {α β : Type} (f : α → β) {l : List α} {k : Nat} {x : α} (h : l[k]? = some x) : (l.take (k + 1)).map f = (l.take k).map f ++ [f x] := by rw [List.take_add_one, h]; simp
theorem jjm (l : List Evp) (hlen : l.length ≤ 100) (hl : ∀ e ∈ l, sizeT e.t ≤ 1000000000) (b : Bal) : Con none Tryz.prog 288 [.sl 15 (l.map ev), bv b] [] (Is (.tup [.i (setP (fun e => apR e b || vpR e b) l : Nat), .i (setP (fun e => apR e b) l : Nat)]) []) := by
 refine xI Tryz.func288 Tryz.call288 fun hcap => ?_
 have hml : (l.map ev).length = l.length := by simp
 refine xX fun b3 => ?_
 refine xN fun _ => ?_
 iterate 4 refine zW ?_
 refine jaO [0, 3, 11, 12] [.box b3 _ _] (fun (k : Nat) (v : Value) (w : Value) r => (6, .v v) :: (7, .v w) :: (13, .i (k : Int)) :: r) (fun k v w r => .arr v 4 1 (((l.take k).map (fun e => apR e b || vpR e b)).map bV) :: .arr w 4 1 (((l.take k).map (fun e => apR e b)).map bV) :: r) (fun k v w => k ≤ l.length) (fun k v w => l.length - k) (0) (.slice none 0 0) (.slice none 0 0) zRc (by omega) ((jaM 4 1 rfl).trans ((jaM 4 1 rfl).trans (zWk))) ?_
 intro k v w hk
 have hm1 : (((l.take k).map (fun e => apR e b || vpR e b)).map bV).length = k := by simp; omega
 have hm2 : (((l.take k).map (fun e => apR e b)).map bV).length = k := by simp; omega
 refine xC (fun hc => ?_) fun hc => ?_
 ·have hlt := of_decide_eq_true hc
  obtain ⟨x, hx, hd⟩ := jab (l := l) (k := k) (by omega)
  have hx' := jae ev hx
  have hxs := hl x (List.mem_of_getElem? hx)
  refine xL fun b9 => ?_
  refine xB (juB x hxs b) ?_; rintro _ _ ⟨rfl, rfl⟩; obtain ⟨ya, hya⟩ : ∃ y, y = apR x b := ⟨_, rfl⟩; rw [← hya]
  iterate 7 refine zW ?_
  iterate 2 all_goals first | refine zW ?_ | refine xG (fun hg => ?_) fun hg => ?_
  all_goals first | (refine zY ?_; (refine jaq zRc (jud x hxs b) jaw rfl rfl ?_; rintro _ _ ⟨rfl, rfl⟩; obtain ⟨yv, hyv⟩ : ∃ y, y = vpR x b := ⟨_, rfl⟩; rw [← hyv])) | refine zSk ?_
  all_goals refine zW ?_
  all_goals (refine xLt 4 1 1 ?_)
  all_goals (first | refine xEa 4 1 1 (hb := xLb) fun v28 hv28 => ?_ | refine xEn 4 1 1 (hb := xLb) fun v28 hv28 => ?_)
  iterate 2 all_goals refine zW ?_
  all_goals (refine xLt 4 1 1 ?_)
  all_goals (first | refine xEa 4 1 1 (hb := xLb) fun v32 hv32 => ?_ | refine xEn 4 1 1 (hb := xLb) fun v32 hv32 => ?_)
  iterate 2 all_goals refine zW ?_
  all_goals (
   iterate 8 refine zW ?_
   rw [bsn, bsn]
   first
   | (have h0 : ya = true := (by first | with_reducible assumption | exact hg); rw [show (l.take k).map (fun e => apR e b || vpR e b) ++ [true] = (l.take (k + 1)).map (fun e => apR e b || vpR e b) from by rw [jbG _ hx]; rw [← hya, h0]; rfl, show (l.take k).map (fun e => apR e b) ++ [ya] = (l.take (k + 1)).map (fun e => apR e b) from by rw [jbG _ hx, hya]]; refine ⟨k + 1, _, _, by omega, by omega, zWk⟩)
   | (have h0 : ya = false := (by first | with_reducible assumption | exact hg); rw [show (l.take k).map (fun e => apR e b || vpR e b) ++ [yv] = (l.take (k + 1)).map (fun e => apR e b || vpR e b) from by rw [jbG _ hx]; rw [← hya, ← hyv, h0]; rfl, show (l.take k).map (fun e => apR e b) ++ [ya] = (l.take (k + 1)).map (fun e => apR e b) from by rw [jbG _ hx, hya]]; refine ⟨k + 1, _, _, by omega, by omega, zWk⟩)
   )
 ·have hge := of_decide_eq_false hc
  rw [List.take_of_length_le (show l.length ≤ k by omega)]
  refine zFz v [0,6,7] ?_
  refine zFz w [0,6,7] ?_
  refine xA (jcW l (l.map (fun e => apR e b || vpR e b)) (by simp)) ?_
  refine xA (jcW l (l.map (fun e => apR e b)) (by simp)) ?_
  refine xP ?_
  rw [jfx, jfx]; rfl
theorem jnl (node : Int) (t : Trust) (l : List Evp) (hlen : l.length ≤ 100) (hl : ∀ e ∈ l, sizeT e.t ≤ 1000000000) (b : Bal) : Con none Tryz.prog 275 [.i node, av t, .sl 15 (l.map ev), bv b] [] (Is (.b (acc25 node t l b)) []) := by
 refine xI Tryz.func275 Tryz.call275 fun hcap => ?_
 refine xX fun b5 => ?_
 refine zBx fun b7 => ?_
 refine xA (jjm l hlen hl b) ?_
 refine xA (jb9 node t l hl) ?_
 refine xA (jcK _ _ _ _) ?_
 refine xP ?_; exact rfl
theorem jnr (node : Int) (t : Trust) (l : List Evp) (hlen : l.length ≤ 100) (hl : ∀ e ∈ l, sizeT e.t ≤ 1000000000) (b : Bal) : Con none Tryz.prog 276 [.i node, av t, .sl 15 (l.map ev), bv b] [] (Is (.b (cnf25 node t l b)) []) := by
 refine xI Tryz.func276 Tryz.call276 fun hcap => ?_
 refine xX fun b5 => ?_
 refine zBx fun b7 => ?_
 refine xA (jjm l hlen hl b) ?_
 refine xA (jb9 node t l hl) ?_
 refine xA (jbI _ _ _) ?_
 refine xP ?_; exact rfl
theorem jc3 (b : Bal) : Con none Tryz.prog 274 [bv b] [] (Is (bv (raiseB b)) []) := by
 refine xI Tryz.func274 Tryz.call274 fun hcap => ?_
 refine xX fun b1 => ?_
 refine zAl fun b2 => ?_
 refine xC (fun hc => ?_) fun hc => ?_
 ·have h1 := of_decide_eq_true hc
  refine xP ?_
  unfold raiseB bv
  rw [if_pos h1]; rfl
 ·have h1 := of_decide_eq_false hc
  refine xP ?_
  unfold raiseB bv
  rw [if_neg h1]; rfl
theorem jci (node : Int) (t : Trust) (l : List Evp) (hlen : l.length ≤ 100) (hl : ∀ e ∈ l, sizeT e.t ≤ 1000000000) (p q : Bal) (v : Str) : Con none Tryz.prog 259 [.i node, av t, .sl 15 (l.map ev), bv p, bv q, .v (.string v)] [] (Is (bv (nextV node t l p q v)) []) := by
 refine xI Tryz.func259 Tryz.call259 fun hcap => ?_
 refine xX fun b7 => ?_
 refine zBx fun b9 => ?_
 refine zBx fun b10 => ?_
 refine zAl fun b12 => ?_
 refine xB (jey l hlen hl) ?_; rintro _ _ ⟨rfl, rfl⟩; obtain ⟨bs, hbs⟩ : ∃ bs, bs = ballotsV l := ⟨_, rfl⟩; rw [← hbs]; have hbm : (bs.map bv).length = bs.length := (by simp)
 refine zLn fun _ => ?_
 iterate 4 refine zW ?_
 refine jai [0, 2, 5, 7, 9, 10, 12, 16, 17] [.box b12 _ _, .box b10 _ _, .box b9 _ _, .box b7 _ _] (fun (k : Nat) r => (18, .i (k : Int)) :: r) (fun k r => r) (fun k => k ≤ bs.length ∧ nextGo node t l p q v (bs.drop k) = nextV node t l p q v) (fun k => bs.length - k) (0) zRc ⟨by omega, by rw [hbs]; rfl⟩ (zWk) ?_
 intro k ⟨hk, hI⟩
 refine xC (fun hc => ?_) fun hc => ?_
 ·have hlt := of_decide_eq_true hc
  obtain ⟨x, hx, hd⟩ := jab (l := bs) (k := k) (by omega)
  have hx' := jae bv hx
  refine xL fun b14 => ?_
  iterate 5 refine zW ?_
  refine zDr [] ?_
  refine zT 0 ?_; refine zT 1 ?_; refine zT 2 ?_
  refine jaj 2 rfl (fun hg => ?_) fun hg => ?_
  rotate_left
  case' _ =>
   refine zK 3 ?_; refine zK 4 ?_; refine zK 5 ?_; refine zK 6 ?_; refine zT 7 ?_; refine zT 8 ?_; refine zT 9 ?_; refine zT 11 ?_; refine zT 13 ?_; refine zOn 10 ?_
   refine xA (jc3 p) ?_
   refine zW ?_
   refine zOn 12 ?_
   refine xA (jc3 q) ?_
   refine zW ?_
   refine zOn 14 ?_
   refine xA (jfD (raiseB p) (raiseB q) x) ?_
   refine zW ?_
   refine zT 15 ?_
   refine zW ?_
  rotate_right
  case' _ =>
   refine zT 3 ?_; refine zT 4 ?_; refine zT 5 ?_; refine zT 6 ?_; refine zT 7 ?_; refine zT 8 ?_
   refine jaj 8 rfl (fun hg => ?_) fun hg => ?_
   rotate_left
   case' _ =>
    refine zT 9 ?_; refine zT 11 ?_; refine zT 13 ?_; refine zOn 10 ?_
    refine xA (jc3 p) ?_
    refine zW ?_
    refine zOn 12 ?_
    refine xA (jc3 q) ?_
    refine zW ?_
    refine zOn 14 ?_
    refine xA (jfD (raiseB p) (raiseB q) x) ?_
    refine zW ?_
    refine zT 15 ?_
    refine zW ?_
   rotate_right
   case' _ =>
    refine zK 9 ?_; refine zK 10 ?_; refine zK 11 ?_; refine zK 12 ?_; refine zK 13 ?_; refine zK 14 ?_; refine zT 15 ?_
    refine zW ?_
  all_goals (
   refine xC (fun hc => ?_) fun hc => ?_
   ·first
    | (exact absurd hc (by decide))
    | (have hco : ((!decide (v = noS) && !decide (x.v = v)) || prB (raiseB p) (raiseB q) x) = true := by first | (simp_all [noS]; done) | grind [noS]
       iterate 9 refine zW ?_
       rw [hd] at hI; simp only [nextGo] at hI
       rw [if_pos hco] at hI; refine ⟨k + 1, ⟨by omega, hI⟩, by omega, zWk⟩
     )
   ·first
    | (exact absurd hc (by decide))
    | (have hco : ((!decide (v = noS) && !decide (x.v = v)) || prB (raiseB p) (raiseB q) x) = false := by first | (simp_all [noS]; done) | grind [noS]
       refine xA (jnl node t l hlen hl x) ?_
       refine xC (fun hc => ?_) fun hc => ?_
       ·have hac : acc25 node t l x = true := hc
        refine xP ?_
        rw [hd] at hI; simp only [nextGo] at hI
        rw [if_neg (by rw [hco]; decide), if_pos hac] at hI
        rw [← hI]; rfl
       ·have hac : acc25 node t l x = false := hc
        iterate 8 refine zW ?_
        rw [hd] at hI; simp only [nextGo] at hI
        first
        | (rw [if_pos hco] at hI; refine ⟨k + 1, ⟨by omega, hI⟩, by omega, zWk⟩)
        | (rw [if_neg (by rw [hco]; decide), if_neg (by rw [hac]; decide)] at hI; refine ⟨k + 1, ⟨by omega, hI⟩, by omega, zWk⟩)
     )
   )
 ·have hge := of_decide_eq_false hc
  rw [jac (by omega)] at hI; simp only [nextGo] at hI
  refine xP ?_
  rw [← hI]; rfl
theorem jft (node : Int) (t : Trust) (l : List Evp) (hlen : l.length ≤ 100) (hl : ∀ e ∈ l, sizeT e.t ≤ 1000000000) (a : Bal) : Con none Tryz.prog 263 [.i node, av t, .sl 15 (l.map ev), bv a] [] (Is (bv (highV node t l a)) []) := by
 refine xI Tryz.func263 Tryz.call263 fun hcap => ?_
 refine xX fun b5 => ?_
 refine zBx fun b7 => ?_
 refine zAl fun b8 => ?_
 refine xB (jey l hlen hl) ?_; rintro _ _ ⟨rfl, rfl⟩; obtain ⟨bs, hbs⟩ : ∃ bs, bs = ballotsV l := ⟨_, rfl⟩; rw [← hbs]; have hbm : (bs.map bv).length = bs.length := (by simp)
 refine zLn fun _ => ?_
 iterate 4 refine zW ?_
 refine jai [0, 2, 5, 7, 8, 12, 13] [.box b8 _ _, .box b7 _ _, .box b5 _ _] (fun (k : Nat) r => (14, .i (k : Int)) :: r) (fun k r => r) (fun k => k ≤ bs.length ∧ highGo node t l a (bs.drop k) = highV node t l a) (fun k => bs.length - k) (0) zRc ⟨by omega, by rw [hbs]; rfl⟩ (zWk) ?_
 intro k ⟨hk, hI⟩
 refine xC (fun hc => ?_) fun hc => ?_
 ·have hlt := of_decide_eq_true hc
  obtain ⟨x, hx, hd⟩ := jab (l := bs) (k := k) (by omega)
  have hx' := jae bv hx
  refine xL fun b10 => ?_
  iterate 9 refine zW ?_
  iterate 2 all_goals first | refine zW ?_ | refine xG (fun hg => ?_) fun hg => ?_
  all_goals first | (refine zY ?_; refine jaa zRc (jcz a x) rfl rfl ?_) | refine zSk ?_
  iterate 6 all_goals first | refine zW ?_ | refine xG (fun hg => ?_) fun hg => ?_
  all_goals first | (refine zY ?_; refine jaa zRc (jnr node t l hlen hl x) rfl rfl ?_) | refine zSk ?_
  all_goals refine zW ?_
  all_goals (
   refine xC (fun hc => ?_) fun hc => ?_
   ·first
    | (exact absurd hc (by decide))
    | (have hco : (decide (x.n ≤ 1000) && (lB a x && cnf25 node t l x)) = true := by first | (simp_all; done) | grind
       refine xP ?_
       rw [hd] at hI; simp only [highGo] at hI
       rw [if_pos hco] at hI
       rw [← hI]; rfl
     )
   ·first
    | (exact absurd hc (by decide))
    | (have hco : (decide (x.n ≤ 1000) && (lB a x && cnf25 node t l x)) = false := by first | (simp_all; done) | grind
       iterate 8 refine zW ?_
       rw [hd] at hI; simp only [highGo] at hI
       rw [if_neg (by rw [hco]; decide)] at hI
       refine ⟨k + 1, ⟨by omega, hI⟩, by omega, zWk⟩
     )
   )
 ·have hge := of_decide_eq_false hc
  rw [jac (by omega)] at hI; simp only [highGo] at hI
  refine xP ?_
  rw [← hI]; rfl
theorem jjd (p q b : Bal) : Con none Tryz.prog 261 [bv p, bv q, bv b] [] (Is (.tup [bv (joinV p q b).1, bv (joinV p q b).2]) []) := by
 refine xI Tryz.func261 Tryz.call261 fun hcap => ?_
 refine xX fun b3 => ?_
 refine zBx fun b4 => ?_
 refine zBx fun b5 => ?_
 refine zAl fun b6 => ?_
 refine zAl fun b7 => ?_
 refine xA (jaH b) ?_
 refine xC (fun hc => ?_) fun hc => ?_
 ·refine zW ?_
  refine zDr [.box b7 _ _, .box b6 _ _] ?_
  refine zT 0 ?_; refine zT 1 ?_; refine zOn 2 ?_
  refine zW ?_; refine zW ?_
  refine zOn 3 ?_
  iterate 3 refine zW ?_
  all_goals (
   refine xP ?_
   unfold joinV
   simp [*]; rfl
   )
 ·refine xA (jaH p) ?_
  refine xC (fun hc => ?_) fun hc => ?_
  ·refine zW ?_
   refine zDr [.box b7 _ _, .box b6 _ _] ?_
   refine zT 0 ?_; refine zT 1 ?_; refine zOn 2 ?_
   refine zW ?_; refine zW ?_
   refine zOn 3 ?_
   iterate 3 refine zW ?_
   all_goals (
    refine xP ?_
    unfold joinV
    simp [*]; rfl
    )
  ·refine xA (jcz p b) ?_
   refine xC (fun hc => ?_) fun hc => ?_
   ·refine xA (jaZ p b) ?_
    refine xC (fun hc => ?_) fun hc => ?_
    ·refine zW ?_
     refine zDr [.box b7 _ _, .box b6 _ _] ?_
     refine zT 0 ?_; refine zT 1 ?_; refine zOn 2 ?_
     refine zW ?_; refine zW ?_
     refine zOn 3 ?_
     iterate 3 refine zW ?_
     all_goals (
      refine xP ?_
      unfold joinV
      simp [*]; rfl
      )
    ·refine xA (jaZ q b) ?_
     refine xC (fun hc => ?_) fun hc => ?_
     ·iterate 6 refine zW ?_
      refine zDr [.box b7 _ _, .box b6 _ _] ?_
      refine zT 0 ?_; refine zT 1 ?_; refine zOn 2 ?_
      refine zW ?_; refine zW ?_
      refine zOn 3 ?_
      iterate 3 refine zW ?_
      all_goals (
       refine xP ?_
       unfold joinV
       simp [*]; rfl
       )
     ·iterate 3 refine zW ?_
      refine zDr [.box b7 _ _, .box b6 _ _] ?_
      refine zT 0 ?_; refine zT 1 ?_; refine zOn 2 ?_
      refine zW ?_; refine zW ?_
      refine zOn 3 ?_
      iterate 3 refine zW ?_
      all_goals (
       refine xP ?_
       unfold joinV
       simp [*]; rfl
       )
   ·refine xA (jcz b p) ?_
    refine zW ?_
    iterate 2 all_goals first | refine zW ?_ | refine xG (fun hg => ?_) fun hg => ?_
    all_goals first | (refine zY ?_; refine jaa zRc (jaZ b p) rfl rfl ?_) | refine zSk ?_
    iterate 4 all_goals first | refine zW ?_ | refine xG (fun hg => ?_) fun hg => ?_
    all_goals first | (refine zY ?_; refine jaa zRc (jaH q) rfl rfl ?_) | refine zSk ?_
    iterate 3 all_goals first | refine zW ?_ | refine xG (fun hg => ?_) fun hg => ?_
    all_goals first | (refine zY ?_; refine jaa zRc (jcz q b) rfl rfl ?_) | refine zSk ?_
    iterate 3 all_goals refine zW ?_
    all_goals (
     refine xC (fun hc => ?_) fun hc => ?_
     ·refine zW ?_
      refine zDr [.box b7 _ _, .box b6 _ _] ?_
      refine zT 0 ?_; refine zT 1 ?_; refine zOn 2 ?_
      refine zW ?_; refine zW ?_
      refine zOn 3 ?_
      iterate 3 refine zW ?_
      all_goals (
       refine xP ?_
       unfold joinV
       first | (simp [*]; done) | (simp [*]; rfl) | (simp_all; done)
       )
     ·iterate 4 refine zW ?_
      refine zDr [.box b7 _ _, .box b6 _ _] ?_
      refine zT 0 ?_; refine zT 1 ?_; refine zOn 2 ?_
      refine zW ?_; refine zW ?_
      refine zOn 3 ?_
      iterate 3 refine zW ?_
      all_goals (
       refine xP ?_
       unfold joinV
       first | (simp [*]; done) | (simp [*]; rfl)
       )
     )
theorem je5 (l : List Evp) (hlen : l.length ≤ 100) (hl : ∀ e ∈ l, sizeT e.t ≤ 1000000000) (sv : Str) (lo hi : Int) : Con none Tryz.prog 289 [.sl 15 (l.map ev), .v (.string sv), .i lo, .i hi] [] (Is (.tup [.i (setP (fun e => acR e sv lo hi || vcR e sv lo hi) l : Nat), .i (setP (fun e => acR e sv lo hi) l : Nat)]) []) := by
 refine xI Tryz.func289 Tryz.call289 fun hcap => ?_
 have hml : (l.map ev).length = l.length := by simp
 refine xN fun _ => ?_
 iterate 4 refine zW ?_
 refine jaO [0, 1, 2, 3, 15, 16] [] (fun (k : Nat) (v : Value) (w : Value) r => (10, .v v) :: (11, .v w) :: (17, .i (k : Int)) :: r) (fun k v w r => .arr v 4 1 (((l.take k).map (fun e => acR e sv lo hi || vcR e sv lo hi)).map bV) :: .arr w 4 1 (((l.take k).map (fun e => acR e sv lo hi)).map bV) :: r) (fun k v w => k ≤ l.length) (fun k v w => l.length - k) (0) (.slice none 0 0) (.slice none 0 0) zRc (by omega) ((jaM 4 1 rfl).trans ((jaM 4 1 rfl).trans (zWk))) ?_
 intro k v w hk
 have hm1 : (((l.take k).map (fun e => acR e sv lo hi || vcR e sv lo hi)).map bV).length = k := by simp; omega
 have hm2 : (((l.take k).map (fun e => acR e sv lo hi)).map bV).length = k := by simp; omega
 refine xC (fun hc => ?_) fun hc => ?_
 ·have hlt := of_decide_eq_true hc
  obtain ⟨x, hx, hd⟩ := jab (l := l) (k := k) (by omega)
  have hx' := jae ev hx
  have hxs := hl x (List.mem_of_getElem? hx)
  refine xL fun b13 => ?_
  refine xB (js7 x hxs sv lo hi) ?_; rintro _ _ ⟨rfl, rfl⟩; obtain ⟨ya, hya⟩ : ∃ y, y = acR x sv lo hi := ⟨_, rfl⟩; rw [← hya]
  iterate 7 refine zW ?_
  iterate 4 all_goals first | refine zW ?_ | refine xG (fun hg => ?_) fun hg => ?_
  all_goals first | (refine zY ?_; (refine jaq zRc (jue x hxs sv lo hi) jaw rfl rfl ?_; rintro _ _ ⟨rfl, rfl⟩; obtain ⟨yv, hyv⟩ : ∃ y, y = vcR x sv lo hi := ⟨_, rfl⟩; rw [← hyv])) | refine zSk ?_
  all_goals refine zW ?_
  all_goals (refine xLt 4 1 1 ?_)
  all_goals (first | refine xEa 4 1 1 (hb := xLb) fun v36 hv36 => ?_ | refine xEn 4 1 1 (hb := xLb) fun v36 hv36 => ?_)
  iterate 2 all_goals refine zW ?_
  all_goals (refine xLt 4 1 1 ?_)
  all_goals (first | refine xEa 4 1 1 (hb := xLb) fun v40 hv40 => ?_ | refine xEn 4 1 1 (hb := xLb) fun v40 hv40 => ?_)
  iterate 2 all_goals refine zW ?_
  all_goals (
   iterate 8 refine zW ?_
   rw [bsn, bsn]
   first
   | (have h0 : ya = true := (by first | with_reducible assumption | exact hg); rw [show (l.take k).map (fun e => acR e sv lo hi || vcR e sv lo hi) ++ [true] = (l.take (k + 1)).map (fun e => acR e sv lo hi || vcR e sv lo hi) from by rw [jbG _ hx]; rw [← hya, h0]; rfl, show (l.take k).map (fun e => acR e sv lo hi) ++ [ya] = (l.take (k + 1)).map (fun e => acR e sv lo hi) from by rw [jbG _ hx, hya]]; refine ⟨k + 1, _, _, by omega, by omega, zWk⟩)
   | (have h0 : ya = false := (by first | with_reducible assumption | exact hg); rw [show (l.take k).map (fun e => acR e sv lo hi || vcR e sv lo hi) ++ [yv] = (l.take (k + 1)).map (fun e => acR e sv lo hi || vcR e sv lo hi) from by rw [jbG _ hx]; rw [← hya, ← hyv, h0]; rfl, show (l.take k).map (fun e => acR e sv lo hi) ++ [ya] = (l.take (k + 1)).map (fun e => acR e sv lo hi) from by rw [jbG _ hx, hya]]; refine ⟨k + 1, _, _, by omega, by omega, zWk⟩)
   )
 ·have hge := of_decide_eq_false hc
  rw [List.take_of_length_le (show l.length ≤ k by omega)]
  refine zFz v [0,10,11] ?_
  refine zFz w [0,10,11] ?_
  refine xA (jcW l (l.map (fun e => acR e sv lo hi || vcR e sv lo hi)) (by simp)) ?_
  refine xA (jcW l (l.map (fun e => acR e sv lo hi)) (by simp)) ?_
  refine xP ?_
  rw [jfx, jfx]; rfl
theorem jcV (node : Int) (t : Trust) (l : List Evp) (hlen : l.length ≤ 100) (hl : ∀ e ∈ l, sizeT e.t ≤ 1000000000) (sv : Str) (lo hi : Int) : Con none Tryz.prog 280 [.i node, av t, .sl 15 (l.map ev), .v (.string sv), .i lo, .i hi] [] (Is (.b (acc26 node t l sv lo hi)) []) := by
 refine xI Tryz.func280 Tryz.call280 fun hcap => ?_
 refine xX fun b7 => ?_
 refine xA (je5 l hlen hl sv lo hi) ?_
 refine xA (jb9 node t l hl) ?_
 refine xA (jcK _ _ _ _) ?_
 refine xP ?_; exact rfl
theorem jgT (node : Int) (t : Trust) (l : List Evp) (hlen : l.length ≤ 100) (hl : ∀ e ∈ l, sizeT e.t ≤ 1000000000) (sv : Str) (lo hi : Int) : Con none Tryz.prog 282 [.i node, av t, .sl 15 (l.map ev), .v (.string sv), .i lo, .i hi] [] (Is (.b (cnf26 node t l sv lo hi)) []) := by
 refine xI Tryz.func282 Tryz.call282 fun hcap => ?_
 refine xX fun b7 => ?_
 refine xA (je5 l hlen hl sv lo hi) ?_
 refine xA (jb9 node t l hl) ?_
 refine xA (jbI _ _ _) ?_
 refine xP ?_; exact rfl
theorem ji1 (p q : Bal) (n : Int) (sv : Str) : Con none Tryz.prog 279 [bv p, bv q, .i n, .v (.string sv)] [] (Is (.b (freeV p q n sv)) []) := by
 refine xI Tryz.func279 Tryz.call279 fun hcap => ?_
 refine xX fun b4 => ?_
 refine zBx fun b5 => ?_
 refine xL fun b9 => ?_
 refine xA (jd6 p ⟨n, sv⟩) ?_
 refine zW ?_; refine zW ?_
 iterate 2 all_goals first | refine zW ?_ | refine xG (fun hg => ?_) fun hg => ?_
 all_goals first | (refine zY ?_; refine jaa zRc (jd6 q ⟨n, sv⟩) rfl rfl ?_) | refine zSk ?_
 iterate 3 all_goals refine zW ?_
 all_goals (
  refine xP ?_; refine (bcl ?_)
  first | rfl | (simp only [freeV]; simp [*]; done)
  )
theorem jdr (node : Int) (t : Trust) (l : List Evp) (hlen : l.length ≤ 100) (hl : ∀ e ∈ l, sizeT e.t ≤ 1000000000) (sv : Str) (fr hi : Int) : Con none Tryz.prog 281 [.i node, av t, .sl 15 (l.map ev), .v (.string sv), .i fr, .i hi] [] (Is (.i (downV node t l sv fr hi)) []) := by
 refine xI Tryz.func281 Tryz.call281 fun hcap => ?_
 refine xX fun b7 => ?_
 refine xB (jbQ l hlen hl sv) ?_; rintro _ _ ⟨rfl, rfl⟩; obtain ⟨q, hq⟩ : ∃ q, q = boundsV l sv := ⟨_, rfl⟩; rw [← hq]; have hqm : (q.map D.i).length = q.length := (by simp)
 refine xN fun _ => ?_
 iterate 5 refine zW ?_
 refine jag [0, 2, 3, 5, 7, 13] [.box b7 _ _] (fun (i : Int) (f : Int) r => (4, .i f) :: (14, .i i) :: r) (fun i f r => r) (fun i f => (-1 ≤ i ∧ i < (q.length : Int)) ∧ lowGo (fun n => acc26 node t l sv n hi) (rvP q i) f = downV node t l sv fr hi) (fun i f => (i + 1).toNat) (((q.length : Int) - 1)) (fr) zRc ⟨by omega, by rw [jhw, hq]; rfl⟩ (by rw [hqm]; exact (zWk)) ?_
 intro i f ⟨hi0, hI⟩
 refine xC (fun hc => ?_) fun hc => ?_
 ·obtain ⟨n, rfl⟩ := Int.eq_ofNat_of_zero_le (show 0 ≤ i from of_decide_eq_true (hc))
  obtain ⟨x, hx, _⟩ := jab (l := q) (k := n) (by omega)
  have hx' := jae D.i hx
  refine xC (fun hc => ?_) fun hc => ?_
  ·have hge : x ≥ f := of_decide_eq_true hc
   iterate 10 refine zW ?_
   rw [jb8 hx, lowGo] at hI
   rw [if_pos hge] at hI; refine ⟨(n : Int) - 1, f, ⟨by omega, hI⟩, by omega, zWk⟩
  ·have hge : ¬ x ≥ f := of_decide_eq_false hc
   iterate 4 refine zW ?_
   refine zDr [] ?_
   refine zT 0 ?_; refine zT 1 ?_; refine zT 2 ?_; refine zT 3 ?_; refine zT 4 ?_; refine zT 5 ?_; refine zT 6 ?_; refine zT 7 ?_; refine zT 8 ?_; refine zOn 9 ?_
   refine xA (jcV node t l hlen hl sv x hi) ?_
   refine zW ?_
   refine zT 10 ?_
   refine zW ?_
   all_goals (
    refine xC (fun hc => ?_) fun hc => ?_
    ·have hac : acc26 node t l sv x hi = false := jau hc
     rw [jb8 hx, lowGo, if_neg hge, if_neg (by rw [hac]; decide)] at hI
     refine xP ?_; exact (icl hI)
    ·have hac : acc26 node t l sv x hi = true := jat hc
     iterate 17 refine zW ?_
     rw [jb8 hx, lowGo] at hI
     rw [if_neg hge, if_pos hac] at hI; refine ⟨(n : Int) - 1, x, ⟨by omega, hI⟩, by omega, zWk⟩
    )
 ·have hneg : i < 0 := by have := of_decide_eq_false hc; omega
  rw [je9 q hneg] at hI; simp only [lowGo] at hI
  refine xP ?_; exact (icl hI)
theorem jsD (l : List Int) (i : Int) : ∃ y, 0 ≤ i → i < (l.length : Int) → l[i.toNat]? = some y := by
 by_cases h : i.toNat < l.length
 ·exact ⟨l[i.toNat], fun _ _ => List.getElem?_eq_getElem h⟩
 ·exact ⟨0, fun h0 h1 => absurd (by omega) h⟩
theorem jkF (node : Int) (t : Trust) (l : List Evp) (hlen : l.length ≤ 100) (hl : ∀ e ∈ l, sizeT e.t ≤ 1000000000) (sv : Str) (lo hi : Int) : Con none Tryz.prog 265 [.i node, av t, .sl 15 (l.map ev), .v (.string sv), .i lo, .i hi] [] (Is (.tup [.i (extendV node t l sv lo hi).1, .i (extendV node t l sv lo hi).2]) []) := by
 have hcap := jbt
 obtain ⟨lh, hlh⟩ : ∃ lh, lh = (extGo node t l sv (boundsV l sv).reverse (lo, hi)) := ⟨_, rfl⟩
 refine jar Tryz.func265 rfl Tryz.call265 rfl ?_
 refine xX fun b7 => ?_
 refine xB (jbQ l hlen hl sv) ?_; rintro _ _ ⟨rfl, rfl⟩; obtain ⟨q, hq⟩ : ∃ q, q = boundsV l sv := ⟨_, rfl⟩; rw [← hq]; have hqm : (q.map D.i).length = q.length := (by simp)
 refine xN fun _ => ?_
 iterate 5 refine zW ?_
 refine jai [0, 2, 3, 7, 14] [.box b7 _ _] (fun (i : Int) r => (4, .i lo) :: (5, .i hi) :: (15, .i i) :: r) (fun i r => r) (fun i => (-1 ≤ i ∧ i < (q.length : Int)) ∧ extGo node t l sv (rvP q i) (lo, hi) = lh) (fun i => (i + 1).toNat) (((q.length : Int) - 1)) zRc ⟨by omega, by rw [jhw, hq, hlh]⟩ (by rw [hqm]; exact (zWk)) ?_
 intro i ⟨⟨hi1, hi2⟩, hI⟩
 obtain ⟨y, hy⟩ := jsD q i
 iterate 6 refine zW ?_
 iterate 2 all_goals first | refine zW ?_ | refine xG (fun hg => ?_) fun hg => ?_
 all_goals first | (refine zY ?_; (refine zP (jap (k := i.toNat) rfl rfl rfl rfl (by decide) (by have h9 : decide (i ≥ 0) = true := (by first | with_reducible assumption | exact hg | exact hc); have := of_decide_eq_true h9; omega) (jae D.i (hy (by have h9 : decide (i ≥ 0) = true := (by first | with_reducible assumption | exact hg | exact hc); have := of_decide_eq_true h9; omega) (by omega)))) ?_)) | refine zSk ?_
 iterate 4 all_goals refine zW ?_
 all_goals (
  refine xC (fun hc => ?_) fun hc => ?_
  ·first
   | (exact absurd hc (by decide))
   | (have hyg0 := of_decide_eq_true hc
      obtain ⟨n, rfl⟩ := Int.eq_ofNat_of_zero_le (show 0 ≤ i from of_decide_eq_true (by first | with_reducible assumption | exact hg : decide (i ≥ 0) = true))
      obtain ⟨x, hx, _⟩ := jab (l := q) (k := n) (by omega)
      have hx' := jae D.i hx
      have hxy : x = y := by have := hy (by omega) (by omega); rw [Int.toNat_natCast, hx] at this; exact Option.some.inj this
      have hyg : x > (lo, hi).2 := by rw [hxy]; exact hyg0
      have hxb := jbM l sv x (by rw [← hq]; exact List.mem_of_getElem? hx)
      have hdb := jhE node t l sv x x
      refine xA (jcV node t l hlen hl sv x x) ?_
      refine xC (fun hc => ?_) fun hc => ?_
      ·have hac : acc26 node t l sv x x = false := jau hc
       iterate 10 refine zW ?_
       rw [jb8 hx, jrP hyg hac] at hI
       refine ⟨(n : Int) - 1, ⟨by omega, hI⟩, by omega, zWk⟩
      ·have hac : acc26 node t l sv x x = true := jat hc
       rw [jb8 hx, jot hyg hac] at hI
       refine xA (jdr node t l hlen hl sv x x) ?_
       refine xC (fun hc => ?_) fun hc => ?_
       ·have hml := of_decide_eq_true hc
        rw [if_pos hml] at hI
        have mk58t : True := trivial
        iterate 18 refine zW ?_
        have h7 := mk58t; rw [show D.i x = D.i lh.2 from by rw [← hI], show D.i (downV node t l sv x x) = D.i lh.1 from by rw [← hI]]
        refine xA (jdr node t l hlen hl sv lh.1 lh.2) ?_
        refine xP ?_
        rw [hlh]; rfl
       ·have hml := of_decide_eq_false hc
        rw [if_neg hml] at hI
        have mk58f : True := trivial
        iterate 20 refine zW ?_
        have h7 := mk58f; rw [show D.i x = D.i lh.2 from by rw [← hI], show D.i (min lo (downV node t l sv x x)) = D.i lh.1 from by rw [← hI]]
        refine xA (jdr node t l hlen hl sv lh.1 lh.2) ?_
        refine xP ?_
        rw [hlh]; rfl
    )
  ·first
   | (exact absurd hc (by decide))
   | (have hlo : lh = (lo, hi) := by
       first
       | (have h9 : decide (i ≥ 0) = false := (by first | with_reducible assumption | exact hg); have := of_decide_eq_false h9; rw [je9 q (by omega)] at hI; rw [← hI]; rfl)
       | (have h9 : decide (i ≥ 0) = true := (by first | with_reducible assumption | exact hg); have h8 := of_decide_eq_true h9; have h7 := hy h8 (by omega); obtain ⟨n, rfl⟩ := Int.eq_ofNat_of_zero_le h8; rw [Int.toNat_natCast] at h7; rw [jb8 h7, jmo (of_decide_eq_false hc)] at hI; exact hI.symm)
      have e1 : lo = lh.1 := by rw [hlo]
      have e2 : hi = lh.2 := by rw [hlo]
      iterate 6 refine zW ?_
      have h7 := e1; have h6 := e2; rw [show (D.i lo) = D.i lh.1 from by rw [← e1], show (D.i hi) = D.i lh.2 from by rw [← e2]]
      refine xA (jdr node t l hlen hl sv lh.1 lh.2) ?_
      refine xP ?_
      rw [hlh]; rfl
    )
  )
theorem jmM (node : Int) (t : Trust) (l : List Evp) (hlen : l.length ≤ 100) (hl : ∀ e ∈ l, sizeT e.t ≤ 1000000000) (sv : Str) : Con none Tryz.prog 266 [.i node, av t, .sl 15 (l.map ev), .v (.string sv)] [] (Is (.tup [.i (finalB node t l sv).1, .i (finalB node t l sv).2.1, .b (finalB node t l sv).2.2]) []) := by
 refine xI Tryz.func266 Tryz.call266 fun hcap => ?_
 refine xX fun b5 => ?_
 refine xB (jbQ l hlen hl sv) ?_; rintro _ _ ⟨rfl, rfl⟩; obtain ⟨q, hq⟩ : ∃ q, q = boundsV l sv := ⟨_, rfl⟩; rw [← hq]; have hqm : (q.map D.i).length = q.length := (by simp)
 refine xN fun _ => ?_
 iterate 5 refine zW ?_
 refine jai [0, 2, 3, 5, 11] [.box b5 _ _] (fun (j : Int) r => (12, .i j) :: r) (fun j r => r) (fun j => (-1 ≤ j ∧ j < (q.length : Int)) ∧ finGo node t l sv (rvP q j) = finalB node t l sv) (fun j => (j + 1).toNat) (((q.length : Int) - 1)) zRc ⟨by omega, by rw [jhw, hq]; rfl⟩ (by rw [hqm]; exact (zWk)) ?_
 intro j ⟨⟨hj1, hj2⟩, hI⟩
 refine xC (fun hc => ?_) fun hc => ?_
 ·obtain ⟨n, rfl⟩ := Int.eq_ofNat_of_zero_le (show 0 ≤ j from of_decide_eq_true (hc))
  obtain ⟨x, hx, _⟩ := jab (l := q) (k := n) (by omega)
  have hx' := jae D.i hx
  refine xA (jgT node t l hlen hl sv x x) ?_
  refine xC (fun hc => ?_) fun hc => ?_
  ·have hcf : cnf26 node t l sv x x = false := jau hc
   iterate 10 refine zW ?_
   rw [jb8 hx, finGo, if_neg (by rw [hcf]; decide)] at hI
   refine ⟨(n : Int) - 1, ⟨by omega, hI⟩, by omega, zWk⟩
  ·have hcf : cnf26 node t l sv x x = true := jat hc
   rw [jb8 hx, finGo, if_pos hcf] at hI
   iterate 17 refine zW ?_
   refine jag [0, 2, 3, 5, 11, 13] [.box b5 _ _] (fun (i : Int) (f : Int) r => (14, .i f) :: (15, .i i) :: r) (fun i f r => r) (fun i f => (-1 ≤ i ∧ i < (q.length : Int)) ∧ finLow node t l sv x (rvP q i) f = finLow node t l sv x (rvP q ((n : Int) - 1)) x) (fun i f => (i + 1).toNat) (((n : Int) - 1)) (x) zRc ⟨by omega, rfl⟩ (zWk) ?_
   intro i f ⟨⟨hi1, hi2⟩, hJ⟩
   obtain ⟨y, hy⟩ := jsD q i
   refine zW ?_; refine zW ?_
   refine zDr [] ?_
   refine zT 0 ?_; refine zT 1 ?_; refine zT 2 ?_
   refine jaj 2 rfl (fun hg => ?_) fun hg => ?_
   rotate_left
   case' _ =>
    refine zK 3 ?_; refine zK 4 ?_; refine zK 5 ?_; refine zK 6 ?_; refine zK 7 ?_; refine zK 8 ?_; refine zK 9 ?_; refine zK 10 ?_; refine zK 11 ?_; refine zK 12 ?_; refine zT 13 ?_
    refine zW ?_
   rotate_right
   case' _ =>
    refine zT 3 ?_; refine zT 4 ?_; refine zT 5 ?_; refine zT 6 ?_; refine zT 7 ?_; refine zT 8 ?_
    refine jam 9 rfl zGd zKr zKr zKr (AP.ar (jap (k := i.toNat) rfl rfl rfl rfl (by decide) (by have h9 : decide (i ≥ 0) = true := (by first | with_reducible assumption | exact hg | exact hc); have := of_decide_eq_true h9; omega) (jae D.i (hy (by have h9 : decide (i ≥ 0) = true := (by first | with_reducible assumption | exact hg | exact hc); have := of_decide_eq_true h9; omega) (by omega))))) rfl rfl ?_
    refine zT 10 ?_; refine zT 11 ?_; refine zOn 12 ?_
    refine xA (jgT node t l hlen hl sv y x) ?_
    refine zW ?_
    refine zT 13 ?_
    refine zW ?_
   all_goals (
    refine xC (fun hc => ?_) fun hc => ?_
    ·first
     | (exact absurd hc (by decide))
     | (have hi0 : 0 ≤ i := of_decide_eq_true (by first | with_reducible assumption | exact hg : decide (i ≥ 0) = true)
        obtain ⟨n2, hn2⟩ := Int.eq_ofNat_of_zero_le hi0
        have hyy : q[i.toNat]? = some y := hy hi0 (by omega)
        have hcy : cnf26 node t l sv y x = true := hc
        iterate 7 refine zW ?_
        refine zP (jap (k := i.toNat) rfl rfl rfl rfl (by decide) (by omega) (jae D.i hyy)) ?_
        iterate 11 refine zW ?_
        rw [hn2] at hJ ⊢
        have hyn : q[n2]? = some y := by rw [hn2, Int.toNat_natCast] at hyy; exact hyy
        rw [jb8 hyn, finLow, if_pos hcy] at hJ
        refine ⟨(n2 : Int) - 1, y, ⟨by omega, hJ⟩, by omega, zWk⟩
      )
    ·first
     | (exact absurd hc (by decide))
     | (have hfl : finLow node t l sv x (rvP q ((n : Int) - 1)) x = f := by
         rw [← hJ]
         first
         | (have h9 : decide (i ≥ 0) = false := (by first | with_reducible assumption | exact hg); have := of_decide_eq_false h9; rw [je9 q (by omega)]; rfl)
         | (have h9 : decide (i ≥ 0) = true := (by first | with_reducible assumption | exact hg); have h8 := of_decide_eq_true h9; have h7 := hy h8 (by omega); obtain ⟨n2, rfl⟩ := Int.eq_ofNat_of_zero_le h8; rw [Int.toNat_natCast] at h7; rw [jb8 h7, finLow, if_neg (by rw [show cnf26 node t l sv y x = false from hc]; decide)])
        rw [hfl] at hI
        refine xP ?_
        rw [← hI]; rfl
      )
    )
 ·have hneg : j < 0 := by have := of_decide_eq_false hc; omega
  rw [je9 q hneg] at hI
  refine xP ?_
  rw [← hI]; rfl
theorem jm6 (node : Int) (t : Trust) (l : List Evp) (hlen : l.length ≤ 100) (hl : ∀ e ∈ l, sizeT e.t ≤ 1000000000) (p p2 : Bal) : Con none Tryz.prog 264 [.i node, av t, .sl 15 (l.map ev), bv p, bv p2] [] (Is (.tup [.v (.string (firstV node t l p p2).1), .i (firstV node t l p p2).2.1, .i (firstV node t l p p2).2.2.1, .b (firstV node t l p p2).2.2.2]) []) := by
 refine xI Tryz.func264 Tryz.call264 fun hcap => ?_
 refine xX fun b6 => ?_
 refine zBx fun b8 => ?_
 refine zBx fun b9 => ?_
 refine xL fun b14 => ?_
 refine xB (jjS l hlen hl) ?_; rintro _ _ ⟨rfl, rfl⟩; obtain ⟨vs, hvs⟩ : ∃ vs, vs = valuesV l := ⟨_, rfl⟩; rw [← hvs]; have hvm : (vs.map strv).length = vs.length := (by simp)
 refine zLn fun _ => ?_
 iterate 4 refine zW ?_
 refine jag [0, 2, 6, 8, 9, 14, 25, 26] [.box b9 _ _, .box b8 _ _, .box b6 _ _] (fun (k : Nat) (b : Bal) r => (27, .i (k : Int)) :: r) (fun k b r => .box b14 53 [.i b.n, .v (.string b.v)] :: r) (fun k b => k ≤ vs.length ∧ bestS node t l p p2 (vs.drop k) b = bestV node t l p p2) (fun k b => vs.length - k) (0) (Bal.none) zRc ⟨by omega, by rw [hvs]; rfl⟩ (zWk) ?_
 intro k b ⟨hk, hI⟩
 refine xC (fun hc => ?_) fun hc => ?_
 ·have hlt := of_decide_eq_true hc
  obtain ⟨s, hs, hd⟩ := jab (l := vs) (k := k) (by omega)
  have hs' := jae strv hs
  refine xB (jbQ l hlen hl s) ?_; rintro _ _ ⟨rfl, rfl⟩; obtain ⟨qb, hqb⟩ : ∃ q, q = boundsV l s := ⟨_, rfl⟩; rw [← hqb]; have hqm : (qb.map D.i).length = qb.length := (by simp)
  refine zLn fun _ => ?_
  iterate 4 refine zW ?_
  refine jag [0, 2, 6, 8, 9, 14, 16, 25, 26, 27, 33, 34] [.box b9 _ _, .box b8 _ _, .box b6 _ _] (fun (j : Nat) (b : Bal) r => (35, .i (j : Int)) :: r) (fun j b r => .box b14 53 [.i b.n, .v (.string b.v)] :: r) (fun j b => j ≤ qb.length ∧ bestS node t l p p2 (vs.drop (k + 1)) (bestN node t l p p2 s (qb.drop j) b) = bestV node t l p p2) (fun j b => qb.length - j) (0) (b) zRc ⟨by omega, by rw [hd] at hI; simp only [bestS] at hI; rw [hqb]; exact hI⟩ (zWk) ?_
  intro j b ⟨hj, hJ⟩
  refine xC (fun hc => ?_) fun hc => ?_
  ·have hlt2 := of_decide_eq_true hc
   obtain ⟨x, hx, hdj⟩ := jab (l := qb) (k := j) (by omega)
   have hx' := jae D.i hx
   refine xL fun b19 => ?_
   refine xA (jcz b ⟨x, s⟩) ?_
   refine zW ?_
   iterate 4 all_goals first | refine zW ?_ | refine xG (fun hg => ?_) fun hg => ?_
   all_goals first | (refine zY ?_; refine jaa zRc (ji1 p p2 x s) rfl rfl ?_) | refine zSk ?_
   iterate 8 all_goals first | refine zW ?_ | refine xG (fun hg => ?_) fun hg => ?_
   all_goals first | (refine zY ?_; refine jaa zRc (jcV node t l hlen hl s x x) rfl rfl ?_) | refine zSk ?_
   all_goals refine zW ?_
   all_goals (
    refine xC (fun hc => ?_) fun hc => ?_
    ·first
     | (exact absurd hc (by decide))
     | (have hcn : (lB b ⟨x, s⟩ && (freeV p p2 x s && acc26 node t l s x x)) = true := by first | (simp_all; done) | grind
        have mk60t : True := trivial
        iterate 11 refine zW ?_
        rw [hdj] at hJ; simp only [bestN] at hJ
        have h9 := mk60t; rw [if_pos hcn] at hJ; refine ⟨j + 1, ⟨x, s⟩, ⟨by omega, hJ⟩, by omega, zWk⟩
      )
    ·first
     | (exact absurd hc (by decide))
     | (have hcn : (lB b ⟨x, s⟩ && (freeV p p2 x s && acc26 node t l s x x)) = false := by first | (simp_all; done) | grind
        have mk60f : True := trivial
        iterate 8 refine zW ?_
        rw [hdj] at hJ; simp only [bestN] at hJ
        first
        | (have h9 := mk60t; rw [if_pos hcn] at hJ; refine ⟨j + 1, ⟨x, s⟩, ⟨by omega, hJ⟩, by omega, zWk⟩)
        | (have h9 := mk60f; rw [if_neg (by rw [hcn]; decide)] at hJ; refine ⟨j + 1, b, ⟨by omega, hJ⟩, by omega, zWk⟩)
      )
    )
  ·have hge2 := of_decide_eq_false hc
   iterate 11 refine zW ?_
   rw [jac (l := qb) (k := j) (by omega)] at hJ; simp only [bestN] at hJ
   refine ⟨k + 1, b, ⟨by omega, hJ⟩, by omega, zWk⟩
 ·have hge := of_decide_eq_false hc
  rw [jac (by omega)] at hI; simp only [bestS] at hI
  refine xA (jaH b) ?_
  refine xC (fun hc => ?_) fun hc => ?_
  ·have hbz : zB b = true := hc
   refine xP ?_
   unfold firstV; rw [← hI, if_pos hbz]; rfl
  ·have hbz : zB b = false := hc
   refine xB (jbQ l hlen hl b.v) ?_; rintro _ _ ⟨rfl, rfl⟩; obtain ⟨q, hq⟩ : ∃ q, q = boundsV l b.v := ⟨_, rfl⟩; rw [← hq]; have hqm : (q.map D.i).length = q.length := (by simp)
   refine xN fun _ => ?_
   iterate 5 refine zW ?_
   refine jag [0, 2, 6, 8, 9, 14, 21] [.box b14 _ _, .box b9 _ _, .box b8 _ _, .box b6 _ _] (fun (i : Int) (f : Int) r => (20, .i f) :: (22, .i i) :: r) (fun i f r => r) (fun i f => (-1 ≤ i ∧ i < (q.length : Int)) ∧ lowGo (fun n => freeV p p2 n b.v && acc26 node t l b.v n b.n) (rvP q i) f = lowGo (fun n => freeV p p2 n b.v && acc26 node t l b.v n b.n) q.reverse b.n) (fun i f => (i + 1).toNat) (((q.length : Int) - 1)) (b.n) zRc ⟨by omega, by rw [jhw]⟩ (by rw [hqm]; exact (zWk)) ?_
   intro i f ⟨⟨hi1, hi2⟩, hL⟩
   refine xC (fun hc => ?_) fun hc => ?_
   ·obtain ⟨n, rfl⟩ := Int.eq_ofNat_of_zero_le (show 0 ≤ i from of_decide_eq_true (hc))
    obtain ⟨x, hx, _⟩ := jab (l := q) (k := n) (by omega)
    have hx' := jae D.i hx
    refine xC (fun hc => ?_) fun hc => ?_
    ·have hge : x ≥ f := of_decide_eq_true hc
     have mk85t : True := trivial
     iterate 10 refine zW ?_
     rw [jb8 hx, lowGo] at hL
     have h9 := mk85t; rw [if_pos hge] at hL; refine ⟨(n : Int) - 1, f, ⟨by omega, hL⟩, by omega, zWk⟩
    ·have hge : ¬ x ≥ f := of_decide_eq_false hc
     refine xA (ji1 p p2 x b.v) ?_
     refine zW ?_; refine zW ?_
     iterate 8 all_goals first | refine zW ?_ | refine xG (fun hg => ?_) fun hg => ?_
     all_goals first | (refine zY ?_; refine jaa zRc (jcV node t l hlen hl b.v x b.n) rfl rfl ?_) | refine zSk ?_
     iterate 2 all_goals refine zW ?_
     all_goals (
      refine xC (fun hc => ?_) fun hc => ?_
      ·first
       | (exact absurd hc (by decide))
       | (have hok : (freeV p p2 x b.v && acc26 node t l b.v x b.n) = false := by first | (simp_all; done) | grind
          rw [jb8 hx, lowGo, if_neg hge, if_neg (by rw [hok]; decide)] at hL
          iterate 8 refine zW ?_
          refine zDr [] ?_
          refine zT 0 ?_; refine zT 1 ?_; refine zT 2 ?_; refine zT 3 ?_; refine zT 4 ?_; refine zT 5 ?_; refine zT 6 ?_; refine zT 7 ?_; refine zT 8 ?_
          refine zW ?_
          all_goals (
           refine xP ?_
           unfold firstV; rw [← hI, if_neg (by rw [hbz]; decide), ← hq, ← hL]; rfl
           )
        )
      ·first
       | (exact absurd hc (by decide))
       | (have hok : (freeV p p2 x b.v && acc26 node t l b.v x b.n) = true := by first | (simp_all; done) | grind
          iterate 14 refine zW ?_
          rw [jb8 hx, lowGo] at hL
          rw [if_neg hge, if_pos hok] at hL; refine ⟨(n : Int) - 1, x, ⟨by omega, hL⟩, by omega, zWk⟩
        )
      )
   ·have hneg : i < 0 := by have := of_decide_eq_false hc; omega
    rw [je9 q hneg] at hL; simp only [lowGo] at hL
    iterate 6 refine zW ?_
    refine zDr [] ?_
    refine zT 0 ?_; refine zT 1 ?_; refine zT 2 ?_; refine zT 3 ?_; refine zT 4 ?_; refine zT 5 ?_; refine zT 6 ?_; refine zT 7 ?_; refine zT 8 ?_
    refine zW ?_
    all_goals (
     refine xP ?_
     unfold firstV; rw [← hI, if_neg (by rw [hbz]; decide), ← hq, ← hL]; rfl
     )
theorem jq3 (l : List Bal) (hlen : l.length ≤ 1000) : Con none Tryz.prog 214 [.sl 2 (l.map bv)] [] (Is (bv (grM l)) []) := by
 refine xI Tryz.func214 Tryz.call214 fun hcap => ?_
 have hml : (l.map bv).length = l.length := by simp
 refine xL fun b2 => ?_
 refine xL fun b3 => ?_
 refine xN fun _ => ?_
 iterate 4 refine zW ?_
 refine jag [2, 3, 6, 7] [.box b2 _ _] (fun (k : Nat) (b : Bal) r => (8, .i (k : Int)) :: r) (fun k b r => .box b3 53 [.i b.n, .v (.string b.v)] :: r) (fun k b => k ≤ l.length ∧ (k = 0 → b = Bal.none) ∧ (0 < k → grGo b (l.drop k) = grM l)) (fun k b => l.length - k) (0) (Bal.none) zRc ⟨by omega, fun _ => rfl, fun h => by omega⟩ (zWk) ?_
 intro k b ⟨hk, h0, hI⟩
 refine xC (fun hc => ?_) fun hc => ?_
 ·have hlt := of_decide_eq_true hc
  obtain ⟨x, hx, hd⟩ := jab (l := l) (k := k) (by omega)
  have hx' := jae bv hx
  refine xL fun b5 => ?_
  iterate 9 refine zW ?_
  iterate 2 all_goals first | refine zW ?_ | refine xG (fun hg => ?_) fun hg => ?_
  all_goals first | (refine zY ?_; refine jaa zRc (jcz b x) rfl rfl ?_) | refine zSk ?_
  all_goals refine zW ?_
  all_goals (
   refine xC (fun hc => ?_) fun hc => ?_
   ·first
    | (exact absurd hc (by decide))
    | (iterate 11 refine zW ?_
       first
       | (have hk0 := of_decide_eq_true (show decide ((k : Int) = 0) = true by first | with_reducible assumption | exact hg); obtain rfl : k = 0 := (by omega); refine ⟨0 + 1, x, ⟨by omega, fun h => by omega, fun _ => ?_⟩, by omega, zWk⟩; rw [List.drop_zero] at hd; rw [hd]; rfl)
       | (have hk0 := of_decide_eq_false (show decide ((k : Int) = 0) = false by first | with_reducible assumption | exact hg); have hl9 : lB b x = true := (by first | with_reducible assumption | exact hc); have hI2 := hI (by omega); rw [hd] at hI2; simp only [grGo] at hI2; rw [if_pos hl9] at hI2; refine ⟨k + 1, x, ⟨by omega, fun h => by omega, fun _ => hI2⟩, by omega, zWk⟩)
     )
   ·first
    | (exact absurd hc (by decide))
    | (iterate 8 refine zW ?_
       have hk0 := of_decide_eq_false (show decide ((k : Int) = 0) = false by first | with_reducible assumption | exact hg); have hl9 : lB b x = false := (by first | with_reducible assumption | exact hc); have hI2 := hI (by omega); rw [hd] at hI2; simp only [grGo] at hI2; rw [if_neg (by rw [hl9]; decide)] at hI2; refine ⟨k + 1, b, ⟨by omega, fun h => by omega, fun _ => hI2⟩, by omega, zWk⟩
     )
   )
 ·have hge := of_decide_eq_false hc
  refine xP ?_
  have hF : b = grM l := by
   rcases Nat.eq_zero_or_pos k with h | h
   ·rw [h0 h]; cases l with
    | nil => rfl
    | cons y r => simp at hge hml; omega
   ·have := hI h; rw [List.drop_eq_nil_of_le (by omega)] at this; exact this
  rw [← hF]; rfl
def lowK (v : Str) (fr : Int) (p q : Bal) (k : Nat) : Int := if k = 0 then max fr 1 else if k = 1 then low1 v (max fr 1) p else lowestV v fr p q
theorem jvj (v : Str) (fr : Int) (p q : Bal) {k : Nat} (h : k < 2) : ∃ x : Bal, SubL [D.i p.n, D.v (.string p.v), D.i q.n, D.v (.string q.v)] (k * 2) 2 [D.i x.n, D.v (.string x.v)] ∧ low1 v (lowK v fr p q k) x = lowK v fr p q (k + 1) := by
 have : k = 0 ∨ k = 1 := by omega
 rcases this with rfl | rfl
 ·exact ⟨p, by repeat constructor, rfl⟩
 ·exact ⟨q, by repeat constructor, rfl⟩
theorem vB_n {b : Bal} (h : vB b = true) : 1 ≤ b.n ∧ b.n ≤ 1000000 := by
 simp only [vB, Bool.and_eq_true, Bool.or_eq_true, decide_eq_true_eq] at h
 omega
theorem jcs (v : Str) (fr : Int) (p q : Bal) : Con none Tryz.prog 262 [.v (.string v), .i fr, bv p, bv q] [] (Is (.i (lowestV v fr p q)) []) := by
 refine xI Tryz.func262 Tryz.call262 fun hcap => ?_
 refine xX fun b6 => ?_
 refine zBx fun b7 => ?_
 iterate 20 refine zW ?_
 refine jag [0, 16] [] (fun (k : Nat) (m : Int) r => (9, .i m) :: (17, .i (k : Int)) :: r) (fun k m r => r) (fun k m => k ≤ 2 ∧ m = lowK v fr p q k) (fun k m => 2 - k) (0) (max fr 1) zRc ⟨by omega, rfl⟩ (zWk) ?_
 intro k m ⟨hk, hm⟩
 refine xC (fun hc => ?_) fun hc => ?_
 ·have hlt := of_decide_eq_true hc
  obtain ⟨x, hsx, hlx⟩ := jvj v fr p q (k := k) (by omega)
  iterate 6 refine zW ?_
  refine zP (jiP (k := k) rfl rfl rfl rfl rfl rfl (by omega) hsx) ?_
  refine zAl fun b11 => ?_
  refine xA (jc1 x) ?_
  refine zW ?_
  iterate 4 all_goals first | refine zW ?_ | refine xG (fun hg => ?_) fun hg => ?_
  all_goals first | (refine zY ?_; refine jaa zRc (jd6 x ⟨m, v⟩) rfl rfl ?_) | refine zSk ?_
  all_goals refine zW ?_
  all_goals (
   refine xC (fun hc => ?_) fun hc => ?_
   ·first
    | (exact absurd hc (by decide))
    | (have h28 : (vB x && abB x ⟨m, v⟩) = true := by first | (simp_all; done) | grind
       have hxn := vB_n (b := x) (by rw [Bool.and_eq_true] at h28; exact h28.1)
       refine xA (jd6 x ⟨x.n, v⟩) ?_
       refine xC (fun hc => ?_) fun hc => ?_
       ·have h35 : abB x ⟨x.n, v⟩ = true := hc
        have mk35t : True := trivial
        iterate 12 refine zW ?_
        rw [← hm] at hlx
        have h9 := mk35t; rw [show low1 v m x = x.n + 1 from by unfold low1; rw [if_pos h28, if_pos h35]] at hlx; refine ⟨k + 1, x.n + 1, ⟨by omega, hlx⟩, by omega, zWk⟩
       ·have h35 : abB x ⟨x.n, v⟩ = false := hc
        have mk35f : True := trivial
        iterate 8 refine zW ?_
        rw [← hm] at hlx
        have h9 := mk35f; rw [show low1 v m x = x.n from by unfold low1; rw [if_pos h28, if_neg (by rw [h35]; decide)]] at hlx; refine ⟨k + 1, x.n, ⟨by omega, hlx⟩, by omega, zWk⟩
     )
   ·first
    | (exact absurd hc (by decide))
    | (have h28 : (vB x && abB x ⟨m, v⟩) = false := by first | (simp_all; done) | grind
       have mk28f : True := trivial
       iterate 8 refine zW ?_
       rw [← hm] at hlx
       first
       | (have h9 := mk35t; rw [show low1 v m x = x.n + 1 from by unfold low1; rw [if_pos h28, if_pos h35]] at hlx; refine ⟨k + 1, x.n + 1, ⟨by omega, hlx⟩, by omega, zWk⟩)
       | (have h9 := mk35f; rw [show low1 v m x = x.n from by unfold low1; rw [if_pos h28, if_neg (by rw [h35]; decide)]] at hlx; refine ⟨k + 1, x.n, ⟨by omega, hlx⟩, by omega, zWk⟩)
       | (have h9 := mk28f; rw [show low1 v m x = m from by unfold low1; rw [if_neg (by rw [h28]; decide)]] at hlx; refine ⟨k + 1, m, ⟨by omega, hlx⟩, by omega, zWk⟩)
     )
   )
 ·have hge := of_decide_eq_false hc
  refine xP ?_; refine (icl ?_)
  obtain rfl : k = 2 := by omega
  exact hm
theorem jor (h : m.phase = 1) (h2 : (!zB m.conf && cB m.conf m.bal) = true) : envR m = ⟨m.node, m.slot, m.seq, m.t, m.phase, m.bal, m.prep, m.prime, m.low, m.conf.n⟩ := by simp [envR, h, h2]
theorem jtg (h : m.phase = 1) (h2 : (!zB m.conf && cB m.conf m.bal) = false) : envR m = ⟨m.node, m.slot, m.seq, m.t, m.phase, m.bal, m.prep, m.prime, m.low, 0⟩ := by simp [envR, h, h2]
theorem jsq (h : ¬ m.phase = 1) (h2 : m.phase = 2) : envR m = ⟨m.node, m.slot, m.seq, m.t, m.phase, m.bal, m.prep, Bal.none, m.low, m.high⟩ := by simp [envR, h2]
theorem jsA (h : ¬ m.phase = 1) (h2 : ¬ m.phase = 2) : envR m = ⟨m.node, m.slot, m.seq, m.t, m.phase, m.bal, Bal.none, Bal.none, m.low, m.high⟩ := by simp [envR, h, h2]
end Go.Proofs.YtgmpjpaekpefdaaGreat
