/- Walks: each says what one function of the program answers, for the arguments that its statement names. No condition beyond what each theorem says. -/
import Derived.Test.YtmolbagfkdbdnaaGreatDoorTopSilentW3
import Derived.Test.YtmolbagfkdbdnaaGreatDoorProg
import Derived.KernelRfl
import Derived.Tactics
import Derived.Tactics2
import Derived.StillTactics
import Derived.Shelf.SlSortCmp.Whole1
import Derived.Shelf.SlSortCmp.NoneTotal
import Derived.Shelf.Strconv.Atoi
set_option linter.unusedVariables false
set_option linter.unusedSimpArgs false
set_option maxRecDepth 4000
set_option maxHeartbeats 2000000
namespace Go.Proofs.YtmolbagfkdbdnaaGreatDoor
open Go Go.Av Go.Tq
theorem r6valid_con (c : List Mem) (hs : ∀ m ∈ c, sizeT m.t ≤ 1000000000) : Con Tryz.prog 15 [cv c] [] (Is (.i (validC c)) []) := by
  have hcap : capB = 140737488355328 := rfl
  have hml : (c.map mv).length = c.length := by simp
  refine con_intro Tryz.func15 rfl Tryz.call15 rfl ?_
  refine zW ?_; refine zW ?_
  refine zBx fun b1 => ?_
  iterate 8 refine zW ?_
  first | refine zLn fun _ => ?_ | refine zW ?_
  iterate 3 refine zW ?_
  refine zC (fun hc => ?_) fun hc => ?_
  · have hlen := of_decide_eq_true hc
    iterate 7 refine zW ?_
    refine post_is (.tmp rfl .nil) .nil ?_
    unfold validC; rw [if_pos (by omega)]; rfl
  · have hlen := of_decide_eq_false hc
    have h10 := pow_le10 (n := c.length) (by omega)
    have hul := fun t : Trust => uses_lt t
    have hp2 : 2 ^ (c.map mv).length = 2 ^ c.length := by rw [hml]
    iterate 7 refine zW ?_
    first | refine zLn fun _ => ?_ | refine zW ?_
    iterate 4 refine zW ?_
    refine awp_loop1 [1, 11, 12] [.box b1 _ _] (fun (k : Nat) r => (13, .i (k : Int)) :: r) (fun k r => r) (fun k => k ≤ c.length ∧ memsV c.length (c.drop k) = memsV c.length c) (fun k => c.length - k) (0) zRc ⟨by omega, by simp⟩ (zWk) ?_
    intro k ⟨hk, hI⟩
    iterate 6 refine zW ?_
    refine zC (fun hc => ?_) fun hc => ?_
    · have hlt := of_decide_eq_true hc
      obtain ⟨x, hx, hd⟩ := drop_cons (l := c) (k := k) (by omega)
      have hx' := getMap mv hx
      have hul2 := hul x.t
      iterate 8 refine zW ?_
      refine zAl fun b4 => ?_
      iterate 11 refine zW ?_
      refine zC (fun hc => ?_) fun hc => ?_
      · have hdl : x.decl = false := not_t hc
        iterate 6 refine zW ?_
        (refine aops_unnil [1,11,12,13,21,22] 1 rfl rfl (by repeat (first | exact SelC.nil | apply SelC.cons rfl (Cv.agg (CvL.cons Cv.same (CvL.cons Cv.fz (CvL.cons Cv.same CvL.nil)))) | apply SelC.cons rfl Cv.same)) zHeapS ?_; refine aops_unnil [1,11,12,13,21,22] 3 rfl rfl zSelC zHeapS ?_; refine aops_call_b zRc (rsame_con x.t Trust.none) rfl rfl fun c23 hc23 => ?_)
        iterate 3 refine zW ?_
        refine zC (fun hc => ?_) fun hc => ?_
        · have hm1 : memV x c.length = 1 := by rw [memV_s hdl (hc23.trans (not_t hc))]; rfl
          iterate 13 refine zW ?_
          refine post_is (.tmp rfl .nil) .nil ?_
          rw [hd] at hI; simp only [memsV] at hI
          rw [if_neg (by rw [hm1]; first | exact hv9 | omega), hm1] at hI
          unfold validC; rw [if_neg (by omega), ← hI]; rfl
        · have hm0 : memV x c.length = 0 := by rw [memV_s hdl (hc23.trans (not_f hc))]; rfl
          iterate 11 refine zW ?_
          rw [hd] at hI; simp only [memsV] at hI
          rw [if_pos hm0] at hI
          refine ⟨k + 1, ⟨by omega, hI⟩, by omega, zWk⟩
      · have hdl : x.decl = true := not_f hc
        iterate 7 refine zW ?_
        refine aops_call_v zRc (rvalidT_con x.t (hs x (List.mem_of_getElem? hx))) rfl rfl ?_
        iterate 9 refine zW ?_
        refine zC (fun hc => ?_) fun hc => ?_
        · have hv9 := of_neq_true hc
          have hm1 : memV x c.length = validT x.t := memV_v hdl hv9
          iterate 13 refine zW ?_
          refine post_is (.tmp rfl .nil) .nil ?_
          rw [hd] at hI; simp only [memsV] at hI
          rw [if_neg (by rw [hm1]; first | exact hv9 | omega), hm1] at hI
          unfold validC; rw [if_neg (by omega), ← hI]; rfl
        · have hv := of_neq_false hc
          iterate 3 refine zW ?_
          refine zDr [] ?_
          refine zT 0 ?_
          refine zT 1 ?_
          refine zT 3 ?_
          refine zT 4 ?_
          refine zT 5 ?_
          refine aany_take 6 rfl zGd zKr zKr zKr (AP.ar (ap_shl (p := 1) rfl rfl rfl (by omega) (by omega))) rfl rfl ?_
          refine zOn 2 ?_
          refine aops_call_v zRc (ruses_con x.t) rfl rfl ?_
          refine zW ?_
          refine zT 7 ?_
          refine zW ?_
          all_goals (
            refine zW ?_
            refine zC (fun hc => ?_) fun hc => ?_
            · have hge := of_decide_eq_true hc
              have hm1 : memV x c.length = 5 := memV_u hdl hv (by omega)
              iterate 11 refine zW ?_
              refine post_is (.tmp rfl .nil) .nil ?_
              rw [hd] at hI; simp only [memsV] at hI
              rw [if_neg (by rw [hm1]; first | exact hv9 | omega), hm1] at hI
              unfold validC; rw [if_neg (by omega), ← hI]; rfl
            · have hge := of_decide_eq_false hc
              have hm0 : memV x c.length = 0 := memV_k hdl hv (by omega)
              iterate 8 refine zW ?_
              rw [hd] at hI; simp only [memsV] at hI
              rw [if_pos hm0] at hI
              refine ⟨k + 1, ⟨by omega, hI⟩, by omega, zWk⟩
            )
    · have hge := of_decide_eq_false hc
      rw [drop_nil (by omega)] at hI; simp only [memsV] at hI
      iterate 11 refine zW ?_
      refine post_is (.tmp rfl .nil) .nil ?_
      unfold validC; rw [if_neg (by omega), ← hI]; rfl
theorem eq2_36 : Eq2 Tryz.prog 36 := ⟨by kernel_rfl, fun a b c d w => by
  have u3 := Tryz.underlying3
  have a3 := Tryz.isAgg3
  have z3 := Tryz.sizeOf3
  have hS : Tryz.prog.underlying 36 = some (.struct (Tryz.prog.fieldsOf 36)) := by kernel_rfl
  have hp : Tryz.prog.stoodInHeld 36 = false := by kernel_rfl
  rw [show (10000 : Nat) = 9999 + 1 from rfl, run_equalIn_agg w 9999 36 _ _ hS hp]
  simp only [Program.fieldsOf, Tryz.underlying36]
  go_simp
  by_cases h1 : a = c <;> by_cases h2 : b = d <;> simp [h1, h2]⟩
theorem cvalid_con (x : Cl) : Con Tryz.prog 122 [clv x] [] (Is (.b (validCl x)) []) := by
  have hcap : capB = 140737488355328 := rfl
  refine con_intro Tryz.func122 rfl Tryz.call122 rfl ?_
  refine zW ?_; refine zW ?_
  refine zBx fun b1 => ?_
  iterate 9 refine zW ?_
  iterate 15 all_goals first | refine zW ?_ | (refine zG (fun hg => ?_) fun hg => ?_; case' _ => refine zW ?_)
  all_goals (
    iterate 3 refine zW ?_
    refine zPi ?_
    unfold validCl
    simp only [resD]
    first | (simp_all; done) | (simp_all; omega)
    )
theorem isnan_con (x : Int) : Con Tryz.prog 119 [.i x] [] (Is (.b false) []) := by
  have hcap : capB = 140737488355328 := rfl
  refine con_intro Tryz.func119 rfl Tryz.call119 rfl ?_
  iterate 14 refine zW ?_
  refine zPi ?_
  simp [resD]
theorem cmpi_con (x y : Int) : Con Tryz.prog 80 [.i x, .i y] [] (Is (.i (cmpZ x y)) []) := by
  have hcap : capB = 140737488355328 := rfl
  refine con_intro Tryz.func80 rfl Tryz.call80 rfl ?_
  iterate 8 refine zW ?_
  refine aops_call_v zRc (isnan_con _) rfl rfl ?_
  iterate 6 refine zW ?_
  refine aops_call_v zRc (isnan_con _) rfl rfl ?_
  iterate 9 refine zW ?_
  refine awp_cond_f rfl zDec ?_
  iterate 8 refine zW ?_
  refine awp_cond_f rfl zDec ?_
  iterate 10 refine zW ?_
  refine zC (fun hc => ?_) fun hc => ?_
  · have h1 := of_decide_eq_true hc
    iterate 7 refine zW ?_
    refine post_is (.tmp rfl .nil) .nil ?_
    unfold cmpZ; rw [if_pos h1]; rfl
  · have h1 := of_decide_eq_false hc
    iterate 10 refine zW ?_
    refine zC (fun hc => ?_) fun hc => ?_
    · have h2 := of_decide_eq_true hc
      iterate 7 refine zW ?_
      refine post_is (.tmp rfl .nil) .nil ?_
      unfold cmpZ; rw [if_neg h1, if_pos (by omega)]; rfl
    · have h2 := of_decide_eq_false hc
      iterate 8 refine zW ?_
      refine post_is (.tmp rfl .nil) .nil ?_
      unfold cmpZ; rw [if_neg h1, if_neg (by omega)]; rfl
def orI : List Int → Int
  | [] => 0
  | x :: r => if x = 0 then orI r else x
theorem or_cmp (x y : Cl) : orI [cmpZ x.a y.a, cmpZ x.b y.b] = cmpC x y := by
  unfold cmpC
  simp only [orI]
  split
  · split
    · rename_i h; exact h.symm
    · rfl
  · rfl
theorem cmpor_con (l : List Int) : Con Tryz.prog 79 [.sl 1 (l.map .i)] [] (Is (.i (orI l)) []) := by
  have hcap : capB = 140737488355328 := rfl
  have hml : (l.map D.i).length = l.length := by simp
  refine con_intro Tryz.func79 rfl Tryz.call79 rfl ?_
  iterate 14 refine zW ?_
  first | refine zLn fun _ => ?_ | refine zW ?_
  iterate 4 refine zW ?_
  refine awp_loop1 [3, 6, 7] [] (fun (k : Nat) r => (8, .i (k : Int)) :: r) (fun k r => r) (fun k => k ≤ l.length ∧ orI (l.drop k) = orI l) (fun k => l.length - k) (0) zRc ⟨by omega, by simp⟩ (zWk) ?_
  intro k ⟨hk, hI⟩
  iterate 6 refine zW ?_
  refine zC (fun hc => ?_) fun hc => ?_
  · have hlt := of_decide_eq_true hc
    obtain ⟨x, hx, hd⟩ := drop_cons (l := l) (k := k) (by omega)
    have hx' := getMap D.i hx
    iterate 18 refine zW ?_
    refine zC (fun hc => ?_) fun hc => ?_
    · iterate 12 refine zW ?_
      refine post_is (.tmp rfl .nil) .nil ?_
      rw [hd] at hI; simp only [orI] at hI
      rw [if_neg (of_neq_true hc)] at hI
      rw [← hI]; rfl
    · iterate 8 refine zW ?_
      rw [hd] at hI; simp only [orI] at hI
      rw [if_pos (of_neq_false hc)] at hI
      refine ⟨k + 1, ⟨by omega, hI⟩, by omega, zWk⟩
  · have hge := of_decide_eq_false hc
    rw [drop_nil (by omega)] at hI; simp only [orI] at hI
    iterate 12 refine zW ?_
    refine post_is (.tmp rfl .nil) .nil ?_
    rw [← hI]; rfl
theorem ccmp_con (x y : Cl) : Con Tryz.prog 136 [clv x, clv y] [] (Is (.i (cmpC x y)) []) := by
  have hcap : capB = 140737488355328 := rfl
  refine con_intro Tryz.func136 rfl Tryz.call136 rfl ?_
  refine zW ?_; refine zW ?_
  refine zBx fun b2 => ?_
  refine zBx fun b3 => ?_
  iterate 4 refine zW ?_
  refine zDr [] ?_
  refine zT 0 ?_
  refine zT 1 ?_
  refine zT 2 ?_
  refine zT 3 ?_
  refine zT 5 ?_
  refine zT 6 ?_
  refine zT 7 ?_
  refine zT 8 ?_
  refine zOn 4 ?_
  refine aops_call_v zRc (cmpi_con x.a y.a) rfl rfl ?_
  refine zW ?_
  refine zOn 9 ?_
  refine aops_call_v zRc (cmpi_con x.b y.b) rfl rfl ?_
  refine zW ?_
  refine zOn 10 ?_
  refine aops_lit (e := 3) (sz := 1) (by_ := 8) rfl rfl zRc rfl rfl rfl rfl ?_
  refine zW ?_
  refine zOn 11 ?_
  refine aops_call_v zRc (cmpor_con [cmpZ x.a y.a, cmpZ x.b y.b]) rfl rfl ?_
  refine zW ?_
  refine zT 12 ?_
  refine zW ?_
  all_goals (
    refine zW ?_; refine zW ?_
    refine zPi ?_
    rw [or_cmp]; rfl
    )
theorem rhasC_con (l : List Cl) (x : Cl) : Con Tryz.prog 12 [.sl 2 (l.map clv), clv x] [] (Is (.b (hasC l x)) []) := by
  have hcap : capB = 140737488355328 := rfl
  have hml : (l.map clv).length = l.length := by simp
  refine con_intro Tryz.func12 rfl Tryz.call12 rfl ?_
  refine zW ?_; refine zW ?_
  refine zBx fun b3 => ?_
  iterate 7 refine zW ?_
  first | refine zLn fun _ => ?_ | refine zW ?_
  iterate 4 refine zW ?_
  refine awp_loop1 [3, 7, 8] [.box b3 _ _] (fun (k : Nat) r => (9, .i (k : Int)) :: r) (fun k r => r) (fun k => k ≤ l.length ∧ hasC (l.drop k) x = hasC l x) (fun k => l.length - k) (0) zRc ⟨by omega, by simp⟩ (zWk) ?_
  intro k ⟨hk, hI⟩
  iterate 6 refine zW ?_
  refine zC (fun hc => ?_) fun hc => ?_
  · have hlt := of_decide_eq_true hc
    obtain ⟨y, hy, hd⟩ := drop_cons (l := l) (k := k) (by omega)
    have hy' := getMap clv hy
    iterate 8 refine zW ?_
    refine zAl fun b6 => ?_
    iterate 7 refine zW ?_
    refine aops_p (ap_eq2 rfl rfl eq2_36) rfl rfl rfl ?_
    refine zW ?_; refine zW ?_
    refine zC (fun hc => ?_) fun hc => ?_
    · have he : (decide (x.a = y.a) && decide (x.b = y.b)) = true := by simpa using hc
      iterate 11 refine zW ?_
      refine post_is (.tmp rfl .nil) .nil ?_
      rw [hd, hasC_cons, cl_eq, he] at hI
      rw [← hI]; rfl
    · have he : (decide (x.a = y.a) && decide (x.b = y.b)) = false := by simpa using hc
      iterate 8 refine zW ?_
      rw [hd, hasC_cons, cl_eq, he] at hI
      refine ⟨k + 1, ⟨by omega, hI⟩, by omega, zWk⟩
  · have hge := of_decide_eq_false hc
    rw [drop_nil (by omega)] at hI
    iterate 11 refine zW ?_
    refine post_is (.tmp rfl .nil) .nil ?_
    rw [← hI]; rfl
def prevC (l : List Cl) : Nat → Option Cl
  | 0 => none
  | k + 1 => l[k]?
theorem plain_step {r : List Cl} {p : Option Cl} {x : Cl} {P : Bool} (hI : plainGo p (x :: r) = P) (hv : validCl x = true) (hc : ∀ y, p = some y → cmpC y x < 0) : plainGo (some x) r = P := by
  simp only [plainGo] at hI
  rw [hv] at hI
  cases p with
  | none => simpa using hI
  | some y => simpa [hc y rfl] using hI
theorem plain_bad1 {r : List Cl} {p : Option Cl} {x : Cl} {P : Bool} (hI : plainGo p (x :: r) = P) (hv : validCl x = false) : P = false := by
  simp only [plainGo] at hI
  rw [hv] at hI
  exact hI.symm
theorem plain_bad2 {r : List Cl} {y x : Cl} {P : Bool} (hI : plainGo (some y) (x :: r) = P) (h : ¬ cmpC y x < 0) : P = false := by
  simp only [plainGo] at hI
  rw [decide_eq_false h] at hI
  simpa using hI.symm
theorem cplain_con (l : List Cl) : Con Tryz.prog 91 [.sl 2 (l.map clv)] [] (Is (.b (plainC l)) []) := by
  have hcap : capB = 140737488355328 := rfl
  have hml : (l.map clv).length = l.length := by simp
  refine con_intro Tryz.func91 rfl Tryz.call91 rfl ?_
  iterate 9 refine zW ?_
  first | refine zLn fun _ => ?_ | refine zW ?_
  iterate 4 refine zW ?_
  refine awp_loop1 [0, 5, 6] [] (fun (k : Nat) r => (7, .i (k : Int)) :: r) (fun k r => r) (fun k => k ≤ l.length ∧ plainGo (prevC l k) (l.drop k) = plainC l) (fun k => l.length - k) (0) zRc ⟨by omega, by simp [prevC, plainC]⟩ (zWk) ?_
  intro k ⟨hk, hI⟩
  iterate 6 refine zW ?_
  refine zC (fun hc => ?_) fun hc => ?_
  · have hlt := of_decide_eq_true hc
    obtain ⟨x, hx, hd⟩ := drop_cons (l := l) (k := k) (by omega)
    have hx' := getMap clv hx
    iterate 9 refine zW ?_
    refine zAl fun b4 => ?_
    iterate 5 refine zW ?_
    rcases k with _ | k
    case' succ => (obtain ⟨y, hy, _⟩ := drop_cons (l := l) (k := k) (by omega))
    case' succ => (have hy' := getMap clv hy)
    all_goals (
      refine zDr [] ?_
      refine zT 0 ?_
      refine zOn 1 ?_
      refine aops_call_b zRc (cvalid_con x) rfl rfl fun c13 hc13 => ?_
      refine zW ?_
      refine zT 2 ?_
      refine zT 3 ?_
      refine aany_guard 3 rfl (fun hg => ?_) fun hg => ?_
      rotate_left
      case' _ =>
        first
        | (exact absurd hg (by decide))
        | (exfalso; simp at hg; done)
        | (refine zT 4 ?_
           refine zT 5 ?_
           refine zT 6 ?_
           refine aany_guard 6 rfl (fun hg => ?_) fun hg => ?_
           rotate_left
           case' _ =>
             first
             | (exact absurd hg (by decide))
             | (exfalso; simp at hg; done)
             | (refine zK 7 ?_
                refine zK 8 ?_
                refine zK 9 ?_
                refine zK 10 ?_
                refine zK 11 ?_
                refine zK 12 ?_
                refine zK 13 ?_
                refine zK 14 ?_
                refine zT 15 ?_
                refine zT 16 ?_
                refine zW ?_
               )
           rotate_right
           case' _ =>
             first
             | (exact absurd hg (by decide))
             | (exfalso; simp at hg; done)
             | (refine zT 7 ?_
                refine zT 8 ?_
                refine aany_take 9 rfl zGd zKr zKr zKr (AP.ar (ap_arith (m := (k : Int)) rfl rfl (by simp only [addI, Option.some.injEq]; omega) (by omega))) rfl rfl ?_
                refine aany_take 10 rfl zGd zKr zKr zKr (AP.ar (ap_index (k := k) rfl rfl rfl rfl (by decide) rfl hy')) rfl rfl ?_
                refine zT 11 ?_
                refine zT 12 ?_
                refine zOn 13 ?_
                refine aops_call_v zRc (ccmp_con y x) rfl rfl ?_
                refine zW ?_
                refine zT 14 ?_
                refine zT 15 ?_
                refine zT 16 ?_
                refine zW ?_
               )
          )
      rotate_right
      case' _ =>
        first
        | (exact absurd hg (by decide))
        | (exfalso; simp at hg; done)
        | (refine zK 4 ?_
           refine zK 5 ?_
           refine zKu 6 ?_
           refine zK 7 ?_
           refine zK 8 ?_
           refine zK 9 ?_
           refine zK 10 ?_
           refine zK 11 ?_
           refine zK 12 ?_
           refine zK 13 ?_
           refine zK 14 ?_
           refine zK 15 ?_
           refine zT 16 ?_
           refine zW ?_
          )
      all_goals (
        refine zW ?_
        refine zC (fun hc => ?_) fun hc => ?_
        · first
          | (exact absurd hc (by decide))
          | (iterate 11 refine zW ?_
             refine post_is (.tmp rfl .nil) .nil ?_
             rw [hd] at hI
             first
             | (have e : plainC l = false := plain_bad1 hI (hc13.trans (not_t (c := c13) (by with_reducible assumption))); rw [e]; rfl)
             | (have h0 := of_decide_eq_true (show decide (0 ≤ cmpC y x) = true by with_reducible assumption); rw [show prevC l (k + 1) = some y from hy] at hI; have e : plainC l = false := plain_bad2 hI (by omega); rw [e]; rfl)
            )
        · first
          | (exact absurd hc (by decide))
          | (iterate 8 refine zW ?_
             have hv : validCl x = true := hc13.trans (not_f (c := c13) (by with_reducible assumption))
             rw [hd] at hI
             first
             | (refine ⟨0 + 1, ⟨by omega, ?_⟩, by omega, zWk⟩; show plainGo l[0]? _ = _; rw [hx]; exact plain_step hI hv (fun y h => by cases h))
             | (have hcm := of_decide_eq_false (show decide (0 ≤ cmpC y x) = false by with_reducible assumption); refine ⟨k + 1 + 1, ⟨by omega, ?_⟩, by omega, zWk⟩; show plainGo l[k + 1]? _ = _; rw [hx]; exact plain_step hI hv (fun z h => by rw [show prevC l (k + 1) = some y from hy] at h; cases h; omega))
             | (exfalso; have := of_decide_eq_false hg; omega)
            )
        )
      )
  · have hge := of_decide_eq_false hc
    rw [drop_nil (by omega)] at hI
    iterate 11 refine zW ?_
    refine post_is (.tmp rfl .nil) .nil ?_
    rw [← hI]; rfl
theorem fnode_con (k : Int) : Con Tryz.prog 135 [.i k] [] (Is (.b (nodeV k)) []) := by
  have hcap : capB = 140737488355328 := rfl
  refine con_intro Tryz.func135 rfl Tryz.call135 rfl ?_
  iterate 10 refine zW ?_
  iterate 4 all_goals first | refine zW ?_ | (refine zG (fun hg => ?_) fun hg => ?_; case' _ => refine zW ?_)
  all_goals (
    iterate 3 refine zW ?_
    refine zPi ?_
    unfold nodeV
    simp only [resD]
    first | (simp_all; done) | (simp_all; omega)
    )
theorem fplain_con (m : Msg) (hm : sizeT m.t ≤ 1000000000) : Con Tryz.prog 90 [msv m] [] (Is (.b (plainM m)) []) := by
  have hcap : capB = 140737488355328 := rfl
  refine con_intro Tryz.func90 rfl Tryz.call90 rfl ?_
  refine zW ?_; refine zW ?_
  refine zBx fun b1 => ?_
  iterate 7 refine zW ?_
  refine aops_call_b zRc (fnode_con m.node) rfl rfl fun c5 hc5 => ?_
  refine zW ?_
  iterate 7 all_goals first | refine zW ?_ | (refine zG (fun hg => ?_) fun hg => ?_; case' _ => refine zW ?_)
  all_goals first | (refine zY ?_; refine aops_call_v zRc (validT_con m.t hm) rfl rfl ?_) | refine zSk ?_ | (refine zG (fun hg => ?_) fun hg => ?_; case' _ => refine aops_call_v zRc (validT_con m.t hm) rfl rfl ?_)
  iterate 5 all_goals first | refine zW ?_ | (refine zG (fun hg => ?_) fun hg => ?_; case' _ => refine zW ?_)
  all_goals first | (refine zY ?_; refine aops_call_b zRc (cplain_con m.votes) rfl rfl fun c20 hc20 => ?_) | refine zSk ?_ | (refine zG (fun hg => ?_) fun hg => ?_; case' _ => refine aops_call_b zRc (cplain_con m.votes) rfl rfl fun c20 hc20 => ?_)
  iterate 4 all_goals first | refine zW ?_ | (refine zG (fun hg => ?_) fun hg => ?_; case' _ => refine zW ?_)
  all_goals first | (refine zY ?_; refine aops_call_b zRc (cplain_con m.acc) rfl rfl fun c25 hc25 => ?_) | refine zSk ?_ | (refine zG (fun hg => ?_) fun hg => ?_; case' _ => refine aops_call_b zRc (cplain_con m.acc) rfl rfl fun c25 hc25 => ?_)
  iterate 2 all_goals refine zW ?_
  all_goals (
    iterate 3 refine zW ?_
    refine zPi ?_
    unfold plainM
    simp only [resD]
    first | (simp_all; done) | (simp_all; omega)
    )
theorem copied_con (m : Nat) (hm : m ≤ 200000) : ∀ (t : Trust), sizeT t ≤ m → Con Tryz.prog 202 [av t] [] (Is (av t) []) := by
  have hcap : capB = 140737488355328 := rfl
  intro t
  induction t using Trust.ind with
  | _ t ih =>
    have hl1 : (t.nodes.map D.i).length = t.nodes.length := by simp
    have hl2 := avs_len t.inner
    intro hsz
    have hs0 : sizeT t = t.nodes.length + t.inner.length + sizeL t.inner := rfl
    refine con_intro Tryz.func202 rfl Tryz.call202 rfl ?_
    refine zW ?_; refine zW ?_
    refine zBx fun b1 => ?_
    refine zAl fun b2 => ?_
    iterate 3 refine zW ?_
    refine zDr [] ?_
    refine zT 0 ?_
    refine zT 1 ?_
    refine zT 2 ?_
    refine zT 3 ?_
    refine zE2 4 6 ?_ ?_
    rotate_left
    case' _ =>
      refine zAl fun b3 => ?_
      refine zW ?_
      refine zOn 4 ?_
      first | refine aops_append (e := 3) (sz := 1) (by_ := 8) rfl zUpd rfl rfl rfl rfl rfl (by simp only [List.length_cons, List.length_nil, List.length_append, List.length_map, avs_len]; omega) (fun v10 hv10 => ?_) | refine aops_append_nil (e := 3) (sz := 1) (by_ := 8) rfl rfl rfl rfl rfl rfl (by simp only [List.length_cons, List.length_nil, List.length_append, List.length_map, avs_len]; omega) (fun v10 hv10 => ?_)
      refine zW ?_
      refine zT 5 ?_
      refine zOn 7 ?_
      iterate 3 refine zW ?_
    rotate_right
    case' _ =>
      first | refine aops_append (e := 3) (sz := 1) (by_ := 8) rfl zUpd rfl rfl rfl rfl rfl (by simp only [List.length_cons, List.length_nil, List.length_append, List.length_map, avs_len]; omega) (fun v10 hv10 => ?_) | refine aops_append_nil (e := 3) (sz := 1) (by_ := 8) rfl rfl rfl rfl rfl rfl (by simp only [List.length_cons, List.length_nil, List.length_append, List.length_map, avs_len]; omega) (fun v10 hv10 => ?_)
      refine zW ?_
      refine zT 5 ?_
      refine zOn 6 ?_
      refine zAl fun b3 => ?_
      refine zW ?_
      refine zOn 7 ?_
      iterate 3 refine zW ?_
    all_goals (
      iterate 3 refine zW ?_
      refine zFz v10 [1,2,3] ?_
      iterate 3 refine zW ?_
      first | refine zLn fun _ => ?_ | refine zW ?_
      iterate 4 refine zW ?_
      refine awp_loop3 [2, 3, 13, 14] [.box b1 _ _, .box b2 _ _] (fun (k : Nat) (v : Value) (q : List Trust) r => (15, .i (k : Int)) :: r) (fun k v q r => .box b3 41 [.i t.th, .sl 1 (t.nodes.map .i), .v v] :: .arr v 41 3 (avs q) :: r) (fun k v q => k ≤ t.inner.length ∧ q = t.inner.take k) (fun k v q => t.inner.length - k) (0) (.slice none 0 0) ([]) zRc ⟨by omega, by simp⟩ ((wk_own 41 3 rfl).trans (zWk)) ?_
      intro k v q ⟨hk, hI⟩
      have hql : q.length = k := by rw [hI]; simp; omega
      iterate 6 refine zW ?_
      refine zC (fun hc => ?_) fun hc => ?_
      · have hlt : k < t.inner.length := by have := of_decide_eq_true hc; omega
        obtain ⟨x, hx, hd⟩ := drop_cons hlt
        have hx' := avs_get hx
        have hxm := List.mem_of_getElem? hx
        iterate 8 refine zW ?_
        refine zAl fun b5 => ?_
        iterate 3 refine zW ?_
        refine zDr [.box b3 _ _, .arr v _ _ _] ?_
        refine zT 0 ?_
        refine zT 2 ?_
        refine zE2 1 3 ?_ ?_
        rotate_left
        case' _ =>
          refine aops_call_v zRc (ih _ hxm (by have := sizeL_mem hxm; omega)) rfl rfl ?_
          refine zW ?_
          refine zE2 1 4 ?_ ?_
          rotate_left
          case' _ =>
            refine aops_lit (e := 41) (sz := 3) (by_ := 56) rfl rfl zRc rfl rfl rfl rfl ?_
            refine zW ?_
            refine zOn 1 ?_
            refine zW ?_; refine zW ?_
            refine zOn 5 ?_
            first | refine aops_append (e := 41) (sz := 3) (by_ := 56) rfl zUpd rfl rfl rfl rfl rfl (by simp only [List.length_cons, List.length_nil, List.length_append, List.length_map, avs_len]; omega) (fun v24 hv24 => ?_) | refine aops_append_nil (e := 41) (sz := 3) (by_ := 56) rfl rfl rfl rfl rfl rfl (by simp only [List.length_cons, List.length_nil, List.length_append, List.length_map, avs_len]; omega) (fun v24 hv24 => ?_)
            refine zW ?_
            refine zT 6 ?_
            refine zOn 7 ?_
            iterate 3 refine zW ?_
          rotate_right
          case' _ =>
            refine zW ?_; refine zW ?_
            refine zOn 4 ?_
            refine aops_lit (e := 41) (sz := 3) (by_ := 56) rfl rfl zRc rfl rfl rfl rfl ?_
            refine zW ?_
            refine zOn 5 ?_
            first | refine aops_append (e := 41) (sz := 3) (by_ := 56) rfl zUpd rfl rfl rfl rfl rfl (by simp only [List.length_cons, List.length_nil, List.length_append, List.length_map, avs_len]; omega) (fun v24 hv24 => ?_) | refine aops_append_nil (e := 41) (sz := 3) (by_ := 56) rfl rfl rfl rfl rfl rfl (by simp only [List.length_cons, List.length_nil, List.length_append, List.length_map, avs_len]; omega) (fun v24 hv24 => ?_)
            refine zW ?_
            refine zT 6 ?_
            refine zOn 7 ?_
            iterate 3 refine zW ?_
        rotate_right
        case' _ =>
          refine zW ?_; refine zW ?_
          refine zOn 3 ?_
          refine aops_call_v zRc (ih _ hxm (by have := sizeL_mem hxm; omega)) rfl rfl ?_
          refine zW ?_
          refine zOn 4 ?_
          refine aops_lit (e := 41) (sz := 3) (by_ := 56) rfl rfl zRc rfl rfl rfl rfl ?_
          refine zW ?_
          refine zOn 5 ?_
          first | refine aops_append (e := 41) (sz := 3) (by_ := 56) rfl zUpd rfl rfl rfl rfl rfl (by simp only [List.length_cons, List.length_nil, List.length_append, List.length_map, avs_len]; omega) (fun v24 hv24 => ?_) | refine aops_append_nil (e := 41) (sz := 3) (by_ := 56) rfl rfl rfl rfl rfl rfl (by simp only [List.length_cons, List.length_nil, List.length_append, List.length_map, avs_len]; omega) (fun v24 hv24 => ?_)
          refine zW ?_
          refine zT 6 ?_
          refine zOn 7 ?_
          iterate 3 refine zW ?_
        all_goals (
          iterate 7 refine zW ?_
          rw [avs_snoc]
          refine ⟨k + 1, _, _, ⟨by omega, ?_⟩, by omega, zWk⟩
          rw [hI, List.take_add_one, hx]; simp
          )
      · have hge : t.inner.length ≤ k := by have := of_decide_eq_false hc; omega
        refine zFz v [2,3] ?_
        iterate 12 refine zW ?_
        refine post_is (.cell rfl zUpd rfl rfl .nil) .nil ?_
        subst hI
        rw [List.take_of_length_le hge]; rfl
      )
theorem mem_made : tmade Tryz.prog 64 (10 * 4) = some (List.replicate 10 zeroMem.cells.toList).flatten := by kernel_rfl
theorem viewGo_t {v : Int} {q : List Mem} {m : Msg} {r : List Msg} (h : (!decide (m.node = v)) = true) (h2 : plainM m = true) : viewGo v q (m :: r) = viewGo v (q.set m.node.toNat ⟨true, m.t⟩) r := by simp only [viewGo]; rw [h, h2]; rfl
theorem viewGo_f {v : Int} {q : List Mem} {m : Msg} {r : List Msg} (h : (!decide (m.node = v)) = false ∨ plainM m = false) : viewGo v q (m :: r) = viewGo v q r := by
  simp only [viewGo]
  rcases h with h | h
  · rw [h]; rfl
  · rw [h, Bool.and_false]; rfl
theorem plain_node {m : Msg} (h : plainM m = true) : ∃ k : Nat, m.node = k ∧ k < 10 := by
  unfold plainM nodeV at h
  simp only [Bool.and_eq_true, decide_eq_true_eq] at h
  exact ⟨m.node.toNat, by omega, by omega⟩
theorem view_con (v : Int) (t : Trust) (ht : sizeT t ≤ 200000) (l : List Msg) (hl : ∀ m ∈ l, sizeT m.t ≤ 200000) : Con Tryz.prog 181 [.i v, av t, .sl 7 (l.map msv)] [] (Is (cv (view v t l)) []) := by
  have hcap : capB = 140737488355328 := rfl
  have hml : (l.map msv).length = l.length := by simp
  refine con_intro Tryz.func181 rfl Tryz.call181 rfl ?_
  refine zW ?_; refine zW ?_
  refine zBx fun b4 => ?_
  refine zAl fun b6 => ?_
  iterate 4 refine zW ?_
  refine aops_make (N := 10) (l := (List.replicate 10 noMem).map mv) rfl rfl rfl rfl mem_made (by simp) mem_zero ⟨by decide, by decide⟩ rfl rfl (fun g => ?_)
  refine zW ?_
  refine zAl fun b7 => ?_
  iterate 7 refine zW ?_
  first | refine zLn fun _ => ?_ | refine zW ?_
  iterate 4 refine zW ?_
  refine awp_loop2 [0, 4, 6, 7, 12, 13] [.box b4 _ _, .box b6 _ _, .box b7 _ _] (fun (k : Nat) (q : List Mem) r => (14, .i (k : Int)) :: r) (fun k q r => .arr (.slice (some ⟨g, 0, none⟩) 10 10) 64 4 (q.map mv) :: r) (fun k q => k ≤ l.length ∧ q.length = 10 ∧ viewGo v q (l.drop k) = viewGo v (List.replicate 10 noMem) l) (fun k q => l.length - k) (0) ((List.replicate 10 noMem)) zRc ⟨by omega, by simp, by simp⟩ (zWk) ?_
  intro k q ⟨hk, hql, hI⟩
  iterate 6 refine zW ?_
  refine zC (fun hc => ?_) fun hc => ?_
  · have hlt := of_decide_eq_true hc
    obtain ⟨x, hx, hd⟩ := drop_cons (l := l) (k := k) (by omega)
    have hx' := getMap msv hx
    have hxs := hl x (List.mem_of_getElem? hx)
    iterate 8 refine zW ?_
    refine zAl fun b9 => ?_
    iterate 10 refine zW ?_
    all_goals first | refine zW ?_ | (refine zG (fun hg => ?_) fun hg => ?_; case' _ => refine zW ?_)
    all_goals first | (refine zY ?_; refine aops_call_b zRc (fplain_con x (by omega)) rfl rfl fun c24 hc24 => ?_) | refine zSk ?_ | (refine zG (fun hg => ?_) fun hg => ?_; case' _ => refine aops_call_b zRc (fplain_con x (by omega)) rfl rfl fun c24 hc24 => ?_)
    all_goals refine zW ?_
    all_goals (
      refine zW ?_; refine zW ?_
      refine zC (fun hc => ?_) fun hc => ?_
      · first
        | (exact absurd hc (by decide))
        | (have hpl : plainM x = true := hc24.trans (by with_reducible assumption)
           obtain ⟨n, hn, hn10⟩ := plain_node hpl
           rw [hn]
           obtain ⟨y, hy, _⟩ := drop_cons (l := q) (k := n) (by omega)
           have hyy := getMap mv hy
           refine zDr [.arr _ _ _ _] ?_
           refine zT 0 ?_
           refine zT 1 ?_
           refine zT 2 ?_
           refine zT 3 ?_
           refine zT 4 ?_
           refine zT 5 ?_
           refine zOn 6 ?_
           refine aops_call_v zRc (copied_con 200000 (by omega) x.t hxs) rfl rfl ?_
           refine zW ?_
           refine zT 7 ?_
           refine aany_take 8 rfl zGd zKr zKr zKr (AP.ar (ap_index_own (k := n) rfl rfl rfl rfl rfl (by omega))) rfl rfl ?_
           refine zOn 9 ?_
           refine aops_store_ownF (off := 0) rfl rfl zFlat zUpd rfl hyy zRc ?_
           refine zW ?_; refine zW ?_
           all_goals (
             iterate 7 refine zW ?_
             first
             | (have hne : (!decide (x.node = v)) = true := (by with_reducible assumption); rw [hd, viewGo_t hne hpl, hn, Int.toNat_natCast] at hI; refine ⟨k + 1, q.set n ⟨true, x.t⟩, ⟨by omega, by rw [List.length_set]; exact hql, hI⟩, by omega, ?_⟩; rw [List.map_set]; exact (zWk))
             | (have hff : (!decide (x.node = v)) = false ∨ plainM x = false := (by first | exact .inl (by with_reducible assumption) | exact .inr (hc24.trans (by with_reducible assumption))); rw [hd, viewGo_f hff] at hI; refine ⟨k + 1, q, ⟨by omega, hql, hI⟩, by omega, zWk⟩)
             )
          )
      · first
        | (exact absurd hc (by decide))
        | (iterate 8 refine zW ?_
           first
           | (have hne : (!decide (x.node = v)) = true := (by with_reducible assumption); rw [hd, viewGo_t hne hpl, hn, Int.toNat_natCast] at hI; refine ⟨k + 1, q.set n ⟨true, x.t⟩, ⟨by omega, by rw [List.length_set]; exact hql, hI⟩, by omega, ?_⟩; rw [List.map_set]; exact (zWk))
           | (have hff : (!decide (x.node = v)) = false ∨ plainM x = false := (by first | exact .inl (by with_reducible assumption) | exact .inr (hc24.trans (by with_reducible assumption))); rw [hd, viewGo_f hff] at hI; refine ⟨k + 1, q, ⟨by omega, hql, hI⟩, by omega, zWk⟩)
          )
      )
  · have hge := of_decide_eq_false hc
    rw [drop_nil (by omega)] at hI; simp only [viewGo] at hI
    iterate 9 refine zW ?_
    refine aops_call_b zRc (fnode_con v) rfl rfl fun c37 hc37 => ?_
    refine zW ?_
    all_goals first | refine zW ?_ | (refine zG (fun hg => ?_) fun hg => ?_; case' _ => refine zW ?_)
    all_goals first | (refine zY ?_; refine aops_call_v zRc (validT_con t (by omega)) rfl rfl ?_) | refine zSk ?_ | (refine zG (fun hg => ?_) fun hg => ?_; case' _ => refine aops_call_v zRc (validT_con t (by omega)) rfl rfl ?_)
    iterate 2 all_goals first | refine zW ?_ | (refine zG (fun hg => ?_) fun hg => ?_; case' _ => refine zW ?_)
    all_goals (
      refine zW ?_; refine zW ?_
      refine zC (fun hc => ?_) fun hc => ?_
      · first
        | (exact absurd hc (by decide))
        | (have hvn : nodeV v = true := hc37.trans (by with_reducible assumption)
           obtain ⟨n, rfl, hn10⟩ : ∃ n : Nat, v = n ∧ n < 10 := by unfold nodeV at hvn; simp only [Bool.and_eq_true, decide_eq_true_eq] at hvn; exact ⟨v.toNat, by omega, by omega⟩
           obtain ⟨y, hy, _⟩ := drop_cons (l := q) (k := n) (by omega)
           have hyy := getMap mv hy
           refine zDr [.arr _ _ _ _] ?_
           refine zT 0 ?_
           refine zT 1 ?_
           refine zT 2 ?_
           refine zT 3 ?_
           refine zOn 4 ?_
           refine aops_call_v zRc (copied_con 200000 (by omega) t ht) rfl rfl ?_
           refine zW ?_
           refine zT 5 ?_
           refine aany_take 6 rfl zGd zKr zKr zKr (AP.ar (ap_index_own (k := n) rfl rfl rfl rfl rfl (by omega))) rfl rfl ?_
           refine zOn 7 ?_
           refine aops_store_ownF (off := 0) rfl rfl zFlat zUpd rfl hyy zRc ?_
           refine zW ?_; refine zW ?_
           all_goals (
             iterate 7 refine zW ?_
             rw [show D.agg [.b true, .i t.th, .sl 1 (t.nodes.map .i), .sl 3 (avs t.inner)] = mv ⟨true, t⟩ from rfl, ← List.map_set]
             refine zFz (.slice (some ⟨g, 0, none⟩) 10 10) [6] ?_
             refine zW ?_
             refine zPi ?_
             have h1 : (nodeV (n : Int) && decide (validT t = 0)) = true := by rw [hvn, Bool.true_and]; with_reducible assumption
             unfold view
             rw [if_pos h1, ← hI, Int.toNat_natCast]; rfl
             )
          )
      · first
        | (exact absurd hc (by decide))
        | (iterate 8 refine zW ?_
           refine zFz (.slice (some ⟨g, 0, none⟩) 10 10) [6] ?_
           refine zW ?_
           refine zPi ?_
           have h1 : (nodeV v && decide (validT t = 0)) = false := by first | (rw [hc37.trans (show c37 = false by with_reducible assumption)]; rfl) | (rw [show decide (validT t = 0) = false by with_reducible assumption, Bool.and_false])
           unfold view
           rw [if_neg (by rw [h1]; decide), ← hI]; rfl
          )
      )
theorem fvotes1_con (m : Msg) : Con Tryz.prog 222 [msv m] [] (Is (.sl 2 (m.votes.map clv)) []) := by
  have hcap : capB = 140737488355328 := rfl
  refine con_intro Tryz.func222 rfl Tryz.call222 rfl ?_
  refine zW ?_; refine zW ?_
  refine zBx fun b1 => ?_
  iterate 11 refine zW ?_
  (refine zPi ?_; exact rfl)
theorem facc1_con (m : Msg) : Con Tryz.prog 207 [msv m] [] (Is (.sl 2 (m.acc.map clv)) []) := by
  have hcap : capB = 140737488355328 := rfl
  refine con_intro Tryz.func207 rfl Tryz.call207 rfl ?_
  refine zW ?_; refine zW ?_
  refine zBx fun b1 => ?_
  iterate 11 refine zW ?_
  (refine zPi ?_; exact rfl)
theorem cindex_con (l : List Cl) (x : Cl) : Con Tryz.prog 164 [.sl 2 (l.map clv), clv x] [] (fun d H => ∃ r : Int, d = .i r ∧ decide (0 ≤ r) = hasC l x ∧ H = []) := by
  have hcap : capB = 140737488355328 := rfl
  have hml : (l.map clv).length = l.length := by simp
  refine con_intro Tryz.func164 rfl Tryz.call164 rfl ?_
  refine zW ?_; refine zW ?_
  refine zBx fun b3 => ?_
  iterate 7 refine zW ?_
  first | refine zLn fun _ => ?_ | refine zW ?_
  iterate 4 refine zW ?_
  refine awp_loop1 [0, 3, 7] [.box b3 _ _] (fun (k : Nat) r => (8, .i (k : Int)) :: r) (fun k r => r) (fun k => k ≤ l.length ∧ hasC (l.drop k) x = hasC l x) (fun k => l.length - k) (0) zRc ⟨by omega, by simp⟩ (zWk) ?_
  intro k ⟨hk, hI⟩
  iterate 6 refine zW ?_
  refine zC (fun hc => ?_) fun hc => ?_
  · have hlt := of_decide_eq_true hc
    obtain ⟨y, hy, hd⟩ := drop_cons (l := l) (k := k) (by omega)
    have hy' := getMap clv hy
    iterate 11 refine zW ?_
    refine zDr [] ?_
    refine zT 0 ?_
    refine zT 1 ?_
    refine zT 2 ?_
    refine zT 3 ?_
    refine zT 4 ?_
    refine aany_take 5 rfl zGd zKr zKr zKr (AP.ar (ap_eq2 rfl rfl eq2_36)) rfl rfl ?_
    refine zW ?_
    all_goals (
      refine zW ?_
      refine zC (fun hc => ?_) fun hc => ?_
      · have he : (decide (x.a = y.a) && decide (x.b = y.b)) = true := hc
        iterate 12 refine zW ?_
        refine post_ret (.tmp rfl .nil) zKeep ⟨_, rfl, ?_, rfl⟩
        rw [hd, hasC_cons, cl_eq, he] at hI
        rw [← hI]; exact decide_eq_true (by omega)
      · have he : (decide (x.a = y.a) && decide (x.b = y.b)) = false := hc
        iterate 8 refine zW ?_
        rw [hd, hasC_cons, cl_eq, he] at hI
        refine ⟨k + 1, ⟨by omega, hI⟩, by omega, zWk⟩
      )
  · have hge := of_decide_eq_false hc
    rw [drop_nil (by omega)] at hI
    iterate 11 refine zW ?_
    refine post_ret (.tmp rfl .nil) zKeep ⟨_, rfl, ?_, rfl⟩
    rw [← hI]; rfl
theorem ccontains_con (l : List Cl) (x : Cl) : Con Tryz.prog 138 [.sl 2 (l.map clv), clv x] [] (Is (.b (hasC l x)) []) := by
  have hcap : capB = 140737488355328 := rfl
  refine con_intro Tryz.func138 rfl Tryz.call138 rfl ?_
  refine zW ?_; refine zW ?_
  refine zBx fun b3 => ?_
  iterate 7 refine zW ?_
  (refine aops_call zRc (cindex_con l x) zSplit rfl rfl ?_; rintro _ _ ⟨r, rfl, hr, rfl⟩)
  iterate 5 refine zW ?_
  refine zPi ?_
  rw [← hr]; rfl
theorem chas_con (l : List Cl) (x : Cl) : Con Tryz.prog 95 [.sl 2 (l.map clv), clv x] [] (Is (.b (hasC l x)) []) := by
  have hcap : capB = 140737488355328 := rfl
  refine con_intro Tryz.func95 rfl Tryz.call95 rfl ?_
  refine zW ?_; refine zW ?_
  refine zBx fun b3 => ?_
  iterate 7 refine zW ?_
  refine aops_call_b zRc (ccontains_con l x) rfl rfl fun c7 hc7 => ?_
  iterate 4 refine zW ?_
  refine zPi ?_
  first | (rw [hc7]; rfl) | (simp_all; done)
theorem saying_con (g : Nat) (f : Msg → List Cl) (hg0 : ∀ m, Con Tryz.prog g [msv m] [] (Is (.sl 2 ((f m).map clv)) [])) (l : List Msg) (hl : ∀ m ∈ l, sizeT m.t ≤ 1000000000) (x : Cl) : Con Tryz.prog 206 [.sl 7 (l.map msv), clv x, .v (.func (.func g) #[] #[])] [] (Is (.i (sayGo f x 0 l : Nat)) []) := by
  have hcap : capB = 140737488355328 := rfl
  have hml : (l.map msv).length = l.length := by simp
  refine con_intro Tryz.func206 rfl Tryz.call206 rfl ?_
  refine zW ?_; refine zW ?_
  refine zBx fun b4 => ?_
  iterate 12 refine zW ?_
  first | refine zLn fun _ => ?_ | refine zW ?_
  iterate 4 refine zW ?_
  refine awp_loop2 [2, 4, 10, 11] [.box b4 _ _] (fun (k : Nat) (s : Nat) r => (7, .i (s : Int)) :: (12, .i (k : Int)) :: r) (fun k s r => r) (fun k s => k ≤ l.length ∧ s < 1024 ∧ sayGo f x s (l.drop k) = sayGo f x 0 l) (fun k s => l.length - k) (0) (0) zRc ⟨by omega, by omega, by simp⟩ (zWk) ?_
  intro k s ⟨hk, hs, hI⟩
  iterate 6 refine zW ?_
  refine zC (fun hc => ?_) fun hc => ?_
  · have hlt := of_decide_eq_true hc
    obtain ⟨m, hm, hd⟩ := drop_cons (l := l) (k := k) (by omega)
    have hm' := getMap msv hm
    iterate 8 refine zW ?_
    refine zAl fun b9 => ?_
    iterate 4 refine zW ?_
    refine zDr [] ?_
    refine zT 0 ?_
    refine zOn 1 ?_
    refine aops_call_b zRc (fplain_con m (hl m (List.mem_of_getElem? hm))) rfl rfl fun c17 hc17 => ?_
    refine zW ?_
    refine zT 2 ?_
    refine aany_guard 2 rfl (fun hg => ?_) fun hg => ?_
    rotate_left
    case' _ =>
      refine zK 3 ?_
      refine zK 4 ?_
      refine zK 5 ?_
      refine zK 6 ?_
      refine zK 7 ?_
      refine zT 8 ?_
      refine zW ?_
    rotate_right
    case' _ =>
      refine zT 3 ?_
      refine zT 4 ?_
      refine zT 6 ?_
      refine zOn 5 ?_
      refine aops_callv_v (caps := []) rfl zRc (hg0 m) rfl rfl ?_
      refine zW ?_
      refine zOn 7 ?_
      refine aops_call_b zRc (chas_con (f m) x) rfl rfl fun c23 hc23 => ?_
      refine zW ?_
      refine zT 8 ?_
      refine zW ?_
    all_goals (
      refine zW ?_
      refine zC (fun hc => ?_) fun hc => ?_
      · first
        | (exact absurd hc (by decide))
        | (obtain ⟨n, hn, hn10⟩ := plain_node (hc17.trans (show c17 = true by with_reducible assumption))
           rw [hn]
           have hpn := pow_lt10 hn10
           iterate 4 refine zW ?_
           refine aops_p (ap_shl (p := 1) rfl rfl rfl (by omega) (by omega)) rfl rfl rfl ?_
           iterate 10 refine zW ?_
           first
           | (have hp0 := hc17.trans (show c17 = true by with_reducible assumption); have hh0 := hc23.trans (show c23 = true by with_reducible assumption); rw [hd, sayGo_t hp0 hh0, hn, Int.toNat_natCast] at hI; refine ⟨k + 1, s ||| 1 * 2 ^ n, ⟨by omega, or_lt10 hs hn10, hI⟩, by omega, zWk⟩)
           | (have hff : plainM m = false ∨ hasC (f m) x = false := (by first | exact .inl (hc17.trans (by with_reducible assumption)) | exact .inr (hc23.trans (by with_reducible assumption))); rw [hd, sayGo_f hff] at hI; refine ⟨k + 1, s, ⟨by omega, hs, hI⟩, by omega, zWk⟩)
          )
      · first
        | (exact absurd hc (by decide))
        | (iterate 8 refine zW ?_
           first
           | (have hp0 := hc17.trans (show c17 = true by with_reducible assumption); have hh0 := hc23.trans (show c23 = true by with_reducible assumption); rw [hd, sayGo_t hp0 hh0, hn, Int.toNat_natCast] at hI; refine ⟨k + 1, s ||| 1 * 2 ^ n, ⟨by omega, or_lt10 hs hn10, hI⟩, by omega, zWk⟩)
           | (have hff : plainM m = false ∨ hasC (f m) x = false := (by first | exact .inl (hc17.trans (by with_reducible assumption)) | exact .inr (hc23.trans (by with_reducible assumption))); rw [hd, sayGo_f hff] at hI; refine ⟨k + 1, s, ⟨by omega, hs, hI⟩, by omega, zWk⟩)
          )
      )
  · have hge := of_decide_eq_false hc
    rw [drop_nil (by omega)] at hI; simp only [sayGo] at hI
    iterate 12 refine zW ?_
    refine zPi ?_
    rw [← hI]; rfl
theorem fvotes_con (l : List Msg) (hl : ∀ m ∈ l, sizeT m.t ≤ 1000000000) (x : Cl) : Con Tryz.prog 205 [.sl 7 (l.map msv), clv x] [] (Is (.i (sayGo Msg.votes x 0 l : Nat)) []) := by
  have hcap : capB = 140737488355328 := rfl
  refine con_intro Tryz.func205 rfl Tryz.call205 rfl ?_
  refine zW ?_; refine zW ?_
  refine zBx fun b3 => ?_
  iterate 7 refine zW ?_
  refine aops_call_v zRc (saying_con 222 Msg.votes fvotes1_con l hl x) rfl rfl ?_
  iterate 4 refine zW ?_
  (refine zPi ?_; exact rfl)
theorem facc_con (l : List Msg) (hl : ∀ m ∈ l, sizeT m.t ≤ 1000000000) (x : Cl) : Con Tryz.prog 184 [.sl 7 (l.map msv), clv x] [] (Is (.i (sayGo Msg.acc x 0 l : Nat)) []) := by
  have hcap : capB = 140737488355328 := rfl
  refine con_intro Tryz.func184 rfl Tryz.call184 rfl ?_
  refine zW ?_; refine zW ?_
  refine zBx fun b3 => ?_
  iterate 7 refine zW ?_
  refine aops_call_v zRc (saying_con 207 Msg.acc facc1_con l hl x) rfl rfl ?_
  iterate 4 refine zW ?_
  (refine zPi ?_; exact rfl)
section
open Go.Shelf Go.RowKit Go.Lib Go.Sort
def srtR : Ren := { f := (fun x => match x with | 6 => 43 | 15 => 78 | 14 => 77 | 28 => 117 | 29 => 118 | 20 => 109 | 21 => 110 | 22 => 111 | 23 => 112 | 24 => 113 | 25 => 114 | 26 => 115 | 27 => 116 | 46 => 150 | 47 => 151 | 48 => 152 | 49 => 153 | 50 => 154 | 57 => 176 | n => n), t := (fun x => match x with | 22 => 22 | 24 => 3 | 25 => 80 | 3 => 3 | 39 => 119 | 0 => 0 | 53 => 146 | 55 => 148 | 4 => 4 | 46 => 140 | 45 => 139 | 50 => 120 | 5 => 5 | 9 => 9 | 66 => 170 | 70 => 174 | 76 => 193 | 77 => 194 | n => n), g := fun x => x }
theorem srtL : SlLaysF.n6 Tryz.prog srtR := {
  mixed := rfl
  f6 := ⟨Tryz.f43.name, by decide, Tryz.func43.trans (congrArg some (by kernel_rfl))⟩
  f14 := ⟨Tryz.f77.name, by decide, Tryz.func77.trans (congrArg some (by kernel_rfl))⟩
  f15 := Tryz.func78.trans (congrArg some (by kernel_rfl))
  f20 := ⟨Tryz.f109.name, by decide, Tryz.func109.trans (congrArg some (by kernel_rfl))⟩
  f21 := ⟨Tryz.f110.name, by decide, Tryz.func110.trans (congrArg some (by kernel_rfl))⟩
  f22 := ⟨Tryz.f111.name, by decide, Tryz.func111.trans (congrArg some (by kernel_rfl))⟩
  f23 := ⟨Tryz.f112.name, by decide, Tryz.func112.trans (congrArg some (by kernel_rfl))⟩
  f24 := ⟨Tryz.f113.name, by decide, Tryz.func113.trans (congrArg some (by kernel_rfl))⟩
  f25 := ⟨Tryz.f114.name, by decide, Tryz.func114.trans (congrArg some (by kernel_rfl))⟩
  f26 := ⟨Tryz.f115.name, by decide, Tryz.func115.trans (congrArg some (by kernel_rfl))⟩
  f27 := ⟨Tryz.f116.name, by decide, Tryz.func116.trans (congrArg some (by kernel_rfl))⟩
  f28 := Tryz.func117.trans (congrArg some (by kernel_rfl))
  f29 := Tryz.func118.trans (congrArg some (by kernel_rfl))
  f46 := ⟨Tryz.f150.name, by decide, Tryz.func150.trans (congrArg some (by kernel_rfl))⟩
  f47 := Tryz.func151.trans (congrArg some (by kernel_rfl))
  f48 := Tryz.func152.trans (congrArg some (by kernel_rfl))
  f49 := ⟨Tryz.f153.name, by decide, Tryz.func153.trans (congrArg some (by kernel_rfl))⟩
  f50 := ⟨Tryz.f154.name, by decide, Tryz.func154.trans (congrArg some (by kernel_rfl))⟩
  f57 := ⟨Tryz.f176.name, by decide, Tryz.func176.trans (congrArg some (by kernel_rfl))⟩
  t0 := Tryz.underlying0
  a0 := Tryz.isAgg0
  z0 := Tryz.sizeOf0
  v0 := Tryz.zeroValue0
  t3 := Tryz.underlying3
  a3 := Tryz.isAgg3
  z3 := Tryz.sizeOf3
  v3 := Tryz.zeroValue3
  t4 := Tryz.underlying4
  a4 := Tryz.isAgg4
  z4 := Tryz.sizeOf4
  v4 := Tryz.zeroValue4
  t5 := Tryz.underlying5
  a5 := Tryz.isAgg5
  z5 := Tryz.sizeOf5
  v5 := Tryz.zeroValue5
  t9 := Tryz.underlying9
  a9 := Tryz.isAgg9
  z9 := Tryz.sizeOf9
  v9 := Tryz.zeroValue9
  t22 := Tryz.underlying22
  a22 := Tryz.isAgg22
  z22 := Tryz.sizeOf22
  v22 := Tryz.zeroValue22
  a24 := Tryz.isAgg3
  z24 := Tryz.sizeOf3
  t25 := Tryz.underlying80
  a25 := Tryz.isAgg80
  z25 := Tryz.sizeOf80
  v25 := Tryz.zeroValue80
  t39 := Tryz.underlying119
  a39 := Tryz.isAgg119
  z39 := Tryz.sizeOf119
  v39 := Tryz.zeroValue119
  t45 := Tryz.underlying139
  a45 := Tryz.isAgg139
  z45 := Tryz.sizeOf139
  v45 := Tryz.zeroValue139
  t46 := Tryz.underlying140
  a46 := Tryz.isAgg140
  z46 := Tryz.sizeOf140
  v46 := Tryz.zeroValue140
  t50 := Tryz.underlying120
  a50 := Tryz.isAgg120
  z50 := Tryz.sizeOf120
  v50 := Tryz.zeroValue120
  t53 := Tryz.underlying146
  a53 := Tryz.isAgg146
  z53 := Tryz.sizeOf146
  v53 := Tryz.zeroValue146
  t55 := Tryz.underlying148
  a55 := Tryz.isAgg148
  z55 := Tryz.sizeOf148
  v55 := Tryz.zeroValue148
  t66 := Tryz.underlying170
  a66 := Tryz.isAgg170
  z66 := Tryz.sizeOf170
  v66 := Tryz.zeroValue170
  t70 := Tryz.underlying174
  a70 := Tryz.isAgg174
  z70 := Tryz.sizeOf174
  v70 := Tryz.zeroValue174
  t76 := Tryz.underlying193
  a76 := Tryz.isAgg193
  z76 := Tryz.sizeOf193
  v76 := Tryz.zeroValue193
  t77 := Tryz.underlying194
  a77 := Tryz.isAgg194
  z77 := Tryz.sizeOf194
  v77 := Tryz.zeroValue194 }
theorem kNaN (x : Int) (W : World) : Calls Tryz.prog 119 #[.int .i64 x] W fun e w' => e = .returned (.bool false) ∧ w' = W := by
  go_enter Tryz.func119, Tryz.ntmps119
  go_wp2
  go_ret
  exact ⟨rfl, rfl⟩
theorem kCmp (x y : Int) (W : World) : Calls Tryz.prog 80 #[.int .i64 x, .int .i64 y] W fun e w' => e = .returned (.int .i64 (cmpZ x y)) ∧ w' = W := by
  by_cases hxy : x < y
  · rw [show cmpZ x y = -1 from if_pos hxy]
    go_enter Tryz.func80, Tryz.ntmps80
    go_wp2_with (go_at_call 119; refine (kNaN _ _).mono ?_; rintro e w' ⟨rfl, rfl⟩)
    go_ret
    exact ⟨rfl, rfl⟩
  · by_cases hyx : y < x
    · rw [show cmpZ x y = 1 by unfold cmpZ; rw [if_neg hxy, if_pos hyx]]
      go_enter Tryz.func80, Tryz.ntmps80
      go_wp2_with (go_at_call 119; refine (kNaN _ _).mono ?_; rintro e w' ⟨rfl, rfl⟩)
      go_ret
      exact ⟨rfl, rfl⟩
    · rw [show cmpZ x y = 0 by unfold cmpZ; rw [if_neg hxy, if_neg hyx]]
      go_enter Tryz.func80, Tryz.ntmps80
      go_wp2_with (go_at_call 119; refine (kNaN _ _).mono ?_; rintro e w' ⟨rfl, rfl⟩)
      go_ret
      exact ⟨rfl, rfl⟩
theorem kBelow (x : Int) (W : World) : Calls Tryz.prog 76 #[.int .i64 x, .int .i64 10] W fun e w' => e = .returned (.bool (valid x)) ∧ w' = W := by
  by_cases h0 : 0 ≤ x
  · rw [show valid x = decide (x < 1024) by unfold valid; rw [decide_eq_true h0, Bool.true_and]]
    go_enter Tryz.func76, Tryz.ntmps76
    go_wp2
    go_ret
    exact ⟨rfl, rfl⟩
  · rw [show valid x = false by unfold valid; rw [decide_eq_false h0, Bool.false_and]]
    go_enter Tryz.func76, Tryz.ntmps76
    go_wp2
    go_ret
    exact ⟨rfl, rfl⟩
theorem kValid (x : Int) (W : World) : Calls Tryz.prog 42 #[.int .i64 x] W fun e w' => e = .returned (.bool (valid x)) ∧ w' = W := by
  have h1 := kBelow x W
  generalize valid x = b at h1 ⊢
  go_enter Tryz.func42, Tryz.ntmps42
  go_wp2_with (go_at_call 76; refine h1.mono ?_; rintro e w' ⟨rfl, rfl⟩)
  go_ret
  exact ⟨rfl, rfl⟩
def oc1 (s : Int) : Int := IntKind.u64.wrap (bits BinOp.and IntKind.u64 (s / 2) 6148914691236517205 + bits BinOp.and IntKind.u64 s 6148914691236517205)
def oc2 (s : Int) : Int := IntKind.u64.wrap (bits BinOp.and IntKind.u64 (s / 4) 3689348814741910323 + bits BinOp.and IntKind.u64 s 3689348814741910323)
def oc3 (s : Int) : Int := bits BinOp.and IntKind.u64 (IntKind.u64.wrap (s / 16 + s)) 1085102592571150095
def oc4 (s : Int) : Int := IntKind.u64.wrap (s + s / 256)
def oc5 (s : Int) : Int := IntKind.u64.wrap (s + s / 65536)
def oc6 (s : Int) : Int := IntKind.u64.wrap (s + s / 4294967296)
def oc7 (s : Int) : Int := bits BinOp.and IntKind.i64 (wrap64 (oc6 (oc5 (oc4 (oc3 (oc2 (oc1 s))))))) 127
theorem kOnes (s : Int) (W : World) : Calls Tryz.prog 178 #[.int .u64 s] W fun e w' => e = .returned (.int .i64 (oc7 s)) ∧ w' = W := by
  go_enter Tryz.func178, Tryz.ntmps178
  go_wp2
  go_ret
  exact ⟨rfl, rfl⟩
theorem oc7_all : ((List.range 1024).all fun s => decide (oc7 (s : Int) = popN s)) = true := by kernel_rfl
theorem oc7_pop {n : Nat} (h : n < 1024) : oc7 (n : Int) = popN n := of_decide_eq_true (List.all_eq_true.1 oc7_all n (List.mem_range.2 h))
theorem kOnesU (s : Int) (W : World) : Calls Tryz.prog 155 #[.int .u64 s] W fun e w' => e = .returned (.int .i64 (oc7 s)) ∧ w' = W := by
  have h1 := kOnes s W
  generalize oc7 s = r at h1 ⊢
  go_enter Tryz.func155, Tryz.ntmps155
  go_wp2_with (go_at_call 178; refine h1.mono ?_; rintro e w' ⟨rfl, rfl⟩)
  go_ret
  exact ⟨rfl, rfl⟩
theorem u64n' {n : Nat} (h : n < 1024) : IntKind.u64.wrap (n : Int) = n := by simp [IntKind.wrap, IntKind.bits, IntKind.signed]; omega
theorem kSize (n : Nat) (hn : n < 1024) (W : World) : Calls Tryz.prog 120 #[.int .i64 (n : Int)] W fun e w' => e = .returned (.int .i64 (popN n : Int)) ∧ w' = W := by
  have h1 := kValid (n : Int) W
  rw [valid_n hn] at h1
  have hw : IntKind.u64.wrap (n : Int) = n := u64n' hn
  have h2 := kOnesU (n : Int) W
  rw [oc7_pop hn] at h2
  generalize (popN n : Int) = r at h2 ⊢
  go_enter Tryz.func120, Tryz.ntmps120
  go_wp2_with (first | (go_at_call 42; refine h1.mono ?_; rintro e w' ⟨rfl, rfl⟩) | (go_at_call 155; rw [hw]; refine h2.mono ?_; rintro e w' ⟨rfl, rfl⟩) | (go_at_call 155; refine h2.mono ?_; rintro e w' ⟨rfl, rfl⟩))
  go_ret
  exact ⟨rfl, rfl⟩
def rkV (x : Int) : Int := if valid x = true then popN x.toNat else -1
theorem kRank (x : Int) (W : World) : Calls Tryz.prog 81 #[.int .i64 x] W fun e w' => e = .returned (.int .i64 (rkV x)) ∧ w' = W := by
  have h1 := kValid x W
  cases hv : valid x with
  | false =>
    rw [hv] at h1
    rw [show rkV x = -1 by unfold rkV; rw [hv]; rfl]
    go_enter Tryz.func81, Tryz.ntmps81
    go_wp2_with (go_at_call 42; refine h1.mono ?_; rintro e w' ⟨rfl, rfl⟩)
    go_ret
    exact ⟨rfl, rfl⟩
  | true =>
    obtain ⟨n, rfl, hn⟩ := valid_nat hv
    rw [hv] at h1
    have h2 := kSize n hn W
    rw [show rkV (n : Int) = popN n by unfold rkV; rw [hv, if_pos rfl, Int.toNat_natCast]]
    generalize (popN n : Int) = r at h2 ⊢
    go_enter Tryz.func81, Tryz.ntmps81
    go_wp2_with (first | (go_at_call 42; refine h1.mono ?_; rintro e w' ⟨rfl, rfl⟩) | (go_at_call 120; refine h2.mono ?_; rintro e w' ⟨rfl, rfl⟩))
    go_ret
    exact ⟨rfl, rfl⟩
theorem kOr (a b : Int) (g : Nat) (W : World) (h0 : W.cell? ⟨g, 0, none⟩ = some (.int .i64 a)) (h1 : W.cell? ⟨g, 1, none⟩ = some (.int .i64 b)) :
    Calls Tryz.prog 79 #[.slice (some ⟨g, 0, none⟩) 2 2] W fun e w' => e = .returned (.int .i64 (orI [a, b])) ∧ w' = W := by
  by_cases ha : a = 0
  · by_cases hb : b = 0
    · rw [show orI [a, b] = 0 by simp [orI, ha, hb]]
      go_enter Tryz.func79, Tryz.ntmps79
      go_wp2
      refine wp_loop_rounds 3 ?_
      rw [rounds_succ]
      go_wp2
      rw [rounds_succ]
      go_wp2
      rw [rounds_succ]
      go_wp2
      go_ret
      exact ⟨rfl, rfl⟩
    · rw [show orI [a, b] = b by simp [orI, ha]; intro h; exact h.symm]
      go_enter Tryz.func79, Tryz.ntmps79
      go_wp2
      refine wp_loop_rounds 2 ?_
      rw [rounds_succ]
      go_wp2
      rw [rounds_succ]
      go_wp2
      go_ret
      exact ⟨rfl, rfl⟩
  · rw [show orI [a, b] = a by simp [orI, ha]]
    go_enter Tryz.func79, Tryz.ntmps79
    go_wp2
    refine wp_loop_rounds 1 ?_
    rw [rounds_succ]
    go_wp2
    go_ret
    exact ⟨rfl, rfl⟩
def cfI (x y : Int) : Int := orI [cmpZ (rkV x) (rkV y), cmpZ x y]
theorem kCompare (x y : Int) (W : World) : Calls Tryz.prog 44 #[.int .i64 x, .int .i64 y] W fun e w' => e = .returned (.int .i64 (cfI x y)) ∧ ∃ q os, w' = grow (W.drewN q) os := by
  unfold cfI
  go_enter Tryz.func44, Tryz.ntmps44
  go_wp2_with (first | (go_at_call 81; refine (kRank _ _).mono ?_; rintro e w' ⟨rfl, rfl⟩) | (go_at_call 80; refine (kCmp _ _ _).mono ?_; rintro e w' ⟨rfl, rfl⟩) | (go_at_call 79; refine (kOr (cmpZ (rkV x) (rkV y)) (cmpZ x y) _ _ (by simp) (by simp)).mono ?_; rintro e w' ⟨rfl, rfl⟩))
  go_ret
  exact ⟨rfl, 0, _, by rw [alloc_eq_grow]; rfl⟩
theorem ltI (x y : Int) : ltOf cfI x y = true ↔ rkV x < rkV y ∨ (rkV x = rkV y ∧ x < y) := by
  have h : ∀ a b : Int, cmpZ a b = if a < b then -1 else if b < a then 1 else 0 := fun _ _ => rfl
  unfold ltOf
  rw [decide_eq_true_eq]
  unfold cfI
  rw [show orI [cmpZ (rkV x) (rkV y), cmpZ x y] = if cmpZ (rkV x) (rkV y) = 0 then (if cmpZ x y = 0 then 0 else cmpZ x y) else cmpZ (rkV x) (rkV y) from rfl, h, h]
  split <;> split <;> (try split) <;> (try split) <;> (try split) <;> omega
theorem ltIf (x y : Int) : ltOf cfI x y = false ↔ ¬ (rkV x < rkV y ∨ (rkV x = rkV y ∧ x < y)) := by
  rw [← ltI, Bool.not_eq_true]
theorem swoI : SWO (ltOf cfI) where
  irrefl x := by rw [ltIf]; omega
  trans x y z h1 h2 := by rw [ltI] at *; omega
  ntrans x y z h1 h2 := by rw [ltIf] at *; omega
def sortI (l : List Int) : List Int := (pdq (ltOf cfI) l.toArray 0 l.length (Lib.bitLen l.length) true true).toList
theorem sortI_perm (l : List Int) : (sortI l).Perm l := by
  have h := (pdq_sorts (ltOf cfI) swoI l.toArray 0 l.length (Lib.bitLen l.length) true true (Nat.zero_le _) (by simp) (Or.inl rfl)).1
  obtain ⟨hsz, _, hp⟩ := h
  unfold sortI
  generalize pdq (ltOf cfI) l.toArray 0 l.length (Lib.bitLen l.length) true true = d' at hsz hp ⊢
  have e1 : d'.extract 0 l.length = d' := Array.extract_eq_self_of_le (by rw [hsz]; simp)
  have e2 : l.toArray.extract 0 l.length = l.toArray := Array.extract_eq_self_of_le (by simp)
  rw [e1, e2] at hp
  simpa using hp
theorem sortI_con (v : Value) (l : List Int) : Con Tryz.prog 43 [.v v, .v (.func (.func 44) #[] #[])] [.arr v 3 1 (l.map .i)] (fun d H => d = .tup [] ∧ H = [.arr v 3 1 ((sortI l).map .i)]) := by
  have he : ∀ (vs : Array Value) (w : World), (callFunc 43 vs).run Tryz.prog w = .ok (.enter 43 vs) w := fun vs w => enters_of Tryz.func43 (by kernel_rfl) rfl vs w
  have eg : ∀ args w, (callFunc 44 args).run Tryz.prog w = .ok (.enter 44 args) w := enters_of Tryz.func44 (by kernel_rfl) rfl
  have hR : ∀ d d' : Array Int, d' = pdq (ltOf cfI) d 0 d.size (Lib.bitLen d.size) true true → d'.size = d.size := fun d d' h => by
    rw [h]; exact (pdq_sorts (ltOf cfI) swoI d 0 d.size (Lib.bitLen d.size) true true (Nat.zero_le _) (Nat.le_refl _) (Or.inl rfl)).1.1
  refine (Con.ofSort (R := fun d d' => d' = pdq (ltOf cfI) d 0 d.size (Lib.bitLen d.size) true true) hR ((Array.eq_empty_of_size_eq_zero (hR #[] _ rfl)).symm) he (fun blk cap d w hH hb hs => ?_) (fun w => ?_) v l).mono ?_
  · refine (Any.slices_SortFunc_eq srtL (Value.int .i64) (fun _ => rfl) cfI swoI 44 #[] blk 0 cap d w eg (fun m os dk _ x y => kCompare x y _) hH hb hs).mono fun e w' ⟨k1, n, os, k2⟩ => ⟨k1, _, n, os, rfl, k2⟩
  · exact AnyF.slices_SortFunc_none (P := Tryz.prog) (ρ := srtR) { srtL with } none 0 _ w
  · rintro d H ⟨l', rfl, h1, rfl⟩
    refine ⟨rfl, ?_⟩
    have e : l' = sortI l := by
      have := congrArg Array.toList h1
      simpa [sortI] using this
    rw [e]
theorem sortI_c3 : sortI [3, 5, 6, 7] = [3, 5, 6, 7] := by kernel_rfl
end
theorem validCfg_con {c : List Mem} (hc : Cfg c) : Con Tryz.prog 18 [cv c] [] (Is (.i 0) []) := by
  have h := validC_con c (fun m hm => by have := hc.size m hm; omega)
  rw [hc.validC] at h
  exact h
theorem tmem_con (c : List Mem) (hc : Cfg c) : Con Tryz.prog 36 [cv c] [] (Is (.i ((2 ^ c.length - 1 : Nat) : Int)) []) := by
  have hcap : capB = 140737488355328 := rfl
  have h10 := pow_le10 hc.len.2
  have hpos : 0 < 2 ^ c.length := Nat.pow_pos (by omega)
  have hml : (c.map mv).length = c.length := by simp
  have hp2 : 2 ^ (c.map mv).length = 2 ^ c.length := by rw [hml]
  have hl10 := hc.len.2
  refine con_intro Tryz.func36 rfl Tryz.call36 rfl ?_
  refine zW ?_; refine zW ?_
  refine zBx fun b1 => ?_
  iterate 7 refine zW ?_
  first | refine zLn fun _ => ?_ | refine zW ?_
  refine aops_p (ap_shl (p := 1) rfl rfl rfl (by omega) (by omega)) rfl rfl rfl ?_
  refine aops_p (ap_arith (m := ((2 ^ c.length - 1 : Nat) : Int)) rfl rfl (by simp only [addI, Option.some.injEq]; omega) (by omega)) rfl rfl rfl ?_
  iterate 4 refine zW ?_
  refine post_is (.tmp rfl .nil) .nil ?_
  rfl
theorem tasked_con (c : List Mem) (hc : Cfg c) (s : Nat) (hs : s < 2 ^ c.length) : Con Tryz.prog 16 [cv c, .i s] [] (Is (.i 0) []) := by
  have hcap : capB = 140737488355328 := rfl
  have h10 := pow_le10 hc.len.2
  have hpos : 0 < 2 ^ c.length := Nat.pow_pos (by omega)
  have hml : (c.map mv).length = c.length := by simp
  have hp2 : 2 ^ (c.map mv).length = 2 ^ c.length := by rw [hml]
  have hl10 := hc.len.2
  refine con_intro Tryz.func16 rfl Tryz.call16 rfl ?_
  refine zW ?_; refine zW ?_
  refine zBx fun b2 => ?_
  iterate 7 refine zW ?_
  refine aops_call_v zRc (validCfg_con hc) rfl rfl ?_
  iterate 9 refine zW ?_
  refine awp_cond_f rfl zDec ?_
  iterate 8 refine zW ?_
  iterate 2 all_goals first | refine zW ?_ | (refine zG (fun hg => ?_) fun hg => ?_; case' _ => refine zW ?_)
  all_goals first | (refine zY ?_; refine aops_call_v zRc (tmem_con c hc) rfl rfl ?_) | refine zSk ?_ | (refine zG (fun hg => ?_) fun hg => ?_; case' _ => refine aops_call_v zRc (tmem_con c hc) rfl rfl ?_)
  iterate 2 all_goals first | refine zW ?_ | (refine zG (fun hg => ?_) fun hg => ?_; case' _ => refine zW ?_)
  all_goals (
    refine zW ?_; refine zW ?_
    refine awp_cond_f rfl zDec ?_
    iterate 8 refine zW ?_
    refine post_is (.tmp rfl .nil) .nil ?_
    rfl
    )
theorem thalts_con (c : List Mem) (hc : Cfg c) (s : Nat) (hs : s < 2 ^ c.length) : Con Tryz.prog 17 [cv c, .i s] [] (Is (.b (decide (((great c (((2 ^ c.length - 1) &&& (2 ^ 63 - 1 - s) : Nat) : Int) : Nat) : Int) = 0))) []) := by
  have hcap : capB = 140737488355328 := rfl
  have h10 := pow_le10 hc.len.2
  have hpos : 0 < 2 ^ c.length := Nat.pow_pos (by omega)
  have hml : (c.map mv).length = c.length := by simp
  have hp2 : 2 ^ (c.map mv).length = 2 ^ c.length := by rw [hml]
  have hl10 := hc.len.2
  refine con_intro Tryz.func17 rfl Tryz.call17 rfl ?_
  refine zW ?_; refine zW ?_
  refine zBx fun b2 => ?_
  iterate 4 refine zW ?_
  refine zDr [] ?_
  refine zT 0 ?_
  refine zT 1 ?_
  refine zT 3 ?_
  refine zOn 2 ?_
  refine aops_call_v zRc (tmem_con c hc) rfl rfl ?_
  refine zW ?_
  refine zT 4 ?_
  refine zOn 5 ?_
  refine aops_call_v zRc (great_con c _) rfl rfl ?_
  refine zW ?_
  refine zT 6 ?_
  refine zT 7 ?_
  refine zW ?_
  all_goals (
    refine zW ?_; refine zW ?_
    refine post_is (.tmp rfl .nil) .nil ?_
    rfl
    )
end Go.Proofs.YtmolbagfkdbdnaaGreatDoor
