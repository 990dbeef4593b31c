/- The walks of: crestricts_con, restrict0_con, restrictN_con, restrict_con. Each says what one function of the program answers, for the arguments that its statement names. -/
import Derived.Test.YteogidjgmeemlaaCN
import Derived.Test.YteogidjgmeemlaaTq
import Derived.Test.YteogidjgmeemlaaAv
import Derived.Test.YteogidjgmeemlaaProg
import Derived.KernelRfl
set_option linter.unusedVariables false
set_option linter.unusedSimpArgs false
set_option linter.unnecessarySimpa false
set_option maxRecDepth 4000
namespace Go.Proofs.Yteogidjgmeemlaa
open Go Go.Av Go.Tq

theorem shr_bit {m k : Nat} (hm : m < 1024) (hk : k < 10) : decide (((m / 2 ^ k &&& 1 : Nat) : Int) = 0) = !has m k := by
  rw [← has_bit' (valid_n hm) hk]
  have := Nat.and_one_is_mod (m / 2 ^ k)
  rcases Nat.mod_two_eq_zero_or_one (m / 2 ^ k) with h | h <;> simp [this, h]
theorem keep_out {s : Int} {k : Nat} {m : Mem} (h : has s (k : Int) = false) : keepM s k m = ⟨false, Trust.none⟩ := by unfold keepM; rw [h]; rfl
theorem keep_in {s : Int} {k : Nat} {m : Mem} (h : has s (k : Int) = true) : keepM s k m = m := by unfold keepM; rw [h]; rfl
theorem has_inval {s k : Int} (h : ¬ (0 ≤ s ∧ s < 1024)) : has s k = false := by
  cases e : has s k with
  | false => rfl
  | true => exact absurd (valid_iff.1 (has_inv e).1) h
theorem has_big {s : Int} {k : Nat} (h : 10 ≤ (k : Int)) : has s k = false := by
  cases e : has s k with
  | false => rfl
  | true => have := (has_inv e).2.2.1; omega

theorem restrictN_con (c : List Mem) (s : Nat) (hs : s < 1024) (hl : c.length ≤ 1000) : Con Try.prog 49 [cv c, .i s] [] (Is (cv (restrC c s)) []) := by
  have hcap : capB = 140737488355328 := rfl
  have hl1 : (c.map mv).length = c.length := by simp
  refine con_intro Try.func49 rfl Try.call49 rfl ?_
  refine awp_seq ?_
  refine awp_region ?_
  refine aops_box rfl (by first | exact .agg | exact .sl | exact .v rfl | exact .v (by assumption)) rfl rfl (fun b2 => ?_)
  refine aops_alloc rfl (by repeat constructor) rfl rfl (fun b4 => ?_)
  refine aops_nil ?_
  refine seqQ_n ?_
  refine awp_seq ?_
  refine awp_region ?_
  refine aops_alloc rfl (by repeat constructor) rfl rfl (fun b5 => ?_)
  refine aops_nil ?_
  refine seqQ_n ?_
  refine awp_seq ?_
  refine awp_seq ?_
  refine awp_region ?_
  first | refine aops_p (ap_fieldAddr (off := 0) (sz := 1) (g := false) rfl rfl) rfl rfl rfl ?_ | refine aops_p (ap_fieldAddr_el (off := 0) (sz := 1) (g := false) rfl rfl (by repeat constructor)) rfl rfl rfl ?_
  first | refine aops_q (aq_load1 rfl (by first | exact .here | exact .there .here | exact .there (.there .here) | exact .there (.there (.there .here)) | exact .there (.there (.there (.there .here))) | exact .there (.there (.there (.there (.there .here))))) List.not_mem_nil rfl (by repeat constructor)) rfl rfl rfl ?_ | refine aops_q (aq_load_el1 rfl rfl (by first | exact .sl | exact .v rfl | exact .v (by assumption)) (fun _ h => absurd h List.not_mem_nil)) rfl rfl rfl ?_ | refine aops_q (aq_load_el1' rfl rfl (by first | exact .sl | exact .v rfl | exact .v (by assumption)) (fun _ h => absurd h List.not_mem_nil)) rfl rfl rfl ?_ | refine aops_q (aq_load_own1 rfl (by first | exact .here | exact .there .here | exact .there (.there .here) | exact .there (.there (.there .here)) | exact .there (.there (.there (.there .here))) | exact .there (.there (.there (.there (.there .here))))) List.not_mem_nil rfl (by first | assumption | rfl) (by first | exact .sl | exact .v rfl | exact .v (by assumption))) rfl rfl rfl ?_
  first | refine aops_len rfl rfl rfl rfl (fun _ => ?_) | refine aops_p (ap_len_arr rfl (by first | exact .here | exact .there .here | exact .there (.there .here) | exact .there (.there (.there .here)) | exact .there (.there (.there (.there .here))) | exact .there (.there (.there (.there (.there .here))))) rfl) rfl rfl rfl ?_ | refine aops_p (ap_len_nil rfl rfl) rfl rfl rfl ?_
  refine aops_p (ap_move rfl) rfl rfl rfl ?_
  refine aops_nil ?_
  refine seqQ_n ?_
  refine awp_block ?_
  refine awp_loop2 [1, 4, 5, 9, 10] [.box b4 _ _] (fun (k : Nat) (v : Value) r => (11, .i (k : Int)) :: r) (fun (k : Nat) (v : Value) r => .box b5 27 [.v v] :: .arr v 69 4 (((restrC c s).take k).map mv) :: r) (fun (k : Nat) (v : Value) => k ≤ c.length) (fun (k : Nat) (v : Value) => c.length - k) (0) (.slice none 0 0) (by repeat constructor) (by omega) ((wk_own 69 4 rfl).trans (wk (by repeat (first | exact .nil | refine .cons rfl ?_)) (by repeat (first | exact .nil | refine .cons (by first | exact .here | exact .there .here | exact .there (.there .here) | exact .there (.there (.there .here)) | exact .there (.there (.there (.there .here)))) ?_)))) ?_
  intro k v hk
  have hml : (((restrC c s).take k).map mv).length = k := by rw [List.length_map, List.length_take, restrC_len]; omega
  try have hdiv : s / 2 ^ k ≤ s := Nat.div_le_self _ _
  refine awp_seq ?_
  refine awp_region ?_
  refine aops_p (ap_cmp rfl rfl rfl) rfl rfl rfl ?_
  refine aops_nil ?_
  refine seqQ_n ?_
  refine awp_seq ?_
  refine awp_cond rfl (fun hc => ?_) (fun hc => ?_)
  · have hlt := of_decide_eq_true hc
    obtain ⟨x, hx, hd⟩ := drop_cons (l := c) (k := k) (by omega)
    have hx' := getMap mv hx
    refine awp_skip ?_
    refine seqQ_n ?_
    refine awp_seq ?_
    refine awp_block ?_
    refine awp_seq ?_
    refine awp_region ?_
    refine aops_p (ap_move rfl) rfl rfl rfl ?_
    first | refine aops_p (ap_index rfl rfl rfl rfl (by decide) rfl (by first | assumption | rfl)) rfl rfl rfl ?_ | refine aops_p (ap_index rfl rfl rfl rfl (by decide) (by omega) (by first | assumption | rfl)) rfl rfl rfl ?_ | refine aops_p (ap_index_own rfl rfl rfl rfl rfl (by first | omega | (simp only [List.length_map, List.length_set, avs_len]; omega))) rfl rfl rfl ?_
    first | refine aops_q (aq_load rfl (by first | exact .here | exact .there .here | exact .there (.there .here) | exact .there (.there (.there .here)) | exact .there (.there (.there (.there .here))) | exact .there (.there (.there (.there (.there .here))))) List.not_mem_nil rfl rfl (by repeat constructor)) rfl rfl rfl ?_ | refine aops_q (aq_load_el rfl rfl rfl rfl (fun _ h => absurd h List.not_mem_nil)) rfl rfl rfl ?_
    refine aops_alloc rfl (by repeat constructor) rfl rfl (fun b7 => ?_)
    refine aops_p (ap_assign rfl) rfl rfl rfl ?_
    first | refine aops_store rfl rfl (by first | exact .agg | exact .sl | exact .v rfl | exact .v (by assumption)) (by first | exact .here | exact .there .here | exact .there (.there .here) | exact .there (.there (.there .here)) | exact .there (.there (.there (.there .here))) | exact .there (.there (.there (.there (.there .here))))) rfl (by repeat constructor) ?_ | refine aops_store_own1 rfl rfl (by first | exact .sl | exact .v rfl | exact .v (by assumption)) (by first | exact .here | exact .there .here | exact .there (.there .here) | exact .there (.there (.there .here)) | exact .there (.there (.there (.there .here))) | exact .there (.there (.there (.there (.there .here))))) rfl (by simp only [List.length_set, List.length_map]; omega) ?_
    refine aops_nil ?_
    refine seqQ_n ?_
    refine awp_seq ?_
    refine awp_seq ?_
    refine awp_region ?_
    refine aops_p (ap_move rfl) rfl rfl rfl ?_
    refine aops_p (ap_cmp rfl rfl rfl) rfl rfl rfl ?_
    refine aops_p (ap_move rfl) rfl rfl rfl ?_
    all_goals (first | (refine aops_yes rfl rfl rfl rfl (by first | with_reducible assumption | with_reducible exact rfl | decide | (refine decide_eq_true ?_; omega) | (refine decide_eq_false ?_; omega)) ?_; (refine aops_p (ap_move rfl) rfl rfl rfl ?_)) | refine aops_no_u rfl rfl rfl ?_ | refine aops_no_f rfl rfl rfl rfl (by first | with_reducible assumption | with_reducible exact rfl | decide | (refine decide_eq_true ?_; omega) | (refine decide_eq_false ?_; omega)) ?_ | (refine aops_guard_f rfl rfl rfl rfl (fun hg => ?_) (fun hg => ?_); case' _ => (refine aops_p (ap_move rfl) rfl rfl rfl ?_)))
    all_goals (first | (refine aops_yes rfl rfl rfl rfl (by first | with_reducible assumption | with_reducible exact rfl | decide | (refine decide_eq_true ?_; omega) | (refine decide_eq_false ?_; omega)) ?_; (refine aops_p (ap_cmp rfl rfl rfl) rfl rfl rfl ?_)) | refine aops_no_u rfl rfl rfl ?_ | refine aops_no_f rfl rfl rfl rfl (by first | with_reducible assumption | with_reducible exact rfl | decide | (refine decide_eq_true ?_; omega) | (refine decide_eq_false ?_; omega)) ?_ | (refine aops_guard_f rfl rfl rfl rfl (fun hg => ?_) (fun hg => ?_); case' _ => (refine aops_p (ap_cmp rfl rfl rfl) rfl rfl rfl ?_)))
    all_goals (first | refine aops_p (ap_pick_true rfl (by first | with_reducible assumption | with_reducible exact rfl | decide | (refine decide_eq_true ?_; omega) | (refine decide_eq_false ?_; omega)) rfl) rfl rfl rfl ?_ | refine aops_p (ap_pick_false rfl (by first | with_reducible assumption | with_reducible exact rfl | decide | (refine decide_eq_true ?_; omega) | (refine decide_eq_false ?_; omega)) rfl) rfl rfl rfl ?_)
    all_goals (refine aops_p (ap_move rfl) rfl rfl rfl ?_)
    all_goals (first | (refine aops_yes rfl rfl rfl rfl (by first | with_reducible assumption | with_reducible exact rfl | decide | (refine decide_eq_true ?_; omega) | (refine decide_eq_false ?_; omega)) ?_; (refine aops_p (ap_move rfl) rfl rfl rfl ?_)) | refine aops_no_u rfl rfl rfl ?_ | refine aops_no_f rfl rfl rfl rfl (by first | with_reducible assumption | with_reducible exact rfl | decide | (refine decide_eq_true ?_; omega) | (refine decide_eq_false ?_; omega)) ?_ | (refine aops_guard_f rfl rfl rfl rfl (fun hg => ?_) (fun hg => ?_); case' _ => (refine aops_p (ap_move rfl) rfl rfl rfl ?_)))
    all_goals (first | (refine aops_yes rfl rfl rfl rfl (by first | with_reducible assumption | with_reducible exact rfl | decide | (refine decide_eq_true ?_; omega) | (refine decide_eq_false ?_; omega)) ?_; (refine aops_p (ap_cmp rfl rfl rfl) rfl rfl rfl ?_)) | refine aops_no_u rfl rfl rfl ?_ | refine aops_no_f rfl rfl rfl rfl (by first | with_reducible assumption | with_reducible exact rfl | decide | (refine decide_eq_true ?_; omega) | (refine decide_eq_false ?_; omega)) ?_ | (refine aops_guard_f rfl rfl rfl rfl (fun hg => ?_) (fun hg => ?_); case' _ => (refine aops_p (ap_cmp rfl rfl rfl) rfl rfl rfl ?_)))
    all_goals (first | refine aops_p (ap_pick_true rfl (by first | with_reducible assumption | with_reducible exact rfl | decide | (refine decide_eq_true ?_; omega) | (refine decide_eq_false ?_; omega)) rfl) rfl rfl rfl ?_ | refine aops_p (ap_pick_false rfl (by first | with_reducible assumption | with_reducible exact rfl | decide | (refine decide_eq_true ?_; omega) | (refine decide_eq_false ?_; omega)) rfl) rfl rfl rfl ?_)
    all_goals (refine aops_p (ap_move rfl) rfl rfl rfl ?_)
    all_goals (first | (refine aops_yes rfl rfl rfl rfl (by first | with_reducible assumption | with_reducible exact rfl | decide | (refine decide_eq_true ?_; omega) | (refine decide_eq_false ?_; omega)) ?_; (refine aops_p (ap_move rfl) rfl rfl rfl ?_)) | refine aops_no_u rfl rfl rfl ?_ | refine aops_no_f rfl rfl rfl rfl (by first | with_reducible assumption | with_reducible exact rfl | decide | (refine decide_eq_true ?_; omega) | (refine decide_eq_false ?_; omega)) ?_ | (refine aops_guard_f rfl rfl rfl rfl (fun hg => ?_) (fun hg => ?_); case' _ => (refine aops_p (ap_move rfl) rfl rfl rfl ?_)))
    all_goals (first | (refine aops_yes rfl rfl rfl rfl (by first | with_reducible assumption | with_reducible exact rfl | decide | (refine decide_eq_true ?_; omega) | (refine decide_eq_false ?_; omega)) ?_; (refine aops_p (ap_move rfl) rfl rfl rfl ?_)) | refine aops_no_u rfl rfl rfl ?_ | refine aops_no_f rfl rfl rfl rfl (by first | with_reducible assumption | with_reducible exact rfl | decide | (refine decide_eq_true ?_; omega) | (refine decide_eq_false ?_; omega)) ?_ | (refine aops_guard_f rfl rfl rfl rfl (fun hg => ?_) (fun hg => ?_); case' _ => (refine aops_p (ap_move rfl) rfl rfl rfl ?_)))
    all_goals (first | (refine aops_yes rfl rfl rfl rfl (by first | with_reducible assumption | with_reducible exact rfl | decide | (refine decide_eq_true ?_; omega) | (refine decide_eq_false ?_; omega)) ?_; (refine aops_p (ap_shr rfl rfl (by have := of_decide_eq_false hg; omega)) rfl rfl rfl ?_)) | refine aops_no_u rfl rfl rfl ?_ | refine aops_no_f rfl rfl rfl rfl (by first | with_reducible assumption | with_reducible exact rfl | decide | (refine decide_eq_true ?_; omega) | (refine decide_eq_false ?_; omega)) ?_ | (refine aops_guard_f rfl rfl rfl rfl (fun hg => ?_) (fun hg => ?_); case' _ => (refine aops_p (ap_shr rfl rfl (by have := of_decide_eq_false hg; omega)) rfl rfl rfl ?_)))
    all_goals (first | (refine aops_yes rfl rfl rfl rfl (by first | with_reducible assumption | with_reducible exact rfl | decide | (refine decide_eq_true ?_; omega) | (refine decide_eq_false ?_; omega)) ?_; (refine aops_p (ap_bits (q := 1) rfl rfl rfl (by omega) (by omega)) rfl rfl rfl ?_)) | refine aops_no_u rfl rfl rfl ?_ | refine aops_no_f rfl rfl rfl rfl (by first | with_reducible assumption | with_reducible exact rfl | decide | (refine decide_eq_true ?_; omega) | (refine decide_eq_false ?_; omega)) ?_ | (refine aops_guard_f rfl rfl rfl rfl (fun hg => ?_) (fun hg => ?_); case' _ => (refine aops_p (ap_bits (q := 1) rfl rfl rfl (by omega) (by omega)) rfl rfl rfl ?_)))
    all_goals (first | (refine aops_yes rfl rfl rfl rfl (by first | with_reducible assumption | with_reducible exact rfl | decide | (refine decide_eq_true ?_; omega) | (refine decide_eq_false ?_; omega)) ?_; (refine aops_p (ap_cmp rfl rfl rfl) rfl rfl rfl ?_)) | refine aops_no_u rfl rfl rfl ?_ | refine aops_no_f rfl rfl rfl rfl (by first | with_reducible assumption | with_reducible exact rfl | decide | (refine decide_eq_true ?_; omega) | (refine decide_eq_false ?_; omega)) ?_ | (refine aops_guard_f rfl rfl rfl rfl (fun hg => ?_) (fun hg => ?_); case' _ => (refine aops_p (ap_cmp rfl rfl rfl) rfl rfl rfl ?_)))
    all_goals (first | refine aops_p (ap_pick_true rfl (by first | with_reducible assumption | with_reducible exact rfl | decide | (refine decide_eq_true ?_; omega) | (refine decide_eq_false ?_; omega)) rfl) rfl rfl rfl ?_ | refine aops_p (ap_pick_false rfl (by first | with_reducible assumption | with_reducible exact rfl | decide | (refine decide_eq_true ?_; omega) | (refine decide_eq_false ?_; omega)) rfl) rfl rfl rfl ?_)
    all_goals (
      refine aops_nil ?_
      refine seqQ_n ?_
      refine awp_cond rfl (fun hc => ?_) (fun hc => ?_)
      rotate_left
      case' _ =>
        first
        | (exact absurd hc (by decide))
        | (refine awp_skip ?_
          )
      rotate_right
      case' _ =>
        first
        | (exact absurd hc (by decide))
        | (refine awp_region ?_
           refine aops_p (ap_build (by kernel_rfl) rfl (by repeat constructor) (by repeat (first | exact .nil | apply FillL.cons rfl (by first | exact .agg | exact .sl | exact .v rfl | exact .v (by assumption)) rfl (by repeat constructor)))) rfl rfl rfl ?_
           first | refine aops_store rfl rfl (by first | exact .agg | exact .sl | exact .v rfl | exact .v (by assumption)) (by first | exact .here | exact .there .here | exact .there (.there .here) | exact .there (.there (.there .here)) | exact .there (.there (.there (.there .here))) | exact .there (.there (.there (.there (.there .here))))) rfl (by repeat constructor) ?_ | refine aops_store_own1 rfl rfl (by first | exact .sl | exact .v rfl | exact .v (by assumption)) (by first | exact .here | exact .there .here | exact .there (.there .here) | exact .there (.there (.there .here)) | exact .there (.there (.there (.there .here))) | exact .there (.there (.there (.there (.there .here))))) rfl (by simp only [List.length_set, List.length_map]; omega) ?_
           refine aops_nil ?_
          )
      all_goals (
        refine seqQ_n ?_
        refine awp_region ?_
        first | refine aops_p (ap_fieldAddr (off := 0) (sz := 1) (g := false) rfl rfl) rfl rfl rfl ?_ | refine aops_p (ap_fieldAddr_el (off := 0) (sz := 1) (g := false) rfl rfl (by repeat constructor)) rfl rfl rfl ?_
        first | refine aops_q (aq_load1 rfl (by first | exact .here | exact .there .here | exact .there (.there .here) | exact .there (.there (.there .here)) | exact .there (.there (.there (.there .here))) | exact .there (.there (.there (.there (.there .here))))) List.not_mem_nil rfl (by repeat constructor)) rfl rfl rfl ?_ | refine aops_q (aq_load_el1 rfl rfl (by first | exact .sl | exact .v rfl | exact .v (by assumption)) (fun _ h => absurd h List.not_mem_nil)) rfl rfl rfl ?_ | refine aops_q (aq_load_el1' rfl rfl (by first | exact .sl | exact .v rfl | exact .v (by assumption)) (fun _ h => absurd h List.not_mem_nil)) rfl rfl rfl ?_ | refine aops_q (aq_load_own1 rfl (by first | exact .here | exact .there .here | exact .there (.there .here) | exact .there (.there (.there .here)) | exact .there (.there (.there (.there .here))) | exact .there (.there (.there (.there (.there .here))))) List.not_mem_nil rfl (by first | assumption | rfl) (by first | exact .sl | exact .v rfl | exact .v (by assumption))) rfl rfl rfl ?_
        first | refine aops_q (aq_load rfl (by first | exact .here | exact .there .here | exact .there (.there .here) | exact .there (.there (.there .here)) | exact .there (.there (.there (.there .here))) | exact .there (.there (.there (.there (.there .here))))) List.not_mem_nil rfl rfl (by repeat constructor)) rfl rfl rfl ?_ | refine aops_q (aq_load_el rfl rfl rfl rfl (fun _ h => absurd h List.not_mem_nil)) rfl rfl rfl ?_
        refine aops_unnil [1,4,5,7,9,10,11,34,35,36] 1 rfl rfl (by repeat (first | exact SelC.nil | apply SelC.cons rfl (Cv.agg (CvL.cons Cv.same (CvL.cons Cv.same (CvL.cons Cv.fz (CvL.cons Cv.same CvL.nil))))) | apply SelC.cons rfl Cv.same)) (by repeat (first | exact .nil | apply HeapA.box (by repeat (first | exact CvL.nil | apply CvL.cons Cv.same)) | apply HeapA.arr)) ?_; refine aops_unnil [1,4,5,7,9,10,11,34,35,36] 3 rfl rfl (by repeat (first | exact .nil | apply SelC.cons rfl (by first | exact Cv.fz | (apply Cv.agg; repeat (first | exact CvL.nil | apply CvL.cons (by first | exact Cv.fz | exact Cv.same))) | exact Cv.same))) (by repeat (first | exact .nil | apply HeapA.box (by repeat (first | exact CvL.nil | apply CvL.cons Cv.same)) | apply HeapA.arr)) ?_; refine aops_lit (e := 69) (sz := 4) (by_ := 64) rfl rfl (by repeat constructor) rfl rfl rfl rfl ?_
        first | refine aops_append (e := 69) (sz := 4) (by_ := 64) rfl (by first | exact .here | exact .there .here | exact .there (.there .here) | exact .there (.there (.there .here)) | exact .there (.there (.there (.there .here))) | exact .there (.there (.there (.there (.there .here))))) rfl rfl rfl rfl rfl (by simp only [List.length_cons, List.length_nil]; omega) (fun v38 hv38 => ?_) | refine aops_append_nil (e := 69) (sz := 4) (by_ := 64) rfl rfl rfl rfl rfl rfl (by simp only [List.length_cons, List.length_nil]; omega) (fun v38 hv38 => ?_)
        first | refine aops_p (ap_fieldAddr (off := 0) (sz := 1) (g := false) rfl rfl) rfl rfl rfl ?_ | refine aops_p (ap_fieldAddr_el (off := 0) (sz := 1) (g := false) rfl rfl (by repeat constructor)) rfl rfl rfl ?_
        first | refine aops_store rfl rfl (by first | exact .agg | exact .sl | exact .v rfl | exact .v (by assumption)) (by first | exact .here | exact .there .here | exact .there (.there .here) | exact .there (.there (.there .here)) | exact .there (.there (.there (.there .here))) | exact .there (.there (.there (.there (.there .here))))) rfl (by repeat constructor) ?_ | refine aops_store_own1 rfl rfl (by first | exact .sl | exact .v rfl | exact .v (by assumption)) (by first | exact .here | exact .there .here | exact .there (.there .here) | exact .there (.there (.there .here)) | exact .there (.there (.there (.there .here))) | exact .there (.there (.there (.there (.there .here))))) rfl (by simp only [List.length_set, List.length_map]; omega) ?_
        refine aops_nil ?_
        refine blockQ_n ?_
        refine seqQ_n ?_
        refine awp_region ?_
        refine aops_p (ap_arith rfl rfl rfl (by omega)) rfl rfl rfl ?_
        refine aops_p (ap_move rfl) rfl rfl rfl ?_
        refine aops_nil ?_
        refine seqQ_n ?_
        first
        | (rw [show D.agg [.b false, .i 0, .sl 1 [], .sl 3 []] = mv ⟨false, Trust.none⟩ from rfl, mv_snoc, ← keep_out (s := s) (k := k) (m := x) (has_inval (s := s) (by omega)), ← restrC_take hx]; refine ⟨k + 1, _, by omega, by omega, wk (by repeat (first | exact .nil | refine .cons rfl ?_)) (by repeat (first | exact .nil | refine .cons (by first | exact .here | exact .there .here | exact .there (.there .here) | exact .there (.there (.there .here)) | exact .there (.there (.there (.there .here)))) ?_))⟩)
        | (rw [show D.agg [.b false, .i 0, .sl 1 [], .sl 3 []] = mv ⟨false, Trust.none⟩ from rfl, mv_snoc, ← keep_out (s := (s : Int)) (k := k) (m := x) (has_big (of_decide_eq_true (by with_reducible assumption))), ← restrC_take hx]; refine ⟨k + 1, _, by omega, by omega, wk (by repeat (first | exact .nil | refine .cons rfl ?_)) (by repeat (first | exact .nil | refine .cons (by first | exact .here | exact .there .here | exact .there (.there .here) | exact .there (.there (.there .here)) | exact .there (.there (.there (.there .here)))) ?_))⟩)
        | (rw [show D.agg [.b false, .i 0, .sl 1 [], .sl 3 []] = mv ⟨false, Trust.none⟩ from rfl, mv_snoc, ← keep_out (s := (s : Int)) (k := k) (m := x) (by have h1 := of_decide_eq_false (show decide (10 ≤ (k : Int)) = false by with_reducible assumption); have h2 := shr_bit (m := s) (k := k) (by omega) (by omega); rw [show decide (((s / 2 ^ k &&& 1 : Nat) : Int) = 0) = true by with_reducible assumption] at h2; simpa using h2.symm), ← restrC_take hx]; refine ⟨k + 1, _, by omega, by omega, wk (by repeat (first | exact .nil | refine .cons rfl ?_)) (by repeat (first | exact .nil | refine .cons (by first | exact .here | exact .there .here | exact .there (.there .here) | exact .there (.there (.there .here)) | exact .there (.there (.there (.there .here)))) ?_))⟩)
        | (rw [show D.agg [.b x.decl, .i x.t.th, .sl 1 (x.t.nodes.map .i), .sl 3 (avs x.t.inner)] = mv x from rfl, mv_snoc, ← keep_in (s := (s : Int)) (k := k) (m := x) (by have h1 := of_decide_eq_false (show decide (10 ≤ (k : Int)) = false by with_reducible assumption); have h2 := shr_bit (m := s) (k := k) (by omega) (by omega); rw [show decide (((s / 2 ^ k &&& 1 : Nat) : Int) = 0) = false by with_reducible assumption] at h2; simpa using h2.symm), ← restrC_take hx]; refine ⟨k + 1, _, by omega, by omega, wk (by repeat (first | exact .nil | refine .cons rfl ?_)) (by repeat (first | exact .nil | refine .cons (by first | exact .here | exact .there .here | exact .there (.there .here) | exact .there (.there (.there .here)) | exact .there (.there (.there (.there .here)))) ?_))⟩)
        )
      )
  · have hge := of_decide_eq_false hc
    obtain rfl : k = c.length := by omega
    refine awp_exit ?_
    refine seqQ_x ?_
    refine seqQ_x ?_
    refine blockQ_x rfl ?_
    refine seqQ_n ?_
    refine awp_seq ?_
    refine awp_freeze v [4,5] (by first | exact .here | exact .there .here | exact .there (.there .here) | exact .there (.there (.there .here)) | exact .there (.there (.there (.there .here)))) (by repeat (first | exact .nil | apply SelC.cons rfl (by first | exact Cv.fz | (apply Cv.agg; repeat (first | exact CvL.nil | apply CvL.cons (by first | exact Cv.fz | exact Cv.same))) | exact Cv.same))) (by repeat (first | exact .nil | apply HeapA.box (by repeat (first | exact CvL.nil | apply CvL.cons (by first | exact Cv.fz | exact Cv.same))) | apply HeapA.arr)) ?_
    refine awp_region ?_
    first | refine aops_q (aq_load rfl (by first | exact .here | exact .there .here | exact .there (.there .here) | exact .there (.there (.there .here)) | exact .there (.there (.there (.there .here))) | exact .there (.there (.there (.there (.there .here))))) List.not_mem_nil rfl rfl (by repeat constructor)) rfl rfl rfl ?_ | refine aops_q (aq_load_el rfl rfl rfl rfl (fun _ h => absurd h List.not_mem_nil)) rfl rfl rfl ?_
    first | refine aops_store rfl rfl (by first | exact .agg | exact .sl | exact .v rfl | exact .v (by assumption)) (by first | exact .here | exact .there .here | exact .there (.there .here) | exact .there (.there (.there .here)) | exact .there (.there (.there (.there .here))) | exact .there (.there (.there (.there (.there .here))))) rfl (by repeat constructor) ?_ | refine aops_store_own1 rfl rfl (by first | exact .sl | exact .v rfl | exact .v (by assumption)) (by first | exact .here | exact .there .here | exact .there (.there .here) | exact .there (.there (.there .here)) | exact .there (.there (.there (.there .here))) | exact .there (.there (.there (.there (.there .here))))) rfl (by simp only [List.length_set, List.length_map]; omega) ?_
    refine aops_nil ?_
    refine seqQ_n ?_
    refine awp_ret ?_
    refine post_ret (.cell rfl (by first | exact .here | exact .there .here | exact .there (.there .here) | exact .there (.there (.there .here)) | exact .there (.there (.there (.there .here))) | exact .there (.there (.there (.there (.there .here))))) rfl rfl .nil) (by repeat (first | exact .nil | refine .cons (by first | exact .here | exact .there .here | exact .there (.there .here) | exact .there (.there (.there .here)) | exact .there (.there (.there (.there .here)))) ?_)) ⟨?_, rfl⟩
    rw [List.take_of_length_le (by rw [restrC_len]; omega)]; rfl

theorem restrict0_con (c : List Mem) (s : Int) (hs : ¬ (0 ≤ s ∧ s < 1024)) (hl : c.length ≤ 1000) : Con Try.prog 49 [cv c, .i s] [] (Is (cv (restrC c s)) []) := by
  have hcap : capB = 140737488355328 := rfl
  have hl1 : (c.map mv).length = c.length := by simp
  by_cases h0 : s < 0
  · refine con_intro Try.func49 rfl Try.call49 rfl ?_
    refine awp_seq ?_
    refine awp_region ?_
    refine aops_box rfl (by first | exact .agg | exact .sl | exact .v rfl | exact .v (by assumption)) rfl rfl (fun b2 => ?_)
    refine aops_alloc rfl (by repeat constructor) rfl rfl (fun b4 => ?_)
    refine aops_nil ?_
    refine seqQ_n ?_
    refine awp_seq ?_
    refine awp_region ?_
    refine aops_alloc rfl (by repeat constructor) rfl rfl (fun b5 => ?_)
    refine aops_nil ?_
    refine seqQ_n ?_
    refine awp_seq ?_
    refine awp_seq ?_
    refine awp_region ?_
    first | refine aops_p (ap_fieldAddr (off := 0) (sz := 1) (g := false) rfl rfl) rfl rfl rfl ?_ | refine aops_p (ap_fieldAddr_el (off := 0) (sz := 1) (g := false) rfl rfl (by repeat constructor)) rfl rfl rfl ?_
    first | refine aops_q (aq_load1 rfl (by first | exact .here | exact .there .here | exact .there (.there .here) | exact .there (.there (.there .here)) | exact .there (.there (.there (.there .here))) | exact .there (.there (.there (.there (.there .here))))) List.not_mem_nil rfl (by repeat constructor)) rfl rfl rfl ?_ | refine aops_q (aq_load_el1 rfl rfl (by first | exact .sl | exact .v rfl | exact .v (by assumption)) (fun _ h => absurd h List.not_mem_nil)) rfl rfl rfl ?_ | refine aops_q (aq_load_el1' rfl rfl (by first | exact .sl | exact .v rfl | exact .v (by assumption)) (fun _ h => absurd h List.not_mem_nil)) rfl rfl rfl ?_ | refine aops_q (aq_load_own1 rfl (by first | exact .here | exact .there .here | exact .there (.there .here) | exact .there (.there (.there .here)) | exact .there (.there (.there (.there .here))) | exact .there (.there (.there (.there (.there .here))))) List.not_mem_nil rfl (by first | assumption | rfl) (by first | exact .sl | exact .v rfl | exact .v (by assumption))) rfl rfl rfl ?_
    first | refine aops_len rfl rfl rfl rfl (fun _ => ?_) | refine aops_p (ap_len_arr rfl (by first | exact .here | exact .there .here | exact .there (.there .here) | exact .there (.there (.there .here)) | exact .there (.there (.there (.there .here))) | exact .there (.there (.there (.there (.there .here))))) rfl) rfl rfl rfl ?_ | refine aops_p (ap_len_nil rfl rfl) rfl rfl rfl ?_
    refine aops_p (ap_move rfl) rfl rfl rfl ?_
    refine aops_nil ?_
    refine seqQ_n ?_
    refine awp_block ?_
    refine awp_loop2 [1, 4, 5, 9, 10] [.box b4 _ _] (fun (k : Nat) (v : Value) r => (11, .i (k : Int)) :: r) (fun (k : Nat) (v : Value) r => .box b5 27 [.v v] :: .arr v 69 4 (((restrC c s).take k).map mv) :: r) (fun (k : Nat) (v : Value) => k ≤ c.length) (fun (k : Nat) (v : Value) => c.length - k) (0) (.slice none 0 0) (by repeat constructor) (by omega) ((wk_own 69 4 rfl).trans (wk (by repeat (first | exact .nil | refine .cons rfl ?_)) (by repeat (first | exact .nil | refine .cons (by first | exact .here | exact .there .here | exact .there (.there .here) | exact .there (.there (.there .here)) | exact .there (.there (.there (.there .here)))) ?_)))) ?_
    intro k v hk
    have hml : (((restrC c s).take k).map mv).length = k := by rw [List.length_map, List.length_take, restrC_len]; omega
    try have hdiv : s / 2 ^ k ≤ s := Nat.div_le_self _ _
    refine awp_seq ?_
    refine awp_region ?_
    refine aops_p (ap_cmp rfl rfl rfl) rfl rfl rfl ?_
    refine aops_nil ?_
    refine seqQ_n ?_
    refine awp_seq ?_
    refine awp_cond rfl (fun hc => ?_) (fun hc => ?_)
    · have hlt := of_decide_eq_true hc
      obtain ⟨x, hx, hd⟩ := drop_cons (l := c) (k := k) (by omega)
      have hx' := getMap mv hx
      refine awp_skip ?_
      refine seqQ_n ?_
      refine awp_seq ?_
      refine awp_block ?_
      refine awp_seq ?_
      refine awp_region ?_
      refine aops_p (ap_move rfl) rfl rfl rfl ?_
      first | refine aops_p (ap_index rfl rfl rfl rfl (by decide) rfl (by first | assumption | rfl)) rfl rfl rfl ?_ | refine aops_p (ap_index rfl rfl rfl rfl (by decide) (by omega) (by first | assumption | rfl)) rfl rfl rfl ?_ | refine aops_p (ap_index_own rfl rfl rfl rfl rfl (by first | omega | (simp only [List.length_map, List.length_set, avs_len]; omega))) rfl rfl rfl ?_
      first | refine aops_q (aq_load rfl (by first | exact .here | exact .there .here | exact .there (.there .here) | exact .there (.there (.there .here)) | exact .there (.there (.there (.there .here))) | exact .there (.there (.there (.there (.there .here))))) List.not_mem_nil rfl rfl (by repeat constructor)) rfl rfl rfl ?_ | refine aops_q (aq_load_el rfl rfl rfl rfl (fun _ h => absurd h List.not_mem_nil)) rfl rfl rfl ?_
      refine aops_alloc rfl (by repeat constructor) rfl rfl (fun b7 => ?_)
      refine aops_p (ap_assign rfl) rfl rfl rfl ?_
      first | refine aops_store rfl rfl (by first | exact .agg | exact .sl | exact .v rfl | exact .v (by assumption)) (by first | exact .here | exact .there .here | exact .there (.there .here) | exact .there (.there (.there .here)) | exact .there (.there (.there (.there .here))) | exact .there (.there (.there (.there (.there .here))))) rfl (by repeat constructor) ?_ | refine aops_store_own1 rfl rfl (by first | exact .sl | exact .v rfl | exact .v (by assumption)) (by first | exact .here | exact .there .here | exact .there (.there .here) | exact .there (.there (.there .here)) | exact .there (.there (.there (.there .here))) | exact .there (.there (.there (.there (.there .here))))) rfl (by simp only [List.length_set, List.length_map]; omega) ?_
      refine aops_nil ?_
      refine seqQ_n ?_
      refine awp_seq ?_
      refine awp_seq ?_
      refine awp_region ?_
      refine aops_p (ap_move rfl) rfl rfl rfl ?_
      refine aops_p (ap_cmp rfl rfl rfl) rfl rfl rfl ?_
      refine aops_p (ap_move rfl) rfl rfl rfl ?_
      all_goals (first | (refine aops_yes rfl rfl rfl rfl (by first | with_reducible assumption | with_reducible exact rfl | decide | (refine decide_eq_true ?_; omega) | (refine decide_eq_false ?_; omega)) ?_; (refine aops_p (ap_move rfl) rfl rfl rfl ?_)) | refine aops_no_u rfl rfl rfl ?_ | refine aops_no_f rfl rfl rfl rfl (by first | with_reducible assumption | with_reducible exact rfl | decide | (refine decide_eq_true ?_; omega) | (refine decide_eq_false ?_; omega)) ?_ | (refine aops_guard_f rfl rfl rfl rfl (fun hg => ?_) (fun hg => ?_); case' _ => (refine aops_p (ap_move rfl) rfl rfl rfl ?_)))
      all_goals (first | (refine aops_yes rfl rfl rfl rfl (by first | with_reducible assumption | with_reducible exact rfl | decide | (refine decide_eq_true ?_; omega) | (refine decide_eq_false ?_; omega)) ?_; (refine aops_p (ap_cmp rfl rfl rfl) rfl rfl rfl ?_)) | refine aops_no_u rfl rfl rfl ?_ | refine aops_no_f rfl rfl rfl rfl (by first | with_reducible assumption | with_reducible exact rfl | decide | (refine decide_eq_true ?_; omega) | (refine decide_eq_false ?_; omega)) ?_ | (refine aops_guard_f rfl rfl rfl rfl (fun hg => ?_) (fun hg => ?_); case' _ => (refine aops_p (ap_cmp rfl rfl rfl) rfl rfl rfl ?_)))
      all_goals (first | refine aops_p (ap_pick_true rfl (by first | with_reducible assumption | with_reducible exact rfl | decide | (refine decide_eq_true ?_; omega) | (refine decide_eq_false ?_; omega)) rfl) rfl rfl rfl ?_ | refine aops_p (ap_pick_false rfl (by first | with_reducible assumption | with_reducible exact rfl | decide | (refine decide_eq_true ?_; omega) | (refine decide_eq_false ?_; omega)) rfl) rfl rfl rfl ?_)
      all_goals (refine aops_p (ap_move rfl) rfl rfl rfl ?_)
      all_goals (first | (refine aops_yes rfl rfl rfl rfl (by first | with_reducible assumption | with_reducible exact rfl | decide | (refine decide_eq_true ?_; omega) | (refine decide_eq_false ?_; omega)) ?_; (refine aops_p (ap_move rfl) rfl rfl rfl ?_)) | refine aops_no_u rfl rfl rfl ?_ | refine aops_no_f rfl rfl rfl rfl (by first | with_reducible assumption | with_reducible exact rfl | decide | (refine decide_eq_true ?_; omega) | (refine decide_eq_false ?_; omega)) ?_ | (refine aops_guard_f rfl rfl rfl rfl (fun hg => ?_) (fun hg => ?_); case' _ => (refine aops_p (ap_move rfl) rfl rfl rfl ?_)))
      all_goals (first | (refine aops_yes rfl rfl rfl rfl (by first | with_reducible assumption | with_reducible exact rfl | decide | (refine decide_eq_true ?_; omega) | (refine decide_eq_false ?_; omega)) ?_; (refine aops_p (ap_cmp rfl rfl rfl) rfl rfl rfl ?_)) | refine aops_no_u rfl rfl rfl ?_ | refine aops_no_f rfl rfl rfl rfl (by first | with_reducible assumption | with_reducible exact rfl | decide | (refine decide_eq_true ?_; omega) | (refine decide_eq_false ?_; omega)) ?_ | (refine aops_guard_f rfl rfl rfl rfl (fun hg => ?_) (fun hg => ?_); case' _ => (refine aops_p (ap_cmp rfl rfl rfl) rfl rfl rfl ?_)))
      all_goals (first | refine aops_p (ap_pick_true rfl (by first | with_reducible assumption | with_reducible exact rfl | decide | (refine decide_eq_true ?_; omega) | (refine decide_eq_false ?_; omega)) rfl) rfl rfl rfl ?_ | refine aops_p (ap_pick_false rfl (by first | with_reducible assumption | with_reducible exact rfl | decide | (refine decide_eq_true ?_; omega) | (refine decide_eq_false ?_; omega)) rfl) rfl rfl rfl ?_)
      all_goals (refine aops_p (ap_move rfl) rfl rfl rfl ?_)
      all_goals (first | (refine aops_yes rfl rfl rfl rfl (by first | with_reducible assumption | with_reducible exact rfl | decide | (refine decide_eq_true ?_; omega) | (refine decide_eq_false ?_; omega)) ?_; (refine aops_p (ap_move rfl) rfl rfl rfl ?_)) | refine aops_no_u rfl rfl rfl ?_ | refine aops_no_f rfl rfl rfl rfl (by first | with_reducible assumption | with_reducible exact rfl | decide | (refine decide_eq_true ?_; omega) | (refine decide_eq_false ?_; omega)) ?_ | (refine aops_guard_f rfl rfl rfl rfl (fun hg => ?_) (fun hg => ?_); case' _ => (refine aops_p (ap_move rfl) rfl rfl rfl ?_)))
      all_goals (first | (refine aops_yes rfl rfl rfl rfl (by first | with_reducible assumption | with_reducible exact rfl | decide | (refine decide_eq_true ?_; omega) | (refine decide_eq_false ?_; omega)) ?_; (refine aops_p (ap_move rfl) rfl rfl rfl ?_)) | refine aops_no_u rfl rfl rfl ?_ | refine aops_no_f rfl rfl rfl rfl (by first | with_reducible assumption | with_reducible exact rfl | decide | (refine decide_eq_true ?_; omega) | (refine decide_eq_false ?_; omega)) ?_ | (refine aops_guard_f rfl rfl rfl rfl (fun hg => ?_) (fun hg => ?_); case' _ => (refine aops_p (ap_move rfl) rfl rfl rfl ?_)))
      all_goals (first | (refine aops_yes rfl rfl rfl rfl (by first | with_reducible assumption | with_reducible exact rfl | decide | (refine decide_eq_true ?_; omega) | (refine decide_eq_false ?_; omega)) ?_; (refine aops_p (ap_shr rfl rfl (by have := of_decide_eq_false hg; omega)) rfl rfl rfl ?_)) | refine aops_no_u rfl rfl rfl ?_ | refine aops_no_f rfl rfl rfl rfl (by first | with_reducible assumption | with_reducible exact rfl | decide | (refine decide_eq_true ?_; omega) | (refine decide_eq_false ?_; omega)) ?_ | (refine aops_guard_f rfl rfl rfl rfl (fun hg => ?_) (fun hg => ?_); case' _ => (refine aops_p (ap_shr rfl rfl (by have := of_decide_eq_false hg; omega)) rfl rfl rfl ?_)))
      all_goals (first | (refine aops_yes rfl rfl rfl rfl (by first | with_reducible assumption | with_reducible exact rfl | decide | (refine decide_eq_true ?_; omega) | (refine decide_eq_false ?_; omega)) ?_; (refine aops_p (ap_bits (q := 1) rfl rfl rfl (by omega) (by omega)) rfl rfl rfl ?_)) | refine aops_no_u rfl rfl rfl ?_ | refine aops_no_f rfl rfl rfl rfl (by first | with_reducible assumption | with_reducible exact rfl | decide | (refine decide_eq_true ?_; omega) | (refine decide_eq_false ?_; omega)) ?_ | (refine aops_guard_f rfl rfl rfl rfl (fun hg => ?_) (fun hg => ?_); case' _ => (refine aops_p (ap_bits (q := 1) rfl rfl rfl (by omega) (by omega)) rfl rfl rfl ?_)))
      all_goals (first | (refine aops_yes rfl rfl rfl rfl (by first | with_reducible assumption | with_reducible exact rfl | decide | (refine decide_eq_true ?_; omega) | (refine decide_eq_false ?_; omega)) ?_; (refine aops_p (ap_cmp rfl rfl rfl) rfl rfl rfl ?_)) | refine aops_no_u rfl rfl rfl ?_ | refine aops_no_f rfl rfl rfl rfl (by first | with_reducible assumption | with_reducible exact rfl | decide | (refine decide_eq_true ?_; omega) | (refine decide_eq_false ?_; omega)) ?_ | (refine aops_guard_f rfl rfl rfl rfl (fun hg => ?_) (fun hg => ?_); case' _ => (refine aops_p (ap_cmp rfl rfl rfl) rfl rfl rfl ?_)))
      all_goals (first | refine aops_p (ap_pick_true rfl (by first | with_reducible assumption | with_reducible exact rfl | decide | (refine decide_eq_true ?_; omega) | (refine decide_eq_false ?_; omega)) rfl) rfl rfl rfl ?_ | refine aops_p (ap_pick_false rfl (by first | with_reducible assumption | with_reducible exact rfl | decide | (refine decide_eq_true ?_; omega) | (refine decide_eq_false ?_; omega)) rfl) rfl rfl rfl ?_)
      all_goals (
        refine aops_nil ?_
        refine seqQ_n ?_
        refine awp_cond rfl (fun hc => ?_) (fun hc => ?_)
        rotate_left
        case' _ =>
          first
          | (exact absurd hc (by decide))
          | (refine awp_skip ?_
            )
        rotate_right
        case' _ =>
          first
          | (exact absurd hc (by decide))
          | (refine awp_region ?_
             refine aops_p (ap_build (by kernel_rfl) rfl (by repeat constructor) (by repeat (first | exact .nil | apply FillL.cons rfl (by first | exact .agg | exact .sl | exact .v rfl | exact .v (by assumption)) rfl (by repeat constructor)))) rfl rfl rfl ?_
             first | refine aops_store rfl rfl (by first | exact .agg | exact .sl | exact .v rfl | exact .v (by assumption)) (by first | exact .here | exact .there .here | exact .there (.there .here) | exact .there (.there (.there .here)) | exact .there (.there (.there (.there .here))) | exact .there (.there (.there (.there (.there .here))))) rfl (by repeat constructor) ?_ | refine aops_store_own1 rfl rfl (by first | exact .sl | exact .v rfl | exact .v (by assumption)) (by first | exact .here | exact .there .here | exact .there (.there .here) | exact .there (.there (.there .here)) | exact .there (.there (.there (.there .here))) | exact .there (.there (.there (.there (.there .here))))) rfl (by simp only [List.length_set, List.length_map]; omega) ?_
             refine aops_nil ?_
            )
        all_goals (
          refine seqQ_n ?_
          refine awp_region ?_
          first | refine aops_p (ap_fieldAddr (off := 0) (sz := 1) (g := false) rfl rfl) rfl rfl rfl ?_ | refine aops_p (ap_fieldAddr_el (off := 0) (sz := 1) (g := false) rfl rfl (by repeat constructor)) rfl rfl rfl ?_
          first | refine aops_q (aq_load1 rfl (by first | exact .here | exact .there .here | exact .there (.there .here) | exact .there (.there (.there .here)) | exact .there (.there (.there (.there .here))) | exact .there (.there (.there (.there (.there .here))))) List.not_mem_nil rfl (by repeat constructor)) rfl rfl rfl ?_ | refine aops_q (aq_load_el1 rfl rfl (by first | exact .sl | exact .v rfl | exact .v (by assumption)) (fun _ h => absurd h List.not_mem_nil)) rfl rfl rfl ?_ | refine aops_q (aq_load_el1' rfl rfl (by first | exact .sl | exact .v rfl | exact .v (by assumption)) (fun _ h => absurd h List.not_mem_nil)) rfl rfl rfl ?_ | refine aops_q (aq_load_own1 rfl (by first | exact .here | exact .there .here | exact .there (.there .here) | exact .there (.there (.there .here)) | exact .there (.there (.there (.there .here))) | exact .there (.there (.there (.there (.there .here))))) List.not_mem_nil rfl (by first | assumption | rfl) (by first | exact .sl | exact .v rfl | exact .v (by assumption))) rfl rfl rfl ?_
          first | refine aops_q (aq_load rfl (by first | exact .here | exact .there .here | exact .there (.there .here) | exact .there (.there (.there .here)) | exact .there (.there (.there (.there .here))) | exact .there (.there (.there (.there (.there .here))))) List.not_mem_nil rfl rfl (by repeat constructor)) rfl rfl rfl ?_ | refine aops_q (aq_load_el rfl rfl rfl rfl (fun _ h => absurd h List.not_mem_nil)) rfl rfl rfl ?_
          refine aops_unnil [1,4,5,7,9,10,11,34,35,36] 1 rfl rfl (by repeat (first | exact SelC.nil | apply SelC.cons rfl (Cv.agg (CvL.cons Cv.same (CvL.cons Cv.same (CvL.cons Cv.fz (CvL.cons Cv.same CvL.nil))))) | apply SelC.cons rfl Cv.same)) (by repeat (first | exact .nil | apply HeapA.box (by repeat (first | exact CvL.nil | apply CvL.cons Cv.same)) | apply HeapA.arr)) ?_; refine aops_unnil [1,4,5,7,9,10,11,34,35,36] 3 rfl rfl (by repeat (first | exact .nil | apply SelC.cons rfl (by first | exact Cv.fz | (apply Cv.agg; repeat (first | exact CvL.nil | apply CvL.cons (by first | exact Cv.fz | exact Cv.same))) | exact Cv.same))) (by repeat (first | exact .nil | apply HeapA.box (by repeat (first | exact CvL.nil | apply CvL.cons Cv.same)) | apply HeapA.arr)) ?_; refine aops_lit (e := 69) (sz := 4) (by_ := 64) rfl rfl (by repeat constructor) rfl rfl rfl rfl ?_
          first | refine aops_append (e := 69) (sz := 4) (by_ := 64) rfl (by first | exact .here | exact .there .here | exact .there (.there .here) | exact .there (.there (.there .here)) | exact .there (.there (.there (.there .here))) | exact .there (.there (.there (.there (.there .here))))) rfl rfl rfl rfl rfl (by simp only [List.length_cons, List.length_nil]; omega) (fun v38 hv38 => ?_) | refine aops_append_nil (e := 69) (sz := 4) (by_ := 64) rfl rfl rfl rfl rfl rfl (by simp only [List.length_cons, List.length_nil]; omega) (fun v38 hv38 => ?_)
          first | refine aops_p (ap_fieldAddr (off := 0) (sz := 1) (g := false) rfl rfl) rfl rfl rfl ?_ | refine aops_p (ap_fieldAddr_el (off := 0) (sz := 1) (g := false) rfl rfl (by repeat constructor)) rfl rfl rfl ?_
          first | refine aops_store rfl rfl (by first | exact .agg | exact .sl | exact .v rfl | exact .v (by assumption)) (by first | exact .here | exact .there .here | exact .there (.there .here) | exact .there (.there (.there .here)) | exact .there (.there (.there (.there .here))) | exact .there (.there (.there (.there (.there .here))))) rfl (by repeat constructor) ?_ | refine aops_store_own1 rfl rfl (by first | exact .sl | exact .v rfl | exact .v (by assumption)) (by first | exact .here | exact .there .here | exact .there (.there .here) | exact .there (.there (.there .here)) | exact .there (.there (.there (.there .here))) | exact .there (.there (.there (.there (.there .here))))) rfl (by simp only [List.length_set, List.length_map]; omega) ?_
          refine aops_nil ?_
          refine blockQ_n ?_
          refine seqQ_n ?_
          refine awp_region ?_
          refine aops_p (ap_arith rfl rfl rfl (by omega)) rfl rfl rfl ?_
          refine aops_p (ap_move rfl) rfl rfl rfl ?_
          refine aops_nil ?_
          refine seqQ_n ?_
          first
          | (rw [show D.agg [.b false, .i 0, .sl 1 [], .sl 3 []] = mv ⟨false, Trust.none⟩ from rfl, mv_snoc, ← keep_out (s := s) (k := k) (m := x) (has_inval (s := s) (by omega)), ← restrC_take hx]; refine ⟨k + 1, _, by omega, by omega, wk (by repeat (first | exact .nil | refine .cons rfl ?_)) (by repeat (first | exact .nil | refine .cons (by first | exact .here | exact .there .here | exact .there (.there .here) | exact .there (.there (.there .here)) | exact .there (.there (.there (.there .here)))) ?_))⟩)
          | (rw [show D.agg [.b false, .i 0, .sl 1 [], .sl 3 []] = mv ⟨false, Trust.none⟩ from rfl, mv_snoc, ← keep_out (s := (s : Int)) (k := k) (m := x) (has_big (of_decide_eq_true (by with_reducible assumption))), ← restrC_take hx]; refine ⟨k + 1, _, by omega, by omega, wk (by repeat (first | exact .nil | refine .cons rfl ?_)) (by repeat (first | exact .nil | refine .cons (by first | exact .here | exact .there .here | exact .there (.there .here) | exact .there (.there (.there .here)) | exact .there (.there (.there (.there .here)))) ?_))⟩)
          | (rw [show D.agg [.b false, .i 0, .sl 1 [], .sl 3 []] = mv ⟨false, Trust.none⟩ from rfl, mv_snoc, ← keep_out (s := (s : Int)) (k := k) (m := x) (by have h1 := of_decide_eq_false (show decide (10 ≤ (k : Int)) = false by with_reducible assumption); have h2 := shr_bit (m := s) (k := k) (by omega) (by omega); rw [show decide (((s / 2 ^ k &&& 1 : Nat) : Int) = 0) = true by with_reducible assumption] at h2; simpa using h2.symm), ← restrC_take hx]; refine ⟨k + 1, _, by omega, by omega, wk (by repeat (first | exact .nil | refine .cons rfl ?_)) (by repeat (first | exact .nil | refine .cons (by first | exact .here | exact .there .here | exact .there (.there .here) | exact .there (.there (.there .here)) | exact .there (.there (.there (.there .here)))) ?_))⟩)
          | (rw [show D.agg [.b x.decl, .i x.t.th, .sl 1 (x.t.nodes.map .i), .sl 3 (avs x.t.inner)] = mv x from rfl, mv_snoc, ← keep_in (s := (s : Int)) (k := k) (m := x) (by have h1 := of_decide_eq_false (show decide (10 ≤ (k : Int)) = false by with_reducible assumption); have h2 := shr_bit (m := s) (k := k) (by omega) (by omega); rw [show decide (((s / 2 ^ k &&& 1 : Nat) : Int) = 0) = false by with_reducible assumption] at h2; simpa using h2.symm), ← restrC_take hx]; refine ⟨k + 1, _, by omega, by omega, wk (by repeat (first | exact .nil | refine .cons rfl ?_)) (by repeat (first | exact .nil | refine .cons (by first | exact .here | exact .there .here | exact .there (.there .here) | exact .there (.there (.there .here)) | exact .there (.there (.there (.there .here)))) ?_))⟩)
          )
        )
    · have hge := of_decide_eq_false hc
      obtain rfl : k = c.length := by omega
      refine awp_exit ?_
      refine seqQ_x ?_
      refine seqQ_x ?_
      refine blockQ_x rfl ?_
      refine seqQ_n ?_
      refine awp_seq ?_
      refine awp_freeze v [4,5] (by first | exact .here | exact .there .here | exact .there (.there .here) | exact .there (.there (.there .here)) | exact .there (.there (.there (.there .here)))) (by repeat (first | exact .nil | apply SelC.cons rfl (by first | exact Cv.fz | (apply Cv.agg; repeat (first | exact CvL.nil | apply CvL.cons (by first | exact Cv.fz | exact Cv.same))) | exact Cv.same))) (by repeat (first | exact .nil | apply HeapA.box (by repeat (first | exact CvL.nil | apply CvL.cons (by first | exact Cv.fz | exact Cv.same))) | apply HeapA.arr)) ?_
      refine awp_region ?_
      first | refine aops_q (aq_load rfl (by first | exact .here | exact .there .here | exact .there (.there .here) | exact .there (.there (.there .here)) | exact .there (.there (.there (.there .here))) | exact .there (.there (.there (.there (.there .here))))) List.not_mem_nil rfl rfl (by repeat constructor)) rfl rfl rfl ?_ | refine aops_q (aq_load_el rfl rfl rfl rfl (fun _ h => absurd h List.not_mem_nil)) rfl rfl rfl ?_
      first | refine aops_store rfl rfl (by first | exact .agg | exact .sl | exact .v rfl | exact .v (by assumption)) (by first | exact .here | exact .there .here | exact .there (.there .here) | exact .there (.there (.there .here)) | exact .there (.there (.there (.there .here))) | exact .there (.there (.there (.there (.there .here))))) rfl (by repeat constructor) ?_ | refine aops_store_own1 rfl rfl (by first | exact .sl | exact .v rfl | exact .v (by assumption)) (by first | exact .here | exact .there .here | exact .there (.there .here) | exact .there (.there (.there .here)) | exact .there (.there (.there (.there .here))) | exact .there (.there (.there (.there (.there .here))))) rfl (by simp only [List.length_set, List.length_map]; omega) ?_
      refine aops_nil ?_
      refine seqQ_n ?_
      refine awp_ret ?_
      refine post_ret (.cell rfl (by first | exact .here | exact .there .here | exact .there (.there .here) | exact .there (.there (.there .here)) | exact .there (.there (.there (.there .here))) | exact .there (.there (.there (.there (.there .here))))) rfl rfl .nil) (by repeat (first | exact .nil | refine .cons (by first | exact .here | exact .there .here | exact .there (.there .here) | exact .there (.there (.there .here)) | exact .there (.there (.there (.there .here)))) ?_)) ⟨?_, rfl⟩
      rw [List.take_of_length_le (by rw [restrC_len]; omega)]; rfl
  · refine con_intro Try.func49 rfl Try.call49 rfl ?_
    refine awp_seq ?_
    refine awp_region ?_
    refine aops_box rfl (by first | exact .agg | exact .sl | exact .v rfl | exact .v (by assumption)) rfl rfl (fun b2 => ?_)
    refine aops_alloc rfl (by repeat constructor) rfl rfl (fun b4 => ?_)
    refine aops_nil ?_
    refine seqQ_n ?_
    refine awp_seq ?_
    refine awp_region ?_
    refine aops_alloc rfl (by repeat constructor) rfl rfl (fun b5 => ?_)
    refine aops_nil ?_
    refine seqQ_n ?_
    refine awp_seq ?_
    refine awp_seq ?_
    refine awp_region ?_
    first | refine aops_p (ap_fieldAddr (off := 0) (sz := 1) (g := false) rfl rfl) rfl rfl rfl ?_ | refine aops_p (ap_fieldAddr_el (off := 0) (sz := 1) (g := false) rfl rfl (by repeat constructor)) rfl rfl rfl ?_
    first | refine aops_q (aq_load1 rfl (by first | exact .here | exact .there .here | exact .there (.there .here) | exact .there (.there (.there .here)) | exact .there (.there (.there (.there .here))) | exact .there (.there (.there (.there (.there .here))))) List.not_mem_nil rfl (by repeat constructor)) rfl rfl rfl ?_ | refine aops_q (aq_load_el1 rfl rfl (by first | exact .sl | exact .v rfl | exact .v (by assumption)) (fun _ h => absurd h List.not_mem_nil)) rfl rfl rfl ?_ | refine aops_q (aq_load_el1' rfl rfl (by first | exact .sl | exact .v rfl | exact .v (by assumption)) (fun _ h => absurd h List.not_mem_nil)) rfl rfl rfl ?_ | refine aops_q (aq_load_own1 rfl (by first | exact .here | exact .there .here | exact .there (.there .here) | exact .there (.there (.there .here)) | exact .there (.there (.there (.there .here))) | exact .there (.there (.there (.there (.there .here))))) List.not_mem_nil rfl (by first | assumption | rfl) (by first | exact .sl | exact .v rfl | exact .v (by assumption))) rfl rfl rfl ?_
    first | refine aops_len rfl rfl rfl rfl (fun _ => ?_) | refine aops_p (ap_len_arr rfl (by first | exact .here | exact .there .here | exact .there (.there .here) | exact .there (.there (.there .here)) | exact .there (.there (.there (.there .here))) | exact .there (.there (.there (.there (.there .here))))) rfl) rfl rfl rfl ?_ | refine aops_p (ap_len_nil rfl rfl) rfl rfl rfl ?_
    refine aops_p (ap_move rfl) rfl rfl rfl ?_
    refine aops_nil ?_
    refine seqQ_n ?_
    refine awp_block ?_
    refine awp_loop2 [1, 4, 5, 9, 10] [.box b4 _ _] (fun (k : Nat) (v : Value) r => (11, .i (k : Int)) :: r) (fun (k : Nat) (v : Value) r => .box b5 27 [.v v] :: .arr v 69 4 (((restrC c s).take k).map mv) :: r) (fun (k : Nat) (v : Value) => k ≤ c.length) (fun (k : Nat) (v : Value) => c.length - k) (0) (.slice none 0 0) (by repeat constructor) (by omega) ((wk_own 69 4 rfl).trans (wk (by repeat (first | exact .nil | refine .cons rfl ?_)) (by repeat (first | exact .nil | refine .cons (by first | exact .here | exact .there .here | exact .there (.there .here) | exact .there (.there (.there .here)) | exact .there (.there (.there (.there .here)))) ?_)))) ?_
    intro k v hk
    have hml : (((restrC c s).take k).map mv).length = k := by rw [List.length_map, List.length_take, restrC_len]; omega
    try have hdiv : s / 2 ^ k ≤ s := Nat.div_le_self _ _
    refine awp_seq ?_
    refine awp_region ?_
    refine aops_p (ap_cmp rfl rfl rfl) rfl rfl rfl ?_
    refine aops_nil ?_
    refine seqQ_n ?_
    refine awp_seq ?_
    refine awp_cond rfl (fun hc => ?_) (fun hc => ?_)
    · have hlt := of_decide_eq_true hc
      obtain ⟨x, hx, hd⟩ := drop_cons (l := c) (k := k) (by omega)
      have hx' := getMap mv hx
      refine awp_skip ?_
      refine seqQ_n ?_
      refine awp_seq ?_
      refine awp_block ?_
      refine awp_seq ?_
      refine awp_region ?_
      refine aops_p (ap_move rfl) rfl rfl rfl ?_
      first | refine aops_p (ap_index rfl rfl rfl rfl (by decide) rfl (by first | assumption | rfl)) rfl rfl rfl ?_ | refine aops_p (ap_index rfl rfl rfl rfl (by decide) (by omega) (by first | assumption | rfl)) rfl rfl rfl ?_ | refine aops_p (ap_index_own rfl rfl rfl rfl rfl (by first | omega | (simp only [List.length_map, List.length_set, avs_len]; omega))) rfl rfl rfl ?_
      first | refine aops_q (aq_load rfl (by first | exact .here | exact .there .here | exact .there (.there .here) | exact .there (.there (.there .here)) | exact .there (.there (.there (.there .here))) | exact .there (.there (.there (.there (.there .here))))) List.not_mem_nil rfl rfl (by repeat constructor)) rfl rfl rfl ?_ | refine aops_q (aq_load_el rfl rfl rfl rfl (fun _ h => absurd h List.not_mem_nil)) rfl rfl rfl ?_
      refine aops_alloc rfl (by repeat constructor) rfl rfl (fun b7 => ?_)
      refine aops_p (ap_assign rfl) rfl rfl rfl ?_
      first | refine aops_store rfl rfl (by first | exact .agg | exact .sl | exact .v rfl | exact .v (by assumption)) (by first | exact .here | exact .there .here | exact .there (.there .here) | exact .there (.there (.there .here)) | exact .there (.there (.there (.there .here))) | exact .there (.there (.there (.there (.there .here))))) rfl (by repeat constructor) ?_ | refine aops_store_own1 rfl rfl (by first | exact .sl | exact .v rfl | exact .v (by assumption)) (by first | exact .here | exact .there .here | exact .there (.there .here) | exact .there (.there (.there .here)) | exact .there (.there (.there (.there .here))) | exact .there (.there (.there (.there (.there .here))))) rfl (by simp only [List.length_set, List.length_map]; omega) ?_
      refine aops_nil ?_
      refine seqQ_n ?_
      refine awp_seq ?_
      refine awp_seq ?_
      refine awp_region ?_
      refine aops_p (ap_move rfl) rfl rfl rfl ?_
      refine aops_p (ap_cmp rfl rfl rfl) rfl rfl rfl ?_
      refine aops_p (ap_move rfl) rfl rfl rfl ?_
      all_goals (first | (refine aops_yes rfl rfl rfl rfl (by first | with_reducible assumption | with_reducible exact rfl | decide | (refine decide_eq_true ?_; omega) | (refine decide_eq_false ?_; omega)) ?_; (refine aops_p (ap_move rfl) rfl rfl rfl ?_)) | refine aops_no_u rfl rfl rfl ?_ | refine aops_no_f rfl rfl rfl rfl (by first | with_reducible assumption | with_reducible exact rfl | decide | (refine decide_eq_true ?_; omega) | (refine decide_eq_false ?_; omega)) ?_ | (refine aops_guard_f rfl rfl rfl rfl (fun hg => ?_) (fun hg => ?_); case' _ => (refine aops_p (ap_move rfl) rfl rfl rfl ?_)))
      all_goals (first | (refine aops_yes rfl rfl rfl rfl (by first | with_reducible assumption | with_reducible exact rfl | decide | (refine decide_eq_true ?_; omega) | (refine decide_eq_false ?_; omega)) ?_; (refine aops_p (ap_cmp rfl rfl rfl) rfl rfl rfl ?_)) | refine aops_no_u rfl rfl rfl ?_ | refine aops_no_f rfl rfl rfl rfl (by first | with_reducible assumption | with_reducible exact rfl | decide | (refine decide_eq_true ?_; omega) | (refine decide_eq_false ?_; omega)) ?_ | (refine aops_guard_f rfl rfl rfl rfl (fun hg => ?_) (fun hg => ?_); case' _ => (refine aops_p (ap_cmp rfl rfl rfl) rfl rfl rfl ?_)))
      all_goals (first | refine aops_p (ap_pick_true rfl (by first | with_reducible assumption | with_reducible exact rfl | decide | (refine decide_eq_true ?_; omega) | (refine decide_eq_false ?_; omega)) rfl) rfl rfl rfl ?_ | refine aops_p (ap_pick_false rfl (by first | with_reducible assumption | with_reducible exact rfl | decide | (refine decide_eq_true ?_; omega) | (refine decide_eq_false ?_; omega)) rfl) rfl rfl rfl ?_)
      all_goals (refine aops_p (ap_move rfl) rfl rfl rfl ?_)
      all_goals (first | (refine aops_yes rfl rfl rfl rfl (by first | with_reducible assumption | with_reducible exact rfl | decide | (refine decide_eq_true ?_; omega) | (refine decide_eq_false ?_; omega)) ?_; (refine aops_p (ap_move rfl) rfl rfl rfl ?_)) | refine aops_no_u rfl rfl rfl ?_ | refine aops_no_f rfl rfl rfl rfl (by first | with_reducible assumption | with_reducible exact rfl | decide | (refine decide_eq_true ?_; omega) | (refine decide_eq_false ?_; omega)) ?_ | (refine aops_guard_f rfl rfl rfl rfl (fun hg => ?_) (fun hg => ?_); case' _ => (refine aops_p (ap_move rfl) rfl rfl rfl ?_)))
      all_goals (first | (refine aops_yes rfl rfl rfl rfl (by first | with_reducible assumption | with_reducible exact rfl | decide | (refine decide_eq_true ?_; omega) | (refine decide_eq_false ?_; omega)) ?_; (refine aops_p (ap_cmp rfl rfl rfl) rfl rfl rfl ?_)) | refine aops_no_u rfl rfl rfl ?_ | refine aops_no_f rfl rfl rfl rfl (by first | with_reducible assumption | with_reducible exact rfl | decide | (refine decide_eq_true ?_; omega) | (refine decide_eq_false ?_; omega)) ?_ | (refine aops_guard_f rfl rfl rfl rfl (fun hg => ?_) (fun hg => ?_); case' _ => (refine aops_p (ap_cmp rfl rfl rfl) rfl rfl rfl ?_)))
      all_goals (first | refine aops_p (ap_pick_true rfl (by first | with_reducible assumption | with_reducible exact rfl | decide | (refine decide_eq_true ?_; omega) | (refine decide_eq_false ?_; omega)) rfl) rfl rfl rfl ?_ | refine aops_p (ap_pick_false rfl (by first | with_reducible assumption | with_reducible exact rfl | decide | (refine decide_eq_true ?_; omega) | (refine decide_eq_false ?_; omega)) rfl) rfl rfl rfl ?_)
      all_goals (refine aops_p (ap_move rfl) rfl rfl rfl ?_)
      all_goals (first | (refine aops_yes rfl rfl rfl rfl (by first | with_reducible assumption | with_reducible exact rfl | decide | (refine decide_eq_true ?_; omega) | (refine decide_eq_false ?_; omega)) ?_; (refine aops_p (ap_move rfl) rfl rfl rfl ?_)) | refine aops_no_u rfl rfl rfl ?_ | refine aops_no_f rfl rfl rfl rfl (by first | with_reducible assumption | with_reducible exact rfl | decide | (refine decide_eq_true ?_; omega) | (refine decide_eq_false ?_; omega)) ?_ | (refine aops_guard_f rfl rfl rfl rfl (fun hg => ?_) (fun hg => ?_); case' _ => (refine aops_p (ap_move rfl) rfl rfl rfl ?_)))
      all_goals (first | (refine aops_yes rfl rfl rfl rfl (by first | with_reducible assumption | with_reducible exact rfl | decide | (refine decide_eq_true ?_; omega) | (refine decide_eq_false ?_; omega)) ?_; (refine aops_p (ap_move rfl) rfl rfl rfl ?_)) | refine aops_no_u rfl rfl rfl ?_ | refine aops_no_f rfl rfl rfl rfl (by first | with_reducible assumption | with_reducible exact rfl | decide | (refine decide_eq_true ?_; omega) | (refine decide_eq_false ?_; omega)) ?_ | (refine aops_guard_f rfl rfl rfl rfl (fun hg => ?_) (fun hg => ?_); case' _ => (refine aops_p (ap_move rfl) rfl rfl rfl ?_)))
      all_goals (first | (refine aops_yes rfl rfl rfl rfl (by first | with_reducible assumption | with_reducible exact rfl | decide | (refine decide_eq_true ?_; omega) | (refine decide_eq_false ?_; omega)) ?_; (refine aops_p (ap_shr rfl rfl (by have := of_decide_eq_false hg; omega)) rfl rfl rfl ?_)) | refine aops_no_u rfl rfl rfl ?_ | refine aops_no_f rfl rfl rfl rfl (by first | with_reducible assumption | with_reducible exact rfl | decide | (refine decide_eq_true ?_; omega) | (refine decide_eq_false ?_; omega)) ?_ | (refine aops_guard_f rfl rfl rfl rfl (fun hg => ?_) (fun hg => ?_); case' _ => (refine aops_p (ap_shr rfl rfl (by have := of_decide_eq_false hg; omega)) rfl rfl rfl ?_)))
      all_goals (first | (refine aops_yes rfl rfl rfl rfl (by first | with_reducible assumption | with_reducible exact rfl | decide | (refine decide_eq_true ?_; omega) | (refine decide_eq_false ?_; omega)) ?_; (refine aops_p (ap_bits (q := 1) rfl rfl rfl (by omega) (by omega)) rfl rfl rfl ?_)) | refine aops_no_u rfl rfl rfl ?_ | refine aops_no_f rfl rfl rfl rfl (by first | with_reducible assumption | with_reducible exact rfl | decide | (refine decide_eq_true ?_; omega) | (refine decide_eq_false ?_; omega)) ?_ | (refine aops_guard_f rfl rfl rfl rfl (fun hg => ?_) (fun hg => ?_); case' _ => (refine aops_p (ap_bits (q := 1) rfl rfl rfl (by omega) (by omega)) rfl rfl rfl ?_)))
      all_goals (first | (refine aops_yes rfl rfl rfl rfl (by first | with_reducible assumption | with_reducible exact rfl | decide | (refine decide_eq_true ?_; omega) | (refine decide_eq_false ?_; omega)) ?_; (refine aops_p (ap_cmp rfl rfl rfl) rfl rfl rfl ?_)) | refine aops_no_u rfl rfl rfl ?_ | refine aops_no_f rfl rfl rfl rfl (by first | with_reducible assumption | with_reducible exact rfl | decide | (refine decide_eq_true ?_; omega) | (refine decide_eq_false ?_; omega)) ?_ | (refine aops_guard_f rfl rfl rfl rfl (fun hg => ?_) (fun hg => ?_); case' _ => (refine aops_p (ap_cmp rfl rfl rfl) rfl rfl rfl ?_)))
      all_goals (first | refine aops_p (ap_pick_true rfl (by first | with_reducible assumption | with_reducible exact rfl | decide | (refine decide_eq_true ?_; omega) | (refine decide_eq_false ?_; omega)) rfl) rfl rfl rfl ?_ | refine aops_p (ap_pick_false rfl (by first | with_reducible assumption | with_reducible exact rfl | decide | (refine decide_eq_true ?_; omega) | (refine decide_eq_false ?_; omega)) rfl) rfl rfl rfl ?_)
      all_goals (
        refine aops_nil ?_
        refine seqQ_n ?_
        refine awp_cond rfl (fun hc => ?_) (fun hc => ?_)
        rotate_left
        case' _ =>
          first
          | (exact absurd hc (by decide))
          | (refine awp_skip ?_
            )
        rotate_right
        case' _ =>
          first
          | (exact absurd hc (by decide))
          | (refine awp_region ?_
             refine aops_p (ap_build (by kernel_rfl) rfl (by repeat constructor) (by repeat (first | exact .nil | apply FillL.cons rfl (by first | exact .agg | exact .sl | exact .v rfl | exact .v (by assumption)) rfl (by repeat constructor)))) rfl rfl rfl ?_
             first | refine aops_store rfl rfl (by first | exact .agg | exact .sl | exact .v rfl | exact .v (by assumption)) (by first | exact .here | exact .there .here | exact .there (.there .here) | exact .there (.there (.there .here)) | exact .there (.there (.there (.there .here))) | exact .there (.there (.there (.there (.there .here))))) rfl (by repeat constructor) ?_ | refine aops_store_own1 rfl rfl (by first | exact .sl | exact .v rfl | exact .v (by assumption)) (by first | exact .here | exact .there .here | exact .there (.there .here) | exact .there (.there (.there .here)) | exact .there (.there (.there (.there .here))) | exact .there (.there (.there (.there (.there .here))))) rfl (by simp only [List.length_set, List.length_map]; omega) ?_
             refine aops_nil ?_
            )
        all_goals (
          refine seqQ_n ?_
          refine awp_region ?_
          first | refine aops_p (ap_fieldAddr (off := 0) (sz := 1) (g := false) rfl rfl) rfl rfl rfl ?_ | refine aops_p (ap_fieldAddr_el (off := 0) (sz := 1) (g := false) rfl rfl (by repeat constructor)) rfl rfl rfl ?_
          first | refine aops_q (aq_load1 rfl (by first | exact .here | exact .there .here | exact .there (.there .here) | exact .there (.there (.there .here)) | exact .there (.there (.there (.there .here))) | exact .there (.there (.there (.there (.there .here))))) List.not_mem_nil rfl (by repeat constructor)) rfl rfl rfl ?_ | refine aops_q (aq_load_el1 rfl rfl (by first | exact .sl | exact .v rfl | exact .v (by assumption)) (fun _ h => absurd h List.not_mem_nil)) rfl rfl rfl ?_ | refine aops_q (aq_load_el1' rfl rfl (by first | exact .sl | exact .v rfl | exact .v (by assumption)) (fun _ h => absurd h List.not_mem_nil)) rfl rfl rfl ?_ | refine aops_q (aq_load_own1 rfl (by first | exact .here | exact .there .here | exact .there (.there .here) | exact .there (.there (.there .here)) | exact .there (.there (.there (.there .here))) | exact .there (.there (.there (.there (.there .here))))) List.not_mem_nil rfl (by first | assumption | rfl) (by first | exact .sl | exact .v rfl | exact .v (by assumption))) rfl rfl rfl ?_
          first | refine aops_q (aq_load rfl (by first | exact .here | exact .there .here | exact .there (.there .here) | exact .there (.there (.there .here)) | exact .there (.there (.there (.there .here))) | exact .there (.there (.there (.there (.there .here))))) List.not_mem_nil rfl rfl (by repeat constructor)) rfl rfl rfl ?_ | refine aops_q (aq_load_el rfl rfl rfl rfl (fun _ h => absurd h List.not_mem_nil)) rfl rfl rfl ?_
          refine aops_unnil [1,4,5,7,9,10,11,34,35,36] 1 rfl rfl (by repeat (first | exact SelC.nil | apply SelC.cons rfl (Cv.agg (CvL.cons Cv.same (CvL.cons Cv.same (CvL.cons Cv.fz (CvL.cons Cv.same CvL.nil))))) | apply SelC.cons rfl Cv.same)) (by repeat (first | exact .nil | apply HeapA.box (by repeat (first | exact CvL.nil | apply CvL.cons Cv.same)) | apply HeapA.arr)) ?_; refine aops_unnil [1,4,5,7,9,10,11,34,35,36] 3 rfl rfl (by repeat (first | exact .nil | apply SelC.cons rfl (by first | exact Cv.fz | (apply Cv.agg; repeat (first | exact CvL.nil | apply CvL.cons (by first | exact Cv.fz | exact Cv.same))) | exact Cv.same))) (by repeat (first | exact .nil | apply HeapA.box (by repeat (first | exact CvL.nil | apply CvL.cons Cv.same)) | apply HeapA.arr)) ?_; refine aops_lit (e := 69) (sz := 4) (by_ := 64) rfl rfl (by repeat constructor) rfl rfl rfl rfl ?_
          first | refine aops_append (e := 69) (sz := 4) (by_ := 64) rfl (by first | exact .here | exact .there .here | exact .there (.there .here) | exact .there (.there (.there .here)) | exact .there (.there (.there (.there .here))) | exact .there (.there (.there (.there (.there .here))))) rfl rfl rfl rfl rfl (by simp only [List.length_cons, List.length_nil]; omega) (fun v38 hv38 => ?_) | refine aops_append_nil (e := 69) (sz := 4) (by_ := 64) rfl rfl rfl rfl rfl rfl (by simp only [List.length_cons, List.length_nil]; omega) (fun v38 hv38 => ?_)
          first | refine aops_p (ap_fieldAddr (off := 0) (sz := 1) (g := false) rfl rfl) rfl rfl rfl ?_ | refine aops_p (ap_fieldAddr_el (off := 0) (sz := 1) (g := false) rfl rfl (by repeat constructor)) rfl rfl rfl ?_
          first | refine aops_store rfl rfl (by first | exact .agg | exact .sl | exact .v rfl | exact .v (by assumption)) (by first | exact .here | exact .there .here | exact .there (.there .here) | exact .there (.there (.there .here)) | exact .there (.there (.there (.there .here))) | exact .there (.there (.there (.there (.there .here))))) rfl (by repeat constructor) ?_ | refine aops_store_own1 rfl rfl (by first | exact .sl | exact .v rfl | exact .v (by assumption)) (by first | exact .here | exact .there .here | exact .there (.there .here) | exact .there (.there (.there .here)) | exact .there (.there (.there (.there .here))) | exact .there (.there (.there (.there (.there .here))))) rfl (by simp only [List.length_set, List.length_map]; omega) ?_
          refine aops_nil ?_
          refine blockQ_n ?_
          refine seqQ_n ?_
          refine awp_region ?_
          refine aops_p (ap_arith rfl rfl rfl (by omega)) rfl rfl rfl ?_
          refine aops_p (ap_move rfl) rfl rfl rfl ?_
          refine aops_nil ?_
          refine seqQ_n ?_
          first
          | (rw [show D.agg [.b false, .i 0, .sl 1 [], .sl 3 []] = mv ⟨false, Trust.none⟩ from rfl, mv_snoc, ← keep_out (s := s) (k := k) (m := x) (has_inval (s := s) (by omega)), ← restrC_take hx]; refine ⟨k + 1, _, by omega, by omega, wk (by repeat (first | exact .nil | refine .cons rfl ?_)) (by repeat (first | exact .nil | refine .cons (by first | exact .here | exact .there .here | exact .there (.there .here) | exact .there (.there (.there .here)) | exact .there (.there (.there (.there .here)))) ?_))⟩)
          | (rw [show D.agg [.b false, .i 0, .sl 1 [], .sl 3 []] = mv ⟨false, Trust.none⟩ from rfl, mv_snoc, ← keep_out (s := (s : Int)) (k := k) (m := x) (has_big (of_decide_eq_true (by with_reducible assumption))), ← restrC_take hx]; refine ⟨k + 1, _, by omega, by omega, wk (by repeat (first | exact .nil | refine .cons rfl ?_)) (by repeat (first | exact .nil | refine .cons (by first | exact .here | exact .there .here | exact .there (.there .here) | exact .there (.there (.there .here)) | exact .there (.there (.there (.there .here)))) ?_))⟩)
          | (rw [show D.agg [.b false, .i 0, .sl 1 [], .sl 3 []] = mv ⟨false, Trust.none⟩ from rfl, mv_snoc, ← keep_out (s := (s : Int)) (k := k) (m := x) (by have h1 := of_decide_eq_false (show decide (10 ≤ (k : Int)) = false by with_reducible assumption); have h2 := shr_bit (m := s) (k := k) (by omega) (by omega); rw [show decide (((s / 2 ^ k &&& 1 : Nat) : Int) = 0) = true by with_reducible assumption] at h2; simpa using h2.symm), ← restrC_take hx]; refine ⟨k + 1, _, by omega, by omega, wk (by repeat (first | exact .nil | refine .cons rfl ?_)) (by repeat (first | exact .nil | refine .cons (by first | exact .here | exact .there .here | exact .there (.there .here) | exact .there (.there (.there .here)) | exact .there (.there (.there (.there .here)))) ?_))⟩)
          | (rw [show D.agg [.b x.decl, .i x.t.th, .sl 1 (x.t.nodes.map .i), .sl 3 (avs x.t.inner)] = mv x from rfl, mv_snoc, ← keep_in (s := (s : Int)) (k := k) (m := x) (by have h1 := of_decide_eq_false (show decide (10 ≤ (k : Int)) = false by with_reducible assumption); have h2 := shr_bit (m := s) (k := k) (by omega) (by omega); rw [show decide (((s / 2 ^ k &&& 1 : Nat) : Int) = 0) = false by with_reducible assumption] at h2; simpa using h2.symm), ← restrC_take hx]; refine ⟨k + 1, _, by omega, by omega, wk (by repeat (first | exact .nil | refine .cons rfl ?_)) (by repeat (first | exact .nil | refine .cons (by first | exact .here | exact .there .here | exact .there (.there .here) | exact .there (.there (.there .here)) | exact .there (.there (.there (.there .here)))) ?_))⟩)
          )
        )
    · have hge := of_decide_eq_false hc
      obtain rfl : k = c.length := by omega
      refine awp_exit ?_
      refine seqQ_x ?_
      refine seqQ_x ?_
      refine blockQ_x rfl ?_
      refine seqQ_n ?_
      refine awp_seq ?_
      refine awp_freeze v [4,5] (by first | exact .here | exact .there .here | exact .there (.there .here) | exact .there (.there (.there .here)) | exact .there (.there (.there (.there .here)))) (by repeat (first | exact .nil | apply SelC.cons rfl (by first | exact Cv.fz | (apply Cv.agg; repeat (first | exact CvL.nil | apply CvL.cons (by first | exact Cv.fz | exact Cv.same))) | exact Cv.same))) (by repeat (first | exact .nil | apply HeapA.box (by repeat (first | exact CvL.nil | apply CvL.cons (by first | exact Cv.fz | exact Cv.same))) | apply HeapA.arr)) ?_
      refine awp_region ?_
      first | refine aops_q (aq_load rfl (by first | exact .here | exact .there .here | exact .there (.there .here) | exact .there (.there (.there .here)) | exact .there (.there (.there (.there .here))) | exact .there (.there (.there (.there (.there .here))))) List.not_mem_nil rfl rfl (by repeat constructor)) rfl rfl rfl ?_ | refine aops_q (aq_load_el rfl rfl rfl rfl (fun _ h => absurd h List.not_mem_nil)) rfl rfl rfl ?_
      first | refine aops_store rfl rfl (by first | exact .agg | exact .sl | exact .v rfl | exact .v (by assumption)) (by first | exact .here | exact .there .here | exact .there (.there .here) | exact .there (.there (.there .here)) | exact .there (.there (.there (.there .here))) | exact .there (.there (.there (.there (.there .here))))) rfl (by repeat constructor) ?_ | refine aops_store_own1 rfl rfl (by first | exact .sl | exact .v rfl | exact .v (by assumption)) (by first | exact .here | exact .there .here | exact .there (.there .here) | exact .there (.there (.there .here)) | exact .there (.there (.there (.there .here))) | exact .there (.there (.there (.there (.there .here))))) rfl (by simp only [List.length_set, List.length_map]; omega) ?_
      refine aops_nil ?_
      refine seqQ_n ?_
      refine awp_ret ?_
      refine post_ret (.cell rfl (by first | exact .here | exact .there .here | exact .there (.there .here) | exact .there (.there (.there .here)) | exact .there (.there (.there (.there .here))) | exact .there (.there (.there (.there (.there .here))))) rfl rfl .nil) (by repeat (first | exact .nil | refine .cons (by first | exact .here | exact .there .here | exact .there (.there .here) | exact .there (.there (.there .here)) | exact .there (.there (.there (.there .here)))) ?_)) ⟨?_, rfl⟩
      rw [List.take_of_length_le (by rw [restrC_len]; omega)]; rfl

theorem restrict_con (c : List Mem) (s : Int) (hl : c.length ≤ 1000) : Con Try.prog 49 [cv c, .i s] [] (Is (cv (restrC c s)) []) := by
  by_cases h : 0 ≤ s ∧ s < 1024
  · obtain ⟨m, rfl⟩ := Int.eq_ofNat_of_zero_le h.1
    exact restrictN_con c m (by omega) hl
  · exact restrict0_con c s h hl
theorem restr_qq {c : List Mem} {x y : Nat} (hx : x < 1024) (hy : y < 1024) {a b : Bool} (h1 : quorumC (restrC c x) y = a) (h2 : quorumC c y = b) : a = (b && decide (((x &&& y : Nat) : Int) = y)) := by
  rw [← h1, ← h2]; exact restr_quorum c hx hy
theorem crestricts_con (l : List Int) : Con Try.prog 9 [.sl 1 (l.map .i)] [] (Is (.b true) []) := by
  have hcap : capB = 140737488355328 := rfl
  refine con_intro Try.func9 rfl Try.call9 rfl ?_
  refine awp_seq ?_
  refine awp_region ?_
  refine aops_p (ap_assign rfl) rfl rfl rfl ?_
  refine aops_nil ?_
  refine seqQ_n ?_
  refine awp_seq ?_
  refine awp_region ?_
  refine aops_p (ap_move rfl) rfl rfl rfl ?_
  (refine aops_call (by repeat constructor) (New_con l) (by repeat (first | exact .nil | exact Split.none _ | apply Split.left | apply Split.right)) rfl rfl ?_; rintro _ _ ⟨b9, rfl, rfl⟩)
  refine aops_p (ap_assign rfl) rfl rfl rfl ?_
  refine aops_nil ?_
  refine seqQ_n ?_
  refine awp_seq ?_
  refine awp_region ?_
  refine aops_p (ap_move rfl) rfl rfl rfl ?_
  (refine aops_call (by repeat constructor) (Config8_con _ _ _) (by repeat (first | exact .nil | exact Split.none _ | apply Split.left | apply Split.right)) rfl rfl ?_; rintro _ _ ⟨c, a11, rfl, ⟨hc0, hcl⟩, rfl⟩; have hpw := pow_len hcl (by omega); have hml : (c.map mv).length = c.length := (by simp))
  refine aops_alloc rfl (by repeat constructor) rfl rfl (fun b4 => ?_)
  first | refine aops_store rfl rfl (by first | exact .agg | exact .sl | exact .v rfl | exact .v (by assumption)) (by first | exact .here | exact .there .here | exact .there (.there .here) | exact .there (.there (.there .here)) | exact .there (.there (.there (.there .here))) | exact .there (.there (.there (.there (.there .here))))) rfl (by repeat constructor) ?_ | refine aops_store_own1 rfl rfl (by first | exact .sl | exact .v rfl | exact .v (by assumption)) (by first | exact .here | exact .there .here | exact .there (.there .here) | exact .there (.there (.there .here)) | exact .there (.there (.there (.there .here))) | exact .there (.there (.there (.there (.there .here))))) rfl (by simp only [List.length_set, List.length_map]; omega) ?_
  refine aops_nil ?_
  refine seqQ_n ?_
  refine awp_seq ?_
  refine awp_region ?_
  refine aops_p (ap_move rfl) rfl rfl rfl ?_
  (refine aops_call (by repeat constructor) (N_con _ _ _ _ (by omega)) (by repeat (first | exact .nil | exact Split.none _ | apply Split.left | apply Split.right)) rfl rfl ?_; rintro _ _ ⟨r13, a13, rfl, hr13, rfl⟩; obtain ⟨x13, rfl⟩ := Int.eq_ofNat_of_zero_le hr13.1)
  refine aops_p (ap_move rfl) rfl rfl rfl ?_
  (refine aops_call (by repeat constructor) (N_con _ _ _ _ (by omega)) (by repeat (first | exact .nil | exact Split.none _ | apply Split.left | apply Split.right)) rfl rfl ?_; rintro _ _ ⟨r15, a15, rfl, hr15, rfl⟩; obtain ⟨x15, rfl⟩ := Int.eq_ofNat_of_zero_le hr15.1)
  refine aops_p (ap_assign rfl) rfl rfl rfl ?_
  refine aops_p (ap_assign rfl) rfl rfl rfl ?_
  refine aops_nil ?_
  refine seqQ_n ?_
  refine awp_seq ?_
  refine awp_region ?_
  first | refine aops_q (aq_load rfl (by first | exact .here | exact .there .here | exact .there (.there .here) | exact .there (.there (.there .here)) | exact .there (.there (.there (.there .here))) | exact .there (.there (.there (.there (.there .here))))) List.not_mem_nil rfl rfl (by repeat constructor)) rfl rfl rfl ?_ | refine aops_q (aq_load_el rfl rfl rfl rfl (fun _ h => absurd h List.not_mem_nil)) rfl rfl rfl ?_
  refine aops_p (ap_move rfl) rfl rfl rfl ?_
  refine aops_call_v (by repeat constructor) (restrict_con c _ (by omega)) rfl rfl ?_
  refine aops_alloc rfl (by repeat constructor) rfl rfl (fun b7 => ?_)
  first | refine aops_store rfl rfl (by first | exact .agg | exact .sl | exact .v rfl | exact .v (by assumption)) (by first | exact .here | exact .there .here | exact .there (.there .here) | exact .there (.there (.there .here)) | exact .there (.there (.there (.there .here))) | exact .there (.there (.there (.there (.there .here))))) rfl (by repeat constructor) ?_ | refine aops_store_own1 rfl rfl (by first | exact .sl | exact .v rfl | exact .v (by assumption)) (by first | exact .here | exact .there .here | exact .there (.there .here) | exact .there (.there (.there .here)) | exact .there (.there (.there (.there .here))) | exact .there (.there (.there (.there (.there .here))))) rfl (by simp only [List.length_set, List.length_map]; omega) ?_
  refine aops_nil ?_
  refine seqQ_n ?_
  refine awp_seq ?_
  refine awp_draw (Hm := []) (by kernel_rfl) (by repeat (first | exact .nil | exact Split.none _ | apply Split.left | apply Split.right)) ?_
  first | refine aany_take 0 rfl (.none rfl) (by kernel_rfl) (by kernel_rfl) (by kernel_rfl) (ar_load rfl (by first | exact .here | exact .there .here | exact .there (.there .here) | exact .there (.there (.there .here)) | exact .there (.there (.there (.there .here))) | exact .there (.there (.there (.there (.there .here))))) rfl rfl (by repeat constructor)) rfl rfl ?_ | refine aany_take 0 rfl (.none rfl) (by kernel_rfl) (by kernel_rfl) (by kernel_rfl) (AQ.ar (aq_load_el rfl rfl rfl rfl (fun _ h => h))) rfl rfl ?_
  refine aany_take 1 rfl (.none rfl) (by kernel_rfl) (by kernel_rfl) (by kernel_rfl) (AP.ar (ap_move rfl)) rfl rfl ?_
  first | refine aany_take 3 rfl (.none rfl) (by kernel_rfl) (by kernel_rfl) (by kernel_rfl) (ar_load rfl (by first | exact .here | exact .there .here | exact .there (.there .here) | exact .there (.there (.there .here)) | exact .there (.there (.there (.there .here))) | exact .there (.there (.there (.there (.there .here))))) rfl rfl (by repeat constructor)) rfl rfl ?_ | refine aany_take 3 rfl (.none rfl) (by kernel_rfl) (by kernel_rfl) (by kernel_rfl) (AQ.ar (aq_load_el rfl rfl rfl rfl (fun _ h => h))) rfl rfl ?_
  refine aany_take 4 rfl (.none rfl) (by kernel_rfl) (by kernel_rfl) (by kernel_rfl) (AP.ar (ap_move rfl)) rfl rfl ?_
  refine aany_take 5 rfl (.none rfl) (by kernel_rfl) (by kernel_rfl) (by kernel_rfl) (AP.ar (ap_move rfl)) rfl rfl ?_
  refine aany_take 6 rfl (.none rfl) (by kernel_rfl) (by kernel_rfl) (by kernel_rfl) (AP.ar (ap_bits rfl rfl rfl (by omega) (by omega))) rfl rfl ?_
  refine aany_one 2 (by kernel_rfl) rfl (.none rfl) ?_
  refine aops_call_v (by repeat constructor) (great_con (restrC c x13) _) rfl rfl ?_
  refine aops_nil ?_
  refine aany_one 7 (by kernel_rfl) rfl (.none rfl) ?_
  refine aops_call_v (by repeat constructor) (great_con c _) rfl rfl ?_
  refine aops_nil ?_
  refine aany_take 8 rfl (.none rfl) (by kernel_rfl) (by kernel_rfl) (by kernel_rfl) (AP.ar (ap_cmp rfl rfl rfl)) rfl rfl ?_
  refine aany_take 9 rfl (.none rfl) (by kernel_rfl) (by kernel_rfl) (by kernel_rfl) (AP.ar (ap_move rfl)) rfl rfl ?_
  refine aany_guard 9 rfl (fun hg => ?_) (fun hg => ?_)
  rotate_left
  case' _ =>
    first
    | (exact absurd hg (by decide))
    | (refine aany_skip 10 rfl (.no rfl rfl (by first | (show _ = false; with_reducible assumption) | exact (by first | with_reducible assumption | with_reducible exact rfl | decide | (refine decide_eq_true ?_; omega) | (refine decide_eq_false ?_; omega)))) (by kernel_rfl) (by kernel_rfl) (by kernel_rfl) rfl rfl ?_
       refine aany_skip 11 rfl (.no rfl rfl (by first | (show _ = false; with_reducible assumption) | exact (by first | with_reducible assumption | with_reducible exact rfl | decide | (refine decide_eq_true ?_; omega) | (refine decide_eq_false ?_; omega)))) (by kernel_rfl) (by kernel_rfl) (by kernel_rfl) rfl rfl ?_
       refine aany_skip 12 rfl (.no rfl rfl (by first | (show _ = false; with_reducible assumption) | exact (by first | with_reducible assumption | with_reducible exact rfl | decide | (refine decide_eq_true ?_; omega) | (refine decide_eq_false ?_; omega)))) (by kernel_rfl) (by kernel_rfl) (by kernel_rfl) rfl rfl ?_
       refine aany_skip 13 rfl (.no rfl rfl (by first | (show _ = false; with_reducible assumption) | exact (by first | with_reducible assumption | with_reducible exact rfl | decide | (refine decide_eq_true ?_; omega) | (refine decide_eq_false ?_; omega)))) (by kernel_rfl) (by kernel_rfl) (by kernel_rfl) rfl rfl ?_
       refine aany_skip 14 rfl (.no rfl rfl (by first | (show _ = false; with_reducible assumption) | exact (by first | with_reducible assumption | with_reducible exact rfl | decide | (refine decide_eq_true ?_; omega) | (refine decide_eq_false ?_; omega)))) (by kernel_rfl) (by kernel_rfl) (by kernel_rfl) rfl rfl ?_
       refine aany_skip 15 rfl (.no rfl rfl (by first | (show _ = false; with_reducible assumption) | exact (by first | with_reducible assumption | with_reducible exact rfl | decide | (refine decide_eq_true ?_; omega) | (refine decide_eq_false ?_; omega)))) (by kernel_rfl) (by kernel_rfl) (by kernel_rfl) rfl rfl ?_
       refine aany_skipu 16 rfl (.no rfl rfl (by first | (show _ = false; with_reducible assumption) | exact (by first | with_reducible assumption | with_reducible exact rfl | decide | (refine decide_eq_true ?_; omega) | (refine decide_eq_false ?_; omega)))) (by kernel_rfl) (by kernel_rfl) (by kernel_rfl) rfl rfl ?_
       refine aany_skip 17 rfl (.nou rfl rfl) (by kernel_rfl) (by kernel_rfl) (by kernel_rfl) rfl rfl ?_
       refine aany_skip 18 rfl (.nou rfl rfl) (by kernel_rfl) (by kernel_rfl) (by kernel_rfl) rfl rfl ?_
       refine aany_skip 19 rfl (.nou rfl rfl) (by kernel_rfl) (by kernel_rfl) (by kernel_rfl) rfl rfl ?_
       refine aany_skip 20 rfl (.nou rfl rfl) (by kernel_rfl) (by kernel_rfl) (by kernel_rfl) rfl rfl ?_
       refine aany_skip 21 rfl (.nou rfl rfl) (by kernel_rfl) (by kernel_rfl) (by kernel_rfl) rfl rfl ?_
       refine aany_skip 22 rfl (.no rfl rfl (by first | (show _ = false; with_reducible assumption) | exact (by first | with_reducible assumption | with_reducible exact rfl | decide | (refine decide_eq_true ?_; omega) | (refine decide_eq_false ?_; omega)))) (by kernel_rfl) (by kernel_rfl) (by kernel_rfl) rfl rfl ?_
       refine aany_skip 23 rfl (.no rfl rfl (by first | (show _ = false; with_reducible assumption) | exact (by first | with_reducible assumption | with_reducible exact rfl | decide | (refine decide_eq_true ?_; omega) | (refine decide_eq_false ?_; omega)))) (by kernel_rfl) (by kernel_rfl) (by kernel_rfl) rfl rfl ?_
       first | refine aany_take 24 rfl (.none rfl) (by kernel_rfl) (by kernel_rfl) (by kernel_rfl) (AP.ar (ap_pick_true rfl (by first | with_reducible assumption | with_reducible exact rfl | decide | (refine decide_eq_true ?_; omega) | (refine decide_eq_false ?_; omega)) rfl)) rfl rfl ?_ | refine aany_take 24 rfl (.none rfl) (by kernel_rfl) (by kernel_rfl) (by kernel_rfl) (AP.ar (ap_pick_false rfl (by first | with_reducible assumption | with_reducible exact rfl | decide | (refine decide_eq_true ?_; omega) | (refine decide_eq_false ?_; omega)) rfl)) rfl rfl ?_
       refine aany_take 25 rfl (.none rfl) (by kernel_rfl) (by kernel_rfl) (by kernel_rfl) (AP.ar (ap_move rfl)) rfl rfl ?_
       refine aany_guard 25 rfl (fun hg => ?_) (fun hg => ?_)
       rotate_left
       case' _ =>
         first
         | (exact absurd hg (by decide))
         | (refine aany_skip 26 rfl (.no rfl rfl (by first | (show _ = false; with_reducible assumption) | exact (by first | with_reducible assumption | with_reducible exact rfl | decide | (refine decide_eq_true ?_; omega) | (refine decide_eq_false ?_; omega)))) (by kernel_rfl) (by kernel_rfl) (by kernel_rfl) rfl rfl ?_
            first | refine aany_take 27 rfl (.none rfl) (by kernel_rfl) (by kernel_rfl) (by kernel_rfl) (AP.ar (ap_pick_true rfl (by first | with_reducible assumption | with_reducible exact rfl | decide | (refine decide_eq_true ?_; omega) | (refine decide_eq_false ?_; omega)) rfl)) rfl rfl ?_ | refine aany_take 27 rfl (.none rfl) (by kernel_rfl) (by kernel_rfl) (by kernel_rfl) (AP.ar (ap_pick_false rfl (by first | with_reducible assumption | with_reducible exact rfl | decide | (refine decide_eq_true ?_; omega) | (refine decide_eq_false ?_; omega)) rfl)) rfl rfl ?_
            refine aany_take 28 rfl (.none rfl) (by kernel_rfl) (by kernel_rfl) (by kernel_rfl) (AP.ar (ap_assign rfl)) rfl rfl ?_
            refine aany_nil (by kernel_rfl) ?_
           )
       rotate_right
       case' _ =>
         first
         | (exact absurd hg (by decide))
         | (refine aany_one 26 (by kernel_rfl) rfl (.yes rfl rfl (by first | with_reducible assumption | with_reducible exact rfl | decide | (refine decide_eq_true ?_; omega) | (refine decide_eq_false ?_; omega))) ?_
            refine aops_call_v (by repeat constructor) (awake09_con) rfl rfl ?_
            refine aops_nil ?_
            first | refine aany_take 27 rfl (.none rfl) (by kernel_rfl) (by kernel_rfl) (by kernel_rfl) (AP.ar (ap_pick_true rfl (by first | with_reducible assumption | with_reducible exact rfl | decide | (refine decide_eq_true ?_; omega) | (refine decide_eq_false ?_; omega)) rfl)) rfl rfl ?_ | refine aany_take 27 rfl (.none rfl) (by kernel_rfl) (by kernel_rfl) (by kernel_rfl) (AP.ar (ap_pick_false rfl (by first | with_reducible assumption | with_reducible exact rfl | decide | (refine decide_eq_true ?_; omega) | (refine decide_eq_false ?_; omega)) rfl)) rfl rfl ?_
            refine aany_take 28 rfl (.none rfl) (by kernel_rfl) (by kernel_rfl) (by kernel_rfl) (AP.ar (ap_assign rfl)) rfl rfl ?_
            refine aany_nil (by kernel_rfl) ?_
           )
      )
  rotate_right
  case' _ =>
    first
    | (exact absurd hg (by decide))
    | (first | refine aany_take 10 rfl (.yes rfl rfl (by first | with_reducible assumption | with_reducible exact rfl | decide | (refine decide_eq_true ?_; omega) | (refine decide_eq_false ?_; omega))) (by kernel_rfl) (by kernel_rfl) (by kernel_rfl) (ar_load rfl (by first | exact .here | exact .there .here | exact .there (.there .here) | exact .there (.there (.there .here)) | exact .there (.there (.there (.there .here))) | exact .there (.there (.there (.there (.there .here))))) rfl rfl (by repeat constructor)) rfl rfl ?_ | refine aany_take 10 rfl (.yes rfl rfl (by first | with_reducible assumption | with_reducible exact rfl | decide | (refine decide_eq_true ?_; omega) | (refine decide_eq_false ?_; omega))) (by kernel_rfl) (by kernel_rfl) (by kernel_rfl) (AQ.ar (aq_load_el rfl rfl rfl rfl (fun _ h => h))) rfl rfl ?_
       refine aany_take 11 rfl (.yes rfl rfl (by first | with_reducible assumption | with_reducible exact rfl | decide | (refine decide_eq_true ?_; omega) | (refine decide_eq_false ?_; omega))) (by kernel_rfl) (by kernel_rfl) (by kernel_rfl) (AP.ar (ap_move rfl)) rfl rfl ?_
       first | refine aany_take 13 rfl (.yes rfl rfl (by first | with_reducible assumption | with_reducible exact rfl | decide | (refine decide_eq_true ?_; omega) | (refine decide_eq_false ?_; omega))) (by kernel_rfl) (by kernel_rfl) (by kernel_rfl) (ar_load rfl (by first | exact .here | exact .there .here | exact .there (.there .here) | exact .there (.there (.there .here)) | exact .there (.there (.there (.there .here))) | exact .there (.there (.there (.there (.there .here))))) rfl rfl (by repeat constructor)) rfl rfl ?_ | refine aany_take 13 rfl (.yes rfl rfl (by first | with_reducible assumption | with_reducible exact rfl | decide | (refine decide_eq_true ?_; omega) | (refine decide_eq_false ?_; omega))) (by kernel_rfl) (by kernel_rfl) (by kernel_rfl) (AQ.ar (aq_load_el rfl rfl rfl rfl (fun _ h => h))) rfl rfl ?_
       refine aany_take 14 rfl (.yes rfl rfl (by first | with_reducible assumption | with_reducible exact rfl | decide | (refine decide_eq_true ?_; omega) | (refine decide_eq_false ?_; omega))) (by kernel_rfl) (by kernel_rfl) (by kernel_rfl) (AP.ar (ap_move rfl)) rfl rfl ?_
       refine aany_one 12 (by kernel_rfl) rfl (.yes rfl rfl (by first | with_reducible assumption | with_reducible exact rfl | decide | (refine decide_eq_true ?_; omega) | (refine decide_eq_false ?_; omega))) ?_
       refine aops_call_b (by repeat constructor) (quorum_con (restrC c x13) x15 (by omega)) rfl rfl (fun c31 hc31 => ?_)
       refine aops_nil ?_
       refine aany_one 15 (by kernel_rfl) rfl (.yes rfl rfl (by first | with_reducible assumption | with_reducible exact rfl | decide | (refine decide_eq_true ?_; omega) | (refine decide_eq_false ?_; omega))) ?_
       refine aops_call_b (by repeat constructor) (quorum_con c x15 (by omega)) rfl rfl (fun c34 hc34 => ?_)
       refine aops_nil ?_
       refine aany_take 16 rfl (.yes rfl rfl (by first | with_reducible assumption | with_reducible exact rfl | decide | (refine decide_eq_true ?_; omega) | (refine decide_eq_false ?_; omega))) (by kernel_rfl) (by kernel_rfl) (by kernel_rfl) (AP.ar (ap_move rfl)) rfl rfl ?_
       refine aany_guard 16 rfl (fun hg => ?_) (fun hg => ?_)
       rotate_left
       case' _ =>
         first
         | (exact absurd hg (by decide))
         | (refine aany_skip 17 rfl (.no rfl rfl (by first | (show _ = false; with_reducible assumption) | exact (by first | with_reducible assumption | with_reducible exact rfl | decide | (refine decide_eq_true ?_; omega) | (refine decide_eq_false ?_; omega)))) (by kernel_rfl) (by kernel_rfl) (by kernel_rfl) rfl rfl ?_
            refine aany_skip 18 rfl (.no rfl rfl (by first | (show _ = false; with_reducible assumption) | exact (by first | with_reducible assumption | with_reducible exact rfl | decide | (refine decide_eq_true ?_; omega) | (refine decide_eq_false ?_; omega)))) (by kernel_rfl) (by kernel_rfl) (by kernel_rfl) rfl rfl ?_
            refine aany_skip 19 rfl (.no rfl rfl (by first | (show _ = false; with_reducible assumption) | exact (by first | with_reducible assumption | with_reducible exact rfl | decide | (refine decide_eq_true ?_; omega) | (refine decide_eq_false ?_; omega)))) (by kernel_rfl) (by kernel_rfl) (by kernel_rfl) rfl rfl ?_
            refine aany_skip 20 rfl (.no rfl rfl (by first | (show _ = false; with_reducible assumption) | exact (by first | with_reducible assumption | with_reducible exact rfl | decide | (refine decide_eq_true ?_; omega) | (refine decide_eq_false ?_; omega)))) (by kernel_rfl) (by kernel_rfl) (by kernel_rfl) rfl rfl ?_
            refine aany_skip 21 rfl (.no rfl rfl (by first | (show _ = false; with_reducible assumption) | exact (by first | with_reducible assumption | with_reducible exact rfl | decide | (refine decide_eq_true ?_; omega) | (refine decide_eq_false ?_; omega)))) (by kernel_rfl) (by kernel_rfl) (by kernel_rfl) rfl rfl ?_
            first | refine aany_take 22 rfl (.yes rfl rfl (by first | with_reducible assumption | with_reducible exact rfl | decide | (refine decide_eq_true ?_; omega) | (refine decide_eq_false ?_; omega))) (by kernel_rfl) (by kernel_rfl) (by kernel_rfl) (AP.ar (ap_pick_true rfl (by first | with_reducible assumption | with_reducible exact rfl | decide | (refine decide_eq_true ?_; omega) | (refine decide_eq_false ?_; omega)) rfl)) rfl rfl ?_ | refine aany_take 22 rfl (.yes rfl rfl (by first | with_reducible assumption | with_reducible exact rfl | decide | (refine decide_eq_true ?_; omega) | (refine decide_eq_false ?_; omega))) (by kernel_rfl) (by kernel_rfl) (by kernel_rfl) (AP.ar (ap_pick_false rfl (by first | with_reducible assumption | with_reducible exact rfl | decide | (refine decide_eq_true ?_; omega) | (refine decide_eq_false ?_; omega)) rfl)) rfl rfl ?_
            refine aany_take 23 rfl (.yes rfl rfl (by first | with_reducible assumption | with_reducible exact rfl | decide | (refine decide_eq_true ?_; omega) | (refine decide_eq_false ?_; omega))) (by kernel_rfl) (by kernel_rfl) (by kernel_rfl) (AP.ar (ap_eqb rfl rfl rfl)) rfl rfl ?_
            first | refine aany_take 24 rfl (.none rfl) (by kernel_rfl) (by kernel_rfl) (by kernel_rfl) (AP.ar (ap_pick_true rfl (by first | with_reducible assumption | with_reducible exact rfl | decide | (refine decide_eq_true ?_; omega) | (refine decide_eq_false ?_; omega)) rfl)) rfl rfl ?_ | refine aany_take 24 rfl (.none rfl) (by kernel_rfl) (by kernel_rfl) (by kernel_rfl) (AP.ar (ap_pick_false rfl (by first | with_reducible assumption | with_reducible exact rfl | decide | (refine decide_eq_true ?_; omega) | (refine decide_eq_false ?_; omega)) rfl)) rfl rfl ?_
            refine aany_take 25 rfl (.none rfl) (by kernel_rfl) (by kernel_rfl) (by kernel_rfl) (AP.ar (ap_move rfl)) rfl rfl ?_
            refine aany_guard 25 rfl (fun hg => ?_) (fun hg => ?_)
            rotate_left
            case' _ =>
              first
              | (exact absurd hg (by decide))
              | (refine aany_skip 26 rfl (.no rfl rfl (by first | (show _ = false; with_reducible assumption) | exact (by first | with_reducible assumption | with_reducible exact rfl | decide | (refine decide_eq_true ?_; omega) | (refine decide_eq_false ?_; omega)))) (by kernel_rfl) (by kernel_rfl) (by kernel_rfl) rfl rfl ?_
                 first | refine aany_take 27 rfl (.none rfl) (by kernel_rfl) (by kernel_rfl) (by kernel_rfl) (AP.ar (ap_pick_true rfl (by first | with_reducible assumption | with_reducible exact rfl | decide | (refine decide_eq_true ?_; omega) | (refine decide_eq_false ?_; omega)) rfl)) rfl rfl ?_ | refine aany_take 27 rfl (.none rfl) (by kernel_rfl) (by kernel_rfl) (by kernel_rfl) (AP.ar (ap_pick_false rfl (by first | with_reducible assumption | with_reducible exact rfl | decide | (refine decide_eq_true ?_; omega) | (refine decide_eq_false ?_; omega)) rfl)) rfl rfl ?_
                 refine aany_take 28 rfl (.none rfl) (by kernel_rfl) (by kernel_rfl) (by kernel_rfl) (AP.ar (ap_assign rfl)) rfl rfl ?_
                 refine aany_nil (by kernel_rfl) ?_
                )
            rotate_right
            case' _ =>
              first
              | (exact absurd hg (by decide))
              | (refine aany_one 26 (by kernel_rfl) rfl (.yes rfl rfl (by first | with_reducible assumption | with_reducible exact rfl | decide | (refine decide_eq_true ?_; omega) | (refine decide_eq_false ?_; omega))) ?_
                 refine aops_call_v (by repeat constructor) (awake09_con) rfl rfl ?_
                 refine aops_nil ?_
                 first | refine aany_take 27 rfl (.none rfl) (by kernel_rfl) (by kernel_rfl) (by kernel_rfl) (AP.ar (ap_pick_true rfl (by first | with_reducible assumption | with_reducible exact rfl | decide | (refine decide_eq_true ?_; omega) | (refine decide_eq_false ?_; omega)) rfl)) rfl rfl ?_ | refine aany_take 27 rfl (.none rfl) (by kernel_rfl) (by kernel_rfl) (by kernel_rfl) (AP.ar (ap_pick_false rfl (by first | with_reducible assumption | with_reducible exact rfl | decide | (refine decide_eq_true ?_; omega) | (refine decide_eq_false ?_; omega)) rfl)) rfl rfl ?_
                 refine aany_take 28 rfl (.none rfl) (by kernel_rfl) (by kernel_rfl) (by kernel_rfl) (AP.ar (ap_assign rfl)) rfl rfl ?_
                 refine aany_nil (by kernel_rfl) ?_
                )
           )
       rotate_right
       case' _ =>
         first
         | (exact absurd hg (by decide))
         | (refine aany_take 17 rfl (.yes rfl rfl (by first | with_reducible assumption | with_reducible exact rfl | decide | (refine decide_eq_true ?_; omega) | (refine decide_eq_false ?_; omega))) (by kernel_rfl) (by kernel_rfl) (by kernel_rfl) (AP.ar (ap_move rfl)) rfl rfl ?_
            refine aany_take 18 rfl (.yes rfl rfl (by first | with_reducible assumption | with_reducible exact rfl | decide | (refine decide_eq_true ?_; omega) | (refine decide_eq_false ?_; omega))) (by kernel_rfl) (by kernel_rfl) (by kernel_rfl) (AP.ar (ap_move rfl)) rfl rfl ?_
            refine aany_take 19 rfl (.yes rfl rfl (by first | with_reducible assumption | with_reducible exact rfl | decide | (refine decide_eq_true ?_; omega) | (refine decide_eq_false ?_; omega))) (by kernel_rfl) (by kernel_rfl) (by kernel_rfl) (AP.ar (ap_bits rfl rfl rfl (by omega) (by omega))) rfl rfl ?_
            refine aany_take 20 rfl (.yes rfl rfl (by first | with_reducible assumption | with_reducible exact rfl | decide | (refine decide_eq_true ?_; omega) | (refine decide_eq_false ?_; omega))) (by kernel_rfl) (by kernel_rfl) (by kernel_rfl) (AP.ar (ap_move rfl)) rfl rfl ?_
            refine aany_take 21 rfl (.yes rfl rfl (by first | with_reducible assumption | with_reducible exact rfl | decide | (refine decide_eq_true ?_; omega) | (refine decide_eq_false ?_; omega))) (by kernel_rfl) (by kernel_rfl) (by kernel_rfl) (AP.ar (ap_cmp rfl rfl rfl)) rfl rfl ?_
            first | refine aany_take 22 rfl (.yes rfl rfl (by first | with_reducible assumption | with_reducible exact rfl | decide | (refine decide_eq_true ?_; omega) | (refine decide_eq_false ?_; omega))) (by kernel_rfl) (by kernel_rfl) (by kernel_rfl) (AP.ar (ap_pick_true rfl (by first | with_reducible assumption | with_reducible exact rfl | decide | (refine decide_eq_true ?_; omega) | (refine decide_eq_false ?_; omega)) rfl)) rfl rfl ?_ | refine aany_take 22 rfl (.yes rfl rfl (by first | with_reducible assumption | with_reducible exact rfl | decide | (refine decide_eq_true ?_; omega) | (refine decide_eq_false ?_; omega))) (by kernel_rfl) (by kernel_rfl) (by kernel_rfl) (AP.ar (ap_pick_false rfl (by first | with_reducible assumption | with_reducible exact rfl | decide | (refine decide_eq_true ?_; omega) | (refine decide_eq_false ?_; omega)) rfl)) rfl rfl ?_
            refine aany_take 23 rfl (.yes rfl rfl (by first | with_reducible assumption | with_reducible exact rfl | decide | (refine decide_eq_true ?_; omega) | (refine decide_eq_false ?_; omega))) (by kernel_rfl) (by kernel_rfl) (by kernel_rfl) (AP.ar (ap_eqb rfl rfl rfl)) rfl rfl ?_
            first | refine aany_take 24 rfl (.none rfl) (by kernel_rfl) (by kernel_rfl) (by kernel_rfl) (AP.ar (ap_pick_true rfl (by first | with_reducible assumption | with_reducible exact rfl | decide | (refine decide_eq_true ?_; omega) | (refine decide_eq_false ?_; omega)) rfl)) rfl rfl ?_ | refine aany_take 24 rfl (.none rfl) (by kernel_rfl) (by kernel_rfl) (by kernel_rfl) (AP.ar (ap_pick_false rfl (by first | with_reducible assumption | with_reducible exact rfl | decide | (refine decide_eq_true ?_; omega) | (refine decide_eq_false ?_; omega)) rfl)) rfl rfl ?_
            refine aany_take 25 rfl (.none rfl) (by kernel_rfl) (by kernel_rfl) (by kernel_rfl) (AP.ar (ap_move rfl)) rfl rfl ?_
            refine aany_guard 25 rfl (fun hg => ?_) (fun hg => ?_)
            rotate_left
            case' _ =>
              first
              | (exact absurd hg (by decide))
              | (refine aany_skip 26 rfl (.no rfl rfl (by first | (show _ = false; with_reducible assumption) | exact (by first | with_reducible assumption | with_reducible exact rfl | decide | (refine decide_eq_true ?_; omega) | (refine decide_eq_false ?_; omega)))) (by kernel_rfl) (by kernel_rfl) (by kernel_rfl) rfl rfl ?_
                 first | refine aany_take 27 rfl (.none rfl) (by kernel_rfl) (by kernel_rfl) (by kernel_rfl) (AP.ar (ap_pick_true rfl (by first | with_reducible assumption | with_reducible exact rfl | decide | (refine decide_eq_true ?_; omega) | (refine decide_eq_false ?_; omega)) rfl)) rfl rfl ?_ | refine aany_take 27 rfl (.none rfl) (by kernel_rfl) (by kernel_rfl) (by kernel_rfl) (AP.ar (ap_pick_false rfl (by first | with_reducible assumption | with_reducible exact rfl | decide | (refine decide_eq_true ?_; omega) | (refine decide_eq_false ?_; omega)) rfl)) rfl rfl ?_
                 refine aany_take 28 rfl (.none rfl) (by kernel_rfl) (by kernel_rfl) (by kernel_rfl) (AP.ar (ap_assign rfl)) rfl rfl ?_
                 refine aany_nil (by kernel_rfl) ?_
                )
            rotate_right
            case' _ =>
              first
              | (exact absurd hg (by decide))
              | (refine aany_one 26 (by kernel_rfl) rfl (.yes rfl rfl (by first | with_reducible assumption | with_reducible exact rfl | decide | (refine decide_eq_true ?_; omega) | (refine decide_eq_false ?_; omega))) ?_
                 refine aops_call_v (by repeat constructor) (awake09_con) rfl rfl ?_
                 refine aops_nil ?_
                 first | refine aany_take 27 rfl (.none rfl) (by kernel_rfl) (by kernel_rfl) (by kernel_rfl) (AP.ar (ap_pick_true rfl (by first | with_reducible assumption | with_reducible exact rfl | decide | (refine decide_eq_true ?_; omega) | (refine decide_eq_false ?_; omega)) rfl)) rfl rfl ?_ | refine aany_take 27 rfl (.none rfl) (by kernel_rfl) (by kernel_rfl) (by kernel_rfl) (AP.ar (ap_pick_false rfl (by first | with_reducible assumption | with_reducible exact rfl | decide | (refine decide_eq_true ?_; omega) | (refine decide_eq_false ?_; omega)) rfl)) rfl rfl ?_
                 refine aany_take 28 rfl (.none rfl) (by kernel_rfl) (by kernel_rfl) (by kernel_rfl) (AP.ar (ap_assign rfl)) rfl rfl ?_
                 refine aany_nil (by kernel_rfl) ?_
                )
           )
      )
  all_goals (
    refine seqQ_n ?_
    refine awp_ret ?_
    first
    | (refine post_is (.tmp rfl .nil) (by repeat (first | exact .nil | refine .cons (by first | exact .here | exact .there .here | exact .there (.there .here) | exact .there (.there (.there .here)) | exact .there (.there (.there (.there .here)))) ?_)) rfl)
    | exact absurd (ncast (restr_great c (x := x13) (y := x15) (by omega) (by omega))) (of_decide_eq_false (by with_reducible assumption))
    | (exfalso; have h := restr_qq (c := c) (x := x13) (y := x15) (by omega) (by omega) (by with_reducible assumption) (by with_reducible assumption); simp_all; done)
    | (trace_state; sorry)
    )

end Go.Proofs.Yteogidjgmeemlaa
