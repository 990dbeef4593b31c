/- The walks of: awake09_con, check_con, elimination_con, inside_con, ints_con, quorum_con, three_con. Each says what one function of the program answers, for the arguments that its statement names. -/
import Derived.Test.YteogidjgmeemlaaCK
import Derived.Test.YteogidjgmeemlaaTq
import Derived.Test.YteogidjgmeemlaaProg
import Derived.KernelRfl
set_option linter.unusedVariables false
set_option linter.unusedSimpArgs false
set_option linter.unnecessarySimpa false
set_option maxRecDepth 4000
namespace Go.Proofs.Yteogidjgmeemlaa
open Go Go.Av Go.Tq

theorem of_neq_true {a b : Int} (h : (!decide (a = b)) = true) : ¬ a = b := by simpa using h
theorem of_neq_false {a b : Int} (h : (!decide (a = b)) = false) : a = b := by simpa using h
theorem validn {s : Nat} (h : s < 1024) : Con Try.prog 85 [.i s] [] (Is (.b true) []) := by rw [← valid_n h]; exact valid_con s
theorem inside_con (c : List Mem) (s : Nat) (hs : s < 1024) : Con Try.prog 91 [cv c, .i s] [] (Is (.b (insideC c s)) []) := by
  have hcap : capB = 140737488355328 := rfl
  have hdl := declC_lt c
  refine con_intro Try.func91 rfl Try.call91 rfl ?_
  refine awp_seq ?_
  refine awp_region ?_
  refine aops_box rfl (by first | exact .agg | exact .sl | exact .v rfl | exact .v (by assumption)) rfl rfl (fun b2 => ?_)
  refine aops_p (ap_assign rfl) rfl rfl rfl ?_
  refine aops_nil ?_
  refine seqQ_n ?_
  refine awp_seq ?_
  refine awp_region ?_
  refine aops_p (ap_move rfl) rfl rfl rfl ?_
  first | refine aops_q (aq_load rfl (by first | exact .here | exact .there .here | exact .there (.there .here) | exact .there (.there (.there .here)) | exact .there (.there (.there (.there .here))) | exact .there (.there (.there (.there (.there .here))))) List.not_mem_nil rfl rfl (by repeat constructor)) rfl rfl rfl ?_ | refine aops_q (aq_load_el rfl rfl rfl rfl (fun _ h => absurd h List.not_mem_nil)) rfl rfl rfl ?_
  refine aops_call_v (by repeat constructor) (decl_con c) rfl rfl ?_
  refine aops_p (ap_bits rfl rfl rfl (by omega) (by omega)) rfl rfl rfl ?_
  refine aops_p (ap_cmp rfl rfl rfl) rfl rfl rfl ?_
  refine aops_p (ap_assign rfl) rfl rfl rfl ?_
  refine aops_nil ?_
  refine seqQ_n ?_
  refine awp_ret ?_
  refine post_is (.tmp rfl .nil) (by repeat (first | exact .nil | refine .cons (by first | exact .here | exact .there .here | exact .there (.there .here) | exact .there (.there (.there .here)) | exact .there (.there (.there (.there .here)))) ?_)) rfl

theorem quorum_con (c : List Mem) (s : Nat) (hs : s < 1024) : Con Try.prog 38 [cv c, .i s] [] (Is (.b (quorumC c s)) []) := by
  have hcap : capB = 140737488355328 := rfl
  refine con_intro Try.func38 rfl Try.call38 rfl ?_
  refine awp_seq ?_
  refine awp_region ?_
  refine aops_box rfl (by first | exact .agg | exact .sl | exact .v rfl | exact .v (by assumption)) rfl rfl (fun b2 => ?_)
  refine aops_p (ap_assign rfl) rfl rfl rfl ?_
  refine aops_nil ?_
  refine seqQ_n ?_
  refine awp_seq ?_
  refine awp_seq ?_
  refine awp_region ?_
  refine aops_p (ap_move rfl) rfl rfl rfl ?_
  refine aops_call_v (by repeat constructor) (validn hs) rfl rfl ?_
  refine aops_p (ap_not rfl) rfl rfl rfl ?_
  refine aops_p (ap_move rfl) rfl rfl rfl ?_
  all_goals (first | (refine aops_yes rfl rfl rfl rfl (by first | with_reducible assumption | with_reducible exact rfl | decide | (refine decide_eq_true ?_; omega) | (refine decide_eq_false ?_; omega)) ?_; (refine aops_p (ap_move rfl) rfl rfl rfl ?_)) | refine aops_no_u rfl rfl rfl ?_ | refine aops_no_f rfl rfl rfl rfl (by first | with_reducible assumption | with_reducible exact rfl | decide | (refine decide_eq_true ?_; omega) | (refine decide_eq_false ?_; omega)) ?_ | (refine aops_guard_f rfl rfl rfl rfl (fun hg => ?_) (fun hg => ?_); case' _ => (refine aops_p (ap_move rfl) rfl rfl rfl ?_)))
  all_goals (first | (refine aops_yes rfl rfl rfl rfl (by first | with_reducible assumption | with_reducible exact rfl | decide | (refine decide_eq_true ?_; omega) | (refine decide_eq_false ?_; omega)) ?_; (refine aops_p (ap_cmp rfl rfl rfl) rfl rfl rfl ?_)) | refine aops_no_u rfl rfl rfl ?_ | refine aops_no_f rfl rfl rfl rfl (by first | with_reducible assumption | with_reducible exact rfl | decide | (refine decide_eq_true ?_; omega) | (refine decide_eq_false ?_; omega)) ?_ | (refine aops_guard_f rfl rfl rfl rfl (fun hg => ?_) (fun hg => ?_); case' _ => (refine aops_p (ap_cmp rfl rfl rfl) rfl rfl rfl ?_)))
  all_goals (first | refine aops_p (ap_pick_true rfl (by first | with_reducible assumption | with_reducible exact rfl | decide | (refine decide_eq_true ?_; omega) | (refine decide_eq_false ?_; omega)) rfl) rfl rfl rfl ?_ | refine aops_p (ap_pick_false rfl (by first | with_reducible assumption | with_reducible exact rfl | decide | (refine decide_eq_true ?_; omega) | (refine decide_eq_false ?_; omega)) rfl) rfl rfl rfl ?_)
  all_goals (refine aops_p (ap_move rfl) rfl rfl rfl ?_)
  all_goals (first | (refine aops_yes rfl rfl rfl rfl (by first | with_reducible assumption | with_reducible exact rfl | decide | (refine decide_eq_true ?_; omega) | (refine decide_eq_false ?_; omega)) ?_; (first | refine aops_q (aq_load rfl (by first | exact .here | exact .there .here | exact .there (.there .here) | exact .there (.there (.there .here)) | exact .there (.there (.there (.there .here))) | exact .there (.there (.there (.there (.there .here))))) List.not_mem_nil rfl rfl (by repeat constructor)) rfl rfl rfl ?_ | refine aops_q (aq_load_el rfl rfl rfl rfl (fun _ h => absurd h List.not_mem_nil)) rfl rfl rfl ?_)) | refine aops_no_u rfl rfl rfl ?_ | refine aops_no_f rfl rfl rfl rfl (by first | with_reducible assumption | with_reducible exact rfl | decide | (refine decide_eq_true ?_; omega) | (refine decide_eq_false ?_; omega)) ?_ | (refine aops_guard_f rfl rfl rfl rfl (fun hg => ?_) (fun hg => ?_); case' _ => (first | refine aops_q (aq_load rfl (by first | exact .here | exact .there .here | exact .there (.there .here) | exact .there (.there (.there .here)) | exact .there (.there (.there (.there .here))) | exact .there (.there (.there (.there (.there .here))))) List.not_mem_nil rfl rfl (by repeat constructor)) rfl rfl rfl ?_ | refine aops_q (aq_load_el rfl rfl rfl rfl (fun _ h => absurd h List.not_mem_nil)) rfl rfl rfl ?_)))
  all_goals (first | (refine aops_yes rfl rfl rfl rfl (by first | with_reducible assumption | with_reducible exact rfl | decide | (refine decide_eq_true ?_; omega) | (refine decide_eq_false ?_; omega)) ?_; (refine aops_p (ap_move rfl) rfl rfl rfl ?_)) | refine aops_no_u rfl rfl rfl ?_ | refine aops_no_f rfl rfl rfl rfl (by first | with_reducible assumption | with_reducible exact rfl | decide | (refine decide_eq_true ?_; omega) | (refine decide_eq_false ?_; omega)) ?_ | (refine aops_guard_f rfl rfl rfl rfl (fun hg => ?_) (fun hg => ?_); case' _ => (refine aops_p (ap_move rfl) rfl rfl rfl ?_)))
  all_goals (first | (refine aops_yes rfl rfl rfl rfl (by first | with_reducible assumption | with_reducible exact rfl | decide | (refine decide_eq_true ?_; omega) | (refine decide_eq_false ?_; omega)) ?_; (refine aops_call_b (by repeat constructor) (inside_con c s hs) rfl rfl (fun c17 hc17 => ?_))) | refine aops_no_u rfl rfl rfl ?_ | refine aops_no_f rfl rfl rfl rfl (by first | with_reducible assumption | with_reducible exact rfl | decide | (refine decide_eq_true ?_; omega) | (refine decide_eq_false ?_; omega)) ?_ | (refine aops_guard_f rfl rfl rfl rfl (fun hg => ?_) (fun hg => ?_); case' _ => (refine aops_call_b (by repeat constructor) (inside_con c s hs) rfl rfl (fun c17 hc17 => ?_))))
  all_goals (first | (refine aops_yes rfl rfl rfl rfl (by first | with_reducible assumption | with_reducible exact rfl | decide | (refine decide_eq_true ?_; omega) | (refine decide_eq_false ?_; omega)) ?_; (refine aops_p (ap_not rfl) rfl rfl rfl ?_)) | refine aops_no_u rfl rfl rfl ?_ | refine aops_no_f rfl rfl rfl rfl (by first | with_reducible assumption | with_reducible exact rfl | decide | (refine decide_eq_true ?_; omega) | (refine decide_eq_false ?_; omega)) ?_ | (refine aops_guard_f rfl rfl rfl rfl (fun hg => ?_) (fun hg => ?_); case' _ => (refine aops_p (ap_not rfl) rfl rfl rfl ?_)))
  all_goals (first | refine aops_p (ap_pick_true rfl (by first | with_reducible assumption | with_reducible exact rfl | decide | (refine decide_eq_true ?_; omega) | (refine decide_eq_false ?_; omega)) rfl) rfl rfl rfl ?_ | refine aops_p (ap_pick_false rfl (by first | with_reducible assumption | with_reducible exact rfl | decide | (refine decide_eq_true ?_; omega) | (refine decide_eq_false ?_; omega)) rfl) rfl rfl rfl ?_)
  all_goals (
    refine aops_nil ?_
    refine seqQ_n ?_
    refine awp_cond rfl (fun hc => ?_) (fun hc => ?_)
    · first
      | (exact absurd hc (by decide))
      | (refine awp_seq ?_
         refine awp_region ?_
         refine aops_p (ap_assign rfl) rfl rfl rfl ?_
         refine aops_nil ?_
         refine seqQ_n ?_
         refine awp_ret ?_
         refine seqQ_r ?_
         refine post_is (.tmp rfl .nil) (by repeat (first | exact .nil | refine .cons (by first | exact .here | exact .there .here | exact .there (.there .here) | exact .there (.there (.there .here)) | exact .there (.there (.there (.there .here)))) ?_)) ?_
         first | (rw [quorum_f1 (hc17.trans (not_t (by with_reducible assumption)))]; rfl) | (rw [quorum_f2 (by with_reducible assumption)]; rfl)
        )
    · first
      | (exact absurd hc (by decide))
      | (have hi0 := hc17.trans (not_f hc)
         have hin := (insideC_iff hs).1 hi0
         refine awp_skip ?_
         refine seqQ_n ?_
         refine awp_seq ?_
         refine awp_region ?_
         first | refine aops_q (aq_load rfl (by first | exact .here | exact .there .here | exact .there (.there .here) | exact .there (.there (.there .here)) | exact .there (.there (.there (.there .here))) | exact .there (.there (.there (.there (.there .here))))) List.not_mem_nil rfl rfl (by repeat constructor)) rfl rfl rfl ?_ | refine aops_q (aq_load_el rfl rfl rfl rfl (fun _ h => absurd h List.not_mem_nil)) rfl rfl rfl ?_
         refine aops_p (ap_move rfl) rfl rfl rfl ?_
         (refine aops_call (by repeat constructor) (unh_con c s hs hin) (by repeat (first | exact .nil | exact Split.none _ | apply Split.left | apply Split.right)) rfl rfl ?_; rintro _ _ ⟨k, b, rfl, hb1, hb0, rfl⟩)
         refine aops_p (ap_move rfl) rfl rfl rfl ?_
         refine aops_p (ap_extract rfl rfl) rfl rfl rfl ?_
         refine aops_p (ap_extract rfl rfl) rfl rfl rfl ?_
         refine aops_p (ap_assign rfl) rfl rfl rfl ?_
         refine aops_p (ap_assign rfl) rfl rfl rfl ?_
         refine aops_nil ?_
         refine seqQ_n ?_
         refine awp_seq ?_
         refine awp_region ?_
         refine aops_p (ap_move rfl) rfl rfl rfl ?_
         refine aops_p (ap_not rfl) rfl rfl rfl ?_
         refine aops_p (ap_assign rfl) rfl rfl rfl ?_
         refine aops_nil ?_
         refine seqQ_n ?_
         refine awp_ret ?_
         refine post_is (.tmp rfl .nil) (by repeat (first | exact .nil | refine .cons (by first | exact .here | exact .there .here | exact .there (.there .here) | exact .there (.there (.there .here)) | exact .there (.there (.there (.there .here)))) ?_)) ?_
         rw [quorum_t (by with_reducible assumption) hi0 hb1 hb0]; rfl
        )
    )

theorem elimination_con (c : List Mem) (s : Int) : Con Try.prog 43 [cv c, .i s] [] (Is (.sl 1 ((gOrder c s).map .i)) []) := by
  have hcap : capB = 140737488355328 := rfl
  refine con_intro Try.func43 rfl Try.call43 rfl ?_
  refine awp_seq ?_
  refine awp_region ?_
  refine aops_box rfl (by first | exact .agg | exact .sl | exact .v rfl | exact .v (by assumption)) rfl rfl (fun b2 => ?_)
  refine aops_p (ap_assign rfl) rfl rfl rfl ?_
  refine aops_nil ?_
  refine seqQ_n ?_
  refine awp_seq ?_
  refine awp_region ?_
  first | refine aops_q (aq_load rfl (by first | exact .here | exact .there .here | exact .there (.there .here) | exact .there (.there (.there .here)) | exact .there (.there (.there (.there .here))) | exact .there (.there (.there (.there (.there .here))))) List.not_mem_nil rfl rfl (by repeat constructor)) rfl rfl rfl ?_ | refine aops_q (aq_load_el rfl rfl rfl rfl (fun _ h => absurd h List.not_mem_nil)) rfl rfl rfl ?_
  refine aops_p (ap_move rfl) rfl rfl rfl ?_
  refine aops_call_v (by repeat constructor) (elimin_con c _) rfl rfl ?_
  refine aops_p (ap_move rfl) rfl rfl rfl ?_
  refine aops_p (ap_extract rfl rfl) rfl rfl rfl ?_
  refine aops_p (ap_extract rfl rfl) rfl rfl rfl ?_
  refine aops_p (ap_assign rfl) rfl rfl rfl ?_
  refine aops_p (ap_assign rfl) rfl rfl rfl ?_
  refine aops_nil ?_
  refine seqQ_n ?_
  refine awp_seq ?_
  refine awp_region ?_
  refine aops_p (ap_move rfl) rfl rfl rfl ?_
  refine aops_p (ap_assign rfl) rfl rfl rfl ?_
  refine aops_nil ?_
  refine seqQ_n ?_
  refine awp_ret ?_
  refine post_is (.tmp rfl .nil) (by repeat (first | exact .nil | refine .cons (by first | exact .here | exact .there .here | exact .there (.there .here) | exact .there (.there (.there .here)) | exact .there (.there (.there (.there .here)))) ?_)) rfl

theorem three_con : Con Try.prog 90 [] [] (Is (cv c3) []) := by
  have hcap : capB = 140737488355328 := rfl
  refine con_intro Try.func90 rfl Try.call90 rfl ?_
  refine awp_seq ?_
  refine awp_region ?_
  refine aops_alloc rfl (by repeat constructor) rfl rfl (fun b0 => ?_)
  refine aops_nil ?_
  refine seqQ_n ?_
  refine awp_seq ?_
  refine awp_region ?_
  refine aops_lit (e := 3) (sz := 1) (by_ := 8) rfl rfl (by repeat constructor) rfl rfl rfl rfl ?_
  refine aops_p (ap_build (by kernel_rfl) rfl (by repeat constructor) (by repeat (first | exact .nil | apply FillL.cons rfl (by first | exact .agg | exact .sl | exact .v rfl | exact .v (by assumption)) rfl (by repeat constructor)))) rfl rfl rfl ?_
  refine aops_alloc rfl (by repeat constructor) rfl rfl (fun b1 => ?_)
  first | refine aops_store rfl rfl (by first | exact .agg | exact .sl | exact .v rfl | exact .v (by assumption)) (by first | exact .here | exact .there .here | exact .there (.there .here) | exact .there (.there (.there .here)) | exact .there (.there (.there (.there .here))) | exact .there (.there (.there (.there (.there .here))))) rfl (by repeat constructor) ?_ | refine aops_store_own1 rfl rfl (by first | exact .sl | exact .v rfl | exact .v (by assumption)) (by first | exact .here | exact .there .here | exact .there (.there .here) | exact .there (.there (.there .here)) | exact .there (.there (.there (.there .here))) | exact .there (.there (.there (.there (.there .here))))) rfl (by simp only [List.length_set, List.length_map]; omega) ?_
  refine aops_nil ?_
  refine seqQ_n ?_
  refine awp_seq ?_
  refine awp_unnil [0,1] 3 rfl (by repeat (first | exact .nil | apply SelC.cons rfl (by first | exact Cv.fz | (apply Cv.agg; repeat (first | exact CvL.nil | apply CvL.cons (by first | exact Cv.fz | exact Cv.same))) | exact Cv.same))) (by repeat (first | exact .nil | apply HeapA.box (by repeat (first | exact CvL.nil | apply CvL.cons (by first | exact Cv.fz | exact Cv.same))) | apply HeapA.arr)) ?_
  refine awp_region ?_
  first | refine aops_q (aq_load rfl (by first | exact .here | exact .there .here | exact .there (.there .here) | exact .there (.there (.there .here)) | exact .there (.there (.there (.there .here))) | exact .there (.there (.there (.there (.there .here))))) List.not_mem_nil rfl rfl (by repeat constructor)) rfl rfl rfl ?_ | refine aops_q (aq_load_el rfl rfl rfl rfl (fun _ h => absurd h List.not_mem_nil)) rfl rfl rfl ?_
  refine aops_p (ap_build (by kernel_rfl) rfl (by repeat constructor) (by repeat (first | exact .nil | apply FillL.cons rfl (by first | exact .agg | exact .sl | exact .v rfl | exact .v (by assumption)) rfl (by repeat constructor)))) rfl rfl rfl ?_
  first | refine aops_q (aq_load rfl (by first | exact .here | exact .there .here | exact .there (.there .here) | exact .there (.there (.there .here)) | exact .there (.there (.there (.there .here))) | exact .there (.there (.there (.there (.there .here))))) List.not_mem_nil rfl rfl (by repeat constructor)) rfl rfl rfl ?_ | refine aops_q (aq_load_el rfl rfl rfl rfl (fun _ h => absurd h List.not_mem_nil)) rfl rfl rfl ?_
  refine aops_p (ap_build (by kernel_rfl) rfl (by repeat constructor) (by repeat (first | exact .nil | apply FillL.cons rfl (by first | exact .agg | exact .sl | exact .v rfl | exact .v (by assumption)) rfl (by repeat constructor)))) rfl rfl rfl ?_
  first | refine aops_q (aq_load rfl (by first | exact .here | exact .there .here | exact .there (.there .here) | exact .there (.there (.there .here)) | exact .there (.there (.there (.there .here))) | exact .there (.there (.there (.there (.there .here))))) List.not_mem_nil rfl rfl (by repeat constructor)) rfl rfl rfl ?_ | refine aops_q (aq_load_el rfl rfl rfl rfl (fun _ h => absurd h List.not_mem_nil)) rfl rfl rfl ?_
  refine aops_p (ap_build (by kernel_rfl) rfl (by repeat constructor) (by repeat (first | exact .nil | apply FillL.cons rfl (by first | exact .agg | exact .sl | exact .v rfl | exact .v (by assumption)) rfl (by repeat constructor)))) rfl rfl rfl ?_
  refine aops_lit (e := 69) (sz := 4) (by_ := 64) rfl rfl (by repeat constructor) rfl rfl rfl rfl ?_
  refine aops_p (ap_build (by kernel_rfl) rfl (by repeat constructor) (by repeat (first | exact .nil | apply FillL.cons rfl (by first | exact .agg | exact .sl | exact .v rfl | exact .v (by assumption)) rfl (by repeat constructor)))) rfl rfl rfl ?_
  first | refine aops_store rfl rfl (by first | exact .agg | exact .sl | exact .v rfl | exact .v (by assumption)) (by first | exact .here | exact .there .here | exact .there (.there .here) | exact .there (.there (.there .here)) | exact .there (.there (.there (.there .here))) | exact .there (.there (.there (.there (.there .here))))) rfl (by repeat constructor) ?_ | refine aops_store_own1 rfl rfl (by first | exact .sl | exact .v rfl | exact .v (by assumption)) (by first | exact .here | exact .there .here | exact .there (.there .here) | exact .there (.there (.there .here)) | exact .there (.there (.there (.there .here))) | exact .there (.there (.there (.there (.there .here))))) rfl (by simp only [List.length_set, List.length_map]; omega) ?_
  refine aops_nil ?_
  refine seqQ_n ?_
  refine awp_ret ?_
  exact post_ret (.cell rfl (by first | exact .here | exact .there .here | exact .there (.there .here) | exact .there (.there (.there .here)) | exact .there (.there (.there (.there .here))) | exact .there (.there (.there (.there (.there .here))))) rfl rfl .nil) (by repeat (first | exact .nil | refine .cons (by first | exact .here | exact .there .here | exact .there (.there .here) | exact .there (.there (.there .here)) | exact .there (.there (.there (.there .here)))) ?_)) ⟨rfl, rfl⟩

theorem ints_con (x y : List Int) : Con Try.prog 42 [.sl 1 (x.map .i), .sl 1 (y.map .i)] [] (Is (.b (decide (x = y))) []) := by
  have hcap : capB = 140737488355328 := rfl
  have hx1 : (x.map D.i).length = x.length := by simp
  have hy1 : (y.map D.i).length = y.length := by simp
  refine con_intro Try.func42 rfl Try.call42 rfl ?_
  refine awp_seq ?_
  refine awp_region ?_
  refine aops_p (ap_assign rfl) rfl rfl rfl ?_
  refine aops_nil ?_
  refine seqQ_n ?_
  refine awp_seq ?_
  refine awp_seq ?_
  refine awp_region ?_
  refine aops_p (ap_move rfl) rfl rfl rfl ?_
  first | refine aops_len rfl rfl rfl rfl (fun _ => ?_) | refine aops_p (ap_len_arr rfl (by first | exact .here | exact .there .here | exact .there (.there .here) | exact .there (.there (.there .here)) | exact .there (.there (.there (.there .here))) | exact .there (.there (.there (.there (.there .here))))) rfl) rfl rfl rfl ?_ | refine aops_p (ap_len_nil rfl rfl) rfl rfl rfl ?_
  refine aops_p (ap_move rfl) rfl rfl rfl ?_
  first | refine aops_len rfl rfl rfl rfl (fun _ => ?_) | refine aops_p (ap_len_arr rfl (by first | exact .here | exact .there .here | exact .there (.there .here) | exact .there (.there (.there .here)) | exact .there (.there (.there (.there .here))) | exact .there (.there (.there (.there (.there .here))))) rfl) rfl rfl rfl ?_ | refine aops_p (ap_len_nil rfl rfl) rfl rfl rfl ?_
  refine aops_p (ap_cmp rfl rfl rfl) rfl rfl rfl ?_
  refine aops_nil ?_
  refine seqQ_n ?_
  refine awp_cond rfl (fun hc => ?_) (fun hc => ?_)
  · have hne := of_neq_true hc
    refine awp_seq ?_
    refine awp_region ?_
    refine aops_p (ap_assign rfl) rfl rfl rfl ?_
    refine aops_nil ?_
    refine seqQ_n ?_
    refine awp_ret ?_
    refine seqQ_r ?_
    refine post_is (.tmp rfl .nil) (by repeat (first | exact .nil | refine .cons (by first | exact .here | exact .there .here | exact .there (.there .here) | exact .there (.there (.there .here)) | exact .there (.there (.there (.there .here)))) ?_)) ?_
    rw [decide_eq_false (fun e => hne (by rw [e]))]; rfl
  · have hlen := of_neq_false hc
    have hll : x.length = y.length := by omega
    refine awp_skip ?_
    refine seqQ_n ?_
    refine awp_seq ?_
    refine awp_seq ?_
    refine awp_region ?_
    refine aops_p (ap_move rfl) rfl rfl rfl ?_
    first | refine aops_len rfl rfl rfl rfl (fun _ => ?_) | refine aops_p (ap_len_arr rfl (by first | exact .here | exact .there .here | exact .there (.there .here) | exact .there (.there (.there .here)) | exact .there (.there (.there (.there .here))) | exact .there (.there (.there (.there (.there .here))))) rfl) rfl rfl rfl ?_ | refine aops_p (ap_len_nil rfl rfl) rfl rfl rfl ?_
    refine aops_p (ap_move rfl) rfl rfl rfl ?_
    refine aops_nil ?_
    refine seqQ_n ?_
    refine awp_block ?_
    refine awp_loop1 [0, 1, 12] [] (fun (k : Nat) r => (13, .i (k : Int)) :: r) (fun (k : Nat) r => r) (fun (k : Nat) => k ≤ x.length ∧ x.take k = y.take k) (fun (k : Nat) => x.length - k) (0) (by repeat constructor) ⟨by omega, by simp⟩ (wk (by repeat (first | exact .nil | refine .cons rfl ?_)) (by repeat (first | exact .nil | refine .cons (by first | exact .here | exact .there .here | exact .there (.there .here) | exact .there (.there (.there .here)) | exact .there (.there (.there (.there .here)))) ?_))) ?_
    intro k ⟨hk, hI⟩
    refine awp_seq ?_
    refine awp_region ?_
    refine aops_p (ap_cmp rfl rfl rfl) rfl rfl rfl ?_
    refine aops_nil ?_
    refine seqQ_n ?_
    refine awp_seq ?_
    refine awp_cond rfl (fun hc => ?_) (fun hc => ?_)
    · have hlt := of_decide_eq_true hc
      obtain ⟨u, hu, _⟩ := drop_cons (l := x) (k := k) (by omega)
      obtain ⟨v, hv, _⟩ := drop_cons (l := y) (k := k) (by omega)
      have hu' := getMap D.i hu
      have hv' := getMap D.i hv
      refine awp_skip ?_
      refine seqQ_n ?_
      refine awp_seq ?_
      refine awp_block ?_
      refine awp_seq ?_
      refine awp_region ?_
      refine aops_p (ap_move rfl) rfl rfl rfl ?_
      refine aops_p (ap_assign rfl) rfl rfl rfl ?_
      refine aops_nil ?_
      refine seqQ_n ?_
      refine awp_seq ?_
      refine awp_draw (Hm := []) (by kernel_rfl) (by repeat (first | exact .nil | exact Split.none _ | apply Split.left | apply Split.right)) ?_
      refine aany_take 0 rfl (.none rfl) (by kernel_rfl) (by kernel_rfl) (by kernel_rfl) (AP.ar (ap_move rfl)) rfl rfl ?_
      refine aany_take 1 rfl (.none rfl) (by kernel_rfl) (by kernel_rfl) (by kernel_rfl) (AP.ar (ap_move rfl)) rfl rfl ?_
      first | refine aany_take 2 rfl (.none rfl) (by kernel_rfl) (by kernel_rfl) (by kernel_rfl) (AP.ar (ap_index rfl rfl rfl rfl (by decide) rfl (by first | assumption | rfl))) rfl rfl ?_ | refine aany_take 2 rfl (.none rfl) (by kernel_rfl) (by kernel_rfl) (by kernel_rfl) (AP.ar (ap_index rfl rfl rfl rfl (by decide) (by omega) (by first | assumption | rfl))) rfl rfl ?_ | refine aany_take 2 rfl (.none rfl) (by kernel_rfl) (by kernel_rfl) (by kernel_rfl) (AP.ar (ap_index_own rfl rfl rfl rfl rfl (by first | omega | (simp only [List.length_map, List.length_set, avs_len]; omega)))) rfl rfl ?_
      first | refine aany_take 3 rfl (.none rfl) (by kernel_rfl) (by kernel_rfl) (by kernel_rfl) (ar_load1 rfl (by first | exact .here | exact .there .here | exact .there (.there .here) | exact .there (.there (.there .here)) | exact .there (.there (.there (.there .here))) | exact .there (.there (.there (.there (.there .here))))) rfl (by repeat constructor)) rfl rfl ?_ | refine aany_take 3 rfl (.none rfl) (by kernel_rfl) (by kernel_rfl) (by kernel_rfl) (AQ.ar (aq_load_el1 rfl rfl (by first | exact .sl | exact .v rfl | exact .v (by assumption)) (fun _ h => h))) rfl rfl ?_ | refine aany_take 3 rfl (.none rfl) (by kernel_rfl) (by kernel_rfl) (by kernel_rfl) (AQ.ar (aq_load_el1' rfl rfl (by first | exact .sl | exact .v rfl | exact .v (by assumption)) (fun _ h => h))) rfl rfl ?_ | refine aany_take 3 rfl (.none rfl) (by kernel_rfl) (by kernel_rfl) (by kernel_rfl) (ar_load_own1 rfl (by first | exact .here | exact .there .here | exact .there (.there .here) | exact .there (.there (.there .here)) | exact .there (.there (.there (.there .here))) | exact .there (.there (.there (.there (.there .here))))) rfl (by first | assumption | rfl) (by first | exact .sl | exact .v rfl | exact .v (by assumption))) rfl rfl ?_
      refine aany_take 4 rfl (.none rfl) (by kernel_rfl) (by kernel_rfl) (by kernel_rfl) (AP.ar (ap_move rfl)) rfl rfl ?_
      refine aany_take 5 rfl (.none rfl) (by kernel_rfl) (by kernel_rfl) (by kernel_rfl) (AP.ar (ap_move rfl)) rfl rfl ?_
      first | refine aany_take 6 rfl (.none rfl) (by kernel_rfl) (by kernel_rfl) (by kernel_rfl) (AP.ar (ap_index rfl rfl rfl rfl (by decide) rfl (by first | assumption | rfl))) rfl rfl ?_ | refine aany_take 6 rfl (.none rfl) (by kernel_rfl) (by kernel_rfl) (by kernel_rfl) (AP.ar (ap_index rfl rfl rfl rfl (by decide) (by omega) (by first | assumption | rfl))) rfl rfl ?_ | refine aany_take 6 rfl (.none rfl) (by kernel_rfl) (by kernel_rfl) (by kernel_rfl) (AP.ar (ap_index_own rfl rfl rfl rfl rfl (by first | omega | (simp only [List.length_map, List.length_set, avs_len]; omega)))) rfl rfl ?_
      first | refine aany_take 7 rfl (.none rfl) (by kernel_rfl) (by kernel_rfl) (by kernel_rfl) (ar_load1 rfl (by first | exact .here | exact .there .here | exact .there (.there .here) | exact .there (.there (.there .here)) | exact .there (.there (.there (.there .here))) | exact .there (.there (.there (.there (.there .here))))) rfl (by repeat constructor)) rfl rfl ?_ | refine aany_take 7 rfl (.none rfl) (by kernel_rfl) (by kernel_rfl) (by kernel_rfl) (AQ.ar (aq_load_el1 rfl rfl (by first | exact .sl | exact .v rfl | exact .v (by assumption)) (fun _ h => h))) rfl rfl ?_ | refine aany_take 7 rfl (.none rfl) (by kernel_rfl) (by kernel_rfl) (by kernel_rfl) (AQ.ar (aq_load_el1' rfl rfl (by first | exact .sl | exact .v rfl | exact .v (by assumption)) (fun _ h => h))) rfl rfl ?_ | refine aany_take 7 rfl (.none rfl) (by kernel_rfl) (by kernel_rfl) (by kernel_rfl) (ar_load_own1 rfl (by first | exact .here | exact .there .here | exact .there (.there .here) | exact .there (.there (.there .here)) | exact .there (.there (.there (.there .here))) | exact .there (.there (.there (.there (.there .here))))) rfl (by first | assumption | rfl) (by first | exact .sl | exact .v rfl | exact .v (by assumption))) rfl rfl ?_
      refine aany_take 8 rfl (.none rfl) (by kernel_rfl) (by kernel_rfl) (by kernel_rfl) (AP.ar (ap_cmp rfl rfl rfl)) rfl rfl ?_
      refine aany_nil (by kernel_rfl) ?_
      all_goals (
        refine seqQ_n ?_
        refine awp_cond rfl (fun hc => ?_) (fun hc => ?_)
        · have hne := of_neq_true hc
          refine awp_seq ?_
          refine awp_region ?_
          refine aops_p (ap_assign rfl) rfl rfl rfl ?_
          refine aops_nil ?_
          refine seqQ_n ?_
          refine awp_ret ?_
          refine blockQ_r ?_
          refine seqQ_r ?_
          refine seqQ_r ?_
          refine blockQ_r ?_
          refine seqQ_r ?_
          refine post_is (.tmp rfl .nil) (by repeat (first | exact .nil | refine .cons (by first | exact .here | exact .there .here | exact .there (.there .here) | exact .there (.there (.there .here)) | exact .there (.there (.there (.there .here)))) ?_)) ?_
          rw [decide_eq_false (fun e => hne (by rw [e, hv] at hu; injection hu with hu; exact hu.symm))]; rfl
        · refine awp_skip ?_
          refine blockQ_n ?_
          refine seqQ_n ?_
          refine awp_region ?_
          refine aops_p (ap_arith rfl rfl rfl (by omega)) rfl rfl rfl ?_
          refine aops_p (ap_move rfl) rfl rfl rfl ?_
          refine aops_nil ?_
          refine seqQ_n ?_
          have e := of_neq_false hc
          refine ⟨k + 1, ⟨by omega, by rw [List.take_add_one, List.take_add_one, hI, hu, hv, e]⟩, by omega, wk (by repeat (first | exact .nil | refine .cons rfl ?_)) (by repeat (first | exact .nil | refine .cons (by first | exact .here | exact .there .here | exact .there (.there .here) | exact .there (.there (.there .here)) | exact .there (.there (.there (.there .here)))) ?_))⟩
        )
    · have hge := of_decide_eq_false hc
      refine awp_exit ?_
      refine seqQ_x ?_
      refine seqQ_x ?_
      refine blockQ_x rfl ?_
      refine seqQ_n ?_
      refine awp_seq ?_
      refine awp_region ?_
      refine aops_p (ap_assign rfl) rfl rfl rfl ?_
      refine aops_nil ?_
      refine seqQ_n ?_
      refine awp_ret ?_
      refine post_is (.tmp rfl .nil) (by repeat (first | exact .nil | refine .cons (by first | exact .here | exact .there .here | exact .there (.there .here) | exact .there (.there (.there .here)) | exact .there (.there (.there (.there .here)))) ?_)) ?_
      rw [List.take_of_length_le (by omega), List.take_of_length_le (by omega)] at hI; rw [decide_eq_true hI]; rfl

theorem check_con (c : List Mem) (s0 : Nat) (hs0 : s0 < 1024) (l : List Int) : Con Try.prog 45 [cv c, .i s0, .sl 1 (l.map .i)] [] (Is (.tup [.i (checkGo c (s0 &&& declC c) l).1, .i (checkGo c (s0 &&& declC c) l).2]) []) := by
  have hcap : capB = 140737488355328 := rfl
  have hdl := declC_lt c
  have hl1 : (l.map D.i).length = l.length := by simp
  refine con_intro Try.func45 rfl Try.call45 rfl ?_
  refine awp_seq ?_
  refine awp_region ?_
  refine aops_box rfl (by first | exact .agg | exact .sl | exact .v rfl | exact .v (by assumption)) rfl rfl (fun b3 => ?_)
  refine aops_p (ap_assign rfl) rfl rfl rfl ?_
  refine aops_p (ap_assign rfl) rfl rfl rfl ?_
  refine aops_nil ?_
  refine seqQ_n ?_
  refine awp_seq ?_
  refine awp_seq ?_
  refine awp_region ?_
  refine aops_p (ap_move rfl) rfl rfl rfl ?_
  refine aops_call_v (by repeat constructor) (validn hs0) rfl rfl ?_
  refine aops_p (ap_not rfl) rfl rfl rfl ?_
  refine aops_nil ?_
  refine seqQ_n ?_
  refine awp_cond_f rfl (by first | with_reducible assumption | with_reducible exact rfl | decide | (refine decide_eq_true ?_; omega) | (refine decide_eq_false ?_; omega)) ?_
  refine awp_skip ?_
  refine seqQ_n ?_
  refine awp_seq ?_
  refine awp_region ?_
  refine aops_p (ap_move rfl) rfl rfl rfl ?_
  first | refine aops_q (aq_load rfl (by first | exact .here | exact .there .here | exact .there (.there .here) | exact .there (.there (.there .here)) | exact .there (.there (.there (.there .here))) | exact .there (.there (.there (.there (.there .here))))) List.not_mem_nil rfl rfl (by repeat constructor)) rfl rfl rfl ?_ | refine aops_q (aq_load_el rfl rfl rfl rfl (fun _ h => absurd h List.not_mem_nil)) rfl rfl rfl ?_
  refine aops_call_v (by repeat constructor) (decl_con c) rfl rfl ?_
  refine aops_p (ap_bits rfl rfl rfl (by omega) (by omega)) rfl rfl rfl ?_
  refine aops_p (ap_assign rfl) rfl rfl rfl ?_
  refine aops_nil ?_
  refine seqQ_n ?_
  refine awp_seq ?_
  refine awp_seq ?_
  refine awp_region ?_
  refine aops_p (ap_move rfl) rfl rfl rfl ?_
  first | refine aops_len rfl rfl rfl rfl (fun _ => ?_) | refine aops_p (ap_len_arr rfl (by first | exact .here | exact .there .here | exact .there (.there .here) | exact .there (.there (.there .here)) | exact .there (.there (.there (.there .here))) | exact .there (.there (.there (.there (.there .here))))) rfl) rfl rfl rfl ?_ | refine aops_p (ap_len_nil rfl rfl) rfl rfl rfl ?_
  refine aops_p (ap_move rfl) rfl rfl rfl ?_
  refine aops_nil ?_
  refine seqQ_n ?_
  refine awp_block ?_
  refine awp_loop2 [3, 17, 18] [.box b3 _ _] (fun (k : Nat) (s : Nat) r => (1, .i (s : Int)) :: (19, .i (k : Int)) :: r) (fun (k : Nat) (s : Nat) r => r) (fun (k : Nat) (s : Nat) => k ≤ l.length ∧ s < 1024 ∧ In c s ∧ checkGo c s (l.drop k) = checkGo c (s0 &&& declC c) l) (fun (k : Nat) (s : Nat) => l.length - k) (0) (s0 &&& declC c) (by repeat constructor) ⟨by omega, and_lt hdl, In.and c s0, by simp⟩ (wk (by repeat (first | exact .nil | refine .cons rfl ?_)) (by repeat (first | exact .nil | refine .cons (by first | exact .here | exact .there .here | exact .there (.there .here) | exact .there (.there (.there .here)) | exact .there (.there (.there (.there .here)))) ?_))) ?_
  intro k s ⟨hk, hs, hin, hI⟩
  refine awp_seq ?_
  refine awp_region ?_
  refine aops_p (ap_cmp rfl rfl rfl) rfl rfl rfl ?_
  refine aops_nil ?_
  refine seqQ_n ?_
  refine awp_seq ?_
  refine awp_cond rfl (fun hc => ?_) (fun hc => ?_)
  · have hlt := of_decide_eq_true hc
    obtain ⟨x, hx, hd⟩ := drop_cons (l := l) (k := k) (by omega)
    have hx' := getMap D.i hx
    rw [hd] at hI
    refine awp_skip ?_
    refine seqQ_n ?_
    refine awp_seq ?_
    refine awp_block ?_
    refine awp_seq ?_
    refine awp_region ?_
    first | refine aops_p (ap_index rfl rfl rfl rfl (by decide) rfl (by first | assumption | rfl)) rfl rfl rfl ?_ | refine aops_p (ap_index rfl rfl rfl rfl (by decide) (by omega) (by first | assumption | rfl)) rfl rfl rfl ?_ | refine aops_p (ap_index_own rfl rfl rfl rfl rfl (by first | omega | (simp only [List.length_map, List.length_set, avs_len]; omega))) rfl rfl rfl ?_
    first | refine aops_q (aq_load1 rfl (by first | exact .here | exact .there .here | exact .there (.there .here) | exact .there (.there (.there .here)) | exact .there (.there (.there (.there .here))) | exact .there (.there (.there (.there (.there .here))))) List.not_mem_nil rfl (by repeat constructor)) rfl rfl rfl ?_ | refine aops_q (aq_load_el1 rfl rfl (by first | exact .sl | exact .v rfl | exact .v (by assumption)) (fun _ h => absurd h List.not_mem_nil)) rfl rfl rfl ?_ | refine aops_q (aq_load_el1' rfl rfl (by first | exact .sl | exact .v rfl | exact .v (by assumption)) (fun _ h => absurd h List.not_mem_nil)) rfl rfl rfl ?_ | refine aops_q (aq_load_own1 rfl (by first | exact .here | exact .there .here | exact .there (.there .here) | exact .there (.there (.there .here)) | exact .there (.there (.there (.there .here))) | exact .there (.there (.there (.there (.there .here))))) List.not_mem_nil rfl (by first | assumption | rfl) (by first | exact .sl | exact .v rfl | exact .v (by assumption))) rfl rfl rfl ?_
    refine aops_p (ap_assign rfl) rfl rfl rfl ?_
    refine aops_nil ?_
    refine seqQ_n ?_
    refine awp_seq ?_
    refine awp_seq ?_
    refine awp_region ?_
    refine aops_p (ap_move rfl) rfl rfl rfl ?_
    refine aops_p (ap_move rfl) rfl rfl rfl ?_
    refine aops_call_b (by repeat constructor) (has_con _ _) rfl rfl (fun c25 hc25 => ?_)
    refine aops_p (ap_not rfl) rfl rfl rfl ?_
    refine aops_p (ap_move rfl) rfl rfl rfl ?_
    all_goals (first | (refine aops_yes rfl rfl rfl rfl (by first | with_reducible assumption | with_reducible exact rfl | decide | (refine decide_eq_true ?_; omega) | (refine decide_eq_false ?_; omega)) ?_; (first | refine aops_q (aq_load rfl (by first | exact .here | exact .there .here | exact .there (.there .here) | exact .there (.there (.there .here)) | exact .there (.there (.there (.there .here))) | exact .there (.there (.there (.there (.there .here))))) List.not_mem_nil rfl rfl (by repeat constructor)) rfl rfl rfl ?_ | refine aops_q (aq_load_el rfl rfl rfl rfl (fun _ h => absurd h List.not_mem_nil)) rfl rfl rfl ?_)) | refine aops_no_u rfl rfl rfl ?_ | refine aops_no_f rfl rfl rfl rfl (by first | with_reducible assumption | with_reducible exact rfl | decide | (refine decide_eq_true ?_; omega) | (refine decide_eq_false ?_; omega)) ?_ | (refine aops_guard_f rfl rfl rfl rfl (fun hg => ?_) (fun hg => ?_); case' _ => (first | refine aops_q (aq_load rfl (by first | exact .here | exact .there .here | exact .there (.there .here) | exact .there (.there (.there .here)) | exact .there (.there (.there (.there .here))) | exact .there (.there (.there (.there (.there .here))))) List.not_mem_nil rfl rfl (by repeat constructor)) rfl rfl rfl ?_ | refine aops_q (aq_load_el rfl rfl rfl rfl (fun _ h => absurd h List.not_mem_nil)) rfl rfl rfl ?_)))
    all_goals (first | (refine aops_yes rfl rfl rfl rfl (by first | with_reducible assumption | with_reducible exact rfl | decide | (refine decide_eq_true ?_; omega) | (refine decide_eq_false ?_; omega)) ?_; (refine aops_p (ap_move rfl) rfl rfl rfl ?_)) | refine aops_no_u rfl rfl rfl ?_ | refine aops_no_f rfl rfl rfl rfl (by first | with_reducible assumption | with_reducible exact rfl | decide | (refine decide_eq_true ?_; omega) | (refine decide_eq_false ?_; omega)) ?_ | (refine aops_guard_f rfl rfl rfl rfl (fun hg => ?_) (fun hg => ?_); case' _ => (refine aops_p (ap_move rfl) rfl rfl rfl ?_)))
    all_goals (first | (refine aops_yes rfl rfl rfl rfl (by first | with_reducible assumption | with_reducible exact rfl | decide | (refine decide_eq_true ?_; omega) | (refine decide_eq_false ?_; omega)) ?_; (refine aops_p (ap_move rfl) rfl rfl rfl ?_)) | refine aops_no_u rfl rfl rfl ?_ | refine aops_no_f rfl rfl rfl rfl (by first | with_reducible assumption | with_reducible exact rfl | decide | (refine decide_eq_true ?_; omega) | (refine decide_eq_false ?_; omega)) ?_ | (refine aops_guard_f rfl rfl rfl rfl (fun hg => ?_) (fun hg => ?_); case' _ => (refine aops_p (ap_move rfl) rfl rfl rfl ?_)))
    all_goals (first | (refine aops_yes rfl rfl rfl rfl (by first | with_reducible assumption | with_reducible exact rfl | decide | (refine decide_eq_true ?_; omega) | (refine decide_eq_false ?_; omega)) ?_; ((obtain ⟨j, m, rfl, hj, hm, _⟩ := hin.get hs (hc25.trans (not_f (by with_reducible assumption))); refine aops_call_b (by repeat constructor) (content_con c j m hm _) rfl rfl (fun c31 hc31 => ?_)))) | refine aops_no_u rfl rfl rfl ?_ | refine aops_no_f rfl rfl rfl rfl (by first | with_reducible assumption | with_reducible exact rfl | decide | (refine decide_eq_true ?_; omega) | (refine decide_eq_false ?_; omega)) ?_ | (refine aops_guard_f rfl rfl rfl rfl (fun hg => ?_) (fun hg => ?_); case' _ => ((obtain ⟨j, m, rfl, hj, hm, _⟩ := hin.get hs (hc25.trans (not_f (by with_reducible assumption))); refine aops_call_b (by repeat constructor) (content_con c j m hm _) rfl rfl (fun c31 hc31 => ?_)))))
    all_goals (first | refine aops_p (ap_pick_true rfl (by first | with_reducible assumption | with_reducible exact rfl | decide | (refine decide_eq_true ?_; omega) | (refine decide_eq_false ?_; omega)) rfl) rfl rfl rfl ?_ | refine aops_p (ap_pick_false rfl (by first | with_reducible assumption | with_reducible exact rfl | decide | (refine decide_eq_true ?_; omega) | (refine decide_eq_false ?_; omega)) rfl) rfl rfl rfl ?_)
    all_goals (
      refine aops_nil ?_
      refine seqQ_n ?_
      refine awp_cond rfl (fun hc => ?_) (fun hc => ?_)
      · first
        | (exact absurd hc (by decide))
        | (refine awp_seq ?_
           refine awp_region ?_
           refine aops_p (ap_assign rfl) rfl rfl rfl ?_
           refine aops_p (ap_assign rfl) rfl rfl rfl ?_
           refine aops_nil ?_
           refine seqQ_n ?_
           refine awp_ret ?_
           refine seqQ_r ?_
           refine blockQ_r ?_
           refine seqQ_r ?_
           refine seqQ_r ?_
           refine blockQ_r ?_
           refine seqQ_r ?_
           refine post_is (.tmp rfl (.tmp rfl .nil)) (by repeat (first | exact .nil | refine .cons (by first | exact .here | exact .there .here | exact .there (.there .here) | exact .there (.there (.there .here)) | exact .there (.there (.there (.there .here)))) ?_)) ?_
           first | (rw [← hI, check_bad (fun h => by rw [tOf_get hm, hc31, hc] at h; exact Bool.noConfusion h.2)]; rfl) | (rw [← hI, check_bad (fun h => by rw [hc25.trans (not_t (by with_reducible assumption))] at h; exact Bool.noConfusion h.1)]; rfl)
          )
      · first
        | (exact absurd hc (by decide))
        | (have hp := pow_lt10 hj
           refine awp_skip ?_
           refine seqQ_n ?_
           refine awp_region ?_
           refine aops_p (ap_move rfl) rfl rfl rfl ?_
           refine aops_p (ap_move rfl) rfl rfl rfl ?_
           refine aops_p (ap_shl (p := 1) rfl rfl rfl (by omega) (by omega)) rfl rfl rfl ?_
           refine aops_p (ap_bits rfl rfl rfl (by omega) (by omega)) rfl rfl rfl ?_
           refine aops_p (ap_assign rfl) rfl rfl rfl ?_
           refine aops_nil ?_
           refine blockQ_n ?_
           refine seqQ_n ?_
           refine awp_region ?_
           refine aops_p (ap_arith rfl rfl rfl (by omega)) rfl rfl rfl ?_
           refine aops_p (ap_move rfl) rfl rfl rfl ?_
           refine aops_nil ?_
           refine seqQ_n ?_
           rw [check_step ⟨hc25.trans (not_f (by with_reducible assumption)), by rw [tOf_get hm]; exact hc31.trans hc⟩, Int.toNat_natCast] at hI
           refine ⟨k + 1, clr s j, ⟨by omega, Nat.lt_of_le_of_lt (clr_le s j) hs, hin.clr, hI⟩, by omega, ?_⟩
           unfold clr; rw [Nat.one_mul]
           exact (wk (by repeat (first | exact .nil | refine .cons rfl ?_)) (by repeat (first | exact .nil | refine .cons (by first | exact .here | exact .there .here | exact .there (.there .here) | exact .there (.there (.there .here)) | exact .there (.there (.there (.there .here)))) ?_)))
          )
      )
  · have hge := of_decide_eq_false hc
    rw [drop_nil (by omega)] at hI
    refine awp_exit ?_
    refine seqQ_x ?_
    refine seqQ_x ?_
    refine blockQ_x rfl ?_
    refine seqQ_n ?_
    refine awp_seq ?_
    refine awp_seq ?_
    refine awp_region ?_
    refine aops_p (ap_move rfl) rfl rfl rfl ?_
    refine aops_p (ap_cmp rfl rfl rfl) rfl rfl rfl ?_
    refine aops_p (ap_move rfl) rfl rfl rfl ?_
    all_goals (first | (refine aops_yes rfl rfl rfl rfl (by first | with_reducible assumption | with_reducible exact rfl | decide | (refine decide_eq_true ?_; omega) | (refine decide_eq_false ?_; omega)) ?_; (first | refine aops_q (aq_load rfl (by first | exact .here | exact .there .here | exact .there (.there .here) | exact .there (.there (.there .here)) | exact .there (.there (.there (.there .here))) | exact .there (.there (.there (.there (.there .here))))) List.not_mem_nil rfl rfl (by repeat constructor)) rfl rfl rfl ?_ | refine aops_q (aq_load_el rfl rfl rfl rfl (fun _ h => absurd h List.not_mem_nil)) rfl rfl rfl ?_)) | refine aops_no_u rfl rfl rfl ?_ | refine aops_no_t rfl rfl rfl rfl (by first | with_reducible assumption | with_reducible exact rfl | decide | (refine decide_eq_true ?_; omega) | (refine decide_eq_false ?_; omega)) ?_ | (refine aops_guard_t rfl rfl rfl rfl (fun hg => ?_) (fun hg => ?_); case' _ => (first | refine aops_q (aq_load rfl (by first | exact .here | exact .there .here | exact .there (.there .here) | exact .there (.there (.there .here)) | exact .there (.there (.there (.there .here))) | exact .there (.there (.there (.there (.there .here))))) List.not_mem_nil rfl rfl (by repeat constructor)) rfl rfl rfl ?_ | refine aops_q (aq_load_el rfl rfl rfl rfl (fun _ h => absurd h List.not_mem_nil)) rfl rfl rfl ?_)))
    all_goals (first | (refine aops_yes rfl rfl rfl rfl (by first | with_reducible assumption | with_reducible exact rfl | decide | (refine decide_eq_true ?_; omega) | (refine decide_eq_false ?_; omega)) ?_; (refine aops_p (ap_move rfl) rfl rfl rfl ?_)) | refine aops_no_u rfl rfl rfl ?_ | refine aops_no_t rfl rfl rfl rfl (by first | with_reducible assumption | with_reducible exact rfl | decide | (refine decide_eq_true ?_; omega) | (refine decide_eq_false ?_; omega)) ?_ | (refine aops_guard_t rfl rfl rfl rfl (fun hg => ?_) (fun hg => ?_); case' _ => (refine aops_p (ap_move rfl) rfl rfl rfl ?_)))
    all_goals (first | (refine aops_yes rfl rfl rfl rfl (by first | with_reducible assumption | with_reducible exact rfl | decide | (refine decide_eq_true ?_; omega) | (refine decide_eq_false ?_; omega)) ?_; (refine aops_call_b (by repeat constructor) (quorum_con c s hs) rfl rfl (fun c43 hc43 => ?_))) | refine aops_no_u rfl rfl rfl ?_ | refine aops_no_t rfl rfl rfl rfl (by first | with_reducible assumption | with_reducible exact rfl | decide | (refine decide_eq_true ?_; omega) | (refine decide_eq_false ?_; omega)) ?_ | (refine aops_guard_t rfl rfl rfl rfl (fun hg => ?_) (fun hg => ?_); case' _ => (refine aops_call_b (by repeat constructor) (quorum_con c s hs) rfl rfl (fun c43 hc43 => ?_))))
    all_goals (first | (refine aops_yes rfl rfl rfl rfl (by first | with_reducible assumption | with_reducible exact rfl | decide | (refine decide_eq_true ?_; omega) | (refine decide_eq_false ?_; omega)) ?_; (refine aops_p (ap_not rfl) rfl rfl rfl ?_)) | refine aops_no_u rfl rfl rfl ?_ | refine aops_no_t rfl rfl rfl rfl (by first | with_reducible assumption | with_reducible exact rfl | decide | (refine decide_eq_true ?_; omega) | (refine decide_eq_false ?_; omega)) ?_ | (refine aops_guard_t rfl rfl rfl rfl (fun hg => ?_) (fun hg => ?_); case' _ => (refine aops_p (ap_not rfl) rfl rfl rfl ?_)))
    all_goals (first | refine aops_p (ap_pick_true rfl (by first | with_reducible assumption | with_reducible exact rfl | decide | (refine decide_eq_true ?_; omega) | (refine decide_eq_false ?_; omega)) rfl) rfl rfl rfl ?_ | refine aops_p (ap_pick_false rfl (by first | with_reducible assumption | with_reducible exact rfl | decide | (refine decide_eq_true ?_; omega) | (refine decide_eq_false ?_; omega)) rfl) rfl rfl rfl ?_)
    all_goals (
      refine aops_nil ?_
      refine seqQ_n ?_
      refine awp_cond rfl (fun hc => ?_) (fun hc => ?_)
      · first
        | (exact absurd hc (by decide))
        | (refine awp_seq ?_
           refine awp_region ?_
           refine aops_p (ap_assign rfl) rfl rfl rfl ?_
           refine aops_p (ap_assign rfl) rfl rfl rfl ?_
           refine aops_nil ?_
           refine seqQ_n ?_
           refine awp_ret ?_
           refine seqQ_r ?_
           refine post_is (.tmp rfl (.tmp rfl .nil)) (by repeat (first | exact .nil | refine .cons (by first | exact .here | exact .there .here | exact .there (.there .here) | exact .there (.there (.there .here)) | exact .there (.there (.there (.there .here)))) ?_)) ?_
           rw [← hI, check_end1 (not_t (by with_reducible assumption)) (hc43.trans (not_t hc))]; rfl
          )
      · first
        | (exact absurd hc (by decide))
        | (refine awp_skip ?_
           refine seqQ_n ?_
           refine awp_seq ?_
           refine awp_region ?_
           refine aops_p (ap_move rfl) rfl rfl rfl ?_
           refine aops_p (ap_assign rfl) rfl rfl rfl ?_
           refine aops_p (ap_assign rfl) rfl rfl rfl ?_
           refine aops_nil ?_
           refine seqQ_n ?_
           refine awp_ret ?_
           refine post_is (.tmp rfl (.tmp rfl .nil)) (by repeat (first | exact .nil | refine .cons (by first | exact .here | exact .there .here | exact .there (.there .here) | exact .there (.there (.there .here)) | exact .there (.there (.there (.there .here)))) ?_)) ?_
           first | (rw [← hI, check_end3 (hc43.trans (not_f hc))]; rfl) | (rw [← hI, check_end2 (not_f (by with_reducible assumption))]; rfl)
          )
      )


theorem p0 : Con Try.prog 38 [cv c3, .i 3] [] (Is (.b true) []) := by
  have h := quorum_con c3 3 (by omega)
  rwa [show quorumC c3 3 = true from by kernel_rfl] at h
theorem p1 : Con Try.prog 40 [cv c3, .i 7] [] (Is (.i 7) []) := by
  have h := great_con c3 7
  rwa [show (great c3 7 : Int) = 7 from by kernel_rfl] at h
theorem p2 : Con Try.prog 40 [cv c3, .i 1] [] (Is (.i 0) []) := by
  have h := great_con c3 1
  rwa [show (great c3 1 : Int) = 0 from by kernel_rfl] at h
theorem p3 : Con Try.prog 45 [cv c3, .i 1, .sl 1 [.i 0]] [] (Is (.tup [.i 0, .i 0]) []) := by
  have h := check_con c3 1 (by omega) [0]
  rwa [show checkGo c3 (1 &&& declC c3) [0] = (0, 0) from by kernel_rfl] at h
theorem p4 : Con Try.prog 43 [cv c3, .i 1] [] (Is (.sl 1 [.i 0]) []) := by
  have h := elimination_con c3 1
  rwa [show gOrder c3 1 = [0] from by kernel_rfl] at h
theorem p5 : Con Try.prog 42 [.sl 1 [.i 0], .sl 1 [.i 0]] [] (Is (.b true) []) := by
  have h := ints_con [0] [0]
  rwa [show decide (([0] : List Int) = [0]) = true from by kernel_rfl] at h
theorem awake09_con : Con Try.prog 35 [] [] (Is (.b true) []) := by
  have hcap : capB = 140737488355328 := rfl
  refine con_intro Try.func35 rfl Try.call35 rfl ?_
  refine awp_seq ?_
  refine awp_region ?_
  refine aops_p (ap_assign rfl) rfl rfl rfl ?_
  refine aops_nil ?_
  refine seqQ_n ?_
  refine awp_seq ?_
  refine awp_region ?_
  refine aops_call_v (by repeat constructor) (three_con) rfl rfl ?_
  refine aops_lit (e := 3) (sz := 1) (by_ := 8) rfl rfl (by repeat constructor) rfl rfl rfl rfl ?_
  refine aops_call_v (by repeat constructor) (p3) rfl rfl ?_
  refine aops_p (ap_move rfl) rfl rfl rfl ?_
  refine aops_p (ap_extract rfl rfl) rfl rfl rfl ?_
  refine aops_p (ap_extract rfl rfl) rfl rfl rfl ?_
  refine aops_p (ap_assign rfl) rfl rfl rfl ?_
  refine aops_p (ap_assign rfl) rfl rfl rfl ?_
  refine aops_nil ?_
  refine seqQ_n ?_
  refine awp_seq ?_
  refine awp_region ?_
  refine aops_call_v (by repeat constructor) (three_con) rfl rfl ?_
  refine aops_call_v (by repeat constructor) (p0) rfl rfl ?_
  refine aops_p (ap_move rfl) rfl rfl rfl ?_
  all_goals (first | (refine aops_yes rfl rfl rfl rfl (by first | with_reducible assumption | with_reducible exact rfl | decide | (refine decide_eq_true ?_; omega) | (refine decide_eq_false ?_; omega)) ?_; (refine aops_call_v (by repeat constructor) (three_con) rfl rfl ?_)) | refine aops_no_u rfl rfl rfl ?_ | refine aops_no_t rfl rfl rfl rfl (by first | with_reducible assumption | with_reducible exact rfl | decide | (refine decide_eq_true ?_; omega) | (refine decide_eq_false ?_; omega)) ?_ | (refine aops_guard_t rfl rfl rfl rfl (fun hg => ?_) (fun hg => ?_); case' _ => (refine aops_call_v (by repeat constructor) (three_con) rfl rfl ?_)))
  all_goals (first | (refine aops_yes rfl rfl rfl rfl (by first | with_reducible assumption | with_reducible exact rfl | decide | (refine decide_eq_true ?_; omega) | (refine decide_eq_false ?_; omega)) ?_; (refine aops_call_v (by repeat constructor) (p1) rfl rfl ?_)) | refine aops_no_u rfl rfl rfl ?_ | refine aops_no_t rfl rfl rfl rfl (by first | with_reducible assumption | with_reducible exact rfl | decide | (refine decide_eq_true ?_; omega) | (refine decide_eq_false ?_; omega)) ?_ | (refine aops_guard_t rfl rfl rfl rfl (fun hg => ?_) (fun hg => ?_); case' _ => (refine aops_call_v (by repeat constructor) (p1) rfl rfl ?_)))
  all_goals (first | (refine aops_yes rfl rfl rfl rfl (by first | with_reducible assumption | with_reducible exact rfl | decide | (refine decide_eq_true ?_; omega) | (refine decide_eq_false ?_; omega)) ?_; (refine aops_p (ap_cmp rfl rfl rfl) rfl rfl rfl ?_)) | refine aops_no_u rfl rfl rfl ?_ | refine aops_no_t rfl rfl rfl rfl (by first | with_reducible assumption | with_reducible exact rfl | decide | (refine decide_eq_true ?_; omega) | (refine decide_eq_false ?_; omega)) ?_ | (refine aops_guard_t rfl rfl rfl rfl (fun hg => ?_) (fun hg => ?_); case' _ => (refine aops_p (ap_cmp rfl rfl rfl) rfl rfl rfl ?_)))
  all_goals (first | refine aops_p (ap_pick_true rfl (by first | with_reducible assumption | with_reducible exact rfl | decide | (refine decide_eq_true ?_; omega) | (refine decide_eq_false ?_; omega)) rfl) rfl rfl rfl ?_ | refine aops_p (ap_pick_false rfl (by first | with_reducible assumption | with_reducible exact rfl | decide | (refine decide_eq_true ?_; omega) | (refine decide_eq_false ?_; omega)) rfl) rfl rfl rfl ?_)
  all_goals (refine aops_p (ap_move rfl) rfl rfl rfl ?_)
  all_goals (first | (refine aops_yes rfl rfl rfl rfl (by first | with_reducible assumption | with_reducible exact rfl | decide | (refine decide_eq_true ?_; omega) | (refine decide_eq_false ?_; omega)) ?_; (refine aops_call_v (by repeat constructor) (three_con) rfl rfl ?_)) | refine aops_no_u rfl rfl rfl ?_ | refine aops_no_t rfl rfl rfl rfl (by first | with_reducible assumption | with_reducible exact rfl | decide | (refine decide_eq_true ?_; omega) | (refine decide_eq_false ?_; omega)) ?_ | (refine aops_guard_t rfl rfl rfl rfl (fun hg => ?_) (fun hg => ?_); case' _ => (refine aops_call_v (by repeat constructor) (three_con) rfl rfl ?_)))
  all_goals (first | (refine aops_yes rfl rfl rfl rfl (by first | with_reducible assumption | with_reducible exact rfl | decide | (refine decide_eq_true ?_; omega) | (refine decide_eq_false ?_; omega)) ?_; (refine aops_call_v (by repeat constructor) (p2) rfl rfl ?_)) | refine aops_no_u rfl rfl rfl ?_ | refine aops_no_t rfl rfl rfl rfl (by first | with_reducible assumption | with_reducible exact rfl | decide | (refine decide_eq_true ?_; omega) | (refine decide_eq_false ?_; omega)) ?_ | (refine aops_guard_t rfl rfl rfl rfl (fun hg => ?_) (fun hg => ?_); case' _ => (refine aops_call_v (by repeat constructor) (p2) rfl rfl ?_)))
  all_goals (first | (refine aops_yes rfl rfl rfl rfl (by first | with_reducible assumption | with_reducible exact rfl | decide | (refine decide_eq_true ?_; omega) | (refine decide_eq_false ?_; omega)) ?_; (refine aops_p (ap_cmp rfl rfl rfl) rfl rfl rfl ?_)) | refine aops_no_u rfl rfl rfl ?_ | refine aops_no_t rfl rfl rfl rfl (by first | with_reducible assumption | with_reducible exact rfl | decide | (refine decide_eq_true ?_; omega) | (refine decide_eq_false ?_; omega)) ?_ | (refine aops_guard_t rfl rfl rfl rfl (fun hg => ?_) (fun hg => ?_); case' _ => (refine aops_p (ap_cmp rfl rfl rfl) rfl rfl rfl ?_)))
  all_goals (first | refine aops_p (ap_pick_true rfl (by first | with_reducible assumption | with_reducible exact rfl | decide | (refine decide_eq_true ?_; omega) | (refine decide_eq_false ?_; omega)) rfl) rfl rfl rfl ?_ | refine aops_p (ap_pick_false rfl (by first | with_reducible assumption | with_reducible exact rfl | decide | (refine decide_eq_true ?_; omega) | (refine decide_eq_false ?_; omega)) rfl) rfl rfl rfl ?_)
  all_goals (refine aops_p (ap_move rfl) rfl rfl rfl ?_)
  all_goals (first | (refine aops_yes rfl rfl rfl rfl (by first | with_reducible assumption | with_reducible exact rfl | decide | (refine decide_eq_true ?_; omega) | (refine decide_eq_false ?_; omega)) ?_; (refine aops_call_v (by repeat constructor) (three_con) rfl rfl ?_)) | refine aops_no_u rfl rfl rfl ?_ | refine aops_no_t rfl rfl rfl rfl (by first | with_reducible assumption | with_reducible exact rfl | decide | (refine decide_eq_true ?_; omega) | (refine decide_eq_false ?_; omega)) ?_ | (refine aops_guard_t rfl rfl rfl rfl (fun hg => ?_) (fun hg => ?_); case' _ => (refine aops_call_v (by repeat constructor) (three_con) rfl rfl ?_)))
  all_goals (first | (refine aops_yes rfl rfl rfl rfl (by first | with_reducible assumption | with_reducible exact rfl | decide | (refine decide_eq_true ?_; omega) | (refine decide_eq_false ?_; omega)) ?_; (refine aops_call_v (by repeat constructor) (p4) rfl rfl ?_)) | refine aops_no_u rfl rfl rfl ?_ | refine aops_no_t rfl rfl rfl rfl (by first | with_reducible assumption | with_reducible exact rfl | decide | (refine decide_eq_true ?_; omega) | (refine decide_eq_false ?_; omega)) ?_ | (refine aops_guard_t rfl rfl rfl rfl (fun hg => ?_) (fun hg => ?_); case' _ => (refine aops_call_v (by repeat constructor) (p4) rfl rfl ?_)))
  all_goals (first | (refine aops_yes rfl rfl rfl rfl (by first | with_reducible assumption | with_reducible exact rfl | decide | (refine decide_eq_true ?_; omega) | (refine decide_eq_false ?_; omega)) ?_; (refine aops_lit (e := 3) (sz := 1) (by_ := 8) rfl rfl (by repeat constructor) rfl rfl rfl rfl ?_)) | refine aops_no_u rfl rfl rfl ?_ | refine aops_no_t rfl rfl rfl rfl (by first | with_reducible assumption | with_reducible exact rfl | decide | (refine decide_eq_true ?_; omega) | (refine decide_eq_false ?_; omega)) ?_ | (refine aops_guard_t rfl rfl rfl rfl (fun hg => ?_) (fun hg => ?_); case' _ => (refine aops_lit (e := 3) (sz := 1) (by_ := 8) rfl rfl (by repeat constructor) rfl rfl rfl rfl ?_)))
  all_goals (first | (refine aops_yes rfl rfl rfl rfl (by first | with_reducible assumption | with_reducible exact rfl | decide | (refine decide_eq_true ?_; omega) | (refine decide_eq_false ?_; omega)) ?_; (refine aops_call_v (by repeat constructor) (p5) rfl rfl ?_)) | refine aops_no_u rfl rfl rfl ?_ | refine aops_no_t rfl rfl rfl rfl (by first | with_reducible assumption | with_reducible exact rfl | decide | (refine decide_eq_true ?_; omega) | (refine decide_eq_false ?_; omega)) ?_ | (refine aops_guard_t rfl rfl rfl rfl (fun hg => ?_) (fun hg => ?_); case' _ => (refine aops_call_v (by repeat constructor) (p5) rfl rfl ?_)))
  all_goals (first | refine aops_p (ap_pick_true rfl (by first | with_reducible assumption | with_reducible exact rfl | decide | (refine decide_eq_true ?_; omega) | (refine decide_eq_false ?_; omega)) rfl) rfl rfl rfl ?_ | refine aops_p (ap_pick_false rfl (by first | with_reducible assumption | with_reducible exact rfl | decide | (refine decide_eq_true ?_; omega) | (refine decide_eq_false ?_; omega)) rfl) rfl rfl rfl ?_)
  all_goals (refine aops_p (ap_move rfl) rfl rfl rfl ?_)
  all_goals (first | (refine aops_yes rfl rfl rfl rfl (by first | with_reducible assumption | with_reducible exact rfl | decide | (refine decide_eq_true ?_; omega) | (refine decide_eq_false ?_; omega)) ?_; (refine aops_p (ap_move rfl) rfl rfl rfl ?_)) | refine aops_no_u rfl rfl rfl ?_ | refine aops_no_t rfl rfl rfl rfl (by first | with_reducible assumption | with_reducible exact rfl | decide | (refine decide_eq_true ?_; omega) | (refine decide_eq_false ?_; omega)) ?_ | (refine aops_guard_t rfl rfl rfl rfl (fun hg => ?_) (fun hg => ?_); case' _ => (refine aops_p (ap_move rfl) rfl rfl rfl ?_)))
  all_goals (first | (refine aops_yes rfl rfl rfl rfl (by first | with_reducible assumption | with_reducible exact rfl | decide | (refine decide_eq_true ?_; omega) | (refine decide_eq_false ?_; omega)) ?_; (refine aops_p (ap_cmp rfl rfl rfl) rfl rfl rfl ?_)) | refine aops_no_u rfl rfl rfl ?_ | refine aops_no_t rfl rfl rfl rfl (by first | with_reducible assumption | with_reducible exact rfl | decide | (refine decide_eq_true ?_; omega) | (refine decide_eq_false ?_; omega)) ?_ | (refine aops_guard_t rfl rfl rfl rfl (fun hg => ?_) (fun hg => ?_); case' _ => (refine aops_p (ap_cmp rfl rfl rfl) rfl rfl rfl ?_)))
  all_goals (first | refine aops_p (ap_pick_true rfl (by first | with_reducible assumption | with_reducible exact rfl | decide | (refine decide_eq_true ?_; omega) | (refine decide_eq_false ?_; omega)) rfl) rfl rfl rfl ?_ | refine aops_p (ap_pick_false rfl (by first | with_reducible assumption | with_reducible exact rfl | decide | (refine decide_eq_true ?_; omega) | (refine decide_eq_false ?_; omega)) rfl) rfl rfl rfl ?_)
  all_goals (refine aops_p (ap_move rfl) rfl rfl rfl ?_)
  all_goals (first | (refine aops_yes rfl rfl rfl rfl (by first | with_reducible assumption | with_reducible exact rfl | decide | (refine decide_eq_true ?_; omega) | (refine decide_eq_false ?_; omega)) ?_; (refine aops_p (ap_move rfl) rfl rfl rfl ?_)) | refine aops_no_u rfl rfl rfl ?_ | refine aops_no_t rfl rfl rfl rfl (by first | with_reducible assumption | with_reducible exact rfl | decide | (refine decide_eq_true ?_; omega) | (refine decide_eq_false ?_; omega)) ?_ | (refine aops_guard_t rfl rfl rfl rfl (fun hg => ?_) (fun hg => ?_); case' _ => (refine aops_p (ap_move rfl) rfl rfl rfl ?_)))
  all_goals (first | (refine aops_yes rfl rfl rfl rfl (by first | with_reducible assumption | with_reducible exact rfl | decide | (refine decide_eq_true ?_; omega) | (refine decide_eq_false ?_; omega)) ?_; (refine aops_p (ap_cmp rfl rfl rfl) rfl rfl rfl ?_)) | refine aops_no_u rfl rfl rfl ?_ | refine aops_no_t rfl rfl rfl rfl (by first | with_reducible assumption | with_reducible exact rfl | decide | (refine decide_eq_true ?_; omega) | (refine decide_eq_false ?_; omega)) ?_ | (refine aops_guard_t rfl rfl rfl rfl (fun hg => ?_) (fun hg => ?_); case' _ => (refine aops_p (ap_cmp rfl rfl rfl) rfl rfl rfl ?_)))
  all_goals (first | refine aops_p (ap_pick_true rfl (by first | with_reducible assumption | with_reducible exact rfl | decide | (refine decide_eq_true ?_; omega) | (refine decide_eq_false ?_; omega)) rfl) rfl rfl rfl ?_ | refine aops_p (ap_pick_false rfl (by first | with_reducible assumption | with_reducible exact rfl | decide | (refine decide_eq_true ?_; omega) | (refine decide_eq_false ?_; omega)) rfl) rfl rfl rfl ?_)
  all_goals (refine aops_p (ap_assign rfl) rfl rfl rfl ?_)
  all_goals (
    refine aops_nil ?_
    refine seqQ_n ?_
    refine awp_ret ?_
    refine post_is (.tmp rfl .nil) (by repeat (first | exact .nil | refine .cons (by first | exact .here | exact .there .here | exact .there (.there .here) | exact .there (.there (.there .here)) | exact .there (.there (.there (.there .here)))) ?_)) ?_; rfl
    )

end Go.Proofs.Yteogidjgmeemlaa
