/- The walks of: awake2_con, Nodes_con, content_con, decl_con, unh_con, elimin_con, great_con, blocks_con, accepts_con, of_con, indexF_con, containsF_con, lev1_con. Each says what one function of the program answers, for the arguments that its statement names. No condition beyond what each theorem says. -/
import Derived.Test.YteogidjgmeemlaaThresholdOrderW3
import Derived.Test.YteogidjgmeemlaaProg
import Derived.KernelRfl
import Derived.Tactics
import Derived.Tactics2
import Derived.StillTactics
set_option linter.unusedVariables false
set_option linter.unusedSimpArgs false
set_option linter.unnecessarySimpa false
set_option maxRecDepth 4000
namespace Go.Proofs.Yteogidjgmeemlaa
open Go Go.Av Go.Tq
theorem awake2_con : Con Try.prog 57 [] [] (Is (.b true) []) := by
  have hcap : capB = 140737488355328 := rfl
  refine con_intro Try.func57 rfl Try.call57 rfl ?_
  refine awp_seq ?_
  refine awp_region ?_
  refine aops_p (ap_assign rfl) rfl rfl rfl ?_
  refine aops_nil ?_
  refine seqQ_n ?_
  refine awp_seq ?_
  refine awp_region ?_
  refine aops_lit (e := 3) (sz := 1) (by_ := 8) rfl rfl (by repeat constructor) rfl rfl rfl rfl ?_
  refine aops_lit (e := 3) (sz := 1) (by_ := 8) rfl rfl (by repeat constructor) rfl rfl rfl rfl ?_
  refine aops_p (ap_build (by kernel_rfl) rfl (by repeat constructor) (by repeat (first | exact .nil | apply FillL.cons rfl (by first | exact .agg | exact .sl | exact .v rfl | exact .v (by assumption)) rfl (by repeat constructor)))) rfl rfl rfl ?_
  refine aops_unnil [3,5] 3 rfl rfl (by repeat (first | exact .nil | apply SelC.cons rfl (by first | exact Cv.fz | (apply Cv.agg; repeat (first | exact CvL.nil | apply CvL.cons (by first | exact Cv.fz | exact Cv.same))) | exact Cv.same))) (by repeat (first | exact .nil | apply HeapA.box (by repeat (first | exact CvL.nil | apply CvL.cons (by first | exact Cv.fz | exact Cv.same))) | apply HeapA.arr)) ?_; refine aops_lit (e := 48) (sz := 3) (by_ := 56) rfl rfl (by repeat constructor) rfl rfl rfl rfl ?_
  refine aops_p (ap_build (by kernel_rfl) rfl (by repeat constructor) (by repeat (first | exact .nil | apply FillL.cons rfl (by first | exact .agg | exact .sl | exact .v rfl | exact .v (by assumption)) rfl (by repeat constructor)))) rfl rfl rfl ?_
  refine aops_alloc rfl (by repeat constructor) rfl rfl (fun b1 => ?_)
  first | refine aops_store rfl rfl (by first | exact .agg | exact .sl | exact .v rfl | exact .v (by assumption)) (by repeat (first | exact .here | apply UpdF.there)) rfl (by repeat constructor) ?_ | refine aops_store_own1 rfl rfl (by first | exact .sl | exact .v rfl | exact .v (by assumption)) (by repeat (first | exact .here | apply UpdF.there)) rfl (by simp only [List.length_set, List.length_map]; omega) ?_
  refine aops_nil ?_
  refine seqQ_n ?_
  refine awp_seq ?_
  refine awp_region ?_
  first | refine aops_q (aq_load rfl (by repeat (first | exact .here | apply UpdF.there)) List.not_mem_nil rfl rfl (by repeat constructor)) rfl rfl rfl ?_ | refine aops_q (aq_load_el rfl rfl rfl rfl (fun _ h => absurd h List.not_mem_nil)) rfl rfl rfl ?_
  refine aops_call_v (by repeat constructor) (k5) rfl rfl ?_
  refine aops_alloc rfl (by repeat constructor) rfl rfl (fun b2 => ?_)
  first | refine aops_store rfl rfl (by first | exact .agg | exact .sl | exact .v rfl | exact .v (by assumption)) (by repeat (first | exact .here | apply UpdF.there)) rfl (by repeat constructor) ?_ | refine aops_store_own1 rfl rfl (by first | exact .sl | exact .v rfl | exact .v (by assumption)) (by repeat (first | exact .here | apply UpdF.there)) rfl (by simp only [List.length_set, List.length_map]; omega) ?_
  refine aops_nil ?_
  refine seqQ_n ?_
  refine awp_seq ?_
  refine awp_region ?_
  first | refine aops_q (aq_load rfl (by repeat (first | exact .here | apply UpdF.there)) List.not_mem_nil rfl rfl (by repeat constructor)) rfl rfl rfl ?_ | refine aops_q (aq_load_el rfl rfl rfl rfl (fun _ h => absurd h List.not_mem_nil)) rfl rfl rfl ?_
  refine aops_call_v (by repeat constructor) (k0) rfl rfl ?_
  refine aops_p (ap_move rfl) rfl rfl rfl ?_
  all_goals (first | (refine aops_yes rfl rfl rfl rfl (by first | with_reducible assumption | with_reducible exact rfl | decide | (refine decide_eq_true ?_; omega) | (refine decide_eq_false ?_; omega)) ?_; (first | refine aops_q (aq_load rfl (by repeat (first | exact .here | apply UpdF.there)) List.not_mem_nil rfl rfl (by repeat constructor)) rfl rfl rfl ?_ | refine aops_q (aq_load_el rfl rfl rfl rfl (fun _ h => absurd h List.not_mem_nil)) rfl rfl rfl ?_)) | refine aops_no_u rfl rfl rfl ?_ | refine aops_no_t rfl rfl rfl rfl (by first | with_reducible assumption | with_reducible exact rfl | decide | (refine decide_eq_true ?_; omega) | (refine decide_eq_false ?_; omega)) ?_ | (refine aops_guard_t rfl rfl rfl rfl (fun hg => ?_) (fun hg => ?_); case' _ => (first | refine aops_q (aq_load rfl (by repeat (first | exact .here | apply UpdF.there)) List.not_mem_nil rfl rfl (by repeat constructor)) rfl rfl rfl ?_ | refine aops_q (aq_load_el rfl rfl rfl rfl (fun _ h => absurd h List.not_mem_nil)) rfl rfl rfl ?_)))
  all_goals (first | (refine aops_yes rfl rfl rfl rfl (by first | with_reducible assumption | with_reducible exact rfl | decide | (refine decide_eq_true ?_; omega) | (refine decide_eq_false ?_; omega)) ?_; (refine aops_call_v (by repeat constructor) (k1) rfl rfl ?_)) | refine aops_no_u rfl rfl rfl ?_ | refine aops_no_t rfl rfl rfl rfl (by first | with_reducible assumption | with_reducible exact rfl | decide | (refine decide_eq_true ?_; omega) | (refine decide_eq_false ?_; omega)) ?_ | (refine aops_guard_t rfl rfl rfl rfl (fun hg => ?_) (fun hg => ?_); case' _ => (refine aops_call_v (by repeat constructor) (k1) rfl rfl ?_)))
  all_goals (first | (refine aops_yes rfl rfl rfl rfl (by first | with_reducible assumption | with_reducible exact rfl | decide | (refine decide_eq_true ?_; omega) | (refine decide_eq_false ?_; omega)) ?_; (refine aops_p (ap_not rfl) rfl rfl rfl ?_)) | refine aops_no_u rfl rfl rfl ?_ | refine aops_no_t rfl rfl rfl rfl (by first | with_reducible assumption | with_reducible exact rfl | decide | (refine decide_eq_true ?_; omega) | (refine decide_eq_false ?_; omega)) ?_ | (refine aops_guard_t rfl rfl rfl rfl (fun hg => ?_) (fun hg => ?_); case' _ => (refine aops_p (ap_not rfl) rfl rfl rfl ?_)))
  all_goals (first | refine aops_p (ap_pick_true rfl (by first | with_reducible assumption | with_reducible exact rfl | decide | (refine decide_eq_true ?_; omega) | (refine decide_eq_false ?_; omega)) rfl) rfl rfl rfl ?_ | refine aops_p (ap_pick_false rfl (by first | with_reducible assumption | with_reducible exact rfl | decide | (refine decide_eq_true ?_; omega) | (refine decide_eq_false ?_; omega)) rfl) rfl rfl rfl ?_)
  all_goals (refine aops_p (ap_move rfl) rfl rfl rfl ?_)
  all_goals (first | (refine aops_yes rfl rfl rfl rfl (by first | with_reducible assumption | with_reducible exact rfl | decide | (refine decide_eq_true ?_; omega) | (refine decide_eq_false ?_; omega)) ?_; (first | refine aops_q (aq_load rfl (by repeat (first | exact .here | apply UpdF.there)) List.not_mem_nil rfl rfl (by repeat constructor)) rfl rfl rfl ?_ | refine aops_q (aq_load_el rfl rfl rfl rfl (fun _ h => absurd h List.not_mem_nil)) rfl rfl rfl ?_)) | refine aops_no_u rfl rfl rfl ?_ | refine aops_no_t rfl rfl rfl rfl (by first | with_reducible assumption | with_reducible exact rfl | decide | (refine decide_eq_true ?_; omega) | (refine decide_eq_false ?_; omega)) ?_ | (refine aops_guard_t rfl rfl rfl rfl (fun hg => ?_) (fun hg => ?_); case' _ => (first | refine aops_q (aq_load rfl (by repeat (first | exact .here | apply UpdF.there)) List.not_mem_nil rfl rfl (by repeat constructor)) rfl rfl rfl ?_ | refine aops_q (aq_load_el rfl rfl rfl rfl (fun _ h => absurd h List.not_mem_nil)) rfl rfl rfl ?_)))
  all_goals (first | (refine aops_yes rfl rfl rfl rfl (by first | with_reducible assumption | with_reducible exact rfl | decide | (refine decide_eq_true ?_; omega) | (refine decide_eq_false ?_; omega)) ?_; (refine aops_call_v (by repeat constructor) (k2) rfl rfl ?_)) | refine aops_no_u rfl rfl rfl ?_ | refine aops_no_t rfl rfl rfl rfl (by first | with_reducible assumption | with_reducible exact rfl | decide | (refine decide_eq_true ?_; omega) | (refine decide_eq_false ?_; omega)) ?_ | (refine aops_guard_t rfl rfl rfl rfl (fun hg => ?_) (fun hg => ?_); case' _ => (refine aops_call_v (by repeat constructor) (k2) rfl rfl ?_)))
  all_goals (first | refine aops_p (ap_pick_true rfl (by first | with_reducible assumption | with_reducible exact rfl | decide | (refine decide_eq_true ?_; omega) | (refine decide_eq_false ?_; omega)) rfl) rfl rfl rfl ?_ | refine aops_p (ap_pick_false rfl (by first | with_reducible assumption | with_reducible exact rfl | decide | (refine decide_eq_true ?_; omega) | (refine decide_eq_false ?_; omega)) rfl) rfl rfl rfl ?_)
  all_goals (refine aops_p (ap_move rfl) rfl rfl rfl ?_)
  all_goals (first | (refine aops_yes rfl rfl rfl rfl (by first | with_reducible assumption | with_reducible exact rfl | decide | (refine decide_eq_true ?_; omega) | (refine decide_eq_false ?_; omega)) ?_; (first | refine aops_q (aq_load rfl (by repeat (first | exact .here | apply UpdF.there)) List.not_mem_nil rfl rfl (by repeat constructor)) rfl rfl rfl ?_ | refine aops_q (aq_load_el rfl rfl rfl rfl (fun _ h => absurd h List.not_mem_nil)) rfl rfl rfl ?_)) | refine aops_no_u rfl rfl rfl ?_ | refine aops_no_t rfl rfl rfl rfl (by first | with_reducible assumption | with_reducible exact rfl | decide | (refine decide_eq_true ?_; omega) | (refine decide_eq_false ?_; omega)) ?_ | (refine aops_guard_t rfl rfl rfl rfl (fun hg => ?_) (fun hg => ?_); case' _ => (first | refine aops_q (aq_load rfl (by repeat (first | exact .here | apply UpdF.there)) List.not_mem_nil rfl rfl (by repeat constructor)) rfl rfl rfl ?_ | refine aops_q (aq_load_el rfl rfl rfl rfl (fun _ h => absurd h List.not_mem_nil)) rfl rfl rfl ?_)))
  all_goals (first | (refine aops_yes rfl rfl rfl rfl (by first | with_reducible assumption | with_reducible exact rfl | decide | (refine decide_eq_true ?_; omega) | (refine decide_eq_false ?_; omega)) ?_; (refine aops_call_v (by repeat constructor) (k3) rfl rfl ?_)) | refine aops_no_u rfl rfl rfl ?_ | refine aops_no_t rfl rfl rfl rfl (by first | with_reducible assumption | with_reducible exact rfl | decide | (refine decide_eq_true ?_; omega) | (refine decide_eq_false ?_; omega)) ?_ | (refine aops_guard_t rfl rfl rfl rfl (fun hg => ?_) (fun hg => ?_); case' _ => (refine aops_call_v (by repeat constructor) (k3) rfl rfl ?_)))
  all_goals (first | (refine aops_yes rfl rfl rfl rfl (by first | with_reducible assumption | with_reducible exact rfl | decide | (refine decide_eq_true ?_; omega) | (refine decide_eq_false ?_; omega)) ?_; (refine aops_p (ap_not rfl) rfl rfl rfl ?_)) | refine aops_no_u rfl rfl rfl ?_ | refine aops_no_t rfl rfl rfl rfl (by first | with_reducible assumption | with_reducible exact rfl | decide | (refine decide_eq_true ?_; omega) | (refine decide_eq_false ?_; omega)) ?_ | (refine aops_guard_t rfl rfl rfl rfl (fun hg => ?_) (fun hg => ?_); case' _ => (refine aops_p (ap_not rfl) rfl rfl rfl ?_)))
  all_goals (first | refine aops_p (ap_pick_true rfl (by first | with_reducible assumption | with_reducible exact rfl | decide | (refine decide_eq_true ?_; omega) | (refine decide_eq_false ?_; omega)) rfl) rfl rfl rfl ?_ | refine aops_p (ap_pick_false rfl (by first | with_reducible assumption | with_reducible exact rfl | decide | (refine decide_eq_true ?_; omega) | (refine decide_eq_false ?_; omega)) rfl) rfl rfl rfl ?_)
  all_goals (refine aops_p (ap_move rfl) rfl rfl rfl ?_)
  all_goals (first | (refine aops_yes rfl rfl rfl rfl (by first | with_reducible assumption | with_reducible exact rfl | decide | (refine decide_eq_true ?_; omega) | (refine decide_eq_false ?_; omega)) ?_; (first | refine aops_p (ap_fieldAddr (off := 0) (sz := 1) (g := false) rfl rfl) rfl rfl rfl ?_ | refine aops_p (ap_fieldAddr_el (off := 0) (sz := 1) (g := false) rfl rfl (by repeat constructor)) rfl rfl rfl ?_)) | refine aops_no_u rfl rfl rfl ?_ | refine aops_no_t rfl rfl rfl rfl (by first | with_reducible assumption | with_reducible exact rfl | decide | (refine decide_eq_true ?_; omega) | (refine decide_eq_false ?_; omega)) ?_ | (refine aops_guard_t rfl rfl rfl rfl (fun hg => ?_) (fun hg => ?_); case' _ => (first | refine aops_p (ap_fieldAddr (off := 0) (sz := 1) (g := false) rfl rfl) rfl rfl rfl ?_ | refine aops_p (ap_fieldAddr_el (off := 0) (sz := 1) (g := false) rfl rfl (by repeat constructor)) rfl rfl rfl ?_)))
  all_goals (first | (refine aops_yes rfl rfl rfl rfl (by first | with_reducible assumption | with_reducible exact rfl | decide | (refine decide_eq_true ?_; omega) | (refine decide_eq_false ?_; omega)) ?_; (first | refine aops_q (aq_load1 rfl (by repeat (first | exact .here | apply UpdF.there)) List.not_mem_nil rfl (by repeat constructor)) rfl rfl rfl ?_ | refine aops_q (aq_load_el1 rfl rfl (by first | exact .sl | exact .v rfl | exact .v (by assumption)) (fun _ h => absurd h List.not_mem_nil)) rfl rfl rfl ?_ | refine aops_q (aq_load_el1' rfl rfl (by first | exact .sl | exact .v rfl | exact .v (by assumption)) (fun _ h => absurd h List.not_mem_nil)) rfl rfl rfl ?_ | refine aops_q (aq_load_own1 rfl (by repeat (first | exact .here | apply UpdF.there)) List.not_mem_nil rfl (by first | with_reducible assumption | assumption | rfl) (by first | exact .sl | exact .v rfl | exact .v (by assumption))) rfl rfl rfl ?_)) | refine aops_no_u rfl rfl rfl ?_ | refine aops_no_t rfl rfl rfl rfl (by first | with_reducible assumption | with_reducible exact rfl | decide | (refine decide_eq_true ?_; omega) | (refine decide_eq_false ?_; omega)) ?_ | (refine aops_guard_t rfl rfl rfl rfl (fun hg => ?_) (fun hg => ?_); case' _ => (first | refine aops_q (aq_load1 rfl (by repeat (first | exact .here | apply UpdF.there)) List.not_mem_nil rfl (by repeat constructor)) rfl rfl rfl ?_ | refine aops_q (aq_load_el1 rfl rfl (by first | exact .sl | exact .v rfl | exact .v (by assumption)) (fun _ h => absurd h List.not_mem_nil)) rfl rfl rfl ?_ | refine aops_q (aq_load_el1' rfl rfl (by first | exact .sl | exact .v rfl | exact .v (by assumption)) (fun _ h => absurd h List.not_mem_nil)) rfl rfl rfl ?_ | refine aops_q (aq_load_own1 rfl (by repeat (first | exact .here | apply UpdF.there)) List.not_mem_nil rfl (by first | with_reducible assumption | assumption | rfl) (by first | exact .sl | exact .v rfl | exact .v (by assumption))) rfl rfl rfl ?_)))
  all_goals (first | (refine aops_yes rfl rfl rfl rfl (by first | with_reducible assumption | with_reducible exact rfl | decide | (refine decide_eq_true ?_; omega) | (refine decide_eq_false ?_; omega)) ?_; (refine aops_p (ap_cmp rfl rfl rfl) rfl rfl rfl ?_)) | refine aops_no_u rfl rfl rfl ?_ | refine aops_no_t rfl rfl rfl rfl (by first | with_reducible assumption | with_reducible exact rfl | decide | (refine decide_eq_true ?_; omega) | (refine decide_eq_false ?_; omega)) ?_ | (refine aops_guard_t rfl rfl rfl rfl (fun hg => ?_) (fun hg => ?_); case' _ => (refine aops_p (ap_cmp rfl rfl rfl) rfl rfl rfl ?_)))
  all_goals (first | refine aops_p (ap_pick_true rfl (by first | with_reducible assumption | with_reducible exact rfl | decide | (refine decide_eq_true ?_; omega) | (refine decide_eq_false ?_; omega)) rfl) rfl rfl rfl ?_ | refine aops_p (ap_pick_false rfl (by first | with_reducible assumption | with_reducible exact rfl | decide | (refine decide_eq_true ?_; omega) | (refine decide_eq_false ?_; omega)) rfl) rfl rfl rfl ?_)
  all_goals (refine aops_p (ap_move rfl) rfl rfl rfl ?_)
  all_goals (first | (refine aops_yes rfl rfl rfl rfl (by first | with_reducible assumption | with_reducible exact rfl | decide | (refine decide_eq_true ?_; omega) | (refine decide_eq_false ?_; omega)) ?_; (first | refine aops_p (ap_fieldAddr (off := 2) (sz := 1) (g := false) rfl rfl) rfl rfl rfl ?_ | refine aops_p (ap_fieldAddr_el (off := 2) (sz := 1) (g := false) rfl rfl (by repeat constructor)) rfl rfl rfl ?_)) | refine aops_no_u rfl rfl rfl ?_ | refine aops_no_t rfl rfl rfl rfl (by first | with_reducible assumption | with_reducible exact rfl | decide | (refine decide_eq_true ?_; omega) | (refine decide_eq_false ?_; omega)) ?_ | (refine aops_guard_t rfl rfl rfl rfl (fun hg => ?_) (fun hg => ?_); case' _ => (first | refine aops_p (ap_fieldAddr (off := 2) (sz := 1) (g := false) rfl rfl) rfl rfl rfl ?_ | refine aops_p (ap_fieldAddr_el (off := 2) (sz := 1) (g := false) rfl rfl (by repeat constructor)) rfl rfl rfl ?_)))
  all_goals (first | (refine aops_yes rfl rfl rfl rfl (by first | with_reducible assumption | with_reducible exact rfl | decide | (refine decide_eq_true ?_; omega) | (refine decide_eq_false ?_; omega)) ?_; (first | refine aops_q (aq_load1 rfl (by repeat (first | exact .here | apply UpdF.there)) List.not_mem_nil rfl (by repeat constructor)) rfl rfl rfl ?_ | refine aops_q (aq_load_el1 rfl rfl (by first | exact .sl | exact .v rfl | exact .v (by assumption)) (fun _ h => absurd h List.not_mem_nil)) rfl rfl rfl ?_ | refine aops_q (aq_load_el1' rfl rfl (by first | exact .sl | exact .v rfl | exact .v (by assumption)) (fun _ h => absurd h List.not_mem_nil)) rfl rfl rfl ?_ | refine aops_q (aq_load_own1 rfl (by repeat (first | exact .here | apply UpdF.there)) List.not_mem_nil rfl (by first | with_reducible assumption | assumption | rfl) (by first | exact .sl | exact .v rfl | exact .v (by assumption))) rfl rfl rfl ?_)) | refine aops_no_u rfl rfl rfl ?_ | refine aops_no_t rfl rfl rfl rfl (by first | with_reducible assumption | with_reducible exact rfl | decide | (refine decide_eq_true ?_; omega) | (refine decide_eq_false ?_; omega)) ?_ | (refine aops_guard_t rfl rfl rfl rfl (fun hg => ?_) (fun hg => ?_); case' _ => (first | refine aops_q (aq_load1 rfl (by repeat (first | exact .here | apply UpdF.there)) List.not_mem_nil rfl (by repeat constructor)) rfl rfl rfl ?_ | refine aops_q (aq_load_el1 rfl rfl (by first | exact .sl | exact .v rfl | exact .v (by assumption)) (fun _ h => absurd h List.not_mem_nil)) rfl rfl rfl ?_ | refine aops_q (aq_load_el1' rfl rfl (by first | exact .sl | exact .v rfl | exact .v (by assumption)) (fun _ h => absurd h List.not_mem_nil)) rfl rfl rfl ?_ | refine aops_q (aq_load_own1 rfl (by repeat (first | exact .here | apply UpdF.there)) List.not_mem_nil rfl (by first | with_reducible assumption | assumption | rfl) (by first | exact .sl | exact .v rfl | exact .v (by assumption))) rfl rfl rfl ?_)))
  all_goals (first | (refine aops_yes rfl rfl rfl rfl (by first | with_reducible assumption | with_reducible exact rfl | decide | (refine decide_eq_true ?_; omega) | (refine decide_eq_false ?_; omega)) ?_; (first | refine aops_len rfl rfl rfl rfl (fun _ => ?_) | refine aops_p (ap_len_arr rfl (by repeat (first | exact .here | apply UpdF.there)) rfl) rfl rfl rfl ?_ | refine aops_p (ap_len_nil rfl rfl) rfl rfl rfl ?_)) | refine aops_no_u rfl rfl rfl ?_ | refine aops_no_t rfl rfl rfl rfl (by first | with_reducible assumption | with_reducible exact rfl | decide | (refine decide_eq_true ?_; omega) | (refine decide_eq_false ?_; omega)) ?_ | (refine aops_guard_t rfl rfl rfl rfl (fun hg => ?_) (fun hg => ?_); case' _ => (first | refine aops_len rfl rfl rfl rfl (fun _ => ?_) | refine aops_p (ap_len_arr rfl (by repeat (first | exact .here | apply UpdF.there)) rfl) rfl rfl rfl ?_ | refine aops_p (ap_len_nil rfl rfl) rfl rfl rfl ?_)))
  all_goals (first | (refine aops_yes rfl rfl rfl rfl (by first | with_reducible assumption | with_reducible exact rfl | decide | (refine decide_eq_true ?_; omega) | (refine decide_eq_false ?_; omega)) ?_; (refine aops_p (ap_cmp rfl rfl rfl) rfl rfl rfl ?_)) | refine aops_no_u rfl rfl rfl ?_ | refine aops_no_t rfl rfl rfl rfl (by first | with_reducible assumption | with_reducible exact rfl | decide | (refine decide_eq_true ?_; omega) | (refine decide_eq_false ?_; omega)) ?_ | (refine aops_guard_t rfl rfl rfl rfl (fun hg => ?_) (fun hg => ?_); case' _ => (refine aops_p (ap_cmp rfl rfl rfl) rfl rfl rfl ?_)))
  all_goals (first | refine aops_p (ap_pick_true rfl (by first | with_reducible assumption | with_reducible exact rfl | decide | (refine decide_eq_true ?_; omega) | (refine decide_eq_false ?_; omega)) rfl) rfl rfl rfl ?_ | refine aops_p (ap_pick_false rfl (by first | with_reducible assumption | with_reducible exact rfl | decide | (refine decide_eq_true ?_; omega) | (refine decide_eq_false ?_; omega)) rfl) rfl rfl rfl ?_)
  all_goals (refine aops_p (ap_move rfl) rfl rfl rfl ?_)
  all_goals (first | (refine aops_yes rfl rfl rfl rfl (by first | with_reducible assumption | with_reducible exact rfl | decide | (refine decide_eq_true ?_; omega) | (refine decide_eq_false ?_; omega)) ?_; (first | refine aops_p (ap_fieldAddr (off := 2) (sz := 1) (g := false) rfl rfl) rfl rfl rfl ?_ | refine aops_p (ap_fieldAddr_el (off := 2) (sz := 1) (g := false) rfl rfl (by repeat constructor)) rfl rfl rfl ?_)) | refine aops_no_u rfl rfl rfl ?_ | refine aops_no_t rfl rfl rfl rfl (by first | with_reducible assumption | with_reducible exact rfl | decide | (refine decide_eq_true ?_; omega) | (refine decide_eq_false ?_; omega)) ?_ | (refine aops_guard_t rfl rfl rfl rfl (fun hg => ?_) (fun hg => ?_); case' _ => (first | refine aops_p (ap_fieldAddr (off := 2) (sz := 1) (g := false) rfl rfl) rfl rfl rfl ?_ | refine aops_p (ap_fieldAddr_el (off := 2) (sz := 1) (g := false) rfl rfl (by repeat constructor)) rfl rfl rfl ?_)))
  all_goals (first | (refine aops_yes rfl rfl rfl rfl (by first | with_reducible assumption | with_reducible exact rfl | decide | (refine decide_eq_true ?_; omega) | (refine decide_eq_false ?_; omega)) ?_; (first | refine aops_q (aq_load1 rfl (by repeat (first | exact .here | apply UpdF.there)) List.not_mem_nil rfl (by repeat constructor)) rfl rfl rfl ?_ | refine aops_q (aq_load_el1 rfl rfl (by first | exact .sl | exact .v rfl | exact .v (by assumption)) (fun _ h => absurd h List.not_mem_nil)) rfl rfl rfl ?_ | refine aops_q (aq_load_el1' rfl rfl (by first | exact .sl | exact .v rfl | exact .v (by assumption)) (fun _ h => absurd h List.not_mem_nil)) rfl rfl rfl ?_ | refine aops_q (aq_load_own1 rfl (by repeat (first | exact .here | apply UpdF.there)) List.not_mem_nil rfl (by first | with_reducible assumption | assumption | rfl) (by first | exact .sl | exact .v rfl | exact .v (by assumption))) rfl rfl rfl ?_)) | refine aops_no_u rfl rfl rfl ?_ | refine aops_no_t rfl rfl rfl rfl (by first | with_reducible assumption | with_reducible exact rfl | decide | (refine decide_eq_true ?_; omega) | (refine decide_eq_false ?_; omega)) ?_ | (refine aops_guard_t rfl rfl rfl rfl (fun hg => ?_) (fun hg => ?_); case' _ => (first | refine aops_q (aq_load1 rfl (by repeat (first | exact .here | apply UpdF.there)) List.not_mem_nil rfl (by repeat constructor)) rfl rfl rfl ?_ | refine aops_q (aq_load_el1 rfl rfl (by first | exact .sl | exact .v rfl | exact .v (by assumption)) (fun _ h => absurd h List.not_mem_nil)) rfl rfl rfl ?_ | refine aops_q (aq_load_el1' rfl rfl (by first | exact .sl | exact .v rfl | exact .v (by assumption)) (fun _ h => absurd h List.not_mem_nil)) rfl rfl rfl ?_ | refine aops_q (aq_load_own1 rfl (by repeat (first | exact .here | apply UpdF.there)) List.not_mem_nil rfl (by first | with_reducible assumption | assumption | rfl) (by first | exact .sl | exact .v rfl | exact .v (by assumption))) rfl rfl rfl ?_)))
  all_goals (first | (refine aops_yes rfl rfl rfl rfl (by first | with_reducible assumption | with_reducible exact rfl | decide | (refine decide_eq_true ?_; omega) | (refine decide_eq_false ?_; omega)) ?_; (first | refine aops_p (ap_index rfl rfl rfl rfl (by decide) rfl (by first | with_reducible assumption | assumption | rfl)) rfl rfl rfl ?_ | refine aops_p (ap_index rfl rfl rfl rfl (by decide) (by omega) (by first | with_reducible assumption | assumption | rfl)) rfl rfl rfl ?_ | refine aops_p (ap_index_own rfl rfl rfl rfl rfl (by first | omega | (simp only [List.length_map, List.length_set, avs_len]; omega))) rfl rfl rfl ?_)) | refine aops_no_u rfl rfl rfl ?_ | refine aops_no_t rfl rfl rfl rfl (by first | with_reducible assumption | with_reducible exact rfl | decide | (refine decide_eq_true ?_; omega) | (refine decide_eq_false ?_; omega)) ?_ | (refine aops_guard_t rfl rfl rfl rfl (fun hg => ?_) (fun hg => ?_); case' _ => (first | refine aops_p (ap_index rfl rfl rfl rfl (by decide) rfl (by first | with_reducible assumption | assumption | rfl)) rfl rfl rfl ?_ | refine aops_p (ap_index rfl rfl rfl rfl (by decide) (by omega) (by first | with_reducible assumption | assumption | rfl)) rfl rfl rfl ?_ | refine aops_p (ap_index_own rfl rfl rfl rfl rfl (by first | omega | (simp only [List.length_map, List.length_set, avs_len]; omega))) rfl rfl rfl ?_)))
  all_goals (first | (refine aops_yes rfl rfl rfl rfl (by first | with_reducible assumption | with_reducible exact rfl | decide | (refine decide_eq_true ?_; omega) | (refine decide_eq_false ?_; omega)) ?_; (first | refine aops_p (ap_fieldAddr (off := 0) (sz := 1) (g := false) rfl rfl) rfl rfl rfl ?_ | refine aops_p (ap_fieldAddr_el (off := 0) (sz := 1) (g := false) rfl rfl (by repeat constructor)) rfl rfl rfl ?_)) | refine aops_no_u rfl rfl rfl ?_ | refine aops_no_t rfl rfl rfl rfl (by first | with_reducible assumption | with_reducible exact rfl | decide | (refine decide_eq_true ?_; omega) | (refine decide_eq_false ?_; omega)) ?_ | (refine aops_guard_t rfl rfl rfl rfl (fun hg => ?_) (fun hg => ?_); case' _ => (first | refine aops_p (ap_fieldAddr (off := 0) (sz := 1) (g := false) rfl rfl) rfl rfl rfl ?_ | refine aops_p (ap_fieldAddr_el (off := 0) (sz := 1) (g := false) rfl rfl (by repeat constructor)) rfl rfl rfl ?_)))
  all_goals (first | (refine aops_yes rfl rfl rfl rfl (by first | with_reducible assumption | with_reducible exact rfl | decide | (refine decide_eq_true ?_; omega) | (refine decide_eq_false ?_; omega)) ?_; (first | refine aops_q (aq_load1 rfl (by repeat (first | exact .here | apply UpdF.there)) List.not_mem_nil rfl (by repeat constructor)) rfl rfl rfl ?_ | refine aops_q (aq_load_el1 rfl rfl (by first | exact .sl | exact .v rfl | exact .v (by assumption)) (fun _ h => absurd h List.not_mem_nil)) rfl rfl rfl ?_ | refine aops_q (aq_load_el1' rfl rfl (by first | exact .sl | exact .v rfl | exact .v (by assumption)) (fun _ h => absurd h List.not_mem_nil)) rfl rfl rfl ?_ | refine aops_q (aq_load_own1 rfl (by repeat (first | exact .here | apply UpdF.there)) List.not_mem_nil rfl (by first | with_reducible assumption | assumption | rfl) (by first | exact .sl | exact .v rfl | exact .v (by assumption))) rfl rfl rfl ?_)) | refine aops_no_u rfl rfl rfl ?_ | refine aops_no_t rfl rfl rfl rfl (by first | with_reducible assumption | with_reducible exact rfl | decide | (refine decide_eq_true ?_; omega) | (refine decide_eq_false ?_; omega)) ?_ | (refine aops_guard_t rfl rfl rfl rfl (fun hg => ?_) (fun hg => ?_); case' _ => (first | refine aops_q (aq_load1 rfl (by repeat (first | exact .here | apply UpdF.there)) List.not_mem_nil rfl (by repeat constructor)) rfl rfl rfl ?_ | refine aops_q (aq_load_el1 rfl rfl (by first | exact .sl | exact .v rfl | exact .v (by assumption)) (fun _ h => absurd h List.not_mem_nil)) rfl rfl rfl ?_ | refine aops_q (aq_load_el1' rfl rfl (by first | exact .sl | exact .v rfl | exact .v (by assumption)) (fun _ h => absurd h List.not_mem_nil)) rfl rfl rfl ?_ | refine aops_q (aq_load_own1 rfl (by repeat (first | exact .here | apply UpdF.there)) List.not_mem_nil rfl (by first | with_reducible assumption | assumption | rfl) (by first | exact .sl | exact .v rfl | exact .v (by assumption))) rfl rfl rfl ?_)))
  all_goals (first | (refine aops_yes rfl rfl rfl rfl (by first | with_reducible assumption | with_reducible exact rfl | decide | (refine decide_eq_true ?_; omega) | (refine decide_eq_false ?_; omega)) ?_; (refine aops_p (ap_cmp rfl rfl rfl) rfl rfl rfl ?_)) | refine aops_no_u rfl rfl rfl ?_ | refine aops_no_t rfl rfl rfl rfl (by first | with_reducible assumption | with_reducible exact rfl | decide | (refine decide_eq_true ?_; omega) | (refine decide_eq_false ?_; omega)) ?_ | (refine aops_guard_t rfl rfl rfl rfl (fun hg => ?_) (fun hg => ?_); case' _ => (refine aops_p (ap_cmp rfl rfl rfl) rfl rfl rfl ?_)))
  all_goals (first | refine aops_p (ap_pick_true rfl (by first | with_reducible assumption | with_reducible exact rfl | decide | (refine decide_eq_true ?_; omega) | (refine decide_eq_false ?_; omega)) rfl) rfl rfl rfl ?_ | refine aops_p (ap_pick_false rfl (by first | with_reducible assumption | with_reducible exact rfl | decide | (refine decide_eq_true ?_; omega) | (refine decide_eq_false ?_; omega)) rfl) rfl rfl rfl ?_)
  all_goals (refine aops_p (ap_assign rfl) rfl rfl rfl ?_)
  all_goals (
    refine aops_nil ?_
    refine seqQ_n ?_
    refine awp_ret ?_
    refine post_is (.tmp rfl .nil) (by repeat (first | exact .nil | refine .cons (by first | exact .here | exact .there .here | exact .there (.there .here) | exact .there (.there (.there .here)) | exact .there (.there (.there (.there .here)))) ?_)) ?_; rfl
    )
theorem satc {s : Int} {t : Trust} {v : Bool} (h : sat s t = v) : Con Try.prog 51 [av t, .i s] [] (Is (.b v) []) := by rw [← h]; exact sat_con s t
theorem blkc {s : Int} {t : Trust} {v : Bool} (h : blk s t = v) : Con Try.prog 52 [av t, .i s] [] (Is (.b v) []) := by rw [← h]; exact blk_con s t
theorem not_t {c : Bool} (h : (!c) = true) : c = false := by simpa using h
theorem not_f {c : Bool} (h : (!c) = false) : c = true := by simpa using h
theorem nodesTo_succ (s : Int) (k : Nat) : (upTo (k + 1)).filter (fun x => has s x) = (upTo k).filter (fun x => has s x) ++ (if has s k = true then [(k : Int)] else []) := by
  rw [upTo_succ, List.filter_append]
  cases h : has s k <;> simp [h]
theorem Nodes_con (s : Int) : Con Try.prog 115 [.i s] [] (Is (.sl 1 ((nodesOf s).map .i)) []) := by
  have hcap : capB = 140737488355328 := rfl
  refine con_intro Try.func115 rfl Try.call115 rfl ?_
  refine awp_seq ?_
  refine awp_region ?_
  refine aops_p (ap_assign rfl) rfl rfl rfl ?_
  refine aops_nil ?_
  refine seqQ_n ?_
  refine awp_seq ?_
  refine awp_region ?_
  refine aops_p (ap_assign rfl) rfl rfl rfl ?_
  refine aops_nil ?_
  refine seqQ_n ?_
  refine awp_seq ?_
  refine awp_seq ?_
  refine awp_region ?_
  refine aops_p (ap_move rfl) rfl rfl rfl ?_
  refine aops_nil ?_
  refine seqQ_n ?_
  refine awp_block ?_
  refine awp_loop3 [0] [] (fun (k : Nat) (v : Value) (q : List Int) r => (3, .v v) :: (5, .i (k : Int)) :: r) (fun (k : Nat) (v : Value) (q : List Int) r => .arr v 3 1 (q.map .i) :: r) (fun (k : Nat) (v : Value) (q : List Int) => k ≤ 10 ∧ q.length ≤ k ∧ q = (upTo k).filter fun x => has s x) (fun (k : Nat) (v : Value) (q : List Int) => 10 - k) (0) (.slice none 0 0) ([]) (by repeat constructor) ⟨by omega, by simp, rfl⟩ ((wk_own 3 1 rfl).trans (wk (by repeat (first | exact .nil | refine .cons rfl ?_)) (by repeat (first | exact .nil | refine .cons (by first | exact .here | exact .there .here | exact .there (.there .here) | exact .there (.there (.there .here)) | exact .there (.there (.there (.there .here)))) ?_)))) ?_
  intro k v q ⟨hk, hql, hI⟩
  refine awp_seq ?_
  refine awp_region ?_
  refine aops_p (ap_cmp rfl rfl rfl) rfl rfl rfl ?_
  refine aops_nil ?_
  refine seqQ_n ?_
  refine awp_seq ?_
  refine awp_cond rfl (fun hc => ?_) (fun hc => ?_)
  · have hlt := of_decide_eq_true hc
    refine awp_skip ?_
    refine seqQ_n ?_
    refine awp_seq ?_
    refine awp_block ?_
    refine awp_seq ?_
    refine awp_region ?_
    refine aops_p (ap_move rfl) rfl rfl rfl ?_
    refine aops_p (ap_assign rfl) rfl rfl rfl ?_
    refine aops_nil ?_
    refine seqQ_n ?_
    refine awp_seq ?_
    refine awp_region ?_
    refine aops_p (ap_move rfl) rfl rfl rfl ?_
    refine aops_p (ap_move rfl) rfl rfl rfl ?_
    refine aops_call_b (by repeat constructor) (has_con _ _) rfl rfl (fun c10 hc10 => ?_)
    refine aops_nil ?_
    refine seqQ_n ?_
    refine awp_cond rfl (fun hc => ?_) (fun hc => ?_)
    · refine awp_region ?_
      refine aops_p (ap_move rfl) rfl rfl rfl ?_
      refine aops_p (ap_move rfl) rfl rfl rfl ?_
      refine aops_lit (e := 3) (sz := 1) (by_ := 8) rfl rfl (by repeat constructor) rfl rfl rfl rfl ?_
      first | refine aops_append (e := 3) (sz := 1) (by_ := 8) rfl (by repeat (first | exact .here | apply UpdF.there)) rfl rfl rfl rfl rfl (by simp only [List.length_cons, List.length_nil, List.length_append, List.length_map, avs_len]; omega) (fun v14 hv14 => ?_) | refine aops_append_nil (e := 3) (sz := 1) (by_ := 8) rfl rfl rfl rfl rfl rfl (by simp only [List.length_cons, List.length_nil, List.length_append, List.length_map, avs_len]; omega) (fun v14 hv14 => ?_)
      refine aops_p (ap_assign rfl) rfl rfl rfl ?_
      refine aops_nil ?_
      refine blockQ_n ?_
      refine seqQ_n ?_
      refine awp_region ?_
      refine aops_p (ap_arith rfl rfl rfl (by omega)) rfl rfl rfl ?_
      refine aops_p (ap_move rfl) rfl rfl rfl ?_
      refine aops_nil ?_
      refine seqQ_n ?_
      first | (rw [mapi_snoc]; refine ⟨k + 1, _, q ++ [(k : Int)], ⟨by omega, by simp only [List.length_append, List.length_cons, List.length_nil]; omega, by rw [nodesTo_succ, if_pos (hc10.trans (by with_reducible assumption)), ← hI]⟩, by omega, wk (by repeat (first | exact .nil | refine .cons rfl ?_)) (by repeat (first | exact .nil | refine .cons (by first | exact .here | exact .there .here | exact .there (.there .here) | exact .there (.there (.there .here)) | exact .there (.there (.there (.there .here)))) ?_))⟩) | refine ⟨k + 1, _, q, ⟨by omega, by omega, by rw [nodesTo_succ, if_neg (by rw [hc10.trans (by with_reducible assumption)]; decide), ← hI, List.append_nil]⟩, by omega, wk (by repeat (first | exact .nil | refine .cons rfl ?_)) (by repeat (first | exact .nil | refine .cons (by first | exact .here | exact .there .here | exact .there (.there .here) | exact .there (.there (.there .here)) | exact .there (.there (.there (.there .here)))) ?_))⟩
    · refine awp_skip ?_
      refine blockQ_n ?_
      refine seqQ_n ?_
      refine awp_region ?_
      refine aops_p (ap_arith rfl rfl rfl (by omega)) rfl rfl rfl ?_
      refine aops_p (ap_move rfl) rfl rfl rfl ?_
      refine aops_nil ?_
      refine seqQ_n ?_
      first | (rw [mapi_snoc]; refine ⟨k + 1, _, q ++ [(k : Int)], ⟨by omega, by simp only [List.length_append, List.length_cons, List.length_nil]; omega, by rw [nodesTo_succ, if_pos (hc10.trans (by with_reducible assumption)), ← hI]⟩, by omega, wk (by repeat (first | exact .nil | refine .cons rfl ?_)) (by repeat (first | exact .nil | refine .cons (by first | exact .here | exact .there .here | exact .there (.there .here) | exact .there (.there (.there .here)) | exact .there (.there (.there (.there .here)))) ?_))⟩) | refine ⟨k + 1, _, q, ⟨by omega, by omega, by rw [nodesTo_succ, if_neg (by rw [hc10.trans (by with_reducible assumption)]; decide), ← hI, List.append_nil]⟩, by omega, wk (by repeat (first | exact .nil | refine .cons rfl ?_)) (by repeat (first | exact .nil | refine .cons (by first | exact .here | exact .there .here | exact .there (.there .here) | exact .there (.there (.there .here)) | exact .there (.there (.there (.there .here)))) ?_))⟩
  · have hge := of_decide_eq_false hc
    obtain rfl : k = 10 := by omega
    refine awp_exit ?_
    refine seqQ_x ?_
    refine seqQ_x ?_
    refine blockQ_x rfl ?_
    refine seqQ_n ?_
    refine awp_seq ?_
    refine awp_freeze v [3] (by repeat (first | exact .here | apply Rem.there)) (by repeat (first | exact .nil | apply SelC.cons rfl (by first | exact Cv.fz | (apply Cv.agg; repeat (first | exact CvL.nil | apply CvL.cons (by first | exact Cv.fz | exact Cv.same))) | exact Cv.same))) (by repeat (first | exact .nil | apply HeapA.box (by repeat (first | exact CvL.nil | apply CvL.cons (by first | exact Cv.fz | exact Cv.same))) | apply HeapA.arr)) ?_
    refine awp_region ?_
    refine aops_p (ap_move rfl) rfl rfl rfl ?_
    refine aops_p (ap_assign rfl) rfl rfl rfl ?_
    refine aops_nil ?_
    refine seqQ_n ?_
    refine awp_ret ?_
    refine post_is (.tmp rfl .nil) (by repeat (first | exact .nil | refine .cons (by first | exact .here | exact .there .here | exact .there (.there .here) | exact .there (.there (.there .here)) | exact .there (.there (.there (.there .here)))) ?_)) ?_
    rw [hI]; rfl
theorem content_con (c : List Mem) (k : Nat) (m : Mem) (hm : c[k]? = some m) (s : Int) : Con Try.prog 95 [cv c, .i k, .i s] [] (Is (.b (sat s m.t)) []) := by
  have hcap : capB = 140737488355328 := rfl
  have hx' := getMap mv hm
  refine con_intro Try.func95 rfl Try.call95 rfl ?_
  refine awp_seq ?_
  refine awp_region ?_
  refine aops_box rfl (by first | exact .agg | exact .sl | exact .v rfl | exact .v (by assumption)) rfl rfl (fun b3 => ?_)
  refine aops_p (ap_assign rfl) rfl rfl rfl ?_
  refine aops_nil ?_
  refine seqQ_n ?_
  refine awp_seq ?_
  refine awp_region ?_
  first | refine aops_p (ap_fieldAddr (off := 0) (sz := 1) (g := false) rfl rfl) rfl rfl rfl ?_ | refine aops_p (ap_fieldAddr_el (off := 0) (sz := 1) (g := false) rfl rfl (by repeat constructor)) rfl rfl rfl ?_
  first | refine aops_q (aq_load1 rfl (by repeat (first | exact .here | apply UpdF.there)) List.not_mem_nil rfl (by repeat constructor)) rfl rfl rfl ?_ | refine aops_q (aq_load_el1 rfl rfl (by first | exact .sl | exact .v rfl | exact .v (by assumption)) (fun _ h => absurd h List.not_mem_nil)) rfl rfl rfl ?_ | refine aops_q (aq_load_el1' rfl rfl (by first | exact .sl | exact .v rfl | exact .v (by assumption)) (fun _ h => absurd h List.not_mem_nil)) rfl rfl rfl ?_ | refine aops_q (aq_load_own1 rfl (by repeat (first | exact .here | apply UpdF.there)) List.not_mem_nil rfl (by first | with_reducible assumption | assumption | rfl) (by first | exact .sl | exact .v rfl | exact .v (by assumption))) rfl rfl rfl ?_
  refine aops_p (ap_move rfl) rfl rfl rfl ?_
  first | refine aops_p (ap_index rfl rfl rfl rfl (by decide) rfl (by first | with_reducible assumption | assumption | rfl)) rfl rfl rfl ?_ | refine aops_p (ap_index rfl rfl rfl rfl (by decide) (by omega) (by first | with_reducible assumption | assumption | rfl)) rfl rfl rfl ?_ | refine aops_p (ap_index_own rfl rfl rfl rfl rfl (by first | omega | (simp only [List.length_map, List.length_set, avs_len]; omega))) rfl rfl rfl ?_
  first | refine aops_p (ap_fieldAddr (off := 1) (sz := 3) (g := true) rfl rfl) rfl rfl rfl ?_ | refine aops_p (ap_fieldAddr_el (off := 1) (sz := 3) (g := true) rfl rfl (by repeat constructor)) rfl rfl rfl ?_
  first | refine aops_q (aq_load rfl (by repeat (first | exact .here | apply UpdF.there)) List.not_mem_nil rfl rfl (by repeat constructor)) rfl rfl rfl ?_ | refine aops_q (aq_load_el rfl rfl rfl rfl (fun _ h => absurd h List.not_mem_nil)) rfl rfl rfl ?_
  refine aops_p (ap_move rfl) rfl rfl rfl ?_
  refine aops_call_v (by repeat constructor) (sat_con _ m.t) rfl rfl ?_
  refine aops_p (ap_assign rfl) rfl rfl rfl ?_
  refine aops_nil ?_
  refine seqQ_n ?_
  refine awp_ret ?_
  refine post_is (.tmp rfl .nil) (by repeat (first | exact .nil | refine .cons (by first | exact .here | exact .there .here | exact .there (.there .here) | exact .there (.there (.there .here)) | exact .there (.there (.there (.there .here)))) ?_)) rfl
theorem decl_con (c : List Mem) : Con Try.prog 94 [cv c] [] (Is (.i (declC c : Int)) []) := by
  have hcap : capB = 140737488355328 := rfl
  have hl1 : (c.map mv).length = c.length := by simp
  refine con_intro Try.func94 rfl Try.call94 rfl ?_
  refine awp_seq ?_
  refine awp_region ?_
  refine aops_box rfl (by first | exact .agg | exact .sl | exact .v rfl | exact .v (by assumption)) rfl rfl (fun b1 => ?_)
  refine aops_p (ap_assign rfl) rfl rfl rfl ?_
  refine aops_nil ?_
  refine seqQ_n ?_
  refine awp_seq ?_
  refine awp_region ?_
  refine aops_p (ap_assign rfl) rfl rfl rfl ?_
  refine aops_nil ?_
  refine seqQ_n ?_
  refine awp_seq ?_
  refine awp_seq ?_
  refine awp_region ?_
  first | refine aops_p (ap_fieldAddr (off := 0) (sz := 1) (g := false) rfl rfl) rfl rfl rfl ?_ | refine aops_p (ap_fieldAddr_el (off := 0) (sz := 1) (g := false) rfl rfl (by repeat constructor)) rfl rfl rfl ?_
  first | refine aops_q (aq_load1 rfl (by repeat (first | exact .here | apply UpdF.there)) List.not_mem_nil rfl (by repeat constructor)) rfl rfl rfl ?_ | refine aops_q (aq_load_el1 rfl rfl (by first | exact .sl | exact .v rfl | exact .v (by assumption)) (fun _ h => absurd h List.not_mem_nil)) rfl rfl rfl ?_ | refine aops_q (aq_load_el1' rfl rfl (by first | exact .sl | exact .v rfl | exact .v (by assumption)) (fun _ h => absurd h List.not_mem_nil)) rfl rfl rfl ?_ | refine aops_q (aq_load_own1 rfl (by repeat (first | exact .here | apply UpdF.there)) List.not_mem_nil rfl (by first | with_reducible assumption | assumption | rfl) (by first | exact .sl | exact .v rfl | exact .v (by assumption))) rfl rfl rfl ?_
  first | refine aops_len rfl rfl rfl rfl (fun _ => ?_) | refine aops_p (ap_len_arr rfl (by repeat (first | exact .here | apply UpdF.there)) rfl) rfl rfl rfl ?_ | refine aops_p (ap_len_nil rfl rfl) rfl rfl rfl ?_
  refine aops_p (ap_move rfl) rfl rfl rfl ?_
  refine aops_nil ?_
  refine seqQ_n ?_
  refine awp_block ?_
  refine awp_loop2 [7, 8] [] (fun (k : Nat) (s : Nat) r => (3, .i (s : Int)) :: (9, .i (k : Int)) :: r) (fun (k : Nat) (s : Nat) r => r) (fun (k : Nat) (s : Nat) => k ≤ c.length ∧ s < 1024 ∧ declGo s k (c.drop k) = declC c) (fun (k : Nat) (s : Nat) => c.length - k) (0) (0) (by repeat constructor) ⟨by omega, by omega, by simp [declC]⟩ (wk (by repeat (first | exact .nil | refine .cons rfl ?_)) (by repeat (first | exact .nil | refine .cons (by first | exact .here | exact .there .here | exact .there (.there .here) | exact .there (.there (.there .here)) | exact .there (.there (.there (.there .here)))) ?_))) ?_
  intro k s ⟨hk, hs, hI⟩
  refine awp_seq ?_
  refine awp_region ?_
  refine aops_p (ap_cmp rfl rfl rfl) rfl rfl rfl ?_
  refine aops_nil ?_
  refine seqQ_n ?_
  refine awp_seq ?_
  refine awp_cond rfl (fun hc => ?_) (fun hc => ?_)
  · have hlt := of_decide_eq_true hc
    obtain ⟨x, hx, hd⟩ := drop_cons (l := c) (k := k) (by omega)
    have hx' := getMap mv hx
    refine awp_skip ?_
    refine seqQ_n ?_
    refine awp_seq ?_
    refine awp_block ?_
    refine awp_seq ?_
    refine awp_region ?_
    refine aops_p (ap_move rfl) rfl rfl rfl ?_
    first | refine aops_p (ap_index rfl rfl rfl rfl (by decide) rfl (by first | with_reducible assumption | assumption | rfl)) rfl rfl rfl ?_ | refine aops_p (ap_index rfl rfl rfl rfl (by decide) (by omega) (by first | with_reducible assumption | assumption | rfl)) rfl rfl rfl ?_ | refine aops_p (ap_index_own rfl rfl rfl rfl rfl (by first | omega | (simp only [List.length_map, List.length_set, avs_len]; omega))) rfl rfl rfl ?_
    first | refine aops_q (aq_load rfl (by repeat (first | exact .here | apply UpdF.there)) List.not_mem_nil rfl rfl (by repeat constructor)) rfl rfl rfl ?_ | refine aops_q (aq_load_el rfl rfl rfl rfl (fun _ h => absurd h List.not_mem_nil)) rfl rfl rfl ?_
    refine aops_alloc rfl (by repeat constructor) rfl rfl (fun b5 => ?_)
    refine aops_p (ap_assign rfl) rfl rfl rfl ?_
    first | refine aops_store rfl rfl (by first | exact .agg | exact .sl | exact .v rfl | exact .v (by assumption)) (by repeat (first | exact .here | apply UpdF.there)) rfl (by repeat constructor) ?_ | refine aops_store_own1 rfl rfl (by first | exact .sl | exact .v rfl | exact .v (by assumption)) (by repeat (first | exact .here | apply UpdF.there)) rfl (by simp only [List.length_set, List.length_map]; omega) ?_
    refine aops_nil ?_
    refine seqQ_n ?_
    refine awp_seq ?_
    refine awp_region ?_
    first | refine aops_p (ap_fieldAddr (off := 0) (sz := 1) (g := false) rfl rfl) rfl rfl rfl ?_ | refine aops_p (ap_fieldAddr_el (off := 0) (sz := 1) (g := false) rfl rfl (by repeat constructor)) rfl rfl rfl ?_
    first | refine aops_q (aq_load1 rfl (by repeat (first | exact .here | apply UpdF.there)) List.not_mem_nil rfl (by repeat constructor)) rfl rfl rfl ?_ | refine aops_q (aq_load_el1 rfl rfl (by first | exact .sl | exact .v rfl | exact .v (by assumption)) (fun _ h => absurd h List.not_mem_nil)) rfl rfl rfl ?_ | refine aops_q (aq_load_el1' rfl rfl (by first | exact .sl | exact .v rfl | exact .v (by assumption)) (fun _ h => absurd h List.not_mem_nil)) rfl rfl rfl ?_ | refine aops_q (aq_load_own1 rfl (by repeat (first | exact .here | apply UpdF.there)) List.not_mem_nil rfl (by first | with_reducible assumption | assumption | rfl) (by first | exact .sl | exact .v rfl | exact .v (by assumption))) rfl rfl rfl ?_
    refine aops_p (ap_move rfl) rfl rfl rfl ?_
    all_goals (first | (refine aops_yes rfl rfl rfl rfl (by first | with_reducible assumption | with_reducible exact rfl | decide | (refine decide_eq_true ?_; omega) | (refine decide_eq_false ?_; omega)) ?_; (refine aops_p (ap_move rfl) rfl rfl rfl ?_)) | refine aops_no_u rfl rfl rfl ?_ | refine aops_no_t rfl rfl rfl rfl (by first | with_reducible assumption | with_reducible exact rfl | decide | (refine decide_eq_true ?_; omega) | (refine decide_eq_false ?_; omega)) ?_ | (refine aops_guard_t rfl rfl rfl rfl (fun hg => ?_) (fun hg => ?_); case' _ => (refine aops_p (ap_move rfl) rfl rfl rfl ?_)))
    all_goals (first | (refine aops_yes rfl rfl rfl rfl (by first | with_reducible assumption | with_reducible exact rfl | decide | (refine decide_eq_true ?_; omega) | (refine decide_eq_false ?_; omega)) ?_; (refine aops_p (ap_cmp rfl rfl rfl) rfl rfl rfl ?_)) | refine aops_no_u rfl rfl rfl ?_ | refine aops_no_t rfl rfl rfl rfl (by first | with_reducible assumption | with_reducible exact rfl | decide | (refine decide_eq_true ?_; omega) | (refine decide_eq_false ?_; omega)) ?_ | (refine aops_guard_t rfl rfl rfl rfl (fun hg => ?_) (fun hg => ?_); case' _ => (refine aops_p (ap_cmp rfl rfl rfl) rfl rfl rfl ?_)))
    all_goals (first | refine aops_p (ap_pick_true rfl (by first | with_reducible assumption | with_reducible exact rfl | decide | (refine decide_eq_true ?_; omega) | (refine decide_eq_false ?_; omega)) rfl) rfl rfl rfl ?_ | refine aops_p (ap_pick_false rfl (by first | with_reducible assumption | with_reducible exact rfl | decide | (refine decide_eq_true ?_; omega) | (refine decide_eq_false ?_; omega)) rfl) rfl rfl rfl ?_)
    all_goals (
      refine aops_nil ?_
      refine seqQ_n ?_
      refine awp_cond rfl (fun hc => ?_) (fun hc => ?_)
      · first
        | (exact absurd hc (by decide))
        | (have h19 := of_decide_eq_true hc
           have hp := pow_lt10 (k := k) (by omega)
           refine awp_region ?_
           refine aops_p (ap_move rfl) rfl rfl rfl ?_
           refine aops_p (ap_move rfl) rfl rfl rfl ?_
           refine aops_p (ap_shl (p := 1) rfl rfl rfl (by omega) (by omega)) rfl rfl rfl ?_
           refine aops_p (ap_bits rfl rfl rfl (by omega) (by omega)) rfl rfl rfl ?_
           refine aops_p (ap_assign rfl) rfl rfl rfl ?_
           refine aops_nil ?_
           refine blockQ_n ?_
           refine seqQ_n ?_
           refine awp_region ?_
           refine aops_p (ap_arith rfl rfl rfl (by omega)) rfl rfl rfl ?_
           refine aops_p (ap_move rfl) rfl rfl rfl ?_
           refine aops_nil ?_
           refine seqQ_n ?_
           rw [hd] at hI; simp only [declGo] at hI
           first | (rw [if_pos (by rw [show x.decl = true by with_reducible assumption, show decide ((k : Int) < 10) = true by with_reducible assumption]; rfl)] at hI; refine ⟨k + 1, s ||| 2 ^ k, ⟨by omega, Nat.or_lt_two_pow (n := 10) hs (pow_lt10 (by omega)), hI⟩, by omega, ?_⟩; rw [Nat.one_mul]; exact (wk (by repeat (first | exact .nil | refine .cons rfl ?_)) (by repeat (first | exact .nil | refine .cons (by first | exact .here | exact .there .here | exact .there (.there .here) | exact .there (.there (.there .here)) | exact .there (.there (.there (.there .here)))) ?_)))) | (rw [if_neg (by first | (rw [show x.decl = false by with_reducible assumption]; simp; done) | (rw [show decide ((k : Int) < 10) = false by with_reducible assumption]; simp; done))] at hI; refine ⟨k + 1, s, ⟨by omega, hs, hI⟩, by omega, wk (by repeat (first | exact .nil | refine .cons rfl ?_)) (by repeat (first | exact .nil | refine .cons (by first | exact .here | exact .there .here | exact .there (.there .here) | exact .there (.there (.there .here)) | exact .there (.there (.there (.there .here)))) ?_))⟩)
          )
      · first
        | (exact absurd hc (by decide))
        | (refine awp_skip ?_
           refine blockQ_n ?_
           refine seqQ_n ?_
           refine awp_region ?_
           refine aops_p (ap_arith rfl rfl rfl (by omega)) rfl rfl rfl ?_
           refine aops_p (ap_move rfl) rfl rfl rfl ?_
           refine aops_nil ?_
           refine seqQ_n ?_
           rw [hd] at hI; simp only [declGo] at hI
           first | (rw [if_pos (by rw [show x.decl = true by with_reducible assumption, show decide ((k : Int) < 10) = true by with_reducible assumption]; rfl)] at hI; refine ⟨k + 1, s ||| 2 ^ k, ⟨by omega, Nat.or_lt_two_pow (n := 10) hs (pow_lt10 (by omega)), hI⟩, by omega, ?_⟩; rw [Nat.one_mul]; exact (wk (by repeat (first | exact .nil | refine .cons rfl ?_)) (by repeat (first | exact .nil | refine .cons (by first | exact .here | exact .there .here | exact .there (.there .here) | exact .there (.there (.there .here)) | exact .there (.there (.there (.there .here)))) ?_)))) | (rw [if_neg (by first | (rw [show x.decl = false by with_reducible assumption]; simp; done) | (rw [show decide ((k : Int) < 10) = false by with_reducible assumption]; simp; done))] at hI; refine ⟨k + 1, s, ⟨by omega, hs, hI⟩, by omega, wk (by repeat (first | exact .nil | refine .cons rfl ?_)) (by repeat (first | exact .nil | refine .cons (by first | exact .here | exact .there .here | exact .there (.there .here) | exact .there (.there (.there .here)) | exact .there (.there (.there (.there .here)))) ?_))⟩)
          )
      )
  · have hge := of_decide_eq_false hc
    rw [drop_nil (by omega)] at hI; simp only [declGo] at hI
    refine awp_exit ?_
    refine seqQ_x ?_
    refine seqQ_x ?_
    refine blockQ_x rfl ?_
    refine seqQ_n ?_
    refine awp_seq ?_
    refine awp_region ?_
    refine aops_p (ap_move rfl) rfl rfl rfl ?_
    refine aops_p (ap_assign rfl) rfl rfl rfl ?_
    refine aops_nil ?_
    refine seqQ_n ?_
    refine awp_ret ?_
    refine post_is (.tmp rfl .nil) (by repeat (first | exact .nil | refine .cons (by first | exact .here | exact .there .here | exact .there (.there .here) | exact .there (.there (.there .here)) | exact .there (.there (.there (.there .here)))) ?_)) ?_
    rw [← hI]; rfl
theorem unh_con (c : List Mem) (s : Nat) (hs : s < 1024) (hin : In c s) : Con Try.prog 92 [cv c, .i s] [] (fun d H => ∃ (k : Int) (b : Bool), d = .tup [.i k, .b b] ∧ (b = true → unh c s = some k) ∧ (b = false → unh c s = none) ∧ H = []) := by
  have hcap : capB = 140737488355328 := rfl
  have hl1 : ((nodesOf s).map D.i).length = (nodesOf s).length := by simp
  refine con_intro Try.func92 rfl Try.call92 rfl ?_
  refine awp_seq ?_
  refine awp_region ?_
  refine aops_box rfl (by first | exact .agg | exact .sl | exact .v rfl | exact .v (by assumption)) rfl rfl (fun b2 => ?_)
  refine aops_p (ap_assign rfl) rfl rfl rfl ?_
  refine aops_p (ap_assign rfl) rfl rfl rfl ?_
  refine aops_nil ?_
  refine seqQ_n ?_
  refine awp_seq ?_
  refine awp_seq ?_
  refine awp_region ?_
  refine aops_p (ap_move rfl) rfl rfl rfl ?_
  refine aops_call_v (by repeat constructor) (Nodes_con _) rfl rfl ?_
  first | refine aops_len rfl rfl rfl rfl (fun _ => ?_) | refine aops_p (ap_len_arr rfl (by repeat (first | exact .here | apply UpdF.there)) rfl) rfl rfl rfl ?_ | refine aops_p (ap_len_nil rfl rfl) rfl rfl rfl ?_
  refine aops_p (ap_move rfl) rfl rfl rfl ?_
  refine aops_nil ?_
  refine seqQ_n ?_
  refine awp_block ?_
  refine awp_loop1 [1, 2, 9, 10] [.box b2 _ _] (fun (k : Nat) r => (11, .i (k : Int)) :: r) (fun (k : Nat) r => r) (fun (k : Nat) => k ≤ (nodesOf s).length ∧ unh c s = ((nodesOf s).drop k).find? (bad c s)) (fun (k : Nat) => (nodesOf s).length - k) (0) (by repeat constructor) ⟨by omega, by unfold unh; simp⟩ (wk (by repeat (first | exact .nil | refine .cons rfl ?_)) (by repeat (first | exact .nil | refine .cons (by first | exact .here | exact .there .here | exact .there (.there .here) | exact .there (.there (.there .here)) | exact .there (.there (.there (.there .here)))) ?_))) ?_
  intro k ⟨hk, hI⟩
  refine awp_seq ?_
  refine awp_region ?_
  refine aops_p (ap_cmp rfl rfl rfl) rfl rfl rfl ?_
  refine aops_nil ?_
  refine seqQ_n ?_
  refine awp_seq ?_
  refine awp_cond rfl (fun hc => ?_) (fun hc => ?_)
  · have hlt := of_decide_eq_true hc
    obtain ⟨x, hx, hd⟩ := drop_cons (l := nodesOf s) (k := k) (by omega)
    obtain ⟨j, m, rfl, hj, hm, hmd⟩ := hin.get hs (mem_nodesOf.1 (List.mem_of_getElem? hx))
    have hx' := getMap D.i hx
    refine awp_skip ?_
    refine seqQ_n ?_
    refine awp_seq ?_
    refine awp_block ?_
    refine awp_seq ?_
    refine awp_region ?_
    first | refine aops_p (ap_index rfl rfl rfl rfl (by decide) rfl (by first | with_reducible assumption | assumption | rfl)) rfl rfl rfl ?_ | refine aops_p (ap_index rfl rfl rfl rfl (by decide) (by omega) (by first | with_reducible assumption | assumption | rfl)) rfl rfl rfl ?_ | refine aops_p (ap_index_own rfl rfl rfl rfl rfl (by first | omega | (simp only [List.length_map, List.length_set, avs_len]; omega))) rfl rfl rfl ?_
    first | refine aops_q (aq_load1 rfl (by repeat (first | exact .here | apply UpdF.there)) List.not_mem_nil rfl (by repeat constructor)) rfl rfl rfl ?_ | refine aops_q (aq_load_el1 rfl rfl (by first | exact .sl | exact .v rfl | exact .v (by assumption)) (fun _ h => absurd h List.not_mem_nil)) rfl rfl rfl ?_ | refine aops_q (aq_load_el1' rfl rfl (by first | exact .sl | exact .v rfl | exact .v (by assumption)) (fun _ h => absurd h List.not_mem_nil)) rfl rfl rfl ?_ | refine aops_q (aq_load_own1 rfl (by repeat (first | exact .here | apply UpdF.there)) List.not_mem_nil rfl (by first | with_reducible assumption | assumption | rfl) (by first | exact .sl | exact .v rfl | exact .v (by assumption))) rfl rfl rfl ?_
    refine aops_p (ap_assign rfl) rfl rfl rfl ?_
    refine aops_nil ?_
    refine seqQ_n ?_
    refine awp_seq ?_
    refine awp_region ?_
    first | refine aops_q (aq_load rfl (by repeat (first | exact .here | apply UpdF.there)) List.not_mem_nil rfl rfl (by repeat constructor)) rfl rfl rfl ?_ | refine aops_q (aq_load_el rfl rfl rfl rfl (fun _ h => absurd h List.not_mem_nil)) rfl rfl rfl ?_
    refine aops_p (ap_move rfl) rfl rfl rfl ?_
    refine aops_p (ap_move rfl) rfl rfl rfl ?_
    refine aops_call_b (by repeat constructor) (content_con c j m hm _) rfl rfl (fun c18 hc18 => ?_)
    refine aops_p (ap_not rfl) rfl rfl rfl ?_
    refine aops_nil ?_
    refine seqQ_n ?_
    refine awp_cond rfl (fun hc => ?_) (fun hc => ?_)
    · refine awp_seq ?_
      refine awp_region ?_
      refine aops_p (ap_move rfl) rfl rfl rfl ?_
      refine aops_p (ap_assign rfl) rfl rfl rfl ?_
      refine aops_p (ap_assign rfl) rfl rfl rfl ?_
      refine aops_nil ?_
      refine seqQ_n ?_
      refine awp_ret ?_
      refine blockQ_r ?_
      refine seqQ_r ?_
      refine seqQ_r ?_
      refine blockQ_r ?_
      refine seqQ_r ?_
      refine post_ret (.tmp rfl (.tmp rfl .nil)) (by repeat (first | exact .nil | refine .cons (by first | exact .here | exact .there .here | exact .there (.there .here) | exact .there (.there (.there .here)) | exact .there (.there (.there (.there .here)))) ?_)) ⟨_, _, rfl, fun _ => ?_, fun h => (by cases h), rfl⟩
      rw [hI, hd, List.find?_cons_of_pos (by unfold bad; rw [tOf_get hm, hc18]; exact hc)]
    · refine awp_skip ?_
      refine blockQ_n ?_
      refine seqQ_n ?_
      refine awp_region ?_
      refine aops_p (ap_arith rfl rfl rfl (by omega)) rfl rfl rfl ?_
      refine aops_p (ap_move rfl) rfl rfl rfl ?_
      refine aops_nil ?_
      refine seqQ_n ?_
      rw [hd, List.find?_cons_of_neg (by unfold bad; rw [tOf_get hm, hc18, not_f hc]; decide)] at hI
      refine ⟨k + 1, ⟨by omega, hI⟩, by omega, wk (by repeat (first | exact .nil | refine .cons rfl ?_)) (by repeat (first | exact .nil | refine .cons (by first | exact .here | exact .there .here | exact .there (.there .here) | exact .there (.there (.there .here)) | exact .there (.there (.there (.there .here)))) ?_))⟩
  · have hge := of_decide_eq_false hc
    rw [drop_nil (by omega)] at hI; simp only [List.find?_nil] at hI
    refine awp_exit ?_
    refine seqQ_x ?_
    refine seqQ_x ?_
    refine blockQ_x rfl ?_
    refine seqQ_n ?_
    refine awp_seq ?_
    refine awp_region ?_
    refine aops_p (ap_assign rfl) rfl rfl rfl ?_
    refine aops_p (ap_assign rfl) rfl rfl rfl ?_
    refine aops_nil ?_
    refine seqQ_n ?_
    refine awp_ret ?_
    refine post_ret (.tmp rfl (.tmp rfl .nil)) (by repeat (first | exact .nil | refine .cons (by first | exact .here | exact .there .here | exact .there (.there .here) | exact .there (.there (.there .here)) | exact .there (.there (.there (.there .here)))) ?_)) ⟨_, _, rfl, fun h => (by cases h), fun _ => hI, rfl⟩
theorem elimin_con (c : List Mem) (s0 : Int) : Con Try.prog 93 [cv c, .i s0] [] (Is (.tup [.i (great c s0 : Int), .sl 1 ((gOrder c s0).map .i)]) []) := by
  have hcap : capB = 140737488355328 := rfl
  have hdl := declC_lt c
  refine con_intro Try.func93 rfl Try.call93 rfl ?_
  refine awp_seq ?_
  refine awp_region ?_
  refine aops_box rfl (by first | exact .agg | exact .sl | exact .v rfl | exact .v (by assumption)) rfl rfl (fun b2 => ?_)
  refine aops_p (ap_assign rfl) rfl rfl rfl ?_
  refine aops_p (ap_assign rfl) rfl rfl rfl ?_
  refine aops_nil ?_
  refine seqQ_n ?_
  refine awp_seq ?_
  refine awp_seq ?_
  refine awp_region ?_
  refine aops_p (ap_move rfl) rfl rfl rfl ?_
  refine aops_call_b (by repeat constructor) (valid_con s0) rfl rfl (fun c10 hc10 => ?_)
  refine aops_p (ap_not rfl) rfl rfl rfl ?_
  refine aops_nil ?_
  refine seqQ_n ?_
  refine awp_cond rfl (fun hc => ?_) (fun hc => ?_)
  · have hv0 := hc10.trans (not_t hc)
    refine awp_seq ?_
    refine awp_region ?_
    refine aops_p (ap_assign rfl) rfl rfl rfl ?_
    refine aops_p (ap_assign rfl) rfl rfl rfl ?_
    refine aops_nil ?_
    refine seqQ_n ?_
    refine awp_unnil [4,5] 1 rfl (by repeat (first | exact .nil | apply SelC.cons rfl (by first | exact Cv.fz | (apply Cv.agg; repeat (first | exact CvL.nil | apply CvL.cons (by first | exact Cv.fz | exact Cv.same))) | exact Cv.same))) (by repeat (first | exact .nil | apply HeapA.box (by repeat (first | exact CvL.nil | apply CvL.cons (by first | exact Cv.fz | exact Cv.same))) | apply HeapA.arr)) ?_
    refine awp_ret ?_
    refine seqQ_r ?_
    refine post_is (.tmp rfl (.tmp rfl .nil)) (by repeat (first | exact .nil | refine .cons (by first | exact .here | exact .there .here | exact .there (.there .here) | exact .there (.there (.there .here)) | exact .there (.there (.there (.there .here)))) ?_)) ?_
    unfold great gOrder; rw [hv0]; rfl
  · have hv0 := hc10.trans (not_f hc)
    obtain ⟨m, rfl, hm⟩ := valid_nat hv0
    refine awp_skip ?_
    refine seqQ_n ?_
    refine awp_seq ?_
    refine awp_region ?_
    refine aops_p (ap_assign rfl) rfl rfl rfl ?_
    refine aops_nil ?_
    refine seqQ_n ?_
    refine awp_seq ?_
    refine awp_region ?_
    refine aops_p (ap_move rfl) rfl rfl rfl ?_
    first | refine aops_q (aq_load rfl (by repeat (first | exact .here | apply UpdF.there)) List.not_mem_nil rfl rfl (by repeat constructor)) rfl rfl rfl ?_ | refine aops_q (aq_load_el rfl rfl rfl rfl (fun _ h => absurd h List.not_mem_nil)) rfl rfl rfl ?_
    refine aops_call_v (by repeat constructor) (decl_con c) rfl rfl ?_
    refine aops_p (ap_bits rfl rfl rfl (by omega) (by omega)) rfl rfl rfl ?_
    refine aops_p (ap_assign rfl) rfl rfl rfl ?_
    refine aops_nil ?_
    refine seqQ_n ?_
    refine awp_block ?_
    refine awp_loop3 [2] [.box b2 _ _] (fun (s : Nat) (v : Value) (q : List Int) r => (1, .i (s : Int)) :: (6, .v v) :: r) (fun (s : Nat) (v : Value) (q : List Int) r => .arr v 3 1 (q.map .i) :: r) (fun (s : Nat) (v : Value) (q : List Int) => q.length + s ≤ 1023 ∧ In c s ∧ elim c s q = elim c (m &&& declC c) []) (fun (s : Nat) (v : Value) (q : List Int) => s) (m &&& declC c) (.slice none 0 0) ([]) (by repeat constructor) ⟨by have := and_lt (a := m) (declC_lt c); simp; omega, In.and c m, rfl⟩ ((wk_own 3 1 rfl).trans (wk (by repeat (first | exact .nil | refine .cons rfl ?_)) (by repeat (first | exact .nil | refine .cons (by first | exact .here | exact .there .here | exact .there (.there .here) | exact .there (.there (.there .here)) | exact .there (.there (.there (.there .here)))) ?_)))) ?_
    intro s v q ⟨hql, hin, hI⟩
    have hs : s < 1024 := by omega
    refine awp_block ?_
    refine awp_seq ?_
    refine awp_region ?_
    first | refine aops_q (aq_load rfl (by repeat (first | exact .here | apply UpdF.there)) List.not_mem_nil rfl rfl (by repeat constructor)) rfl rfl rfl ?_ | refine aops_q (aq_load_el rfl rfl rfl rfl (fun _ h => absurd h List.not_mem_nil)) rfl rfl rfl ?_
    refine aops_p (ap_move rfl) rfl rfl rfl ?_
    (refine aops_call (by repeat constructor) (unh_con c s hs hin) (by repeat (first | exact .nil | exact Split.none _ | apply Split.left | apply Split.right)) rfl rfl ?_; rintro _ _ ⟨k, b, rfl, hb1, hb0, rfl⟩)
    refine aops_p (ap_move rfl) rfl rfl rfl ?_
    refine aops_p (ap_extract rfl rfl) rfl rfl rfl ?_
    refine aops_p (ap_extract rfl rfl) rfl rfl rfl ?_
    refine aops_p (ap_assign rfl) rfl rfl rfl ?_
    refine aops_p (ap_assign rfl) rfl rfl rfl ?_
    refine aops_nil ?_
    refine seqQ_n ?_
    refine awp_seq ?_
    refine awp_seq ?_
    refine awp_region ?_
    refine aops_p (ap_move rfl) rfl rfl rfl ?_
    refine aops_p (ap_not rfl) rfl rfl rfl ?_
    refine aops_nil ?_
    refine seqQ_n ?_
    refine awp_cond rfl (fun hc => ?_) (fun hc => ?_)
    · have hu := hb0 (not_t hc)
      rw [elim_none hu] at hI
      refine awp_seq ?_
      refine awp_region ?_
      refine aops_p (ap_move rfl) rfl rfl rfl ?_
      refine aops_p (ap_move rfl) rfl rfl rfl ?_
      refine aops_p (ap_assign rfl) rfl rfl rfl ?_
      refine aops_p (ap_assign rfl) rfl rfl rfl ?_
      refine aops_nil ?_
      refine seqQ_n ?_
      refine awp_freeze v [4,5] (by repeat (first | exact .here | apply Rem.there)) (by repeat (first | exact .nil | apply SelC.cons rfl (by first | exact Cv.fz | (apply Cv.agg; repeat (first | exact CvL.nil | apply CvL.cons (by first | exact Cv.fz | exact Cv.same))) | exact Cv.same))) (by repeat (first | exact .nil | apply HeapA.box (by repeat (first | exact CvL.nil | apply CvL.cons (by first | exact Cv.fz | exact Cv.same))) | apply HeapA.arr)) ?_
      refine awp_ret ?_
      refine seqQ_r ?_
      refine blockQ_r ?_
      refine seqQ_r ?_
      refine blockQ_r ?_
      refine post_is (.tmp rfl (.tmp rfl .nil)) (by repeat (first | exact .nil | refine .cons (by first | exact .here | exact .there .here | exact .there (.there .here) | exact .there (.there (.there .here)) | exact .there (.there (.there (.there .here)))) ?_)) ?_
      rw [great_eq c hm, gOrder_eq c hm, ← hI]; rfl
    · have hu := hb1 (not_f hc)
      obtain ⟨j, x, rfl, hj, _, _⟩ := hin.get hs (unh_has hu).1
      have hcl : clr s j < s := by have := unh_drop hu; rwa [Int.toNat_natCast] at this
      have hp := pow_lt10 hj
      refine awp_skip ?_
      refine seqQ_n ?_
      refine awp_seq ?_
      refine awp_region ?_
      refine aops_p (ap_move rfl) rfl rfl rfl ?_
      refine aops_p (ap_move rfl) rfl rfl rfl ?_
      refine aops_lit (e := 3) (sz := 1) (by_ := 8) rfl rfl (by repeat constructor) rfl rfl rfl rfl ?_
      first | refine aops_append (e := 3) (sz := 1) (by_ := 8) rfl (by repeat (first | exact .here | apply UpdF.there)) rfl rfl rfl rfl rfl (by simp only [List.length_cons, List.length_nil, List.length_append, List.length_map, avs_len]; omega) (fun v29 hv29 => ?_) | refine aops_append_nil (e := 3) (sz := 1) (by_ := 8) rfl rfl rfl rfl rfl rfl (by simp only [List.length_cons, List.length_nil, List.length_append, List.length_map, avs_len]; omega) (fun v29 hv29 => ?_)
      refine aops_p (ap_assign rfl) rfl rfl rfl ?_
      refine aops_nil ?_
      refine seqQ_n ?_
      refine awp_region ?_
      refine aops_p (ap_move rfl) rfl rfl rfl ?_
      refine aops_p (ap_move rfl) rfl rfl rfl ?_
      refine aops_p (ap_shl (p := 1) rfl rfl rfl (by omega) (by omega)) rfl rfl rfl ?_
      refine aops_p (ap_bits rfl rfl rfl (by omega) (by omega)) rfl rfl rfl ?_
      refine aops_p (ap_assign rfl) rfl rfl rfl ?_
      refine aops_nil ?_
      refine blockQ_n ?_
      refine seqQ_n ?_
      rw [mapi_snoc]
      refine ⟨clr s j, v29, q ++ [(j : Int)], ⟨by simp only [List.length_append, List.length_cons, List.length_nil]; omega, hin.clr, by rw [← hI, elim_some hu, Int.toNat_natCast]⟩, hcl, ?_⟩
      unfold clr; rw [Nat.one_mul]
      exact (wk (by repeat (first | exact .nil | refine .cons rfl ?_)) (by repeat (first | exact .nil | refine .cons (by first | exact .here | exact .there .here | exact .there (.there .here) | exact .there (.there (.there .here)) | exact .there (.there (.there (.there .here)))) ?_)))
theorem great_con (c : List Mem) (s : Int) : Con Try.prog 40 [cv c, .i s] [] (Is (.i (great c s : Int)) []) := by
  have hcap : capB = 140737488355328 := rfl
  refine con_intro Try.func40 rfl Try.call40 rfl ?_
  refine awp_seq ?_
  refine awp_region ?_
  refine aops_box rfl (by first | exact .agg | exact .sl | exact .v rfl | exact .v (by assumption)) rfl rfl (fun b2 => ?_)
  refine aops_p (ap_assign rfl) rfl rfl rfl ?_
  refine aops_nil ?_
  refine seqQ_n ?_
  refine awp_seq ?_
  refine awp_region ?_
  first | refine aops_q (aq_load rfl (by repeat (first | exact .here | apply UpdF.there)) List.not_mem_nil rfl rfl (by repeat constructor)) rfl rfl rfl ?_ | refine aops_q (aq_load_el rfl rfl rfl rfl (fun _ h => absurd h List.not_mem_nil)) rfl rfl rfl ?_
  refine aops_p (ap_move rfl) rfl rfl rfl ?_
  refine aops_call_v (by repeat constructor) (elimin_con c _) rfl rfl ?_
  refine aops_p (ap_move rfl) rfl rfl rfl ?_
  refine aops_p (ap_extract rfl rfl) rfl rfl rfl ?_
  refine aops_p (ap_extract rfl rfl) rfl rfl rfl ?_
  refine aops_p (ap_assign rfl) rfl rfl rfl ?_
  refine aops_p (ap_assign rfl) rfl rfl rfl ?_
  refine aops_nil ?_
  refine seqQ_n ?_
  refine awp_seq ?_
  refine awp_region ?_
  refine aops_p (ap_move rfl) rfl rfl rfl ?_
  refine aops_p (ap_assign rfl) rfl rfl rfl ?_
  refine aops_nil ?_
  refine seqQ_n ?_
  refine awp_ret ?_
  refine post_is (.tmp rfl .nil) (by repeat (first | exact .nil | refine .cons (by first | exact .here | exact .there .here | exact .there (.there .here) | exact .there (.there (.there .here)) | exact .there (.there (.there (.there .here)))) ?_)) rfl
theorem blocks_con (c : List Mem) (v s : Int) : Con Try.prog 86 [cv c, .i v, .i s] [] (Is (.b (blocksC c v s)) []) := by
  have hcap : capB = 140737488355328 := rfl
  refine con_intro Try.func86 rfl Try.call86 rfl ?_
  refine awp_seq ?_
  refine awp_region ?_
  refine aops_box rfl (by first | exact .agg | exact .sl | exact .v rfl | exact .v (by assumption)) rfl rfl (fun b3 => ?_)
  refine aops_p (ap_assign rfl) rfl rfl rfl ?_
  refine aops_nil ?_
  refine seqQ_n ?_
  refine awp_seq ?_
  refine awp_seq ?_
  refine awp_region ?_
  refine aops_p (ap_move rfl) rfl rfl rfl ?_
  refine aops_call_b (by repeat constructor) (valid_con _) rfl rfl (fun c8 hc8 => ?_)
  refine aops_p (ap_not rfl) rfl rfl rfl ?_
  refine aops_p (ap_move rfl) rfl rfl rfl ?_
  all_goals (first | (refine aops_yes rfl rfl rfl rfl (by first | with_reducible assumption | with_reducible exact rfl | decide | (refine decide_eq_true ?_; omega) | (refine decide_eq_false ?_; omega)) ?_; (first | refine aops_q (aq_load rfl (by repeat (first | exact .here | apply UpdF.there)) List.not_mem_nil rfl rfl (by repeat constructor)) rfl rfl rfl ?_ | refine aops_q (aq_load_el rfl rfl rfl rfl (fun _ h => absurd h List.not_mem_nil)) rfl rfl rfl ?_)) | refine aops_no_u rfl rfl rfl ?_ | refine aops_no_f rfl rfl rfl rfl (by first | with_reducible assumption | with_reducible exact rfl | decide | (refine decide_eq_true ?_; omega) | (refine decide_eq_false ?_; omega)) ?_ | (refine aops_guard_f rfl rfl rfl rfl (fun hg => ?_) (fun hg => ?_); case' _ => (first | refine aops_q (aq_load rfl (by repeat (first | exact .here | apply UpdF.there)) List.not_mem_nil rfl rfl (by repeat constructor)) rfl rfl rfl ?_ | refine aops_q (aq_load_el rfl rfl rfl rfl (fun _ h => absurd h List.not_mem_nil)) rfl rfl rfl ?_)))
  all_goals (first | (refine aops_yes rfl rfl rfl rfl (by first | with_reducible assumption | with_reducible exact rfl | decide | (refine decide_eq_true ?_; omega) | (refine decide_eq_false ?_; omega)) ?_; (refine aops_call_v (by repeat constructor) (decl_con c) rfl rfl ?_)) | refine aops_no_u rfl rfl rfl ?_ | refine aops_no_f rfl rfl rfl rfl (by first | with_reducible assumption | with_reducible exact rfl | decide | (refine decide_eq_true ?_; omega) | (refine decide_eq_false ?_; omega)) ?_ | (refine aops_guard_f rfl rfl rfl rfl (fun hg => ?_) (fun hg => ?_); case' _ => (refine aops_call_v (by repeat constructor) (decl_con c) rfl rfl ?_)))
  all_goals (first | (refine aops_yes rfl rfl rfl rfl (by first | with_reducible assumption | with_reducible exact rfl | decide | (refine decide_eq_true ?_; omega) | (refine decide_eq_false ?_; omega)) ?_; (refine aops_p (ap_move rfl) rfl rfl rfl ?_)) | refine aops_no_u rfl rfl rfl ?_ | refine aops_no_f rfl rfl rfl rfl (by first | with_reducible assumption | with_reducible exact rfl | decide | (refine decide_eq_true ?_; omega) | (refine decide_eq_false ?_; omega)) ?_ | (refine aops_guard_f rfl rfl rfl rfl (fun hg => ?_) (fun hg => ?_); case' _ => (refine aops_p (ap_move rfl) rfl rfl rfl ?_)))
  all_goals (first | (refine aops_yes rfl rfl rfl rfl (by first | with_reducible assumption | with_reducible exact rfl | decide | (refine decide_eq_true ?_; omega) | (refine decide_eq_false ?_; omega)) ?_; (refine aops_call_b (by repeat constructor) (has_con _ _) rfl rfl (fun c14 hc14 => ?_))) | refine aops_no_u rfl rfl rfl ?_ | refine aops_no_f rfl rfl rfl rfl (by first | with_reducible assumption | with_reducible exact rfl | decide | (refine decide_eq_true ?_; omega) | (refine decide_eq_false ?_; omega)) ?_ | (refine aops_guard_f rfl rfl rfl rfl (fun hg => ?_) (fun hg => ?_); case' _ => (refine aops_call_b (by repeat constructor) (has_con _ _) rfl rfl (fun c14 hc14 => ?_))))
  all_goals (first | (refine aops_yes rfl rfl rfl rfl (by first | with_reducible assumption | with_reducible exact rfl | decide | (refine decide_eq_true ?_; omega) | (refine decide_eq_false ?_; omega)) ?_; (refine aops_p (ap_not rfl) rfl rfl rfl ?_)) | refine aops_no_u rfl rfl rfl ?_ | refine aops_no_f rfl rfl rfl rfl (by first | with_reducible assumption | with_reducible exact rfl | decide | (refine decide_eq_true ?_; omega) | (refine decide_eq_false ?_; omega)) ?_ | (refine aops_guard_f rfl rfl rfl rfl (fun hg => ?_) (fun hg => ?_); case' _ => (refine aops_p (ap_not rfl) rfl rfl rfl ?_)))
  all_goals (first | refine aops_p (ap_pick_true rfl (by first | with_reducible assumption | with_reducible exact rfl | decide | (refine decide_eq_true ?_; omega) | (refine decide_eq_false ?_; omega)) rfl) rfl rfl rfl ?_ | refine aops_p (ap_pick_false rfl (by first | with_reducible assumption | with_reducible exact rfl | decide | (refine decide_eq_true ?_; omega) | (refine decide_eq_false ?_; omega)) rfl) rfl rfl rfl ?_)
  all_goals (
    refine aops_nil ?_
    refine seqQ_n ?_
    refine awp_cond rfl (fun hc => ?_) (fun hc => ?_)
    · first
      | (exact absurd hc (by decide))
      | (refine awp_seq ?_
         refine awp_region ?_
         refine aops_p (ap_assign rfl) rfl rfl rfl ?_
         refine aops_nil ?_
         refine seqQ_n ?_
         refine awp_ret ?_
         refine seqQ_r ?_
         refine post_is (.tmp rfl .nil) (by repeat (first | exact .nil | refine .cons (by first | exact .here | exact .there .here | exact .there (.there .here) | exact .there (.there (.there .here)) | exact .there (.there (.there (.there .here)))) ?_)) ?_
         first | (rw [blocks_f2 (hc14.trans (not_t (by with_reducible assumption)))]; rfl) | (rw [blocks_f1 (hc8.trans (not_t (by with_reducible assumption)))]; rfl)
        )
    · first
      | (exact absurd hc (by decide))
      | (have hv0 := hc8.trans (not_f (by with_reducible assumption))
         have hh0 := hc14.trans (not_f hc)
         obtain ⟨m, rfl, hm⟩ := valid_nat hv0
         obtain ⟨j, x, rfl, hj, hx, _⟩ := has_decl hh0
         have hx' := getMap mv hx
         have hp := pow_lt10 hj
         have hxt := tOf_get hx
         have hand : 1023 &&& (2 ^ 63 - 1 - m) < 1024 := Nat.lt_of_le_of_lt Nat.and_le_left (by omega)
         refine awp_skip ?_
         refine seqQ_n ?_
         refine awp_seq ?_
         refine awp_draw (Hm := []) (by kernel_rfl) (by repeat (first | exact .nil | exact Split.none _ | apply Split.left | apply Split.right)) ?_
         first | refine aany_take 0 rfl (.none rfl) (by kernel_rfl) (by kernel_rfl) (by kernel_rfl) (AP.ar (ap_fieldAddr (off := 0) (sz := 1) (g := false) rfl rfl)) rfl rfl ?_ | refine aany_take 0 rfl (.none rfl) (by kernel_rfl) (by kernel_rfl) (by kernel_rfl) (AP.ar (ap_fieldAddr_el (off := 0) (sz := 1) (g := false) rfl rfl (by repeat constructor))) rfl rfl ?_
         first | refine aany_take 1 rfl (.none rfl) (by kernel_rfl) (by kernel_rfl) (by kernel_rfl) (ar_load1 rfl (by repeat (first | exact .here | apply UpdF.there)) rfl (by repeat constructor)) rfl rfl ?_ | refine aany_take 1 rfl (.none rfl) (by kernel_rfl) (by kernel_rfl) (by kernel_rfl) (AQ.ar (aq_load_el1 rfl rfl (by first | exact .sl | exact .v rfl | exact .v (by assumption)) (fun _ h => h))) rfl rfl ?_ | refine aany_take 1 rfl (.none rfl) (by kernel_rfl) (by kernel_rfl) (by kernel_rfl) (AQ.ar (aq_load_el1' rfl rfl (by first | exact .sl | exact .v rfl | exact .v (by assumption)) (fun _ h => h))) rfl rfl ?_ | refine aany_take 1 rfl (.none rfl) (by kernel_rfl) (by kernel_rfl) (by kernel_rfl) (ar_load_own1 rfl (by repeat (first | exact .here | apply UpdF.there)) rfl (by first | with_reducible assumption | assumption | rfl) (by first | exact .sl | exact .v rfl | exact .v (by assumption))) rfl rfl ?_
         refine aany_take 2 rfl (.none rfl) (by kernel_rfl) (by kernel_rfl) (by kernel_rfl) (AP.ar (ap_move rfl)) rfl rfl ?_
         first | refine aany_take 3 rfl (.none rfl) (by kernel_rfl) (by kernel_rfl) (by kernel_rfl) (AP.ar (ap_index rfl rfl rfl rfl (by decide) rfl (by first | with_reducible assumption | assumption | rfl))) rfl rfl ?_ | refine aany_take 3 rfl (.none rfl) (by kernel_rfl) (by kernel_rfl) (by kernel_rfl) (AP.ar (ap_index rfl rfl rfl rfl (by decide) (by omega) (by first | with_reducible assumption | assumption | rfl))) rfl rfl ?_ | refine aany_take 3 rfl (.none rfl) (by kernel_rfl) (by kernel_rfl) (by kernel_rfl) (AP.ar (ap_index_own rfl rfl rfl rfl rfl (by first | omega | (simp only [List.length_map, List.length_set, avs_len]; omega)))) rfl rfl ?_
         first | refine aany_take 4 rfl (.none rfl) (by kernel_rfl) (by kernel_rfl) (by kernel_rfl) (AP.ar (ap_fieldAddr (off := 1) (sz := 3) (g := true) rfl rfl)) rfl rfl ?_ | refine aany_take 4 rfl (.none rfl) (by kernel_rfl) (by kernel_rfl) (by kernel_rfl) (AP.ar (ap_fieldAddr_el (off := 1) (sz := 3) (g := true) rfl rfl (by repeat constructor))) rfl rfl ?_
         first | refine aany_take 5 rfl (.none rfl) (by kernel_rfl) (by kernel_rfl) (by kernel_rfl) (ar_load rfl (by repeat (first | exact .here | apply UpdF.there)) rfl rfl (by repeat constructor)) rfl rfl ?_ | refine aany_take 5 rfl (.none rfl) (by kernel_rfl) (by kernel_rfl) (by kernel_rfl) (AQ.ar (aq_load_el rfl rfl rfl rfl (fun _ h => h))) rfl rfl ?_
         refine aany_take 6 rfl (.none rfl) (by kernel_rfl) (by kernel_rfl) (by kernel_rfl) (AP.ar (ap_move rfl)) rfl rfl ?_
         refine aany_take 7 rfl (.none rfl) (by kernel_rfl) (by kernel_rfl) (by kernel_rfl) (AP.ar (ap_bits (p := 1023) rfl rfl rfl (by omega) (by omega))) rfl rfl ?_
         refine aany_take 8 rfl (.none rfl) (by kernel_rfl) (by kernel_rfl) (by kernel_rfl) (AP.ar (ap_move rfl)) rfl rfl ?_
         refine aany_take 9 rfl (.none rfl) (by kernel_rfl) (by kernel_rfl) (by kernel_rfl) (AP.ar (ap_shl (p := 1) rfl rfl rfl (by omega) (by omega))) rfl rfl ?_
         refine aany_take 10 rfl (.none rfl) (by kernel_rfl) (by kernel_rfl) (by kernel_rfl) (AP.ar (ap_bits rfl rfl rfl (by omega) (by omega))) rfl rfl ?_
         refine aany_one 11 (by kernel_rfl) rfl (.none rfl) ?_
         refine aops_call_b (by repeat constructor) (sat_con _ x.t) rfl rfl (fun c28 hc28 => ?_)
         refine aops_nil ?_
         refine aany_take 12 rfl (.none rfl) (by kernel_rfl) (by kernel_rfl) (by kernel_rfl) (AP.ar (ap_not rfl)) rfl rfl ?_
         refine aany_take 13 rfl (.none rfl) (by kernel_rfl) (by kernel_rfl) (by kernel_rfl) (AP.ar (ap_assign rfl)) rfl rfl ?_
         refine aany_nil (by kernel_rfl) ?_
         all_goals (
           refine seqQ_n ?_
           refine awp_ret ?_
           refine post_is (.tmp rfl .nil) (by repeat (first | exact .nil | refine .cons (by first | exact .here | exact .there .here | exact .there (.there .here) | exact .there (.there (.there .here)) | exact .there (.there (.there (.there .here)))) ?_)) ?_
           rw [blocks_t hv0 hh0 hxt, hc28]; rfl
           )
        )
    )
theorem accepts_con (c : List Mem) (v a b : Int) : Con Try.prog 28 [cv c, .i v, .i a, .i b] [] (Is (.b (acceptsC c v a b)) []) := by
  have hcap : capB = 140737488355328 := rfl
  refine con_intro Try.func28 rfl Try.call28 rfl ?_
  refine awp_seq ?_
  refine awp_region ?_
  refine aops_box rfl (by first | exact .agg | exact .sl | exact .v rfl | exact .v (by assumption)) rfl rfl (fun b4 => ?_)
  refine aops_p (ap_assign rfl) rfl rfl rfl ?_
  refine aops_nil ?_
  refine seqQ_n ?_
  refine awp_seq ?_
  refine awp_seq ?_
  refine awp_region ?_
  refine aops_p (ap_move rfl) rfl rfl rfl ?_
  refine aops_call_b (by repeat constructor) (valid_con _) rfl rfl (fun c10 hc10 => ?_)
  refine aops_p (ap_not rfl) rfl rfl rfl ?_
  refine aops_p (ap_move rfl) rfl rfl rfl ?_
  all_goals (first | (refine aops_yes rfl rfl rfl rfl (by first | with_reducible assumption | with_reducible exact rfl | decide | (refine decide_eq_true ?_; omega) | (refine decide_eq_false ?_; omega)) ?_; (refine aops_p (ap_move rfl) rfl rfl rfl ?_)) | refine aops_no_u rfl rfl rfl ?_ | refine aops_no_f rfl rfl rfl rfl (by first | with_reducible assumption | with_reducible exact rfl | decide | (refine decide_eq_true ?_; omega) | (refine decide_eq_false ?_; omega)) ?_ | (refine aops_guard_f rfl rfl rfl rfl (fun hg => ?_) (fun hg => ?_); case' _ => (refine aops_p (ap_move rfl) rfl rfl rfl ?_)))
  all_goals (first | (refine aops_yes rfl rfl rfl rfl (by first | with_reducible assumption | with_reducible exact rfl | decide | (refine decide_eq_true ?_; omega) | (refine decide_eq_false ?_; omega)) ?_; (refine aops_call_b (by repeat constructor) (valid_con _) rfl rfl (fun c14 hc14 => ?_))) | refine aops_no_u rfl rfl rfl ?_ | refine aops_no_f rfl rfl rfl rfl (by first | with_reducible assumption | with_reducible exact rfl | decide | (refine decide_eq_true ?_; omega) | (refine decide_eq_false ?_; omega)) ?_ | (refine aops_guard_f rfl rfl rfl rfl (fun hg => ?_) (fun hg => ?_); case' _ => (refine aops_call_b (by repeat constructor) (valid_con _) rfl rfl (fun c14 hc14 => ?_))))
  all_goals (first | (refine aops_yes rfl rfl rfl rfl (by first | with_reducible assumption | with_reducible exact rfl | decide | (refine decide_eq_true ?_; omega) | (refine decide_eq_false ?_; omega)) ?_; (refine aops_p (ap_not rfl) rfl rfl rfl ?_)) | refine aops_no_u rfl rfl rfl ?_ | refine aops_no_f rfl rfl rfl rfl (by first | with_reducible assumption | with_reducible exact rfl | decide | (refine decide_eq_true ?_; omega) | (refine decide_eq_false ?_; omega)) ?_ | (refine aops_guard_f rfl rfl rfl rfl (fun hg => ?_) (fun hg => ?_); case' _ => (refine aops_p (ap_not rfl) rfl rfl rfl ?_)))
  all_goals (first | refine aops_p (ap_pick_true rfl (by first | with_reducible assumption | with_reducible exact rfl | decide | (refine decide_eq_true ?_; omega) | (refine decide_eq_false ?_; omega)) rfl) rfl rfl rfl ?_ | refine aops_p (ap_pick_false rfl (by first | with_reducible assumption | with_reducible exact rfl | decide | (refine decide_eq_true ?_; omega) | (refine decide_eq_false ?_; omega)) rfl) rfl rfl rfl ?_)
  all_goals (
    refine aops_nil ?_
    refine seqQ_n ?_
    refine awp_cond rfl (fun hc => ?_) (fun hc => ?_)
    · first
      | (exact absurd hc (by decide))
      | (refine awp_seq ?_
         refine awp_region ?_
         refine aops_p (ap_assign rfl) rfl rfl rfl ?_
         refine aops_nil ?_
         refine seqQ_n ?_
         refine awp_ret ?_
         refine seqQ_r ?_
         refine post_is (.tmp rfl .nil) (by repeat (first | exact .nil | refine .cons (by first | exact .here | exact .there .here | exact .there (.there .here) | exact .there (.there (.there .here)) | exact .there (.there (.there (.there .here)))) ?_)) ?_
         first | (rw [accepts_f2 (hc14.trans (not_t (by with_reducible assumption)))]; rfl) | (rw [accepts_f1 (hc10.trans (not_t (by with_reducible assumption)))]; rfl)
        )
    · first
      | (exact absurd hc (by decide))
      | (have hv0 := hc10.trans (not_f (by with_reducible assumption))
         have hw0 := hc14.trans (not_f hc)
         obtain ⟨m, rfl, hm⟩ := valid_nat hv0
         obtain ⟨j, rfl, hj⟩ := valid_nat hw0
         refine awp_skip ?_
         refine seqQ_n ?_
         refine awp_seq ?_
         refine awp_region ?_
         first | refine aops_q (aq_load rfl (by repeat (first | exact .here | apply UpdF.there)) List.not_mem_nil rfl rfl (by repeat constructor)) rfl rfl rfl ?_ | refine aops_q (aq_load_el rfl rfl rfl rfl (fun _ h => absurd h List.not_mem_nil)) rfl rfl rfl ?_
         refine aops_p (ap_move rfl) rfl rfl rfl ?_
         refine aops_p (ap_move rfl) rfl rfl rfl ?_
         refine aops_call_b (by repeat constructor) (blocks_con c _ _) rfl rfl (fun c20 hc20 => ?_)
         refine aops_p (ap_move rfl) rfl rfl rfl ?_
         all_goals (first | (refine aops_yes rfl rfl rfl rfl (by first | with_reducible assumption | with_reducible exact rfl | decide | (refine decide_eq_true ?_; omega) | (refine decide_eq_false ?_; omega)) ?_; (first | refine aops_q (aq_load rfl (by repeat (first | exact .here | apply UpdF.there)) List.not_mem_nil rfl rfl (by repeat constructor)) rfl rfl rfl ?_ | refine aops_q (aq_load_el rfl rfl rfl rfl (fun _ h => absurd h List.not_mem_nil)) rfl rfl rfl ?_)) | refine aops_no_u rfl rfl rfl ?_ | refine aops_no_f rfl rfl rfl rfl (by first | with_reducible assumption | with_reducible exact rfl | decide | (refine decide_eq_true ?_; omega) | (refine decide_eq_false ?_; omega)) ?_ | (refine aops_guard_f rfl rfl rfl rfl (fun hg => ?_) (fun hg => ?_); case' _ => (first | refine aops_q (aq_load rfl (by repeat (first | exact .here | apply UpdF.there)) List.not_mem_nil rfl rfl (by repeat constructor)) rfl rfl rfl ?_ | refine aops_q (aq_load_el rfl rfl rfl rfl (fun _ h => absurd h List.not_mem_nil)) rfl rfl rfl ?_)))
         all_goals (first | (refine aops_yes rfl rfl rfl rfl (by first | with_reducible assumption | with_reducible exact rfl | decide | (refine decide_eq_true ?_; omega) | (refine decide_eq_false ?_; omega)) ?_; (refine aops_p (ap_move rfl) rfl rfl rfl ?_)) | refine aops_no_u rfl rfl rfl ?_ | refine aops_no_f rfl rfl rfl rfl (by first | with_reducible assumption | with_reducible exact rfl | decide | (refine decide_eq_true ?_; omega) | (refine decide_eq_false ?_; omega)) ?_ | (refine aops_guard_f rfl rfl rfl rfl (fun hg => ?_) (fun hg => ?_); case' _ => (refine aops_p (ap_move rfl) rfl rfl rfl ?_)))
         all_goals (first | (refine aops_yes rfl rfl rfl rfl (by first | with_reducible assumption | with_reducible exact rfl | decide | (refine decide_eq_true ?_; omega) | (refine decide_eq_false ?_; omega)) ?_; (refine aops_p (ap_move rfl) rfl rfl rfl ?_)) | refine aops_no_u rfl rfl rfl ?_ | refine aops_no_f rfl rfl rfl rfl (by first | with_reducible assumption | with_reducible exact rfl | decide | (refine decide_eq_true ?_; omega) | (refine decide_eq_false ?_; omega)) ?_ | (refine aops_guard_f rfl rfl rfl rfl (fun hg => ?_) (fun hg => ?_); case' _ => (refine aops_p (ap_move rfl) rfl rfl rfl ?_)))
         all_goals (first | (refine aops_yes rfl rfl rfl rfl (by first | with_reducible assumption | with_reducible exact rfl | decide | (refine decide_eq_true ?_; omega) | (refine decide_eq_false ?_; omega)) ?_; (refine aops_p (ap_bits rfl rfl rfl (by omega) (by omega)) rfl rfl rfl ?_)) | refine aops_no_u rfl rfl rfl ?_ | refine aops_no_f rfl rfl rfl rfl (by first | with_reducible assumption | with_reducible exact rfl | decide | (refine decide_eq_true ?_; omega) | (refine decide_eq_false ?_; omega)) ?_ | (refine aops_guard_f rfl rfl rfl rfl (fun hg => ?_) (fun hg => ?_); case' _ => (refine aops_p (ap_bits rfl rfl rfl (by omega) (by omega)) rfl rfl rfl ?_)))
         all_goals (first | (refine aops_yes rfl rfl rfl rfl (by first | with_reducible assumption | with_reducible exact rfl | decide | (refine decide_eq_true ?_; omega) | (refine decide_eq_false ?_; omega)) ?_; (refine aops_call_v (by repeat constructor) (great_con c _) rfl rfl ?_)) | refine aops_no_u rfl rfl rfl ?_ | refine aops_no_f rfl rfl rfl rfl (by first | with_reducible assumption | with_reducible exact rfl | decide | (refine decide_eq_true ?_; omega) | (refine decide_eq_false ?_; omega)) ?_ | (refine aops_guard_f rfl rfl rfl rfl (fun hg => ?_) (fun hg => ?_); case' _ => (refine aops_call_v (by repeat constructor) (great_con c _) rfl rfl ?_)))
         all_goals (first | (refine aops_yes rfl rfl rfl rfl (by first | with_reducible assumption | with_reducible exact rfl | decide | (refine decide_eq_true ?_; omega) | (refine decide_eq_false ?_; omega)) ?_; (refine aops_p (ap_move rfl) rfl rfl rfl ?_)) | refine aops_no_u rfl rfl rfl ?_ | refine aops_no_f rfl rfl rfl rfl (by first | with_reducible assumption | with_reducible exact rfl | decide | (refine decide_eq_true ?_; omega) | (refine decide_eq_false ?_; omega)) ?_ | (refine aops_guard_f rfl rfl rfl rfl (fun hg => ?_) (fun hg => ?_); case' _ => (refine aops_p (ap_move rfl) rfl rfl rfl ?_)))
         all_goals (first | (refine aops_yes rfl rfl rfl rfl (by first | with_reducible assumption | with_reducible exact rfl | decide | (refine decide_eq_true ?_; omega) | (refine decide_eq_false ?_; omega)) ?_; (refine aops_call_b (by repeat constructor) (has_con _ _) rfl rfl (fun c28 hc28 => ?_))) | refine aops_no_u rfl rfl rfl ?_ | refine aops_no_f rfl rfl rfl rfl (by first | with_reducible assumption | with_reducible exact rfl | decide | (refine decide_eq_true ?_; omega) | (refine decide_eq_false ?_; omega)) ?_ | (refine aops_guard_f rfl rfl rfl rfl (fun hg => ?_) (fun hg => ?_); case' _ => (refine aops_call_b (by repeat constructor) (has_con _ _) rfl rfl (fun c28 hc28 => ?_))))
         all_goals (first | refine aops_p (ap_pick_true rfl (by first | with_reducible assumption | with_reducible exact rfl | decide | (refine decide_eq_true ?_; omega) | (refine decide_eq_false ?_; omega)) rfl) rfl rfl rfl ?_ | refine aops_p (ap_pick_false rfl (by first | with_reducible assumption | with_reducible exact rfl | decide | (refine decide_eq_true ?_; omega) | (refine decide_eq_false ?_; omega)) rfl) rfl rfl rfl ?_)
         all_goals (refine aops_p (ap_assign rfl) rfl rfl rfl ?_)
         all_goals (
           refine aops_nil ?_
           refine seqQ_n ?_
           refine awp_ret ?_
           refine post_is (.tmp rfl .nil) (by repeat (first | exact .nil | refine .cons (by first | exact .here | exact .there .here | exact .there (.there .here) | exact .there (.there (.there .here)) | exact .there (.there (.there (.there .here)))) ?_)) ?_
           rw [accepts_t hv0 hw0, hc20]
           first | (rw [hc28, show c20 = false by with_reducible assumption]; rfl) | (rw [show c20 = true by with_reducible assumption]; rfl)
           )
        )
    )
theorem q2 : Con Try.prog 28 [cv c4, .i 0, .i 3, .i 0] [] (Is (.b false) []) := by
  have h := accepts_con c4 0 3 0
  rwa [show acceptsC c4 0 3 0 = false from by kernel_rfl] at h
theorem badN_nd (k : Int) : (!nd k) = badN k := by
  unfold nd badN
  by_cases h1 : 0 ≤ k <;> by_cases h2 : k < 10 <;> simp [h1, h2] <;> omega
theorem any_cons_f {p : Int → Bool} {x : Int} {r : List Int} (h : p x = false) : (x :: r).any p = r.any p := by simp [h]
theorem any_cons_t {p : Int → Bool} {x : Int} {r : List Int} (h : p x = true) : (x :: r).any p = true := by simp [h]
theorem of_con (l : List Int) : Con Try.prog 118 [.sl 1 (l.map .i)] [] (Is (.tup [.i (ofGo 0 l).1, .i (ofGo 0 l).2]) []) := by
  have hcap : capB = 140737488355328 := rfl
  have hl1 : (l.map D.i).length = l.length := by simp
  refine con_intro Try.func118 rfl Try.call118 rfl ?_
  refine awp_seq ?_
  refine awp_region ?_
  refine aops_p (ap_assign rfl) rfl rfl rfl ?_
  refine aops_p (ap_assign rfl) rfl rfl rfl ?_
  refine aops_nil ?_
  refine seqQ_n ?_
  refine awp_seq ?_
  refine awp_region ?_
  refine aops_p (ap_assign rfl) rfl rfl rfl ?_
  refine aops_nil ?_
  refine seqQ_n ?_
  refine awp_seq ?_
  refine awp_seq ?_
  refine awp_region ?_
  refine aops_p (ap_move rfl) rfl rfl rfl ?_
  first | refine aops_len rfl rfl rfl rfl (fun _ => ?_) | refine aops_p (ap_len_arr rfl (by repeat (first | exact .here | apply UpdF.there)) rfl) rfl rfl rfl ?_ | refine aops_p (ap_len_nil rfl rfl) rfl rfl rfl ?_
  refine aops_p (ap_move rfl) rfl rfl rfl ?_
  refine aops_nil ?_
  refine seqQ_n ?_
  refine awp_block ?_
  refine awp_loop2 [7, 8] [] (fun (k : Nat) (s : Nat) r => (4, .i (s : Int)) :: (9, .i (k : Int)) :: r) (fun (k : Nat) (s : Nat) r => r) (fun (k : Nat) (s : Nat) => k ≤ l.length ∧ s < 1024 ∧ ofGo s (l.drop k) = ofGo 0 l) (fun (k : Nat) (s : Nat) => l.length - k) (0) (0) (by repeat constructor) ⟨by omega, by omega, by simp⟩ (wk (by repeat (first | exact .nil | refine .cons rfl ?_)) (by repeat (first | exact .nil | refine .cons (by first | exact .here | exact .there .here | exact .there (.there .here) | exact .there (.there (.there .here)) | exact .there (.there (.there (.there .here)))) ?_))) ?_
  intro k s ⟨hk, hs, hI⟩
  refine awp_seq ?_
  refine awp_region ?_
  refine aops_p (ap_cmp rfl rfl rfl) rfl rfl rfl ?_
  refine aops_nil ?_
  refine seqQ_n ?_
  refine awp_seq ?_
  refine awp_cond rfl (fun hc => ?_) (fun hc => ?_)
  · have hlt : k < l.length := by have := of_decide_eq_true hc; omega
    obtain ⟨x, hx, hd⟩ := drop_cons hlt
    have hx' := getMap D.i hx
    refine awp_skip ?_
    refine seqQ_n ?_
    refine awp_seq ?_
    refine awp_block ?_
    refine awp_seq ?_
    refine awp_region ?_
    first | refine aops_p (ap_index rfl rfl rfl rfl (by decide) rfl (by first | with_reducible assumption | assumption | rfl)) rfl rfl rfl ?_ | refine aops_p (ap_index rfl rfl rfl rfl (by decide) (by omega) (by first | with_reducible assumption | assumption | rfl)) rfl rfl rfl ?_ | refine aops_p (ap_index_own rfl rfl rfl rfl rfl (by first | omega | (simp only [List.length_map, List.length_set, avs_len]; omega))) rfl rfl rfl ?_
    first | refine aops_q (aq_load1 rfl (by repeat (first | exact .here | apply UpdF.there)) List.not_mem_nil rfl (by repeat constructor)) rfl rfl rfl ?_ | refine aops_q (aq_load_el1 rfl rfl (by first | exact .sl | exact .v rfl | exact .v (by assumption)) (fun _ h => absurd h List.not_mem_nil)) rfl rfl rfl ?_ | refine aops_q (aq_load_el1' rfl rfl (by first | exact .sl | exact .v rfl | exact .v (by assumption)) (fun _ h => absurd h List.not_mem_nil)) rfl rfl rfl ?_ | refine aops_q (aq_load_own1 rfl (by repeat (first | exact .here | apply UpdF.there)) List.not_mem_nil rfl (by first | with_reducible assumption | assumption | rfl) (by first | exact .sl | exact .v rfl | exact .v (by assumption))) rfl rfl rfl ?_
    refine aops_p (ap_assign rfl) rfl rfl rfl ?_
    refine aops_nil ?_
    refine seqQ_n ?_
    refine awp_seq ?_
    refine awp_seq ?_
    refine awp_region ?_
    refine aops_p (ap_move rfl) rfl rfl rfl ?_
    refine aops_p (ap_cmp rfl rfl rfl) rfl rfl rfl ?_
    refine aops_p (ap_move rfl) rfl rfl rfl ?_
    all_goals (first | (refine aops_yes rfl rfl rfl rfl (by first | with_reducible assumption | with_reducible exact rfl | decide | (refine decide_eq_true ?_; omega) | (refine decide_eq_false ?_; omega)) ?_; (refine aops_p (ap_move rfl) rfl rfl rfl ?_)) | refine aops_no_u rfl rfl rfl ?_ | refine aops_no_f rfl rfl rfl rfl (by first | with_reducible assumption | with_reducible exact rfl | decide | (refine decide_eq_true ?_; omega) | (refine decide_eq_false ?_; omega)) ?_ | (refine aops_guard_f rfl rfl rfl rfl (fun hg => ?_) (fun hg => ?_); case' _ => (refine aops_p (ap_move rfl) rfl rfl rfl ?_)))
    all_goals (first | (refine aops_yes rfl rfl rfl rfl (by first | with_reducible assumption | with_reducible exact rfl | decide | (refine decide_eq_true ?_; omega) | (refine decide_eq_false ?_; omega)) ?_; (refine aops_p (ap_cmp rfl rfl rfl) rfl rfl rfl ?_)) | refine aops_no_u rfl rfl rfl ?_ | refine aops_no_f rfl rfl rfl rfl (by first | with_reducible assumption | with_reducible exact rfl | decide | (refine decide_eq_true ?_; omega) | (refine decide_eq_false ?_; omega)) ?_ | (refine aops_guard_f rfl rfl rfl rfl (fun hg => ?_) (fun hg => ?_); case' _ => (refine aops_p (ap_cmp rfl rfl rfl) rfl rfl rfl ?_)))
    all_goals (first | refine aops_p (ap_pick_true rfl (by first | with_reducible assumption | with_reducible exact rfl | decide | (refine decide_eq_true ?_; omega) | (refine decide_eq_false ?_; omega)) rfl) rfl rfl rfl ?_ | refine aops_p (ap_pick_false rfl (by first | with_reducible assumption | with_reducible exact rfl | decide | (refine decide_eq_true ?_; omega) | (refine decide_eq_false ?_; omega)) rfl) rfl rfl rfl ?_)
    all_goals (
      refine aops_nil ?_
      refine seqQ_n ?_
      refine awp_cond rfl (fun hc => ?_) (fun hc => ?_)
      · first
        | (exact absurd hc (by decide))
        | (refine awp_seq ?_
           refine awp_region ?_
           refine aops_p (ap_assign rfl) rfl rfl rfl ?_
           refine aops_p (ap_assign rfl) rfl rfl rfl ?_
           refine aops_nil ?_
           refine seqQ_n ?_
           refine awp_ret ?_
           refine seqQ_r ?_
           refine blockQ_r ?_
           refine seqQ_r ?_
           refine seqQ_r ?_
           refine blockQ_r ?_
           refine seqQ_r ?_
           refine post_is (.tmp rfl (.tmp rfl .nil)) .nil ?_
           rw [hd, ofGo, if_pos (by first | (have := of_decide_eq_true hg; omega) | (have := of_decide_eq_true hc; omega))] at hI
           rw [← hI]; rfl
          )
      · first
        | (exact absurd hc (by decide))
        | (have hc2 := hc
           refine awp_skip ?_
           refine seqQ_n ?_
           refine awp_seq ?_
           refine awp_seq ?_
           refine awp_region ?_
           refine aops_p (ap_move rfl) rfl rfl rfl ?_
           refine aops_p (ap_move rfl) rfl rfl rfl ?_
           refine aops_call_v (by repeat constructor) (has_con _ _) rfl rfl ?_
           refine aops_nil ?_
           refine seqQ_n ?_
           refine awp_cond rfl (fun hc => ?_) (fun hc => ?_)
           · refine awp_seq ?_
             refine awp_region ?_
             refine aops_p (ap_assign rfl) rfl rfl rfl ?_
             refine aops_p (ap_assign rfl) rfl rfl rfl ?_
             refine aops_nil ?_
             refine seqQ_n ?_
             refine awp_ret ?_
             refine seqQ_r ?_
             refine blockQ_r ?_
             refine seqQ_r ?_
             refine seqQ_r ?_
             refine blockQ_r ?_
             refine seqQ_r ?_
             refine post_is (.tmp rfl (.tmp rfl .nil)) .nil ?_
             have h3 := of_decide_eq_false hg
             have h4 := of_decide_eq_false hc2
             rw [hd, ofGo, if_neg (by omega), if_pos hc] at hI
             rw [← hI]; rfl
           · refine awp_skip ?_
             refine seqQ_n ?_
             obtain ⟨q, rfl, hq⟩ := badN_f hg hc2
             have hp2 := pow_lt10 hq
             refine awp_region ?_
             refine aops_p (ap_move rfl) rfl rfl rfl ?_
             refine aops_p (ap_move rfl) rfl rfl rfl ?_
             refine aops_p (ap_shl (p := 1) rfl rfl rfl (by omega) (by omega)) rfl rfl rfl ?_
             refine aops_p (ap_bits rfl rfl rfl (by omega) (by omega)) rfl rfl rfl ?_
             refine aops_p (ap_assign rfl) rfl rfl rfl ?_
             refine aops_nil ?_
             refine blockQ_n ?_
             refine seqQ_n ?_
             refine awp_region ?_
             refine aops_p (ap_arith rfl rfl rfl (by omega)) rfl rfl rfl ?_
             refine aops_p (ap_move rfl) rfl rfl rfl ?_
             refine aops_nil ?_
             refine seqQ_n ?_
             rw [hd, ofGo, if_neg (by omega), if_neg (by simp [hc])] at hI
             refine ⟨k + 1, s ||| 1 * 2 ^ q, ⟨by omega, or_lt10 hs hq, ?_⟩, by omega, wk (by repeat (first | exact .nil | refine .cons rfl ?_)) (by repeat (first | exact .nil | refine .cons (by first | exact .here | exact .there .here | exact .there (.there .here) | exact .there (.there (.there .here)) | exact .there (.there (.there (.there .here)))) ?_))⟩
             simpa using hI
          )
      )
  · have hge : l.length ≤ k := by have := of_decide_eq_false hc; omega
    rw [drop_nil hge] at hI; simp only [ofGo] at hI
    refine awp_exit ?_
    refine seqQ_x ?_
    refine seqQ_x ?_
    refine blockQ_x rfl ?_
    refine seqQ_n ?_
    refine awp_seq ?_
    refine awp_region ?_
    refine aops_p (ap_move rfl) rfl rfl rfl ?_
    refine aops_p (ap_assign rfl) rfl rfl rfl ?_
    refine aops_p (ap_assign rfl) rfl rfl rfl ?_
    refine aops_nil ?_
    refine seqQ_n ?_
    refine awp_ret ?_
    refine post_is (.tmp rfl (.tmp rfl .nil)) .nil ?_
    rw [← hI]; rfl
theorem indexF_con (f : FuncId) (p : Int → Bool) (hf : ∀ k : Int, Con Try.prog f [.i k] [] (Is (.b (p k)) [])) (l : List Int) : Con Try.prog 129 [.sl 1 (l.map .i), .v (.func (.func f) #[] #[])] [] (fun d H => ∃ r : Int, d = .i r ∧ decide (0 ≤ r) = l.any p ∧ H = []) := by
  have hcap : capB = 140737488355328 := rfl
  have hl1 : (l.map D.i).length = l.length := by simp
  refine con_intro Try.func129 rfl Try.call129 rfl ?_
  refine awp_seq ?_
  refine awp_region ?_
  refine aops_p (ap_assign rfl) rfl rfl rfl ?_
  refine aops_nil ?_
  refine seqQ_n ?_
  refine awp_seq ?_
  refine awp_seq ?_
  refine awp_region ?_
  refine aops_p (ap_move rfl) rfl rfl rfl ?_
  first | refine aops_len rfl rfl rfl rfl (fun _ => ?_) | refine aops_p (ap_len_arr rfl (by repeat (first | exact .here | apply UpdF.there)) rfl) rfl rfl rfl ?_ | refine aops_p (ap_len_nil rfl rfl) rfl rfl rfl ?_
  refine aops_p (ap_move rfl) rfl rfl rfl ?_
  refine aops_nil ?_
  refine seqQ_n ?_
  refine awp_block ?_
  refine awp_loop1 [0, 1, 7] [] (fun (k : Nat) r => (8, .i (k : Int)) :: r) (fun (k : Nat) r => r) (fun (k : Nat) => k ≤ l.length ∧ (l.drop k).any p = l.any p) (fun (k : Nat) => l.length - k) (0) (by repeat constructor) ⟨by omega, by simp⟩ (wk (by repeat (first | exact .nil | refine .cons rfl ?_)) (by repeat (first | exact .nil | refine .cons (by first | exact .here | exact .there .here | exact .there (.there .here) | exact .there (.there (.there .here)) | exact .there (.there (.there (.there .here)))) ?_))) ?_
  intro k ⟨hk, hI⟩
  refine awp_seq ?_
  refine awp_region ?_
  refine aops_p (ap_cmp rfl rfl rfl) rfl rfl rfl ?_
  refine aops_nil ?_
  refine seqQ_n ?_
  refine awp_seq ?_
  refine awp_cond rfl (fun hc => ?_) (fun hc => ?_)
  · have hlt : k < l.length := by have := of_decide_eq_true hc; omega
    obtain ⟨x, hx, hd⟩ := drop_cons hlt
    have hx' := getMap D.i hx
    rw [hd] at hI
    refine awp_skip ?_
    refine seqQ_n ?_
    refine awp_seq ?_
    refine awp_block ?_
    refine awp_seq ?_
    refine awp_region ?_
    refine aops_p (ap_move rfl) rfl rfl rfl ?_
    refine aops_p (ap_assign rfl) rfl rfl rfl ?_
    refine aops_nil ?_
    refine seqQ_n ?_
    refine awp_seq ?_
    refine awp_region ?_
    refine aops_p (ap_move rfl) rfl rfl rfl ?_
    refine aops_p (ap_move rfl) rfl rfl rfl ?_
    refine aops_p (ap_move rfl) rfl rfl rfl ?_
    first | refine aops_p (ap_index rfl rfl rfl rfl (by decide) rfl (by first | with_reducible assumption | assumption | rfl)) rfl rfl rfl ?_ | refine aops_p (ap_index rfl rfl rfl rfl (by decide) (by omega) (by first | with_reducible assumption | assumption | rfl)) rfl rfl rfl ?_ | refine aops_p (ap_index_own rfl rfl rfl rfl rfl (by first | omega | (simp only [List.length_map, List.length_set, avs_len]; omega))) rfl rfl rfl ?_
    first | refine aops_q (aq_load1 rfl (by repeat (first | exact .here | apply UpdF.there)) List.not_mem_nil rfl (by repeat constructor)) rfl rfl rfl ?_ | refine aops_q (aq_load_el1 rfl rfl (by first | exact .sl | exact .v rfl | exact .v (by assumption)) (fun _ h => absurd h List.not_mem_nil)) rfl rfl rfl ?_ | refine aops_q (aq_load_el1' rfl rfl (by first | exact .sl | exact .v rfl | exact .v (by assumption)) (fun _ h => absurd h List.not_mem_nil)) rfl rfl rfl ?_ | refine aops_q (aq_load_own1 rfl (by repeat (first | exact .here | apply UpdF.there)) List.not_mem_nil rfl (by first | with_reducible assumption | assumption | rfl) (by first | exact .sl | exact .v rfl | exact .v (by assumption))) rfl rfl rfl ?_
    refine aops_callv_b (caps := []) rfl (by repeat constructor) (hf x) rfl rfl (fun c16 hc16 => ?_)
    refine aops_nil ?_
    refine seqQ_n ?_
    refine awp_cond rfl (fun hc => ?_) (fun hc => ?_)
    · refine awp_seq ?_
      refine awp_region ?_
      refine aops_p (ap_move rfl) rfl rfl rfl ?_
      refine aops_p (ap_assign rfl) rfl rfl rfl ?_
      refine aops_nil ?_
      refine seqQ_n ?_
      refine awp_ret ?_
      refine blockQ_r ?_
      refine seqQ_r ?_
      refine seqQ_r ?_
      refine blockQ_r ?_
      refine seqQ_r ?_
      refine post_ret (.tmp rfl .nil) (by repeat (first | exact .nil | refine .cons (by first | exact .here | exact .there .here | exact .there (.there .here) | exact .there (.there (.there .here)) | exact .there (.there (.there (.there .here)))) ?_)) ⟨_, rfl, ?_, rfl⟩
      rw [any_cons_t (hc16.trans hc)] at hI
      rw [← hI]; exact decide_eq_true (by omega)
    · refine awp_skip ?_
      refine blockQ_n ?_
      refine seqQ_n ?_
      refine awp_region ?_
      refine aops_p (ap_arith rfl rfl rfl (by omega)) rfl rfl rfl ?_
      refine aops_p (ap_move rfl) rfl rfl rfl ?_
      refine aops_nil ?_
      refine seqQ_n ?_
      rw [any_cons_f (hc16.trans hc)] at hI
      refine ⟨k + 1, ⟨by omega, hI⟩, by omega, wk (by repeat (first | exact .nil | refine .cons rfl ?_)) (by repeat (first | exact .nil | refine .cons (by first | exact .here | exact .there .here | exact .there (.there .here) | exact .there (.there (.there .here)) | exact .there (.there (.there (.there .here)))) ?_))⟩
  · have hge : l.length ≤ k := by have := of_decide_eq_false hc; omega
    rw [drop_nil hge] at hI
    refine awp_exit ?_
    refine seqQ_x ?_
    refine seqQ_x ?_
    refine blockQ_x rfl ?_
    refine seqQ_n ?_
    refine awp_seq ?_
    refine awp_region ?_
    refine aops_p (ap_assign rfl) rfl rfl rfl ?_
    refine aops_nil ?_
    refine seqQ_n ?_
    refine awp_ret ?_
    refine post_ret (.tmp rfl .nil) (by repeat (first | exact .nil | refine .cons (by first | exact .here | exact .there .here | exact .there (.there .here) | exact .there (.there (.there .here)) | exact .there (.there (.there (.there .here)))) ?_)) ⟨_, rfl, ?_, rfl⟩
    rw [← hI]; rfl
theorem containsF_con (f : FuncId) (p : Int → Bool) (hf : ∀ k : Int, Con Try.prog f [.i k] [] (Is (.b (p k)) [])) (l : List Int) : Con Try.prog 116 [.sl 1 (l.map .i), .v (.func (.func f) #[] #[])] [] (Is (.b (l.any p)) []) := by
  have hcap : capB = 140737488355328 := rfl
  refine con_intro Try.func116 rfl Try.call116 rfl ?_
  refine awp_seq ?_
  refine awp_region ?_
  refine aops_p (ap_assign rfl) rfl rfl rfl ?_
  refine aops_nil ?_
  refine seqQ_n ?_
  refine awp_seq ?_
  refine awp_region ?_
  refine aops_p (ap_move rfl) rfl rfl rfl ?_
  refine aops_p (ap_move rfl) rfl rfl rfl ?_
  (refine aops_call (by repeat constructor) (indexF_con f p hf l) (by repeat (first | exact .nil | exact Split.none _ | apply Split.left | apply Split.right)) rfl rfl ?_; rintro _ _ ⟨r, rfl, hr, rfl⟩)
  refine aops_p (ap_cmp rfl rfl rfl) rfl rfl rfl ?_
  refine aops_p (ap_assign rfl) rfl rfl rfl ?_
  refine aops_nil ?_
  refine seqQ_n ?_
  refine awp_ret ?_
  refine post_is (.tmp rfl .nil) (by repeat (first | exact .nil | refine .cons (by first | exact .here | exact .there .here | exact .there (.there .here) | exact .there (.there (.there .here)) | exact .there (.there (.there (.there .here)))) ?_)) ?_
  rw [← hr]; rfl
theorem lev1_con (k : Int) : Con Try.prog 117 [.i k] [] (Is (.b (badN k)) []) := by
  have hcap : capB = 140737488355328 := rfl
  refine con_intro Try.func117 rfl Try.call117 rfl ?_
  refine awp_seq ?_
  refine awp_region ?_
  refine aops_p (ap_assign rfl) rfl rfl rfl ?_
  refine aops_nil ?_
  refine seqQ_n ?_
  refine awp_seq ?_
  refine awp_region ?_
  refine aops_p (ap_move rfl) rfl rfl rfl ?_
  refine aops_call_v (by repeat constructor) (node_con _) rfl rfl ?_
  refine aops_p (ap_not rfl) rfl rfl rfl ?_
  refine aops_p (ap_assign rfl) rfl rfl rfl ?_
  refine aops_nil ?_
  refine seqQ_n ?_
  refine awp_ret ?_
  refine post_is (.tmp rfl .nil) (by repeat (first | exact .nil | refine .cons (by first | exact .here | exact .there .here | exact .there (.there .here) | exact .there (.there (.there .here)) | exact .there (.there (.there (.there .here)))) ?_)) ?_
  rw [← badN_nd]; rfl
end Go.Proofs.Yteogidjgmeemlaa
