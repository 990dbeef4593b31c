/- The walks of: blank_con, member_con, validC_con, holds_con, disj_con, none_con, alone_con, tsize_con, right_con, samec_con. Each says what one function of the program answers, for the arguments that its statement names. No condition beyond what each theorem says. -/
import Derived.Test.YtanlbfnlnfkcjaaIntersectionUniformW2
import Derived.Test.YtanlbfnlnfkcjaaProg
import Derived.KernelRfl
import Derived.Tactics
import Derived.Tactics2
import Derived.StillTactics
set_option linter.unusedVariables false
set_option linter.unusedSimpArgs false
set_option linter.unnecessarySimpa false
set_option maxRecDepth 4000
namespace Go.Proofs.Ytanlbfnlnfkcjaa
open Go Go.Av Go.Tq
theorem blank_con (t : Trust) : Con Try.prog 153 [av t] [] (Is (.b (blankT t)) []) := by
  have hcap : capB = 140737488355328 := rfl
  have hl1 : (t.nodes.map D.i).length = t.nodes.length := by simp
  have hl2 := avs_len t.inner
  refine con_intro Try.func153 rfl Try.call153 rfl ?_
  refine awp_seq ?_
  refine awp_region ?_
  refine aops_box rfl (by first | exact .agg | exact .sl | exact .v rfl | exact .v (by assumption)) rfl rfl (fun b1 => ?_)
  refine aops_p (ap_assign rfl) rfl rfl rfl ?_
  refine aops_nil ?_
  refine seqQ_n ?_
  refine awp_seq ?_
  refine awp_region ?_
  first | refine aops_p (ap_fieldAddr (off := 0) (sz := 1) (g := false) rfl rfl) rfl rfl rfl ?_ | refine aops_p (ap_fieldAddr_el (off := 0) (sz := 1) (g := false) rfl rfl (by repeat constructor)) rfl rfl rfl ?_
  first | refine aops_q (aq_load1 rfl (by repeat (first | exact .here | apply UpdF.there)) List.not_mem_nil rfl (by repeat constructor)) rfl rfl rfl ?_ | refine aops_q (aq_load_el1 rfl rfl (by first | exact .sl | exact .v rfl | exact .v (by assumption)) (fun _ h => absurd h List.not_mem_nil)) rfl rfl rfl ?_ | refine aops_q (aq_load_el1' rfl rfl (by first | exact .sl | exact .v rfl | exact .v (by assumption)) (fun _ h => absurd h List.not_mem_nil)) rfl rfl rfl ?_ | refine aops_q (aq_load_own1 rfl (by repeat (first | exact .here | apply UpdF.there)) List.not_mem_nil rfl (by first | with_reducible assumption | assumption | rfl) (by first | exact .sl | exact .v rfl | exact .v (by assumption))) rfl rfl rfl ?_
  refine aops_p (ap_cmp rfl rfl rfl) rfl rfl rfl ?_
  refine aops_p (ap_move rfl) rfl rfl rfl ?_
  all_goals (first | (refine aops_yes rfl rfl rfl rfl (by first | with_reducible assumption | with_reducible exact rfl | decide | (refine decide_eq_true ?_; omega) | (refine decide_eq_false ?_; omega)) ?_; (first | refine aops_p (ap_fieldAddr (off := 1) (sz := 1) (g := false) rfl rfl) rfl rfl rfl ?_ | refine aops_p (ap_fieldAddr_el (off := 1) (sz := 1) (g := false) rfl rfl (by repeat constructor)) rfl rfl rfl ?_)) | refine aops_no_u rfl rfl rfl ?_ | refine aops_no_t rfl rfl rfl rfl (by first | with_reducible assumption | with_reducible exact rfl | decide | (refine decide_eq_true ?_; omega) | (refine decide_eq_false ?_; omega)) ?_ | (refine aops_guard_t rfl rfl rfl rfl (fun hg => ?_) (fun hg => ?_); case' _ => (first | refine aops_p (ap_fieldAddr (off := 1) (sz := 1) (g := false) rfl rfl) rfl rfl rfl ?_ | refine aops_p (ap_fieldAddr_el (off := 1) (sz := 1) (g := false) rfl rfl (by repeat constructor)) rfl rfl rfl ?_)))
  all_goals (first | (refine aops_yes rfl rfl rfl rfl (by first | with_reducible assumption | with_reducible exact rfl | decide | (refine decide_eq_true ?_; omega) | (refine decide_eq_false ?_; omega)) ?_; (first | refine aops_q (aq_load1 rfl (by repeat (first | exact .here | apply UpdF.there)) List.not_mem_nil rfl (by repeat constructor)) rfl rfl rfl ?_ | refine aops_q (aq_load_el1 rfl rfl (by first | exact .sl | exact .v rfl | exact .v (by assumption)) (fun _ h => absurd h List.not_mem_nil)) rfl rfl rfl ?_ | refine aops_q (aq_load_el1' rfl rfl (by first | exact .sl | exact .v rfl | exact .v (by assumption)) (fun _ h => absurd h List.not_mem_nil)) rfl rfl rfl ?_ | refine aops_q (aq_load_own1 rfl (by repeat (first | exact .here | apply UpdF.there)) List.not_mem_nil rfl (by first | with_reducible assumption | assumption | rfl) (by first | exact .sl | exact .v rfl | exact .v (by assumption))) rfl rfl rfl ?_)) | refine aops_no_u rfl rfl rfl ?_ | refine aops_no_t rfl rfl rfl rfl (by first | with_reducible assumption | with_reducible exact rfl | decide | (refine decide_eq_true ?_; omega) | (refine decide_eq_false ?_; omega)) ?_ | (refine aops_guard_t rfl rfl rfl rfl (fun hg => ?_) (fun hg => ?_); case' _ => (first | refine aops_q (aq_load1 rfl (by repeat (first | exact .here | apply UpdF.there)) List.not_mem_nil rfl (by repeat constructor)) rfl rfl rfl ?_ | refine aops_q (aq_load_el1 rfl rfl (by first | exact .sl | exact .v rfl | exact .v (by assumption)) (fun _ h => absurd h List.not_mem_nil)) rfl rfl rfl ?_ | refine aops_q (aq_load_el1' rfl rfl (by first | exact .sl | exact .v rfl | exact .v (by assumption)) (fun _ h => absurd h List.not_mem_nil)) rfl rfl rfl ?_ | refine aops_q (aq_load_own1 rfl (by repeat (first | exact .here | apply UpdF.there)) List.not_mem_nil rfl (by first | with_reducible assumption | assumption | rfl) (by first | exact .sl | exact .v rfl | exact .v (by assumption))) rfl rfl rfl ?_)))
  all_goals (first | (refine aops_yes rfl rfl rfl rfl (by first | with_reducible assumption | with_reducible exact rfl | decide | (refine decide_eq_true ?_; omega) | (refine decide_eq_false ?_; omega)) ?_; (first | refine aops_len rfl rfl rfl rfl (fun _ => ?_) | refine aops_p (ap_len_arr rfl (by repeat (first | exact .here | apply UpdF.there)) rfl) rfl rfl rfl ?_ | refine aops_p (ap_len_nil rfl rfl) rfl rfl rfl ?_)) | refine aops_no_u rfl rfl rfl ?_ | refine aops_no_t rfl rfl rfl rfl (by first | with_reducible assumption | with_reducible exact rfl | decide | (refine decide_eq_true ?_; omega) | (refine decide_eq_false ?_; omega)) ?_ | (refine aops_guard_t rfl rfl rfl rfl (fun hg => ?_) (fun hg => ?_); case' _ => (first | refine aops_len rfl rfl rfl rfl (fun _ => ?_) | refine aops_p (ap_len_arr rfl (by repeat (first | exact .here | apply UpdF.there)) rfl) rfl rfl rfl ?_ | refine aops_p (ap_len_nil rfl rfl) rfl rfl rfl ?_)))
  all_goals (first | (refine aops_yes rfl rfl rfl rfl (by first | with_reducible assumption | with_reducible exact rfl | decide | (refine decide_eq_true ?_; omega) | (refine decide_eq_false ?_; omega)) ?_; ((rw [hl1]; refine aops_p (ap_cmp rfl rfl rfl) rfl rfl rfl ?_))) | refine aops_no_u rfl rfl rfl ?_ | refine aops_no_t rfl rfl rfl rfl (by first | with_reducible assumption | with_reducible exact rfl | decide | (refine decide_eq_true ?_; omega) | (refine decide_eq_false ?_; omega)) ?_ | (refine aops_guard_t rfl rfl rfl rfl (fun hg => ?_) (fun hg => ?_); case' _ => ((rw [hl1]; refine aops_p (ap_cmp rfl rfl rfl) rfl rfl rfl ?_))))
  all_goals (first | refine aops_p (ap_pick_true rfl (by first | with_reducible assumption | with_reducible exact rfl | decide | (refine decide_eq_true ?_; omega) | (refine decide_eq_false ?_; omega)) rfl) rfl rfl rfl ?_ | refine aops_p (ap_pick_false rfl (by first | with_reducible assumption | with_reducible exact rfl | decide | (refine decide_eq_true ?_; omega) | (refine decide_eq_false ?_; omega)) rfl) rfl rfl rfl ?_)
  all_goals (refine aops_p (ap_move rfl) rfl rfl rfl ?_)
  all_goals (first | (refine aops_yes rfl rfl rfl rfl (by first | with_reducible assumption | with_reducible exact rfl | decide | (refine decide_eq_true ?_; omega) | (refine decide_eq_false ?_; omega)) ?_; (first | refine aops_p (ap_fieldAddr (off := 2) (sz := 1) (g := false) rfl rfl) rfl rfl rfl ?_ | refine aops_p (ap_fieldAddr_el (off := 2) (sz := 1) (g := false) rfl rfl (by repeat constructor)) rfl rfl rfl ?_)) | refine aops_no_u rfl rfl rfl ?_ | refine aops_no_t rfl rfl rfl rfl (by first | with_reducible assumption | with_reducible exact rfl | decide | (refine decide_eq_true ?_; omega) | (refine decide_eq_false ?_; omega)) ?_ | (refine aops_guard_t rfl rfl rfl rfl (fun hg => ?_) (fun hg => ?_); case' _ => (first | refine aops_p (ap_fieldAddr (off := 2) (sz := 1) (g := false) rfl rfl) rfl rfl rfl ?_ | refine aops_p (ap_fieldAddr_el (off := 2) (sz := 1) (g := false) rfl rfl (by repeat constructor)) rfl rfl rfl ?_)))
  all_goals (first | (refine aops_yes rfl rfl rfl rfl (by first | with_reducible assumption | with_reducible exact rfl | decide | (refine decide_eq_true ?_; omega) | (refine decide_eq_false ?_; omega)) ?_; (first | refine aops_q (aq_load1 rfl (by repeat (first | exact .here | apply UpdF.there)) List.not_mem_nil rfl (by repeat constructor)) rfl rfl rfl ?_ | refine aops_q (aq_load_el1 rfl rfl (by first | exact .sl | exact .v rfl | exact .v (by assumption)) (fun _ h => absurd h List.not_mem_nil)) rfl rfl rfl ?_ | refine aops_q (aq_load_el1' rfl rfl (by first | exact .sl | exact .v rfl | exact .v (by assumption)) (fun _ h => absurd h List.not_mem_nil)) rfl rfl rfl ?_ | refine aops_q (aq_load_own1 rfl (by repeat (first | exact .here | apply UpdF.there)) List.not_mem_nil rfl (by first | with_reducible assumption | assumption | rfl) (by first | exact .sl | exact .v rfl | exact .v (by assumption))) rfl rfl rfl ?_)) | refine aops_no_u rfl rfl rfl ?_ | refine aops_no_t rfl rfl rfl rfl (by first | with_reducible assumption | with_reducible exact rfl | decide | (refine decide_eq_true ?_; omega) | (refine decide_eq_false ?_; omega)) ?_ | (refine aops_guard_t rfl rfl rfl rfl (fun hg => ?_) (fun hg => ?_); case' _ => (first | refine aops_q (aq_load1 rfl (by repeat (first | exact .here | apply UpdF.there)) List.not_mem_nil rfl (by repeat constructor)) rfl rfl rfl ?_ | refine aops_q (aq_load_el1 rfl rfl (by first | exact .sl | exact .v rfl | exact .v (by assumption)) (fun _ h => absurd h List.not_mem_nil)) rfl rfl rfl ?_ | refine aops_q (aq_load_el1' rfl rfl (by first | exact .sl | exact .v rfl | exact .v (by assumption)) (fun _ h => absurd h List.not_mem_nil)) rfl rfl rfl ?_ | refine aops_q (aq_load_own1 rfl (by repeat (first | exact .here | apply UpdF.there)) List.not_mem_nil rfl (by first | with_reducible assumption | assumption | rfl) (by first | exact .sl | exact .v rfl | exact .v (by assumption))) rfl rfl rfl ?_)))
  all_goals (first | (refine aops_yes rfl rfl rfl rfl (by first | with_reducible assumption | with_reducible exact rfl | decide | (refine decide_eq_true ?_; omega) | (refine decide_eq_false ?_; omega)) ?_; (first | refine aops_len rfl rfl rfl rfl (fun _ => ?_) | refine aops_p (ap_len_arr rfl (by repeat (first | exact .here | apply UpdF.there)) rfl) rfl rfl rfl ?_ | refine aops_p (ap_len_nil rfl rfl) rfl rfl rfl ?_)) | refine aops_no_u rfl rfl rfl ?_ | refine aops_no_t rfl rfl rfl rfl (by first | with_reducible assumption | with_reducible exact rfl | decide | (refine decide_eq_true ?_; omega) | (refine decide_eq_false ?_; omega)) ?_ | (refine aops_guard_t rfl rfl rfl rfl (fun hg => ?_) (fun hg => ?_); case' _ => (first | refine aops_len rfl rfl rfl rfl (fun _ => ?_) | refine aops_p (ap_len_arr rfl (by repeat (first | exact .here | apply UpdF.there)) rfl) rfl rfl rfl ?_ | refine aops_p (ap_len_nil rfl rfl) rfl rfl rfl ?_)))
  all_goals (first | (refine aops_yes rfl rfl rfl rfl (by first | with_reducible assumption | with_reducible exact rfl | decide | (refine decide_eq_true ?_; omega) | (refine decide_eq_false ?_; omega)) ?_; ((rw [hl2]; refine aops_p (ap_cmp rfl rfl rfl) rfl rfl rfl ?_))) | refine aops_no_u rfl rfl rfl ?_ | refine aops_no_t rfl rfl rfl rfl (by first | with_reducible assumption | with_reducible exact rfl | decide | (refine decide_eq_true ?_; omega) | (refine decide_eq_false ?_; omega)) ?_ | (refine aops_guard_t rfl rfl rfl rfl (fun hg => ?_) (fun hg => ?_); case' _ => ((rw [hl2]; refine aops_p (ap_cmp rfl rfl rfl) rfl rfl rfl ?_))))
  all_goals (first | refine aops_p (ap_pick_true rfl (by first | with_reducible assumption | with_reducible exact rfl | decide | (refine decide_eq_true ?_; omega) | (refine decide_eq_false ?_; omega)) rfl) rfl rfl rfl ?_ | refine aops_p (ap_pick_false rfl (by first | with_reducible assumption | with_reducible exact rfl | decide | (refine decide_eq_true ?_; omega) | (refine decide_eq_false ?_; omega)) rfl) rfl rfl rfl ?_)
  all_goals (refine aops_p (ap_assign rfl) rfl rfl rfl ?_)
  all_goals (
    refine aops_nil ?_
    refine seqQ_n ?_
    refine awp_ret ?_
    refine post_is (.tmp rfl .nil) (by repeat (first | exact .nil | refine .cons (by first | exact .here | exact .there .here | exact .there (.there .here) | exact .there (.there (.there .here)) | exact .there (.there (.there (.there .here)))) ?_)) ?_
    unfold blankT
    first
    | (simp_all [resD]; done)
    | (have e1 : t.nodes = [] := by simpa using of_decide_eq_true (show decide (((t.nodes.length : Nat) : Int) = 0) = true by with_reducible assumption); simp_all [resD]; done)
    )
theorem member_con (m : Mem) (hm : sizeT m.t ≤ 1000000000) (n : Nat) (hn : n ≤ 10) : Con Try.prog 133 [mv m, .i n] [] (Is (.i (memV m n)) []) := by
  have hcap : capB = 140737488355328 := rfl
  have hp10 := pow_le10 hn
  have hul := uses_lt m.t
  refine con_intro Try.func133 rfl Try.call133 rfl ?_
  refine awp_seq ?_
  refine awp_region ?_
  refine aops_box rfl (by first | exact .agg | exact .sl | exact .v rfl | exact .v (by assumption)) rfl rfl (fun b2 => ?_)
  refine aops_p (ap_assign rfl) rfl rfl rfl ?_
  refine aops_nil ?_
  refine seqQ_n ?_
  refine awp_seq ?_
  refine awp_seq ?_
  refine awp_region ?_
  first | refine aops_p (ap_fieldAddr (off := 0) (sz := 1) (g := false) rfl rfl) rfl rfl rfl ?_ | refine aops_p (ap_fieldAddr_el (off := 0) (sz := 1) (g := false) rfl rfl (by repeat constructor)) rfl rfl rfl ?_
  first | refine aops_q (aq_load1 rfl (by repeat (first | exact .here | apply UpdF.there)) List.not_mem_nil rfl (by repeat constructor)) rfl rfl rfl ?_ | refine aops_q (aq_load_el1 rfl rfl (by first | exact .sl | exact .v rfl | exact .v (by assumption)) (fun _ h => absurd h List.not_mem_nil)) rfl rfl rfl ?_ | refine aops_q (aq_load_el1' rfl rfl (by first | exact .sl | exact .v rfl | exact .v (by assumption)) (fun _ h => absurd h List.not_mem_nil)) rfl rfl rfl ?_ | refine aops_q (aq_load_own1 rfl (by repeat (first | exact .here | apply UpdF.there)) List.not_mem_nil rfl (by first | with_reducible assumption | assumption | rfl) (by first | exact .sl | exact .v rfl | exact .v (by assumption))) rfl rfl rfl ?_
  refine aops_p (ap_not rfl) rfl rfl rfl ?_
  refine aops_nil ?_
  refine seqQ_n ?_
  refine awp_cond rfl (fun hc => ?_) (fun hc => ?_)
  · have hdl : m.decl = false := not_t hc
    refine awp_seq ?_
    refine awp_seq ?_
    refine awp_region ?_
    first | refine aops_p (ap_fieldAddr (off := 1) (sz := 3) (g := true) rfl rfl) rfl rfl rfl ?_ | refine aops_p (ap_fieldAddr_el (off := 1) (sz := 3) (g := true) rfl rfl (by repeat constructor)) rfl rfl rfl ?_
    first | refine aops_q (aq_load rfl (by repeat (first | exact .here | apply UpdF.there)) List.not_mem_nil rfl rfl (by repeat constructor)) rfl rfl rfl ?_ | refine aops_q (aq_load_el rfl rfl rfl rfl (fun _ h => absurd h List.not_mem_nil)) rfl rfl rfl ?_
    refine aops_call_b (by repeat constructor) (blank_con m.t) rfl rfl (fun c11 hc11 => ?_)
    refine aops_p (ap_not rfl) rfl rfl rfl ?_
    refine aops_nil ?_
    refine seqQ_n ?_
    refine awp_cond rfl (fun hc => ?_) (fun hc => ?_)
    · refine awp_seq ?_
      refine awp_region ?_
      refine aops_p (ap_assign rfl) rfl rfl rfl ?_
      refine aops_nil ?_
      refine seqQ_n ?_
      refine awp_ret ?_
      refine seqQ_r ?_
      refine seqQ_r ?_
      refine post_is (.tmp rfl .nil) .nil ?_
      rw [memV_0 hdl (hc11.trans (not_t hc))]; rfl
    · refine awp_skip ?_
      refine seqQ_n ?_
      refine awp_seq ?_
      refine awp_region ?_
      refine aops_p (ap_assign rfl) rfl rfl rfl ?_
      refine aops_nil ?_
      refine seqQ_n ?_
      refine awp_ret ?_
      refine seqQ_r ?_
      refine post_is (.tmp rfl .nil) .nil ?_
      rw [memV_0 hdl (hc11.trans (not_f hc))]; rfl
  · have hdl : m.decl = true := not_f hc
    refine awp_skip ?_
    refine seqQ_n ?_
    refine awp_seq ?_
    refine awp_seq ?_
    refine awp_region ?_
    first | refine aops_p (ap_fieldAddr (off := 1) (sz := 3) (g := true) rfl rfl) rfl rfl rfl ?_ | refine aops_p (ap_fieldAddr_el (off := 1) (sz := 3) (g := true) rfl rfl (by repeat constructor)) rfl rfl rfl ?_
    first | refine aops_q (aq_load rfl (by repeat (first | exact .here | apply UpdF.there)) List.not_mem_nil rfl rfl (by repeat constructor)) rfl rfl rfl ?_ | refine aops_q (aq_load_el rfl rfl rfl rfl (fun _ h => absurd h List.not_mem_nil)) rfl rfl rfl ?_
    refine aops_call_v (by repeat constructor) (validT_con m.t hm) rfl rfl ?_
    refine aops_p (ap_assign rfl) rfl rfl rfl ?_
    refine aops_nil ?_
    refine seqQ_n ?_
    refine awp_seq ?_
    refine awp_region ?_
    refine aops_p (ap_move rfl) rfl rfl rfl ?_
    refine aops_p (ap_cmp rfl rfl rfl) rfl rfl rfl ?_
    refine aops_nil ?_
    refine seqQ_n ?_
    refine awp_cond rfl (fun hc => ?_) (fun hc => ?_)
    · have hv := of_neq_true hc
      refine awp_seq ?_
      refine awp_region ?_
      refine aops_p (ap_move rfl) rfl rfl rfl ?_
      refine aops_p (ap_assign rfl) rfl rfl rfl ?_
      refine aops_nil ?_
      refine seqQ_n ?_
      refine awp_ret ?_
      refine seqQ_r ?_
      refine post_is (.tmp rfl .nil) .nil ?_
      unfold memV; rw [if_pos hdl, if_neg hv]; rfl
    · have hv := of_neq_false hc
      refine awp_skip ?_
      refine seqQ_n ?_
      refine awp_seq ?_
      refine awp_seq ?_
      refine awp_draw (Hm := []) (by kernel_rfl) (by repeat (first | exact .nil | exact Split.none _ | apply Split.left | apply Split.right)) ?_
      first | refine aany_take 0 rfl (.none rfl) (by kernel_rfl) (by kernel_rfl) (by kernel_rfl) (AP.ar (ap_fieldAddr (off := 1) (sz := 3) (g := true) rfl rfl)) rfl rfl ?_ | refine aany_take 0 rfl (.none rfl) (by kernel_rfl) (by kernel_rfl) (by kernel_rfl) (AP.ar (ap_fieldAddr_el (off := 1) (sz := 3) (g := true) rfl rfl (by repeat constructor))) rfl rfl ?_
      first | refine aany_take 1 rfl (.none rfl) (by kernel_rfl) (by kernel_rfl) (by kernel_rfl) (ar_load rfl (by repeat (first | exact .here | apply UpdF.there)) rfl rfl (by repeat constructor)) rfl rfl ?_ | refine aany_take 1 rfl (.none rfl) (by kernel_rfl) (by kernel_rfl) (by kernel_rfl) (AQ.ar (aq_load_el rfl rfl rfl rfl (fun _ h => h))) rfl rfl ?_
      refine aany_take 3 rfl (.none rfl) (by kernel_rfl) (by kernel_rfl) (by kernel_rfl) (AP.ar (ap_move rfl)) rfl rfl ?_
      refine aany_take 4 rfl (.none rfl) (by kernel_rfl) (by kernel_rfl) (by kernel_rfl) (AP.ar (ap_shl (p := 1) rfl rfl rfl (by omega) (by omega))) rfl rfl ?_
      refine aany_one 2 (by kernel_rfl) rfl (.none rfl) ?_
      refine aops_call_v (by repeat constructor) (uses_con m.t) rfl rfl ?_
      refine aops_nil ?_
      refine aany_take 5 rfl (.none rfl) (by kernel_rfl) (by kernel_rfl) (by kernel_rfl) (AP.ar (ap_cmp rfl rfl rfl)) rfl rfl ?_
      refine aany_nil (by kernel_rfl) ?_
      all_goals (
        refine seqQ_n ?_
        refine awp_cond rfl (fun hc => ?_) (fun hc => ?_)
        · have hge := of_decide_eq_true hc
          refine awp_seq ?_
          refine awp_region ?_
          refine aops_p (ap_assign rfl) rfl rfl rfl ?_
          refine aops_nil ?_
          refine seqQ_n ?_
          refine awp_ret ?_
          refine seqQ_r ?_
          refine post_is (.tmp rfl .nil) .nil ?_
          unfold memV; rw [if_pos hdl, if_pos hv, if_pos (by omega)]; rfl
        · have hge := of_decide_eq_false hc
          refine awp_skip ?_
          refine seqQ_n ?_
          refine awp_seq ?_
          refine awp_region ?_
          refine aops_p (ap_assign rfl) rfl rfl rfl ?_
          refine aops_nil ?_
          refine seqQ_n ?_
          refine awp_ret ?_
          refine post_is (.tmp rfl .nil) .nil ?_
          unfold memV; rw [if_pos hdl, if_pos hv, if_neg (by omega)]; rfl
        )
theorem validC_con (c : List Mem) (hs : ∀ m ∈ c, sizeT m.t ≤ 1000000000) : Con Try.prog 104 [cv c] [] (Is (.i (validC c)) []) := by
  have hcap : capB = 140737488355328 := rfl
  have hml : (c.map mv).length = c.length := by simp
  refine con_intro Try.func104 rfl Try.call104 rfl ?_
  refine awp_seq ?_
  refine awp_region ?_
  refine aops_box rfl (by first | exact .agg | exact .sl | exact .v rfl | exact .v (by assumption)) rfl rfl (fun b1 => ?_)
  refine aops_p (ap_assign rfl) rfl rfl rfl ?_
  refine aops_nil ?_
  refine seqQ_n ?_
  refine awp_seq ?_
  refine awp_seq ?_
  refine awp_region ?_
  first | refine aops_p (ap_fieldAddr (off := 0) (sz := 1) (g := false) rfl rfl) rfl rfl rfl ?_ | refine aops_p (ap_fieldAddr_el (off := 0) (sz := 1) (g := false) rfl rfl (by repeat constructor)) rfl rfl rfl ?_
  first | refine aops_q (aq_load1 rfl (by repeat (first | exact .here | apply UpdF.there)) List.not_mem_nil rfl (by repeat constructor)) rfl rfl rfl ?_ | refine aops_q (aq_load_el1 rfl rfl (by first | exact .sl | exact .v rfl | exact .v (by assumption)) (fun _ h => absurd h List.not_mem_nil)) rfl rfl rfl ?_ | refine aops_q (aq_load_el1' rfl rfl (by first | exact .sl | exact .v rfl | exact .v (by assumption)) (fun _ h => absurd h List.not_mem_nil)) rfl rfl rfl ?_ | refine aops_q (aq_load_own1 rfl (by repeat (first | exact .here | apply UpdF.there)) List.not_mem_nil rfl (by first | with_reducible assumption | assumption | rfl) (by first | exact .sl | exact .v rfl | exact .v (by assumption))) rfl rfl rfl ?_
  first | refine aops_len rfl rfl rfl rfl (fun _ => ?_) | refine aops_p (ap_len_arr rfl (by repeat (first | exact .here | apply UpdF.there)) rfl) rfl rfl rfl ?_ | refine aops_p (ap_len_nil rfl rfl) rfl rfl rfl ?_
  refine aops_p (ap_cmp rfl rfl rfl) rfl rfl rfl ?_
  refine aops_nil ?_
  refine seqQ_n ?_
  refine awp_cond rfl (fun hc => ?_) (fun hc => ?_)
  · have hlen := of_decide_eq_true hc
    refine awp_seq ?_
    refine awp_region ?_
    refine aops_p (ap_assign rfl) rfl rfl rfl ?_
    refine aops_nil ?_
    refine seqQ_n ?_
    refine awp_ret ?_
    refine seqQ_r ?_
    refine post_is (.tmp rfl .nil) .nil ?_
    unfold validC; rw [if_pos (by omega)]; rfl
  · have hlen := of_decide_eq_false hc
    refine awp_skip ?_
    refine seqQ_n ?_
    refine awp_seq ?_
    refine awp_seq ?_
    refine awp_region ?_
    first | refine aops_p (ap_fieldAddr (off := 0) (sz := 1) (g := false) rfl rfl) rfl rfl rfl ?_ | refine aops_p (ap_fieldAddr_el (off := 0) (sz := 1) (g := false) rfl rfl (by repeat constructor)) rfl rfl rfl ?_
    first | refine aops_q (aq_load1 rfl (by repeat (first | exact .here | apply UpdF.there)) List.not_mem_nil rfl (by repeat constructor)) rfl rfl rfl ?_ | refine aops_q (aq_load_el1 rfl rfl (by first | exact .sl | exact .v rfl | exact .v (by assumption)) (fun _ h => absurd h List.not_mem_nil)) rfl rfl rfl ?_ | refine aops_q (aq_load_el1' rfl rfl (by first | exact .sl | exact .v rfl | exact .v (by assumption)) (fun _ h => absurd h List.not_mem_nil)) rfl rfl rfl ?_ | refine aops_q (aq_load_own1 rfl (by repeat (first | exact .here | apply UpdF.there)) List.not_mem_nil rfl (by first | with_reducible assumption | assumption | rfl) (by first | exact .sl | exact .v rfl | exact .v (by assumption))) rfl rfl rfl ?_
    first | refine aops_len rfl rfl rfl rfl (fun _ => ?_) | refine aops_p (ap_len_arr rfl (by repeat (first | exact .here | apply UpdF.there)) rfl) rfl rfl rfl ?_ | refine aops_p (ap_len_nil rfl rfl) rfl rfl rfl ?_
    refine aops_p (ap_move rfl) rfl rfl rfl ?_
    refine aops_nil ?_
    refine seqQ_n ?_
    refine awp_block ?_
    refine awp_loop1 [1, 11, 12] [.box b1 _ _] (fun (k : Nat) r => (13, .i (k : Int)) :: r) (fun (k : Nat) r => r) (fun (k : Nat) => k ≤ c.length ∧ memsV c.length (c.drop k) = memsV c.length c) (fun (k : Nat) => c.length - k) (0) (by repeat constructor) ⟨by omega, by simp⟩ (wk (by repeat (first | exact .nil | refine .cons rfl ?_)) (by repeat (first | exact .nil | refine .cons (by first | exact .here | exact .there .here | exact .there (.there .here) | exact .there (.there (.there .here)) | exact .there (.there (.there (.there .here)))) ?_))) ?_
    intro k ⟨hk, hI⟩
    refine awp_seq ?_
    refine awp_region ?_
    refine aops_p (ap_cmp rfl rfl rfl) rfl rfl rfl ?_
    refine aops_nil ?_
    refine seqQ_n ?_
    refine awp_seq ?_
    refine awp_cond rfl (fun hc => ?_) (fun hc => ?_)
    · have hlt := of_decide_eq_true hc
      obtain ⟨x, hx, hd⟩ := drop_cons (l := c) (k := k) (by omega)
      have hx' := getMap mv hx
      refine awp_skip ?_
      refine seqQ_n ?_
      refine awp_seq ?_
      refine awp_block ?_
      refine awp_seq ?_
      refine awp_region ?_
      first | refine aops_p (ap_index rfl rfl rfl rfl (by decide) rfl (by first | with_reducible assumption | assumption | rfl)) rfl rfl rfl ?_ | refine aops_p (ap_index rfl rfl rfl rfl (by decide) (by omega) (by first | with_reducible assumption | assumption | rfl)) rfl rfl rfl ?_ | refine aops_p (ap_index_own rfl rfl rfl rfl rfl (by first | omega | (simp only [List.length_map, List.length_set, avs_len]; omega))) rfl rfl rfl ?_
      first | refine aops_q (aq_load rfl (by repeat (first | exact .here | apply UpdF.there)) List.not_mem_nil rfl rfl (by repeat constructor)) rfl rfl rfl ?_ | refine aops_q (aq_load_el rfl rfl rfl rfl (fun _ h => absurd h List.not_mem_nil)) rfl rfl rfl ?_
      refine aops_alloc rfl (by repeat constructor) rfl rfl (fun b4 => ?_)
      first | refine aops_store rfl rfl (by first | exact .agg | exact .sl | exact .v rfl | exact .v (by assumption)) (by repeat (first | exact .here | apply UpdF.there)) rfl (by repeat constructor) ?_ | refine aops_store_own1 rfl rfl (by first | exact .sl | exact .v rfl | exact .v (by assumption)) (by repeat (first | exact .here | apply UpdF.there)) rfl (by simp only [List.length_set, List.length_map]; omega) ?_
      refine aops_nil ?_
      refine seqQ_n ?_
      refine awp_seq ?_
      refine awp_region ?_
      first | refine aops_q (aq_load rfl (by repeat (first | exact .here | apply UpdF.there)) List.not_mem_nil rfl rfl (by repeat constructor)) rfl rfl rfl ?_ | refine aops_q (aq_load_el rfl rfl rfl rfl (fun _ h => absurd h List.not_mem_nil)) rfl rfl rfl ?_
      first | refine aops_p (ap_fieldAddr (off := 0) (sz := 1) (g := false) rfl rfl) rfl rfl rfl ?_ | refine aops_p (ap_fieldAddr_el (off := 0) (sz := 1) (g := false) rfl rfl (by repeat constructor)) rfl rfl rfl ?_
      first | refine aops_q (aq_load1 rfl (by repeat (first | exact .here | apply UpdF.there)) List.not_mem_nil rfl (by repeat constructor)) rfl rfl rfl ?_ | refine aops_q (aq_load_el1 rfl rfl (by first | exact .sl | exact .v rfl | exact .v (by assumption)) (fun _ h => absurd h List.not_mem_nil)) rfl rfl rfl ?_ | refine aops_q (aq_load_el1' rfl rfl (by first | exact .sl | exact .v rfl | exact .v (by assumption)) (fun _ h => absurd h List.not_mem_nil)) rfl rfl rfl ?_ | refine aops_q (aq_load_own1 rfl (by repeat (first | exact .here | apply UpdF.there)) List.not_mem_nil rfl (by first | with_reducible assumption | assumption | rfl) (by first | exact .sl | exact .v rfl | exact .v (by assumption))) rfl rfl rfl ?_
      first | refine aops_len rfl rfl rfl rfl (fun _ => ?_) | refine aops_p (ap_len_arr rfl (by repeat (first | exact .here | apply UpdF.there)) rfl) rfl rfl rfl ?_ | refine aops_p (ap_len_nil rfl rfl) rfl rfl rfl ?_
      (rw [hml]; refine aops_call_v (by repeat constructor) (member_con x (hs x (List.mem_of_getElem? hx)) c.length (by omega)) rfl rfl ?_)
      refine aops_p (ap_assign rfl) rfl rfl rfl ?_
      refine aops_nil ?_
      refine seqQ_n ?_
      refine awp_seq ?_
      refine awp_region ?_
      refine aops_p (ap_move rfl) rfl rfl rfl ?_
      refine aops_p (ap_cmp rfl rfl rfl) rfl rfl rfl ?_
      refine aops_nil ?_
      refine seqQ_n ?_
      refine awp_cond rfl (fun hc => ?_) (fun hc => ?_)
      · refine awp_seq ?_
        refine awp_region ?_
        refine aops_p (ap_move rfl) rfl rfl rfl ?_
        refine aops_p (ap_assign rfl) rfl rfl rfl ?_
        refine aops_nil ?_
        refine seqQ_n ?_
        refine awp_ret ?_
        refine blockQ_r ?_
        refine seqQ_r ?_
        refine seqQ_r ?_
        refine blockQ_r ?_
        refine seqQ_r ?_
        refine post_is (.tmp rfl .nil) .nil ?_
        rw [hd] at hI; simp only [memsV] at hI
        rw [if_neg (of_neq_true hc)] at hI
        unfold validC; rw [if_neg (by omega), ← hI]; rfl
      · refine awp_skip ?_
        refine blockQ_n ?_
        refine seqQ_n ?_
        refine awp_region ?_
        refine aops_p (ap_arith rfl rfl rfl (by omega)) rfl rfl rfl ?_
        refine aops_p (ap_move rfl) rfl rfl rfl ?_
        refine aops_nil ?_
        refine seqQ_n ?_
        rw [hd] at hI; simp only [memsV] at hI
        rw [if_pos (of_neq_false hc)] at hI
        refine ⟨k + 1, ⟨by omega, hI⟩, by omega, wk (by repeat (first | exact .nil | refine .cons rfl ?_)) (by repeat (first | exact .nil | refine .cons (by first | exact .here | exact .there .here | exact .there (.there .here) | exact .there (.there (.there .here)) | exact .there (.there (.there (.there .here)))) ?_))⟩
    · have hge := of_decide_eq_false hc
      rw [drop_nil (by omega)] at hI; simp only [memsV] at hI
      refine awp_exit ?_
      refine seqQ_x ?_
      refine seqQ_x ?_
      refine blockQ_x rfl ?_
      refine seqQ_n ?_
      refine awp_seq ?_
      refine awp_region ?_
      refine aops_p (ap_assign rfl) rfl rfl rfl ?_
      refine aops_nil ?_
      refine seqQ_n ?_
      refine awp_ret ?_
      refine post_is (.tmp rfl .nil) .nil ?_
      unfold validC; rw [if_neg (by omega), ← hI]; rfl
def holdsV (c : List Mem) : Bool × Int := if validC c = 0 then (interB c, 0) else (false, validC c)
theorem holds_con (c : List Mem) (hs : ∀ m ∈ c, sizeT m.t ≤ 1000000000) : Con Try.prog 59 [cv c] [] (Is (.tup [.b (holdsV c).1, .i (holdsV c).2]) []) := by
  have hcap : capB = 140737488355328 := rfl
  refine con_intro Try.func59 rfl Try.call59 rfl ?_
  refine awp_seq ?_
  refine awp_region ?_
  refine aops_box rfl (by first | exact .agg | exact .sl | exact .v rfl | exact .v (by assumption)) rfl rfl (fun b1 => ?_)
  refine aops_p (ap_assign rfl) rfl rfl rfl ?_
  refine aops_p (ap_assign rfl) rfl rfl rfl ?_
  refine aops_nil ?_
  refine seqQ_n ?_
  refine awp_seq ?_
  refine awp_seq ?_
  refine awp_region ?_
  first | refine aops_q (aq_load rfl (by repeat (first | exact .here | apply UpdF.there)) List.not_mem_nil rfl rfl (by repeat constructor)) rfl rfl rfl ?_ | refine aops_q (aq_load_el rfl rfl rfl rfl (fun _ h => absurd h List.not_mem_nil)) rfl rfl rfl ?_
  refine aops_call_v (by repeat constructor) (validC_con c hs) rfl rfl ?_
  refine aops_p (ap_assign rfl) rfl rfl rfl ?_
  refine aops_nil ?_
  refine seqQ_n ?_
  refine awp_seq ?_
  refine awp_region ?_
  refine aops_p (ap_move rfl) rfl rfl rfl ?_
  refine aops_p (ap_cmp rfl rfl rfl) rfl rfl rfl ?_
  refine aops_nil ?_
  refine seqQ_n ?_
  refine awp_cond rfl (fun hc => ?_) (fun hc => ?_)
  · have hv := of_neq_true hc
    refine awp_seq ?_
    refine awp_region ?_
    refine aops_p (ap_move rfl) rfl rfl rfl ?_
    refine aops_p (ap_assign rfl) rfl rfl rfl ?_
    refine aops_p (ap_assign rfl) rfl rfl rfl ?_
    refine aops_nil ?_
    refine seqQ_n ?_
    refine awp_ret ?_
    refine seqQ_r ?_
    refine post_is (.tmp rfl (.tmp rfl .nil)) (by repeat (first | exact .nil | refine .cons (by first | exact .here | exact .there .here | exact .there (.there .here) | exact .there (.there (.there .here)) | exact .there (.there (.there (.there .here)))) ?_)) ?_
    unfold holdsV; rw [if_neg hv]; rfl
  · have hv := of_neq_false hc
    refine awp_skip ?_
    refine seqQ_n ?_
    refine awp_seq ?_
    refine awp_region ?_
    first | refine aops_q (aq_load rfl (by repeat (first | exact .here | apply UpdF.there)) List.not_mem_nil rfl rfl (by repeat constructor)) rfl rfl rfl ?_ | refine aops_q (aq_load_el rfl rfl rfl rfl (fun _ h => absurd h List.not_mem_nil)) rfl rfl rfl ?_
    (refine aops_call (by repeat constructor) (find_con c (validC_len hv)) (by repeat (first | exact .nil | exact Split.none _ | apply Split.left | apply Split.right)) rfl rfl ?_; rintro _ _ ⟨fa, fb, rfl, hF, rfl⟩)
    refine aops_p (ap_move rfl) rfl rfl rfl ?_
    refine aops_p (ap_extract rfl rfl) rfl rfl rfl ?_
    refine aops_p (ap_extract rfl rfl) rfl rfl rfl ?_
    refine aops_p (ap_assign rfl) rfl rfl rfl ?_
    refine aops_p (ap_assign rfl) rfl rfl rfl ?_
    refine aops_nil ?_
    refine seqQ_n ?_
    refine awp_seq ?_
    refine awp_region ?_
    refine aops_p (ap_move rfl) rfl rfl rfl ?_
    refine aops_p (ap_cmp rfl rfl rfl) rfl rfl rfl ?_
    refine aops_p (ap_assign rfl) rfl rfl rfl ?_
    refine aops_p (ap_assign rfl) rfl rfl rfl ?_
    refine aops_nil ?_
    refine seqQ_n ?_
    refine awp_ret ?_
    refine post_is (.tmp rfl (.tmp rfl .nil)) (by repeat (first | exact .nil | refine .cons (by first | exact .here | exact .there .here | exact .there (.there .here) | exact .there (.there (.there .here)) | exact .there (.there (.there (.there .here)))) ?_)) ?_
    unfold holdsV; rw [if_pos hv, ← hF.inter]; rfl
theorem disj_con (c : List Mem) (hs : ∀ m ∈ c, sizeT m.t ≤ 1000000000) : Con Try.prog 61 [cv c] [] (fun d H => ∃ (a b : Nat) (e : Int), d = .tup [.i a, .i b, .i e] ∧ ((¬ validC c = 0 ∧ a = 0 ∧ b = 0 ∧ e = validC c) ∨ (validC c = 0 ∧ FindR c a b ∧ e = if a = 0 then 11 else 0)) ∧ H = []) := by
  have hcap : capB = 140737488355328 := rfl
  refine con_intro Try.func61 rfl Try.call61 rfl ?_
  refine awp_seq ?_
  refine awp_region ?_
  refine aops_box rfl (by first | exact .agg | exact .sl | exact .v rfl | exact .v (by assumption)) rfl rfl (fun b1 => ?_)
  refine aops_p (ap_assign rfl) rfl rfl rfl ?_
  refine aops_p (ap_assign rfl) rfl rfl rfl ?_
  refine aops_p (ap_assign rfl) rfl rfl rfl ?_
  refine aops_nil ?_
  refine seqQ_n ?_
  refine awp_seq ?_
  refine awp_seq ?_
  refine awp_region ?_
  first | refine aops_q (aq_load rfl (by repeat (first | exact .here | apply UpdF.there)) List.not_mem_nil rfl rfl (by repeat constructor)) rfl rfl rfl ?_ | refine aops_q (aq_load_el rfl rfl rfl rfl (fun _ h => absurd h List.not_mem_nil)) rfl rfl rfl ?_
  refine aops_call_v (by repeat constructor) (validC_con c hs) rfl rfl ?_
  refine aops_p (ap_assign rfl) rfl rfl rfl ?_
  refine aops_nil ?_
  refine seqQ_n ?_
  refine awp_seq ?_
  refine awp_region ?_
  refine aops_p (ap_move rfl) rfl rfl rfl ?_
  refine aops_p (ap_cmp rfl rfl rfl) rfl rfl rfl ?_
  refine aops_nil ?_
  refine seqQ_n ?_
  refine awp_cond rfl (fun hc => ?_) (fun hc => ?_)
  · have hv := of_neq_true hc
    refine awp_seq ?_
    refine awp_region ?_
    refine aops_p (ap_move rfl) rfl rfl rfl ?_
    refine aops_p (ap_assign rfl) rfl rfl rfl ?_
    refine aops_p (ap_assign rfl) rfl rfl rfl ?_
    refine aops_p (ap_assign rfl) rfl rfl rfl ?_
    refine aops_nil ?_
    refine seqQ_n ?_
    refine awp_ret ?_
    refine seqQ_r ?_
    refine post_ret (.tmp rfl (.tmp rfl (.tmp rfl .nil))) (by repeat (first | exact .nil | refine .cons (by first | exact .here | exact .there .here | exact .there (.there .here) | exact .there (.there (.there .here)) | exact .there (.there (.there (.there .here)))) ?_)) ⟨0, 0, _, rfl, .inl ⟨hv, rfl, rfl, rfl⟩, rfl⟩
  · have hv := of_neq_false hc
    refine awp_skip ?_
    refine seqQ_n ?_
    refine awp_seq ?_
    refine awp_region ?_
    first | refine aops_q (aq_load rfl (by repeat (first | exact .here | apply UpdF.there)) List.not_mem_nil rfl rfl (by repeat constructor)) rfl rfl rfl ?_ | refine aops_q (aq_load_el rfl rfl rfl rfl (fun _ h => absurd h List.not_mem_nil)) rfl rfl rfl ?_
    (refine aops_call (by repeat constructor) (find_con c (validC_len hv)) (by repeat (first | exact .nil | exact Split.none _ | apply Split.left | apply Split.right)) rfl rfl ?_; rintro _ _ ⟨fa, fb, rfl, hF, rfl⟩)
    refine aops_p (ap_move rfl) rfl rfl rfl ?_
    refine aops_p (ap_extract rfl rfl) rfl rfl rfl ?_
    refine aops_p (ap_extract rfl rfl) rfl rfl rfl ?_
    refine aops_p (ap_assign rfl) rfl rfl rfl ?_
    refine aops_p (ap_assign rfl) rfl rfl rfl ?_
    refine aops_nil ?_
    refine seqQ_n ?_
    refine awp_seq ?_
    refine awp_seq ?_
    refine awp_region ?_
    refine aops_p (ap_move rfl) rfl rfl rfl ?_
    refine aops_p (ap_cmp rfl rfl rfl) rfl rfl rfl ?_
    refine aops_nil ?_
    refine seqQ_n ?_
    refine awp_cond rfl (fun hc => ?_) (fun hc => ?_)
    · have ha := of_decide_eq_true hc
      obtain rfl : fa = 0 := by omega
      have hb0 := (hF.none rfl).1
      subst hb0
      refine awp_seq ?_
      refine awp_region ?_
      refine aops_p (ap_assign rfl) rfl rfl rfl ?_
      refine aops_p (ap_assign rfl) rfl rfl rfl ?_
      refine aops_p (ap_assign rfl) rfl rfl rfl ?_
      refine aops_nil ?_
      refine seqQ_n ?_
      refine awp_ret ?_
      refine seqQ_r ?_
      refine post_ret (.tmp rfl (.tmp rfl (.tmp rfl .nil))) (by repeat (first | exact .nil | refine .cons (by first | exact .here | exact .there .here | exact .there (.there .here) | exact .there (.there (.there .here)) | exact .there (.there (.there (.there .here)))) ?_)) ⟨0, 0, _, rfl, .inr ⟨hv, hF, rfl⟩, rfl⟩
    · have ha := of_decide_eq_false hc
      refine awp_skip ?_
      refine seqQ_n ?_
      refine awp_seq ?_
      refine awp_region ?_
      refine aops_p (ap_move rfl) rfl rfl rfl ?_
      refine aops_p (ap_move rfl) rfl rfl rfl ?_
      refine aops_p (ap_assign rfl) rfl rfl rfl ?_
      refine aops_p (ap_assign rfl) rfl rfl rfl ?_
      refine aops_p (ap_assign rfl) rfl rfl rfl ?_
      refine aops_nil ?_
      refine seqQ_n ?_
      refine awp_ret ?_
      refine post_ret (.tmp rfl (.tmp rfl (.tmp rfl .nil))) (by repeat (first | exact .nil | refine .cons (by first | exact .here | exact .there .here | exact .there (.there .here) | exact .there (.there (.there .here)) | exact .there (.there (.there (.there .here)))) ?_)) ⟨fa, fb, _, rfl, .inr ⟨hv, hF, by rw [if_neg (by omega)]⟩, rfl⟩
theorem none_con (c : List Mem) (hcl : c.length ≤ 10) (req exc : Nat) (hr : req < 1024) (he : exc < 1024) : Con Try.prog 140 [cv c, .i req, .i exc] [] (Is (.b (noneC c req exc)) []) := by
  have hcap : capB = 140737488355328 := rfl
  have h10 := pow_le10 hcl
  have hgl := great_lt c ((co c exc : Nat) : Int)
  refine con_intro Try.func140 rfl Try.call140 rfl ?_
  refine awp_seq ?_
  refine awp_region ?_
  refine aops_box rfl (by first | exact .agg | exact .sl | exact .v rfl | exact .v (by assumption)) rfl rfl (fun b3 => ?_)
  refine aops_p (ap_assign rfl) rfl rfl rfl ?_
  refine aops_nil ?_
  refine seqQ_n ?_
  refine awp_seq ?_
  refine awp_draw (Hm := []) (by kernel_rfl) (by repeat (first | exact .nil | exact Split.none _ | apply Split.left | apply Split.right)) ?_
  first | refine aany_take 0 rfl (.none rfl) (by kernel_rfl) (by kernel_rfl) (by kernel_rfl) (ar_load rfl (by repeat (first | exact .here | apply UpdF.there)) rfl rfl (by repeat constructor)) rfl rfl ?_ | refine aany_take 0 rfl (.none rfl) (by kernel_rfl) (by kernel_rfl) (by kernel_rfl) (AQ.ar (aq_load_el rfl rfl rfl rfl (fun _ h => h))) rfl rfl ?_
  first | refine aany_take 1 rfl (.none rfl) (by kernel_rfl) (by kernel_rfl) (by kernel_rfl) (ar_load rfl (by repeat (first | exact .here | apply UpdF.there)) rfl rfl (by repeat constructor)) rfl rfl ?_ | refine aany_take 1 rfl (.none rfl) (by kernel_rfl) (by kernel_rfl) (by kernel_rfl) (AQ.ar (aq_load_el rfl rfl rfl rfl (fun _ h => h))) rfl rfl ?_
  refine aany_take 3 rfl (.none rfl) (by kernel_rfl) (by kernel_rfl) (by kernel_rfl) (AP.ar (ap_move rfl)) rfl rfl ?_
  refine aany_one 2 (by kernel_rfl) rfl (.none rfl) ?_
  refine aops_call_v (by repeat constructor) (members_con c hcl) rfl rfl ?_
  refine aops_nil ?_
  refine aany_take 4 rfl (.none rfl) (by kernel_rfl) (by kernel_rfl) (by kernel_rfl) (AP.ar (ap_bits rfl rfl rfl (by omega) (by omega))) rfl rfl ?_
  refine aany_one 5 (by kernel_rfl) rfl (.none rfl) ?_
  refine aops_call_v (by repeat constructor) (great_con c (co c exc)) rfl rfl ?_
  refine aops_nil ?_
  refine aany_take 6 rfl (.none rfl) (by kernel_rfl) (by kernel_rfl) (by kernel_rfl) (AP.ar (ap_assign rfl)) rfl rfl ?_
  refine aany_nil (by kernel_rfl) ?_
  all_goals (
    refine seqQ_n ?_
    refine awp_seq ?_
    refine awp_region ?_
    refine aops_p (ap_move rfl) rfl rfl rfl ?_
    refine aops_p (ap_cmp rfl rfl rfl) rfl rfl rfl ?_
    refine aops_p (ap_move rfl) rfl rfl rfl ?_
    all_goals (first | (refine aops_yes rfl rfl rfl rfl (by first | with_reducible assumption | with_reducible exact rfl | decide | (refine decide_eq_true ?_; omega) | (refine decide_eq_false ?_; omega)) ?_; (refine aops_p (ap_move rfl) rfl rfl rfl ?_)) | refine aops_no_u rfl rfl rfl ?_ | refine aops_no_f rfl rfl rfl rfl (by first | with_reducible assumption | with_reducible exact rfl | decide | (refine decide_eq_true ?_; omega) | (refine decide_eq_false ?_; omega)) ?_ | (refine aops_guard_f rfl rfl rfl rfl (fun hg => ?_) (fun hg => ?_); case' _ => (refine aops_p (ap_move rfl) rfl rfl rfl ?_)))
    all_goals (first | (refine aops_yes rfl rfl rfl rfl (by first | with_reducible assumption | with_reducible exact rfl | decide | (refine decide_eq_true ?_; omega) | (refine decide_eq_false ?_; omega)) ?_; (refine aops_p (ap_move rfl) rfl rfl rfl ?_)) | refine aops_no_u rfl rfl rfl ?_ | refine aops_no_f rfl rfl rfl rfl (by first | with_reducible assumption | with_reducible exact rfl | decide | (refine decide_eq_true ?_; omega) | (refine decide_eq_false ?_; omega)) ?_ | (refine aops_guard_f rfl rfl rfl rfl (fun hg => ?_) (fun hg => ?_); case' _ => (refine aops_p (ap_move rfl) rfl rfl rfl ?_)))
    all_goals (first | (refine aops_yes rfl rfl rfl rfl (by first | with_reducible assumption | with_reducible exact rfl | decide | (refine decide_eq_true ?_; omega) | (refine decide_eq_false ?_; omega)) ?_; (refine aops_p (ap_bits rfl rfl rfl (by omega) (by omega)) rfl rfl rfl ?_)) | refine aops_no_u rfl rfl rfl ?_ | refine aops_no_f rfl rfl rfl rfl (by first | with_reducible assumption | with_reducible exact rfl | decide | (refine decide_eq_true ?_; omega) | (refine decide_eq_false ?_; omega)) ?_ | (refine aops_guard_f rfl rfl rfl rfl (fun hg => ?_) (fun hg => ?_); case' _ => (refine aops_p (ap_bits rfl rfl rfl (by omega) (by omega)) rfl rfl rfl ?_)))
    all_goals (first | (refine aops_yes rfl rfl rfl rfl (by first | with_reducible assumption | with_reducible exact rfl | decide | (refine decide_eq_true ?_; omega) | (refine decide_eq_false ?_; omega)) ?_; (refine aops_p (ap_cmp rfl rfl rfl) rfl rfl rfl ?_)) | refine aops_no_u rfl rfl rfl ?_ | refine aops_no_f rfl rfl rfl rfl (by first | with_reducible assumption | with_reducible exact rfl | decide | (refine decide_eq_true ?_; omega) | (refine decide_eq_false ?_; omega)) ?_ | (refine aops_guard_f rfl rfl rfl rfl (fun hg => ?_) (fun hg => ?_); case' _ => (refine aops_p (ap_cmp rfl rfl rfl) rfl rfl rfl ?_)))
    all_goals (first | refine aops_p (ap_pick_true rfl (by first | with_reducible assumption | with_reducible exact rfl | decide | (refine decide_eq_true ?_; omega) | (refine decide_eq_false ?_; omega)) rfl) rfl rfl rfl ?_ | refine aops_p (ap_pick_false rfl (by first | with_reducible assumption | with_reducible exact rfl | decide | (refine decide_eq_true ?_; omega) | (refine decide_eq_false ?_; omega)) rfl) rfl rfl rfl ?_)
    all_goals (refine aops_p (ap_assign rfl) rfl rfl rfl ?_)
    all_goals (
      refine aops_nil ?_
      refine seqQ_n ?_
      refine awp_ret ?_
      refine post_is (.tmp rfl .nil) .nil ?_
      unfold noneC
      first
      | (simp_all [resD]; done)
      | (rw [show decide (((great c (co c exc) : Nat) : Int) = 0) = false by with_reducible assumption, Bool.false_or]; rfl)
      | (rw [show decide (((great c (co c exc) : Nat) : Int) = 0) = true by with_reducible assumption]; rfl)
      )
    )
theorem alone_con (c : List Mem) (hcl : c.length ≤ 10) (req : Nat) (hr : req < 1024) : Con Try.prog 141 [cv c, .i req] [] (Is (.b (aloneC c req)) []) := by
  have hcap : capB = 140737488355328 := rfl
  have h10 := pow_le10 hcl
  refine con_intro Try.func141 rfl Try.call141 rfl ?_
  refine awp_seq ?_
  refine awp_region ?_
  refine aops_box rfl (by first | exact .agg | exact .sl | exact .v rfl | exact .v (by assumption)) rfl rfl (fun b2 => ?_)
  refine aops_p (ap_assign rfl) rfl rfl rfl ?_
  refine aops_nil ?_
  refine seqQ_n ?_
  refine awp_seq ?_
  refine awp_draw (Hm := []) (by kernel_rfl) (by repeat (first | exact .nil | exact Split.none _ | apply Split.left | apply Split.right)) ?_
  first | refine aany_take 0 rfl (.none rfl) (by kernel_rfl) (by kernel_rfl) (by kernel_rfl) (ar_load rfl (by repeat (first | exact .here | apply UpdF.there)) rfl rfl (by repeat constructor)) rfl rfl ?_ | refine aany_take 0 rfl (.none rfl) (by kernel_rfl) (by kernel_rfl) (by kernel_rfl) (AQ.ar (aq_load_el rfl rfl rfl rfl (fun _ h => h))) rfl rfl ?_
  first | refine aany_take 1 rfl (.none rfl) (by kernel_rfl) (by kernel_rfl) (by kernel_rfl) (ar_load rfl (by repeat (first | exact .here | apply UpdF.there)) rfl rfl (by repeat constructor)) rfl rfl ?_ | refine aany_take 1 rfl (.none rfl) (by kernel_rfl) (by kernel_rfl) (by kernel_rfl) (AQ.ar (aq_load_el rfl rfl rfl rfl (fun _ h => h))) rfl rfl ?_
  refine aany_take 3 rfl (.none rfl) (by kernel_rfl) (by kernel_rfl) (by kernel_rfl) (AP.ar (ap_move rfl)) rfl rfl ?_
  refine aany_one 2 (by kernel_rfl) rfl (.none rfl) ?_
  refine aops_call_v (by repeat constructor) (members_con c hcl) rfl rfl ?_
  refine aops_nil ?_
  refine aany_take 4 rfl (.none rfl) (by kernel_rfl) (by kernel_rfl) (by kernel_rfl) (AP.ar (ap_bits rfl rfl rfl (by omega) (by omega))) rfl rfl ?_
  refine aany_one 5 (by kernel_rfl) rfl (.none rfl) ?_
  refine aops_call_v (by repeat constructor) (great_con c (co c req)) rfl rfl ?_
  refine aops_nil ?_
  refine aany_take 6 rfl (.none rfl) (by kernel_rfl) (by kernel_rfl) (by kernel_rfl) (AP.ar (ap_cmp rfl rfl rfl)) rfl rfl ?_
  refine aany_take 7 rfl (.none rfl) (by kernel_rfl) (by kernel_rfl) (by kernel_rfl) (AP.ar (ap_assign rfl)) rfl rfl ?_
  refine aany_nil (by kernel_rfl) ?_
  all_goals (
    refine seqQ_n ?_
    refine awp_ret ?_
    refine post_is (.tmp rfl .nil) .nil ?_
    rfl
    )
theorem tsize_con : ∀ (x : Tr), tsz x ≤ 1000000000 → Con Try.prog 67 [tv x] [] (Is (.i (tsz x : Int)) []) := by
  have hcap : capB = 140737488355328 := rfl
  intro x
  induction x using Tr.ind with
  | _ x ih =>
    intro hsz
    have hl := tvs_len x.kids
    have hs0 : tsz x = 1 + tszL x.kids := rfl
    refine con_intro Try.func67 rfl Try.call67 rfl ?_
    refine awp_seq ?_
    refine awp_region ?_
    refine aops_box rfl (by first | exact .agg | exact .sl | exact .v rfl | exact .v (by assumption)) rfl rfl (fun b1 => ?_)
    refine aops_p (ap_assign rfl) rfl rfl rfl ?_
    refine aops_nil ?_
    refine seqQ_n ?_
    refine awp_seq ?_
    refine awp_region ?_
    refine aops_p (ap_assign rfl) rfl rfl rfl ?_
    refine aops_nil ?_
    refine seqQ_n ?_
    refine awp_seq ?_
    refine awp_seq ?_
    refine awp_region ?_
    first | refine aops_p (ap_fieldAddr (off := 2) (sz := 1) (g := false) rfl rfl) rfl rfl rfl ?_ | refine aops_p (ap_fieldAddr_el (off := 2) (sz := 1) (g := false) rfl rfl (by repeat constructor)) rfl rfl rfl ?_
    first | refine aops_q (aq_load1 rfl (by repeat (first | exact .here | apply UpdF.there)) List.not_mem_nil rfl (by repeat constructor)) rfl rfl rfl ?_ | refine aops_q (aq_load_el1 rfl rfl (by first | exact .sl | exact .v rfl | exact .v (by assumption)) (fun _ h => absurd h List.not_mem_nil)) rfl rfl rfl ?_ | refine aops_q (aq_load_el1' rfl rfl (by first | exact .sl | exact .v rfl | exact .v (by assumption)) (fun _ h => absurd h List.not_mem_nil)) rfl rfl rfl ?_ | refine aops_q (aq_load_own1 rfl (by repeat (first | exact .here | apply UpdF.there)) List.not_mem_nil rfl (by first | with_reducible assumption | assumption | rfl) (by first | exact .sl | exact .v rfl | exact .v (by assumption))) rfl rfl rfl ?_
    first | refine aops_len rfl rfl rfl rfl (fun _ => ?_) | refine aops_p (ap_len_arr rfl (by repeat (first | exact .here | apply UpdF.there)) rfl) rfl rfl rfl ?_ | refine aops_p (ap_len_nil rfl rfl) rfl rfl rfl ?_
    refine aops_p (ap_move rfl) rfl rfl rfl ?_
    refine aops_nil ?_
    refine seqQ_n ?_
    refine awp_block ?_
    refine awp_loop2 [7, 8] [.box b1 _ _] (fun (k : Nat) (n : Nat) r => (3, .i (n : Int)) :: (9, .i (k : Int)) :: r) (fun (k : Nat) (n : Nat) r => r) (fun (k : Nat) (n : Nat) => k ≤ x.kids.length ∧ n + tszL (x.kids.drop k) = tsz x) (fun (k : Nat) (n : Nat) => x.kids.length - k) (0) (1) (by repeat constructor) ⟨by omega, by simp; omega⟩ (wk (by repeat (first | exact .nil | refine .cons rfl ?_)) (by repeat (first | exact .nil | refine .cons (by first | exact .here | exact .there .here | exact .there (.there .here) | exact .there (.there (.there .here)) | exact .there (.there (.there (.there .here)))) ?_))) ?_
    intro k n ⟨hk, hI⟩
    refine awp_seq ?_
    refine awp_region ?_
    refine aops_p (ap_cmp rfl rfl rfl) rfl rfl rfl ?_
    refine aops_nil ?_
    refine seqQ_n ?_
    refine awp_seq ?_
    refine awp_cond rfl (fun hc => ?_) (fun hc => ?_)
    · have hlt := of_decide_eq_true hc
      obtain ⟨y, hy, hd⟩ := drop_cons (l := x.kids) (k := k) (by omega)
      have hy' := tvs_get hy
      have hym := List.mem_of_getElem? hy
      rw [hd, tszL_cons] at hI
      refine awp_skip ?_
      refine seqQ_n ?_
      refine awp_seq ?_
      refine awp_block ?_
      refine awp_seq ?_
      refine awp_region ?_
      first | refine aops_p (ap_index rfl rfl rfl rfl (by decide) rfl (by first | with_reducible assumption | assumption | rfl)) rfl rfl rfl ?_ | refine aops_p (ap_index rfl rfl rfl rfl (by decide) (by omega) (by first | with_reducible assumption | assumption | rfl)) rfl rfl rfl ?_ | refine aops_p (ap_index_own rfl rfl rfl rfl rfl (by first | omega | (simp only [List.length_map, List.length_set, avs_len]; omega))) rfl rfl rfl ?_
      first | refine aops_q (aq_load rfl (by repeat (first | exact .here | apply UpdF.there)) List.not_mem_nil rfl rfl (by repeat constructor)) rfl rfl rfl ?_ | refine aops_q (aq_load_el rfl rfl rfl rfl (fun _ h => absurd h List.not_mem_nil)) rfl rfl rfl ?_
      refine aops_alloc rfl (by repeat constructor) rfl rfl (fun b5 => ?_)
      first | refine aops_store rfl rfl (by first | exact .agg | exact .sl | exact .v rfl | exact .v (by assumption)) (by repeat (first | exact .here | apply UpdF.there)) rfl (by repeat constructor) ?_ | refine aops_store_own1 rfl rfl (by first | exact .sl | exact .v rfl | exact .v (by assumption)) (by repeat (first | exact .here | apply UpdF.there)) rfl (by simp only [List.length_set, List.length_map]; omega) ?_
      refine aops_nil ?_
      refine seqQ_n ?_
      refine awp_region ?_
      refine aops_p (ap_move rfl) rfl rfl rfl ?_
      first | refine aops_q (aq_load rfl (by repeat (first | exact .here | apply UpdF.there)) List.not_mem_nil rfl rfl (by repeat constructor)) rfl rfl rfl ?_ | refine aops_q (aq_load_el rfl rfl rfl rfl (fun _ h => absurd h List.not_mem_nil)) rfl rfl rfl ?_
      refine aops_call_v (by repeat constructor) (ih y hym (by have := tszL_mem hym; omega)) rfl rfl ?_
      refine aops_p (ap_arith rfl rfl rfl (by omega)) rfl rfl rfl ?_
      refine aops_p (ap_assign rfl) rfl rfl rfl ?_
      refine aops_nil ?_
      refine blockQ_n ?_
      refine seqQ_n ?_
      refine awp_region ?_
      refine aops_p (ap_arith rfl rfl rfl (by omega)) rfl rfl rfl ?_
      refine aops_p (ap_move rfl) rfl rfl rfl ?_
      refine aops_nil ?_
      refine seqQ_n ?_
      refine ⟨k + 1, n + tsz y, ⟨by omega, by omega⟩, by omega, wk (by repeat (first | exact .nil | refine .cons rfl ?_)) (by repeat (first | exact .nil | refine .cons (by first | exact .here | exact .there .here | exact .there (.there .here) | exact .there (.there (.there .here)) | exact .there (.there (.there (.there .here)))) ?_))⟩
    · have hge := of_decide_eq_false hc
      rw [drop_nil (by omega)] at hI; simp only [tszL] at hI
      refine awp_exit ?_
      refine seqQ_x ?_
      refine seqQ_x ?_
      refine blockQ_x rfl ?_
      refine seqQ_n ?_
      refine awp_seq ?_
      refine awp_region ?_
      refine aops_p (ap_move rfl) rfl rfl rfl ?_
      refine aops_p (ap_assign rfl) rfl rfl rfl ?_
      refine aops_nil ?_
      refine seqQ_n ?_
      refine awp_ret ?_
      refine post_is (.tmp rfl .nil) .nil ?_
      rw [← hI]; rfl
theorem right_3t {c : List Mem} {x a b : Tr} {req exc j : Nat} (h : x.kind = 3) (hk : x.kids = [a, b]) (hj : x.node = (j : Int)) (hh : has (freeC c req exc) x.node = true) : rightC c x req exc = (rightC c a req (exc ||| 1 * 2 ^ j) && rightC c b (req ||| 1 * 2 ^ j) exc) := by
  rw [right_3 h hk, hh, hj, Int.toNat_natCast, Nat.one_mul, Bool.true_and]
theorem right_3f {c : List Mem} {x : Tr} {req exc : Nat} (h : x.kind = 3) (hl : x.kids.length = 2) (hh : has (freeC c req exc) x.node = false) : rightC c x req exc = false := by
  match hk : x.kids, hl with
  | [a, b], _ => rw [right_3 h hk, hh, Bool.false_and]
theorem two_kids {x : Tr} (h : x.kids.length = 2) : ∃ a b, x.kids = [a, b] := by
  match hk : x.kids, h with
  | [a, b], _ => exact ⟨a, b, rfl⟩
theorem right_con (c : List Mem) (hcl : c.length ≤ 10) : ∀ (x : Tr) (req exc : Nat), req < 1024 → exc < 1024 → Con Try.prog 110 [cv c, tv x, .i req, .i exc] [] (Is (.b (rightC c x req exc)) []) := by
  have hcap : capB = 140737488355328 := rfl
  intro x
  induction x using Tr.ind with
  | _ x ih =>
    intro req exc hr he
    have hl := tvs_len x.kids
    have h10 := pow_le10 hcl
    have hpos : 0 < 2 ^ c.length := Nat.pow_pos (by omega)
    have hcol : (2 ^ c.length - 1) &&& (2 ^ 63 - 1 - req) < 1024 := co_lt (s := req) hcl
    refine con_intro Try.func110 rfl Try.call110 rfl ?_
    refine awp_seq ?_
    refine awp_region ?_
    refine aops_box rfl (by first | exact .agg | exact .sl | exact .v rfl | exact .v (by assumption)) rfl rfl (fun b4 => ?_)
    refine aops_box rfl (by first | exact .agg | exact .sl | exact .v rfl | exact .v (by assumption)) rfl rfl (fun b5 => ?_)
    refine aops_p (ap_assign rfl) rfl rfl rfl ?_
    refine aops_nil ?_
    refine seqQ_n ?_
    refine awp_seq ?_
    refine awp_region ?_
    first | refine aops_p (ap_fieldAddr (off := 1) (sz := 1) (g := false) rfl rfl) rfl rfl rfl ?_ | refine aops_p (ap_fieldAddr_el (off := 1) (sz := 1) (g := false) rfl rfl (by repeat constructor)) rfl rfl rfl ?_
    first | refine aops_q (aq_load1 rfl (by repeat (first | exact .here | apply UpdF.there)) List.not_mem_nil rfl (by repeat constructor)) rfl rfl rfl ?_ | refine aops_q (aq_load_el1 rfl rfl (by first | exact .sl | exact .v rfl | exact .v (by assumption)) (fun _ h => absurd h List.not_mem_nil)) rfl rfl rfl ?_ | refine aops_q (aq_load_el1' rfl rfl (by first | exact .sl | exact .v rfl | exact .v (by assumption)) (fun _ h => absurd h List.not_mem_nil)) rfl rfl rfl ?_ | refine aops_q (aq_load_own1 rfl (by repeat (first | exact .here | apply UpdF.there)) List.not_mem_nil rfl (by first | with_reducible assumption | assumption | rfl) (by first | exact .sl | exact .v rfl | exact .v (by assumption))) rfl rfl rfl ?_
    refine aops_p (ap_cmp rfl rfl rfl) rfl rfl rfl ?_
    refine aops_p (ap_move rfl) rfl rfl rfl ?_
    all_goals (first | (refine aops_yes rfl rfl rfl rfl (by first | with_reducible assumption | with_reducible exact rfl | decide | (refine decide_eq_true ?_; omega) | (refine decide_eq_false ?_; omega)) ?_; (first | refine aops_p (ap_fieldAddr (off := 2) (sz := 1) (g := false) rfl rfl) rfl rfl rfl ?_ | refine aops_p (ap_fieldAddr_el (off := 2) (sz := 1) (g := false) rfl rfl (by repeat constructor)) rfl rfl rfl ?_)) | refine aops_no_u rfl rfl rfl ?_ | refine aops_no_t rfl rfl rfl rfl (by first | with_reducible assumption | with_reducible exact rfl | decide | (refine decide_eq_true ?_; omega) | (refine decide_eq_false ?_; omega)) ?_ | (refine aops_guard_t rfl rfl rfl rfl (fun hg => ?_) (fun hg => ?_); case' _ => (first | refine aops_p (ap_fieldAddr (off := 2) (sz := 1) (g := false) rfl rfl) rfl rfl rfl ?_ | refine aops_p (ap_fieldAddr_el (off := 2) (sz := 1) (g := false) rfl rfl (by repeat constructor)) rfl rfl rfl ?_)))
    all_goals (first | (refine aops_yes rfl rfl rfl rfl (by first | with_reducible assumption | with_reducible exact rfl | decide | (refine decide_eq_true ?_; omega) | (refine decide_eq_false ?_; omega)) ?_; (first | refine aops_q (aq_load1 rfl (by repeat (first | exact .here | apply UpdF.there)) List.not_mem_nil rfl (by repeat constructor)) rfl rfl rfl ?_ | refine aops_q (aq_load_el1 rfl rfl (by first | exact .sl | exact .v rfl | exact .v (by assumption)) (fun _ h => absurd h List.not_mem_nil)) rfl rfl rfl ?_ | refine aops_q (aq_load_el1' rfl rfl (by first | exact .sl | exact .v rfl | exact .v (by assumption)) (fun _ h => absurd h List.not_mem_nil)) rfl rfl rfl ?_ | refine aops_q (aq_load_own1 rfl (by repeat (first | exact .here | apply UpdF.there)) List.not_mem_nil rfl (by first | with_reducible assumption | assumption | rfl) (by first | exact .sl | exact .v rfl | exact .v (by assumption))) rfl rfl rfl ?_)) | refine aops_no_u rfl rfl rfl ?_ | refine aops_no_t rfl rfl rfl rfl (by first | with_reducible assumption | with_reducible exact rfl | decide | (refine decide_eq_true ?_; omega) | (refine decide_eq_false ?_; omega)) ?_ | (refine aops_guard_t rfl rfl rfl rfl (fun hg => ?_) (fun hg => ?_); case' _ => (first | refine aops_q (aq_load1 rfl (by repeat (first | exact .here | apply UpdF.there)) List.not_mem_nil rfl (by repeat constructor)) rfl rfl rfl ?_ | refine aops_q (aq_load_el1 rfl rfl (by first | exact .sl | exact .v rfl | exact .v (by assumption)) (fun _ h => absurd h List.not_mem_nil)) rfl rfl rfl ?_ | refine aops_q (aq_load_el1' rfl rfl (by first | exact .sl | exact .v rfl | exact .v (by assumption)) (fun _ h => absurd h List.not_mem_nil)) rfl rfl rfl ?_ | refine aops_q (aq_load_own1 rfl (by repeat (first | exact .here | apply UpdF.there)) List.not_mem_nil rfl (by first | with_reducible assumption | assumption | rfl) (by first | exact .sl | exact .v rfl | exact .v (by assumption))) rfl rfl rfl ?_)))
    all_goals (first | (refine aops_yes rfl rfl rfl rfl (by first | with_reducible assumption | with_reducible exact rfl | decide | (refine decide_eq_true ?_; omega) | (refine decide_eq_false ?_; omega)) ?_; (first | refine aops_len rfl rfl rfl rfl (fun _ => ?_) | refine aops_p (ap_len_arr rfl (by repeat (first | exact .here | apply UpdF.there)) rfl) rfl rfl rfl ?_ | refine aops_p (ap_len_nil rfl rfl) rfl rfl rfl ?_)) | refine aops_no_u rfl rfl rfl ?_ | refine aops_no_t rfl rfl rfl rfl (by first | with_reducible assumption | with_reducible exact rfl | decide | (refine decide_eq_true ?_; omega) | (refine decide_eq_false ?_; omega)) ?_ | (refine aops_guard_t rfl rfl rfl rfl (fun hg => ?_) (fun hg => ?_); case' _ => (first | refine aops_len rfl rfl rfl rfl (fun _ => ?_) | refine aops_p (ap_len_arr rfl (by repeat (first | exact .here | apply UpdF.there)) rfl) rfl rfl rfl ?_ | refine aops_p (ap_len_nil rfl rfl) rfl rfl rfl ?_)))
    all_goals (first | (refine aops_yes rfl rfl rfl rfl (by first | with_reducible assumption | with_reducible exact rfl | decide | (refine decide_eq_true ?_; omega) | (refine decide_eq_false ?_; omega)) ?_; (refine aops_p (ap_cmp rfl rfl rfl) rfl rfl rfl ?_)) | refine aops_no_u rfl rfl rfl ?_ | refine aops_no_t rfl rfl rfl rfl (by first | with_reducible assumption | with_reducible exact rfl | decide | (refine decide_eq_true ?_; omega) | (refine decide_eq_false ?_; omega)) ?_ | (refine aops_guard_t rfl rfl rfl rfl (fun hg => ?_) (fun hg => ?_); case' _ => (refine aops_p (ap_cmp rfl rfl rfl) rfl rfl rfl ?_)))
    all_goals (first | refine aops_p (ap_pick_true rfl (by first | with_reducible assumption | with_reducible exact rfl | decide | (refine decide_eq_true ?_; omega) | (refine decide_eq_false ?_; omega)) rfl) rfl rfl rfl ?_ | refine aops_p (ap_pick_false rfl (by first | with_reducible assumption | with_reducible exact rfl | decide | (refine decide_eq_true ?_; omega) | (refine decide_eq_false ?_; omega)) rfl) rfl rfl rfl ?_)
    all_goals (refine aops_p (ap_assign rfl) rfl rfl rfl ?_)
    all_goals (
      refine aops_nil ?_
      refine seqQ_n ?_
      refine awp_seq ?_
      refine awp_seq ?_
      refine awp_region ?_
      first | refine aops_p (ap_fieldAddr (off := 0) (sz := 1) (g := false) rfl rfl) rfl rfl rfl ?_ | refine aops_p (ap_fieldAddr_el (off := 0) (sz := 1) (g := false) rfl rfl (by repeat constructor)) rfl rfl rfl ?_
      first | refine aops_q (aq_load1 rfl (by repeat (first | exact .here | apply UpdF.there)) List.not_mem_nil rfl (by repeat constructor)) rfl rfl rfl ?_ | refine aops_q (aq_load_el1 rfl rfl (by first | exact .sl | exact .v rfl | exact .v (by assumption)) (fun _ h => absurd h List.not_mem_nil)) rfl rfl rfl ?_ | refine aops_q (aq_load_el1' rfl rfl (by first | exact .sl | exact .v rfl | exact .v (by assumption)) (fun _ h => absurd h List.not_mem_nil)) rfl rfl rfl ?_ | refine aops_q (aq_load_own1 rfl (by repeat (first | exact .here | apply UpdF.there)) List.not_mem_nil rfl (by first | with_reducible assumption | assumption | rfl) (by first | exact .sl | exact .v rfl | exact .v (by assumption))) rfl rfl rfl ?_
      refine aops_nil ?_
      refine seqQ_n ?_
      refine awp_block ?_
      refine awp_seq ?_
      refine awp_region ?_
      refine aops_p (ap_cmp rfl rfl rfl) rfl rfl rfl ?_
      refine aops_p (ap_assign rfl) rfl rfl rfl ?_
      refine aops_nil ?_
      refine seqQ_n ?_
      refine awp_cond rfl (fun hc => ?_) (fun hc => ?_)
      · have hk1 := of_decide_eq_true hc
        refine awp_seq ?_
        refine awp_region ?_
        refine aops_p (ap_move rfl) rfl rfl rfl ?_
        refine aops_p (ap_move rfl) rfl rfl rfl ?_
        all_goals (first | (refine aops_yes rfl rfl rfl rfl (by first | with_reducible assumption | with_reducible exact rfl | decide | (refine decide_eq_true ?_; omega) | (refine decide_eq_false ?_; omega)) ?_; (first | refine aops_q (aq_load rfl (by repeat (first | exact .here | apply UpdF.there)) List.not_mem_nil rfl rfl (by repeat constructor)) rfl rfl rfl ?_ | refine aops_q (aq_load_el rfl rfl rfl rfl (fun _ h => absurd h List.not_mem_nil)) rfl rfl rfl ?_)) | refine aops_no_u rfl rfl rfl ?_ | refine aops_no_t rfl rfl rfl rfl (by first | with_reducible assumption | with_reducible exact rfl | decide | (refine decide_eq_true ?_; omega) | (refine decide_eq_false ?_; omega)) ?_ | (refine aops_guard_t rfl rfl rfl rfl (fun hg => ?_) (fun hg => ?_); case' _ => (first | refine aops_q (aq_load rfl (by repeat (first | exact .here | apply UpdF.there)) List.not_mem_nil rfl rfl (by repeat constructor)) rfl rfl rfl ?_ | refine aops_q (aq_load_el rfl rfl rfl rfl (fun _ h => absurd h List.not_mem_nil)) rfl rfl rfl ?_)))
        all_goals (first | (refine aops_yes rfl rfl rfl rfl (by first | with_reducible assumption | with_reducible exact rfl | decide | (refine decide_eq_true ?_; omega) | (refine decide_eq_false ?_; omega)) ?_; (refine aops_p (ap_move rfl) rfl rfl rfl ?_)) | refine aops_no_u rfl rfl rfl ?_ | refine aops_no_t rfl rfl rfl rfl (by first | with_reducible assumption | with_reducible exact rfl | decide | (refine decide_eq_true ?_; omega) | (refine decide_eq_false ?_; omega)) ?_ | (refine aops_guard_t rfl rfl rfl rfl (fun hg => ?_) (fun hg => ?_); case' _ => (refine aops_p (ap_move rfl) rfl rfl rfl ?_)))
        all_goals (first | (refine aops_yes rfl rfl rfl rfl (by first | with_reducible assumption | with_reducible exact rfl | decide | (refine decide_eq_true ?_; omega) | (refine decide_eq_false ?_; omega)) ?_; (refine aops_p (ap_move rfl) rfl rfl rfl ?_)) | refine aops_no_u rfl rfl rfl ?_ | refine aops_no_t rfl rfl rfl rfl (by first | with_reducible assumption | with_reducible exact rfl | decide | (refine decide_eq_true ?_; omega) | (refine decide_eq_false ?_; omega)) ?_ | (refine aops_guard_t rfl rfl rfl rfl (fun hg => ?_) (fun hg => ?_); case' _ => (refine aops_p (ap_move rfl) rfl rfl rfl ?_)))
        all_goals (first | (refine aops_yes rfl rfl rfl rfl (by first | with_reducible assumption | with_reducible exact rfl | decide | (refine decide_eq_true ?_; omega) | (refine decide_eq_false ?_; omega)) ?_; (refine aops_call_b (by repeat constructor) (none_con c hcl req exc hr he) rfl rfl (fun c28 hc28 => ?_))) | refine aops_no_u rfl rfl rfl ?_ | refine aops_no_t rfl rfl rfl rfl (by first | with_reducible assumption | with_reducible exact rfl | decide | (refine decide_eq_true ?_; omega) | (refine decide_eq_false ?_; omega)) ?_ | (refine aops_guard_t rfl rfl rfl rfl (fun hg => ?_) (fun hg => ?_); case' _ => (refine aops_call_b (by repeat constructor) (none_con c hcl req exc hr he) rfl rfl (fun c28 hc28 => ?_))))
        all_goals (first | refine aops_p (ap_pick_true rfl (by first | with_reducible assumption | with_reducible exact rfl | decide | (refine decide_eq_true ?_; omega) | (refine decide_eq_false ?_; omega)) rfl) rfl rfl rfl ?_ | refine aops_p (ap_pick_false rfl (by first | with_reducible assumption | with_reducible exact rfl | decide | (refine decide_eq_true ?_; omega) | (refine decide_eq_false ?_; omega)) rfl) rfl rfl rfl ?_)
        all_goals (refine aops_p (ap_assign rfl) rfl rfl rfl ?_)
        all_goals (
          refine aops_nil ?_
          refine seqQ_n ?_
          refine awp_ret ?_
          refine blockQ_r ?_
          refine seqQ_r ?_
          refine post_is (.tmp rfl .nil) .nil ?_
          rw [right_1 hk1]
          simp only [resD]
          first | (simp_all; done)
          )
      · have hk1 := of_decide_eq_false hc
        refine awp_seq ?_
        refine awp_region ?_
        refine aops_p (ap_cmp rfl rfl rfl) rfl rfl rfl ?_
        refine aops_p (ap_assign rfl) rfl rfl rfl ?_
        refine aops_nil ?_
        refine seqQ_n ?_
        refine awp_cond rfl (fun hc => ?_) (fun hc => ?_)
        · have hk2 := of_decide_eq_true hc
          refine awp_seq ?_
          refine awp_region ?_
          refine aops_p (ap_move rfl) rfl rfl rfl ?_
          refine aops_p (ap_move rfl) rfl rfl rfl ?_
          all_goals (first | (refine aops_yes rfl rfl rfl rfl (by first | with_reducible assumption | with_reducible exact rfl | decide | (refine decide_eq_true ?_; omega) | (refine decide_eq_false ?_; omega)) ?_; (first | refine aops_q (aq_load rfl (by repeat (first | exact .here | apply UpdF.there)) List.not_mem_nil rfl rfl (by repeat constructor)) rfl rfl rfl ?_ | refine aops_q (aq_load_el rfl rfl rfl rfl (fun _ h => absurd h List.not_mem_nil)) rfl rfl rfl ?_)) | refine aops_no_u rfl rfl rfl ?_ | refine aops_no_t rfl rfl rfl rfl (by first | with_reducible assumption | with_reducible exact rfl | decide | (refine decide_eq_true ?_; omega) | (refine decide_eq_false ?_; omega)) ?_ | (refine aops_guard_t rfl rfl rfl rfl (fun hg => ?_) (fun hg => ?_); case' _ => (first | refine aops_q (aq_load rfl (by repeat (first | exact .here | apply UpdF.there)) List.not_mem_nil rfl rfl (by repeat constructor)) rfl rfl rfl ?_ | refine aops_q (aq_load_el rfl rfl rfl rfl (fun _ h => absurd h List.not_mem_nil)) rfl rfl rfl ?_)))
          all_goals (first | (refine aops_yes rfl rfl rfl rfl (by first | with_reducible assumption | with_reducible exact rfl | decide | (refine decide_eq_true ?_; omega) | (refine decide_eq_false ?_; omega)) ?_; (refine aops_p (ap_move rfl) rfl rfl rfl ?_)) | refine aops_no_u rfl rfl rfl ?_ | refine aops_no_t rfl rfl rfl rfl (by first | with_reducible assumption | with_reducible exact rfl | decide | (refine decide_eq_true ?_; omega) | (refine decide_eq_false ?_; omega)) ?_ | (refine aops_guard_t rfl rfl rfl rfl (fun hg => ?_) (fun hg => ?_); case' _ => (refine aops_p (ap_move rfl) rfl rfl rfl ?_)))
          all_goals (first | (refine aops_yes rfl rfl rfl rfl (by first | with_reducible assumption | with_reducible exact rfl | decide | (refine decide_eq_true ?_; omega) | (refine decide_eq_false ?_; omega)) ?_; (refine aops_call_b (by repeat constructor) (alone_con c hcl req hr) rfl rfl (fun c36 hc36 => ?_))) | refine aops_no_u rfl rfl rfl ?_ | refine aops_no_t rfl rfl rfl rfl (by first | with_reducible assumption | with_reducible exact rfl | decide | (refine decide_eq_true ?_; omega) | (refine decide_eq_false ?_; omega)) ?_ | (refine aops_guard_t rfl rfl rfl rfl (fun hg => ?_) (fun hg => ?_); case' _ => (refine aops_call_b (by repeat constructor) (alone_con c hcl req hr) rfl rfl (fun c36 hc36 => ?_))))
          all_goals (first | refine aops_p (ap_pick_true rfl (by first | with_reducible assumption | with_reducible exact rfl | decide | (refine decide_eq_true ?_; omega) | (refine decide_eq_false ?_; omega)) rfl) rfl rfl rfl ?_ | refine aops_p (ap_pick_false rfl (by first | with_reducible assumption | with_reducible exact rfl | decide | (refine decide_eq_true ?_; omega) | (refine decide_eq_false ?_; omega)) rfl) rfl rfl rfl ?_)
          all_goals (refine aops_p (ap_assign rfl) rfl rfl rfl ?_)
          all_goals (
            refine aops_nil ?_
            refine seqQ_n ?_
            refine awp_ret ?_
            refine blockQ_r ?_
            refine seqQ_r ?_
            refine post_is (.tmp rfl .nil) .nil ?_
            rw [right_2 hk2]
            simp only [resD]
            first | (simp_all; done)
            )
        · have hk2 := of_decide_eq_false hc
          refine awp_seq ?_
          refine awp_region ?_
          refine aops_p (ap_cmp rfl rfl rfl) rfl rfl rfl ?_
          refine aops_p (ap_assign rfl) rfl rfl rfl ?_
          refine aops_nil ?_
          refine seqQ_n ?_
          refine awp_cond rfl (fun hc => ?_) (fun hc => ?_)
          · have hk3 := of_decide_eq_true hc
            refine awp_seq ?_
            refine awp_seq ?_
            refine awp_draw (Hm := []) (by kernel_rfl) (by repeat (first | exact .nil | exact Split.none _ | apply Split.left | apply Split.right)) ?_
            first | refine aany_take 0 rfl (.none rfl) (by kernel_rfl) (by kernel_rfl) (by kernel_rfl) (AP.ar (ap_fieldAddr (off := 2) (sz := 1) (g := false) rfl rfl)) rfl rfl ?_ | refine aany_take 0 rfl (.none rfl) (by kernel_rfl) (by kernel_rfl) (by kernel_rfl) (AP.ar (ap_fieldAddr_el (off := 2) (sz := 1) (g := false) rfl rfl (by repeat constructor))) rfl rfl ?_
            first | refine aany_take 1 rfl (.none rfl) (by kernel_rfl) (by kernel_rfl) (by kernel_rfl) (ar_load1 rfl (by repeat (first | exact .here | apply UpdF.there)) rfl (by repeat constructor)) rfl rfl ?_ | refine aany_take 1 rfl (.none rfl) (by kernel_rfl) (by kernel_rfl) (by kernel_rfl) (AQ.ar (aq_load_el1 rfl rfl (by first | exact .sl | exact .v rfl | exact .v (by assumption)) (fun _ h => h))) rfl rfl ?_ | refine aany_take 1 rfl (.none rfl) (by kernel_rfl) (by kernel_rfl) (by kernel_rfl) (AQ.ar (aq_load_el1' rfl rfl (by first | exact .sl | exact .v rfl | exact .v (by assumption)) (fun _ h => h))) rfl rfl ?_ | refine aany_take 1 rfl (.none rfl) (by kernel_rfl) (by kernel_rfl) (by kernel_rfl) (ar_load_own1 rfl (by repeat (first | exact .here | apply UpdF.there)) rfl (by first | with_reducible assumption | assumption | rfl) (by first | exact .sl | exact .v rfl | exact .v (by assumption))) rfl rfl ?_
            first | refine aany_take 2 rfl (.none rfl) (by kernel_rfl) (by kernel_rfl) (by kernel_rfl) (AP.ar (ap_len rfl rfl)) rfl rfl ?_ | refine aany_take 2 rfl (.none rfl) (by kernel_rfl) (by kernel_rfl) (by kernel_rfl) (ar_len_arr rfl (by repeat (first | exact .here | apply UpdF.there)) rfl) rfl rfl ?_ | refine aany_take 2 rfl (.none rfl) (by kernel_rfl) (by kernel_rfl) (by kernel_rfl) (AP.ar (ap_len_nil rfl rfl)) rfl rfl ?_
            refine aany_take 3 rfl (.none rfl) (by kernel_rfl) (by kernel_rfl) (by kernel_rfl) (AP.ar (ap_cmp rfl rfl rfl)) rfl rfl ?_
            refine aany_take 4 rfl (.none rfl) (by kernel_rfl) (by kernel_rfl) (by kernel_rfl) (AP.ar (ap_move rfl)) rfl rfl ?_
            refine aany_guard 4 rfl (fun hg => ?_) (fun hg => ?_)
            rotate_left
            case' _ =>
              first
              | (exact absurd hg (by decide))
              | (exfalso; simp at hg; done)
              | (first | refine aany_take 5 rfl (.yes rfl rfl (by first | with_reducible assumption | with_reducible exact rfl | decide | (refine decide_eq_true ?_; omega) | (refine decide_eq_false ?_; omega))) (by kernel_rfl) (by kernel_rfl) (by kernel_rfl) (ar_load rfl (by repeat (first | exact .here | apply UpdF.there)) rfl rfl (by repeat constructor)) rfl rfl ?_ | refine aany_take 5 rfl (.yes rfl rfl (by first | with_reducible assumption | with_reducible exact rfl | decide | (refine decide_eq_true ?_; omega) | (refine decide_eq_false ?_; omega))) (by kernel_rfl) (by kernel_rfl) (by kernel_rfl) (AQ.ar (aq_load_el rfl rfl rfl rfl (fun _ h => h))) rfl rfl ?_
                 refine aany_take 7 rfl (.yes rfl rfl (by first | with_reducible assumption | with_reducible exact rfl | decide | (refine decide_eq_true ?_; omega) | (refine decide_eq_false ?_; omega))) (by kernel_rfl) (by kernel_rfl) (by kernel_rfl) (AP.ar (ap_move rfl)) rfl rfl ?_
                 refine aany_take 9 rfl (.yes rfl rfl (by first | with_reducible assumption | with_reducible exact rfl | decide | (refine decide_eq_true ?_; omega) | (refine decide_eq_false ?_; omega))) (by kernel_rfl) (by kernel_rfl) (by kernel_rfl) (AP.ar (ap_move rfl)) rfl rfl ?_
                 first | refine aany_take 11 rfl (.yes rfl rfl (by first | with_reducible assumption | with_reducible exact rfl | decide | (refine decide_eq_true ?_; omega) | (refine decide_eq_false ?_; omega))) (by kernel_rfl) (by kernel_rfl) (by kernel_rfl) (AP.ar (ap_fieldAddr (off := 1) (sz := 1) (g := false) rfl rfl)) rfl rfl ?_ | refine aany_take 11 rfl (.yes rfl rfl (by first | with_reducible assumption | with_reducible exact rfl | decide | (refine decide_eq_true ?_; omega) | (refine decide_eq_false ?_; omega))) (by kernel_rfl) (by kernel_rfl) (by kernel_rfl) (AP.ar (ap_fieldAddr_el (off := 1) (sz := 1) (g := false) rfl rfl (by repeat constructor))) rfl rfl ?_
                 first | refine aany_take 12 rfl (.yes rfl rfl (by first | with_reducible assumption | with_reducible exact rfl | decide | (refine decide_eq_true ?_; omega) | (refine decide_eq_false ?_; omega))) (by kernel_rfl) (by kernel_rfl) (by kernel_rfl) (ar_load1 rfl (by repeat (first | exact .here | apply UpdF.there)) rfl (by repeat constructor)) rfl rfl ?_ | refine aany_take 12 rfl (.yes rfl rfl (by first | with_reducible assumption | with_reducible exact rfl | decide | (refine decide_eq_true ?_; omega) | (refine decide_eq_false ?_; omega))) (by kernel_rfl) (by kernel_rfl) (by kernel_rfl) (AQ.ar (aq_load_el1 rfl rfl (by first | exact .sl | exact .v rfl | exact .v (by assumption)) (fun _ h => h))) rfl rfl ?_ | refine aany_take 12 rfl (.yes rfl rfl (by first | with_reducible assumption | with_reducible exact rfl | decide | (refine decide_eq_true ?_; omega) | (refine decide_eq_false ?_; omega))) (by kernel_rfl) (by kernel_rfl) (by kernel_rfl) (AQ.ar (aq_load_el1' rfl rfl (by first | exact .sl | exact .v rfl | exact .v (by assumption)) (fun _ h => h))) rfl rfl ?_ | refine aany_take 12 rfl (.yes rfl rfl (by first | with_reducible assumption | with_reducible exact rfl | decide | (refine decide_eq_true ?_; omega) | (refine decide_eq_false ?_; omega))) (by kernel_rfl) (by kernel_rfl) (by kernel_rfl) (ar_load_own1 rfl (by repeat (first | exact .here | apply UpdF.there)) rfl (by first | with_reducible assumption | assumption | rfl) (by first | exact .sl | exact .v rfl | exact .v (by assumption))) rfl rfl ?_
                 refine aany_one 6 (by kernel_rfl) rfl (.yes rfl rfl (by first | with_reducible assumption | with_reducible exact rfl | decide | (refine decide_eq_true ?_; omega) | (refine decide_eq_false ?_; omega))) ?_
                 refine aops_call_v (by repeat constructor) (members_con c hcl) rfl rfl ?_
                 refine aops_nil ?_
                 refine aany_take 8 rfl (.yes rfl rfl (by first | with_reducible assumption | with_reducible exact rfl | decide | (refine decide_eq_true ?_; omega) | (refine decide_eq_false ?_; omega))) (by kernel_rfl) (by kernel_rfl) (by kernel_rfl) (AP.ar (ap_bits rfl rfl rfl (by omega) (by omega))) rfl rfl ?_
                 refine aany_take 10 rfl (.yes rfl rfl (by first | with_reducible assumption | with_reducible exact rfl | decide | (refine decide_eq_true ?_; omega) | (refine decide_eq_false ?_; omega))) (by kernel_rfl) (by kernel_rfl) (by kernel_rfl) (AP.ar (ap_bits rfl rfl rfl (by omega) (by omega))) rfl rfl ?_
                 refine aany_one 13 (by kernel_rfl) rfl (.yes rfl rfl (by first | with_reducible assumption | with_reducible exact rfl | decide | (refine decide_eq_true ?_; omega) | (refine decide_eq_false ?_; omega))) ?_
                 refine aops_call_b (by repeat constructor) (has_con (freeC c req exc) x.node) rfl rfl (fun c53 hc53 => ?_)
                 refine aops_nil ?_
                 refine aany_take 14 rfl (.yes rfl rfl (by first | with_reducible assumption | with_reducible exact rfl | decide | (refine decide_eq_true ?_; omega) | (refine decide_eq_false ?_; omega))) (by kernel_rfl) (by kernel_rfl) (by kernel_rfl) (AP.ar (ap_not rfl)) rfl rfl ?_
                 first | refine aany_take 15 rfl (.none rfl) (by kernel_rfl) (by kernel_rfl) (by kernel_rfl) (AP.ar (ap_pick_true rfl (by first | with_reducible assumption | with_reducible exact rfl | decide | (refine decide_eq_true ?_; omega) | (refine decide_eq_false ?_; omega)) rfl)) rfl rfl ?_ | refine aany_take 15 rfl (.none rfl) (by kernel_rfl) (by kernel_rfl) (by kernel_rfl) (AP.ar (ap_pick_false rfl (by first | with_reducible assumption | with_reducible exact rfl | decide | (refine decide_eq_true ?_; omega) | (refine decide_eq_false ?_; omega)) rfl)) rfl rfl ?_
                 refine aany_nil (by kernel_rfl) ?_
                )
            rotate_right
            case' _ =>
              first
              | (exact absurd hg (by decide))
              | (exfalso; simp at hg; done)
              | (refine aany_skip 5 rfl (.no rfl rfl (by first | (show _ = true; with_reducible assumption) | exact (by first | with_reducible assumption | with_reducible exact rfl | decide | (refine decide_eq_true ?_; omega) | (refine decide_eq_false ?_; omega)))) (by kernel_rfl) (by kernel_rfl) (by kernel_rfl) rfl rfl ?_
                 refine aany_skip 6 rfl (.no rfl rfl (by first | (show _ = true; with_reducible assumption) | exact (by first | with_reducible assumption | with_reducible exact rfl | decide | (refine decide_eq_true ?_; omega) | (refine decide_eq_false ?_; omega)))) (by kernel_rfl) (by kernel_rfl) (by kernel_rfl) rfl rfl ?_
                 refine aany_skip 7 rfl (.no rfl rfl (by first | (show _ = true; with_reducible assumption) | exact (by first | with_reducible assumption | with_reducible exact rfl | decide | (refine decide_eq_true ?_; omega) | (refine decide_eq_false ?_; omega)))) (by kernel_rfl) (by kernel_rfl) (by kernel_rfl) rfl rfl ?_
                 refine aany_skip 8 rfl (.no rfl rfl (by first | (show _ = true; with_reducible assumption) | exact (by first | with_reducible assumption | with_reducible exact rfl | decide | (refine decide_eq_true ?_; omega) | (refine decide_eq_false ?_; omega)))) (by kernel_rfl) (by kernel_rfl) (by kernel_rfl) rfl rfl ?_
                 refine aany_skip 9 rfl (.no rfl rfl (by first | (show _ = true; with_reducible assumption) | exact (by first | with_reducible assumption | with_reducible exact rfl | decide | (refine decide_eq_true ?_; omega) | (refine decide_eq_false ?_; omega)))) (by kernel_rfl) (by kernel_rfl) (by kernel_rfl) rfl rfl ?_
                 refine aany_skip 10 rfl (.no rfl rfl (by first | (show _ = true; with_reducible assumption) | exact (by first | with_reducible assumption | with_reducible exact rfl | decide | (refine decide_eq_true ?_; omega) | (refine decide_eq_false ?_; omega)))) (by kernel_rfl) (by kernel_rfl) (by kernel_rfl) rfl rfl ?_
                 refine aany_skip 11 rfl (.no rfl rfl (by first | (show _ = true; with_reducible assumption) | exact (by first | with_reducible assumption | with_reducible exact rfl | decide | (refine decide_eq_true ?_; omega) | (refine decide_eq_false ?_; omega)))) (by kernel_rfl) (by kernel_rfl) (by kernel_rfl) rfl rfl ?_
                 refine aany_skip 12 rfl (.no rfl rfl (by first | (show _ = true; with_reducible assumption) | exact (by first | with_reducible assumption | with_reducible exact rfl | decide | (refine decide_eq_true ?_; omega) | (refine decide_eq_false ?_; omega)))) (by kernel_rfl) (by kernel_rfl) (by kernel_rfl) rfl rfl ?_
                 refine aany_skip 13 rfl (.no rfl rfl (by first | (show _ = true; with_reducible assumption) | exact (by first | with_reducible assumption | with_reducible exact rfl | decide | (refine decide_eq_true ?_; omega) | (refine decide_eq_false ?_; omega)))) (by kernel_rfl) (by kernel_rfl) (by kernel_rfl) rfl rfl ?_
                 refine aany_skip 14 rfl (.no rfl rfl (by first | (show _ = true; with_reducible assumption) | exact (by first | with_reducible assumption | with_reducible exact rfl | decide | (refine decide_eq_true ?_; omega) | (refine decide_eq_false ?_; omega)))) (by kernel_rfl) (by kernel_rfl) (by kernel_rfl) rfl rfl ?_
                 first | refine aany_take 15 rfl (.none rfl) (by kernel_rfl) (by kernel_rfl) (by kernel_rfl) (AP.ar (ap_pick_true rfl (by first | with_reducible assumption | with_reducible exact rfl | decide | (refine decide_eq_true ?_; omega) | (refine decide_eq_false ?_; omega)) rfl)) rfl rfl ?_ | refine aany_take 15 rfl (.none rfl) (by kernel_rfl) (by kernel_rfl) (by kernel_rfl) (AP.ar (ap_pick_false rfl (by first | with_reducible assumption | with_reducible exact rfl | decide | (refine decide_eq_true ?_; omega) | (refine decide_eq_false ?_; omega)) rfl)) rfl rfl ?_
                 refine aany_nil (by kernel_rfl) ?_
                )
            all_goals (
              refine seqQ_n ?_
              refine awp_cond rfl (fun hc => ?_) (fun hc => ?_)
              · first
                | (exact absurd hc (by decide))
                | (refine awp_seq ?_
                   refine awp_region ?_
                   refine aops_p (ap_assign rfl) rfl rfl rfl ?_
                   refine aops_nil ?_
                   refine seqQ_n ?_
                   refine awp_ret ?_
                   refine seqQ_r ?_
                   refine blockQ_r ?_
                   refine seqQ_r ?_
                   refine post_is (.tmp rfl .nil) .nil ?_
                   first
                   | (rw [right_3n hk3 (fun e => of_neq_true (show (!decide ((((tvs x.kids).length : Nat) : Int) = 2)) = true by with_reducible assumption) (by omega))]; rfl)
                   | (have hl2 := of_neq_false (show (!decide ((((tvs x.kids).length : Nat) : Int) = 2)) = false by with_reducible assumption); rw [right_3f hk3 (by omega) (hc53.trans (not_t hc))]; rfl)
                  )
              · first
                | (exact absurd hc (by decide))
                | (have hl2 := of_neq_false (show (!decide ((((tvs x.kids).length : Nat) : Int) = 2)) = false by with_reducible assumption)
                   have hl3 : x.kids.length = 2 := by omega
                   obtain ⟨a, b, hab⟩ := two_kids hl3
                   have hh := hc53.trans (not_f hc)
                   obtain ⟨j, hnj, hjl, hjr, hje⟩ := (free_has hcl hr he).1 hh
                   have hpj := pow_lt10 (k := j) (by omega)
                   have hy0 : (tvs x.kids)[0]? = some (tv a) := tvs_get (by rw [hab]; rfl)
                   have hy1 : (tvs x.kids)[1]? = some (tv b) := tvs_get (by rw [hab]; rfl)
                   have hej := or_lt10 he (show j < 10 by omega)
                   have hrj := or_lt10 hr (show j < 10 by omega)
                   refine awp_skip ?_
                   refine seqQ_n ?_
                   refine awp_seq ?_
                   rw [hnj]
                   refine awp_draw (Hm := []) (by kernel_rfl) (by repeat (first | exact .nil | exact Split.none _ | apply Split.left | apply Split.right)) ?_
                   first | refine aany_take 0 rfl (.none rfl) (by kernel_rfl) (by kernel_rfl) (by kernel_rfl) (ar_load rfl (by repeat (first | exact .here | apply UpdF.there)) rfl rfl (by repeat constructor)) rfl rfl ?_ | refine aany_take 0 rfl (.none rfl) (by kernel_rfl) (by kernel_rfl) (by kernel_rfl) (AQ.ar (aq_load_el rfl rfl rfl rfl (fun _ h => h))) rfl rfl ?_
                   first | refine aany_take 1 rfl (.none rfl) (by kernel_rfl) (by kernel_rfl) (by kernel_rfl) (AP.ar (ap_fieldAddr (off := 2) (sz := 1) (g := false) rfl rfl)) rfl rfl ?_ | refine aany_take 1 rfl (.none rfl) (by kernel_rfl) (by kernel_rfl) (by kernel_rfl) (AP.ar (ap_fieldAddr_el (off := 2) (sz := 1) (g := false) rfl rfl (by repeat constructor))) rfl rfl ?_
                   first | refine aany_take 2 rfl (.none rfl) (by kernel_rfl) (by kernel_rfl) (by kernel_rfl) (ar_load1 rfl (by repeat (first | exact .here | apply UpdF.there)) rfl (by repeat constructor)) rfl rfl ?_ | refine aany_take 2 rfl (.none rfl) (by kernel_rfl) (by kernel_rfl) (by kernel_rfl) (AQ.ar (aq_load_el1 rfl rfl (by first | exact .sl | exact .v rfl | exact .v (by assumption)) (fun _ h => h))) rfl rfl ?_ | refine aany_take 2 rfl (.none rfl) (by kernel_rfl) (by kernel_rfl) (by kernel_rfl) (AQ.ar (aq_load_el1' rfl rfl (by first | exact .sl | exact .v rfl | exact .v (by assumption)) (fun _ h => h))) rfl rfl ?_ | refine aany_take 2 rfl (.none rfl) (by kernel_rfl) (by kernel_rfl) (by kernel_rfl) (ar_load_own1 rfl (by repeat (first | exact .here | apply UpdF.there)) rfl (by first | with_reducible assumption | assumption | rfl) (by first | exact .sl | exact .v rfl | exact .v (by assumption))) rfl rfl ?_
                   refine aany_take 3 rfl (.none rfl) (by kernel_rfl) (by kernel_rfl) (by kernel_rfl) (AP.ar (ap_index (k := 0) rfl rfl rfl rfl (by decide) rfl hy0)) rfl rfl ?_
                   first | refine aany_take 4 rfl (.none rfl) (by kernel_rfl) (by kernel_rfl) (by kernel_rfl) (ar_load rfl (by repeat (first | exact .here | apply UpdF.there)) rfl rfl (by repeat constructor)) rfl rfl ?_ | refine aany_take 4 rfl (.none rfl) (by kernel_rfl) (by kernel_rfl) (by kernel_rfl) (AQ.ar (aq_load_el rfl rfl rfl rfl (fun _ h => h))) rfl rfl ?_
                   refine aany_take 5 rfl (.none rfl) (by kernel_rfl) (by kernel_rfl) (by kernel_rfl) (AP.ar (ap_move rfl)) rfl rfl ?_
                   refine aany_take 6 rfl (.none rfl) (by kernel_rfl) (by kernel_rfl) (by kernel_rfl) (AP.ar (ap_move rfl)) rfl rfl ?_
                   first | refine aany_take 7 rfl (.none rfl) (by kernel_rfl) (by kernel_rfl) (by kernel_rfl) (AP.ar (ap_fieldAddr (off := 1) (sz := 1) (g := false) rfl rfl)) rfl rfl ?_ | refine aany_take 7 rfl (.none rfl) (by kernel_rfl) (by kernel_rfl) (by kernel_rfl) (AP.ar (ap_fieldAddr_el (off := 1) (sz := 1) (g := false) rfl rfl (by repeat constructor))) rfl rfl ?_
                   first | refine aany_take 8 rfl (.none rfl) (by kernel_rfl) (by kernel_rfl) (by kernel_rfl) (ar_load1 rfl (by repeat (first | exact .here | apply UpdF.there)) rfl (by repeat constructor)) rfl rfl ?_ | refine aany_take 8 rfl (.none rfl) (by kernel_rfl) (by kernel_rfl) (by kernel_rfl) (AQ.ar (aq_load_el1 rfl rfl (by first | exact .sl | exact .v rfl | exact .v (by assumption)) (fun _ h => h))) rfl rfl ?_ | refine aany_take 8 rfl (.none rfl) (by kernel_rfl) (by kernel_rfl) (by kernel_rfl) (AQ.ar (aq_load_el1' rfl rfl (by first | exact .sl | exact .v rfl | exact .v (by assumption)) (fun _ h => h))) rfl rfl ?_ | refine aany_take 8 rfl (.none rfl) (by kernel_rfl) (by kernel_rfl) (by kernel_rfl) (ar_load_own1 rfl (by repeat (first | exact .here | apply UpdF.there)) rfl (by first | with_reducible assumption | assumption | rfl) (by first | exact .sl | exact .v rfl | exact .v (by assumption))) rfl rfl ?_
                   refine aany_take 9 rfl (.none rfl) (by kernel_rfl) (by kernel_rfl) (by kernel_rfl) (AP.ar (ap_shl (p := 1) rfl rfl rfl (by omega) (by omega))) rfl rfl ?_
                   refine aany_take 10 rfl (.none rfl) (by kernel_rfl) (by kernel_rfl) (by kernel_rfl) (AP.ar (ap_bits rfl rfl rfl (by omega) (by omega))) rfl rfl ?_
                   refine aany_one 11 (by kernel_rfl) rfl (.none rfl) ?_
                   refine aops_call_b (by repeat constructor) (ih a (by rw [hab]; simp) req (exc ||| 1 * 2 ^ j) hr hej) rfl rfl (fun c67 hc67 => ?_)
                   refine aops_nil ?_
                   refine aany_take 12 rfl (.none rfl) (by kernel_rfl) (by kernel_rfl) (by kernel_rfl) (AP.ar (ap_move rfl)) rfl rfl ?_
                   refine aany_guard 12 rfl (fun hg => ?_) (fun hg => ?_)
                   rotate_left
                   case' _ =>
                     first
                     | (exact absurd hg (by decide))
                     | (exfalso; simp at hg; done)
                     | (refine aany_skip 13 rfl (.no rfl rfl (by first | (show _ = false; with_reducible assumption) | exact (by first | with_reducible assumption | with_reducible exact rfl | decide | (refine decide_eq_true ?_; omega) | (refine decide_eq_false ?_; omega)))) (by kernel_rfl) (by kernel_rfl) (by kernel_rfl) rfl rfl ?_
                        refine aany_skip 14 rfl (.no rfl rfl (by first | (show _ = false; with_reducible assumption) | exact (by first | with_reducible assumption | with_reducible exact rfl | decide | (refine decide_eq_true ?_; omega) | (refine decide_eq_false ?_; omega)))) (by kernel_rfl) (by kernel_rfl) (by kernel_rfl) rfl rfl ?_
                        refine aany_skip 15 rfl (.no rfl rfl (by first | (show _ = false; with_reducible assumption) | exact (by first | with_reducible assumption | with_reducible exact rfl | decide | (refine decide_eq_true ?_; omega) | (refine decide_eq_false ?_; omega)))) (by kernel_rfl) (by kernel_rfl) (by kernel_rfl) rfl rfl ?_
                        refine aany_skip 16 rfl (.no rfl rfl (by first | (show _ = false; with_reducible assumption) | exact (by first | with_reducible assumption | with_reducible exact rfl | decide | (refine decide_eq_true ?_; omega) | (refine decide_eq_false ?_; omega)))) (by kernel_rfl) (by kernel_rfl) (by kernel_rfl) rfl rfl ?_
                        refine aany_skip 17 rfl (.no rfl rfl (by first | (show _ = false; with_reducible assumption) | exact (by first | with_reducible assumption | with_reducible exact rfl | decide | (refine decide_eq_true ?_; omega) | (refine decide_eq_false ?_; omega)))) (by kernel_rfl) (by kernel_rfl) (by kernel_rfl) rfl rfl ?_
                        refine aany_skip 18 rfl (.no rfl rfl (by first | (show _ = false; with_reducible assumption) | exact (by first | with_reducible assumption | with_reducible exact rfl | decide | (refine decide_eq_true ?_; omega) | (refine decide_eq_false ?_; omega)))) (by kernel_rfl) (by kernel_rfl) (by kernel_rfl) rfl rfl ?_
                        refine aany_skip 19 rfl (.no rfl rfl (by first | (show _ = false; with_reducible assumption) | exact (by first | with_reducible assumption | with_reducible exact rfl | decide | (refine decide_eq_true ?_; omega) | (refine decide_eq_false ?_; omega)))) (by kernel_rfl) (by kernel_rfl) (by kernel_rfl) rfl rfl ?_
                        refine aany_skip 20 rfl (.no rfl rfl (by first | (show _ = false; with_reducible assumption) | exact (by first | with_reducible assumption | with_reducible exact rfl | decide | (refine decide_eq_true ?_; omega) | (refine decide_eq_false ?_; omega)))) (by kernel_rfl) (by kernel_rfl) (by kernel_rfl) rfl rfl ?_
                        refine aany_skip 21 rfl (.no rfl rfl (by first | (show _ = false; with_reducible assumption) | exact (by first | with_reducible assumption | with_reducible exact rfl | decide | (refine decide_eq_true ?_; omega) | (refine decide_eq_false ?_; omega)))) (by kernel_rfl) (by kernel_rfl) (by kernel_rfl) rfl rfl ?_
                        refine aany_skip 22 rfl (.no rfl rfl (by first | (show _ = false; with_reducible assumption) | exact (by first | with_reducible assumption | with_reducible exact rfl | decide | (refine decide_eq_true ?_; omega) | (refine decide_eq_false ?_; omega)))) (by kernel_rfl) (by kernel_rfl) (by kernel_rfl) rfl rfl ?_
                        refine aany_skip 23 rfl (.no rfl rfl (by first | (show _ = false; with_reducible assumption) | exact (by first | with_reducible assumption | with_reducible exact rfl | decide | (refine decide_eq_true ?_; omega) | (refine decide_eq_false ?_; omega)))) (by kernel_rfl) (by kernel_rfl) (by kernel_rfl) rfl rfl ?_
                        refine aany_skip 24 rfl (.no rfl rfl (by first | (show _ = false; with_reducible assumption) | exact (by first | with_reducible assumption | with_reducible exact rfl | decide | (refine decide_eq_true ?_; omega) | (refine decide_eq_false ?_; omega)))) (by kernel_rfl) (by kernel_rfl) (by kernel_rfl) rfl rfl ?_
                        first | refine aany_take 25 rfl (.none rfl) (by kernel_rfl) (by kernel_rfl) (by kernel_rfl) (AP.ar (ap_pick_true rfl (by first | with_reducible assumption | with_reducible exact rfl | decide | (refine decide_eq_true ?_; omega) | (refine decide_eq_false ?_; omega)) rfl)) rfl rfl ?_ | refine aany_take 25 rfl (.none rfl) (by kernel_rfl) (by kernel_rfl) (by kernel_rfl) (AP.ar (ap_pick_false rfl (by first | with_reducible assumption | with_reducible exact rfl | decide | (refine decide_eq_true ?_; omega) | (refine decide_eq_false ?_; omega)) rfl)) rfl rfl ?_
                        refine aany_take 26 rfl (.none rfl) (by kernel_rfl) (by kernel_rfl) (by kernel_rfl) (AP.ar (ap_assign rfl)) rfl rfl ?_
                        refine aany_nil (by kernel_rfl) ?_
                       )
                   rotate_right
                   case' _ =>
                     first
                     | (exact absurd hg (by decide))
                     | (exfalso; simp at hg; done)
                     | (first | refine aany_take 13 rfl (.yes rfl rfl (by first | with_reducible assumption | with_reducible exact rfl | decide | (refine decide_eq_true ?_; omega) | (refine decide_eq_false ?_; omega))) (by kernel_rfl) (by kernel_rfl) (by kernel_rfl) (ar_load rfl (by repeat (first | exact .here | apply UpdF.there)) rfl rfl (by repeat constructor)) rfl rfl ?_ | refine aany_take 13 rfl (.yes rfl rfl (by first | with_reducible assumption | with_reducible exact rfl | decide | (refine decide_eq_true ?_; omega) | (refine decide_eq_false ?_; omega))) (by kernel_rfl) (by kernel_rfl) (by kernel_rfl) (AQ.ar (aq_load_el rfl rfl rfl rfl (fun _ h => h))) rfl rfl ?_
                        first | refine aany_take 14 rfl (.yes rfl rfl (by first | with_reducible assumption | with_reducible exact rfl | decide | (refine decide_eq_true ?_; omega) | (refine decide_eq_false ?_; omega))) (by kernel_rfl) (by kernel_rfl) (by kernel_rfl) (AP.ar (ap_fieldAddr (off := 2) (sz := 1) (g := false) rfl rfl)) rfl rfl ?_ | refine aany_take 14 rfl (.yes rfl rfl (by first | with_reducible assumption | with_reducible exact rfl | decide | (refine decide_eq_true ?_; omega) | (refine decide_eq_false ?_; omega))) (by kernel_rfl) (by kernel_rfl) (by kernel_rfl) (AP.ar (ap_fieldAddr_el (off := 2) (sz := 1) (g := false) rfl rfl (by repeat constructor))) rfl rfl ?_
                        first | refine aany_take 15 rfl (.yes rfl rfl (by first | with_reducible assumption | with_reducible exact rfl | decide | (refine decide_eq_true ?_; omega) | (refine decide_eq_false ?_; omega))) (by kernel_rfl) (by kernel_rfl) (by kernel_rfl) (ar_load1 rfl (by repeat (first | exact .here | apply UpdF.there)) rfl (by repeat constructor)) rfl rfl ?_ | refine aany_take 15 rfl (.yes rfl rfl (by first | with_reducible assumption | with_reducible exact rfl | decide | (refine decide_eq_true ?_; omega) | (refine decide_eq_false ?_; omega))) (by kernel_rfl) (by kernel_rfl) (by kernel_rfl) (AQ.ar (aq_load_el1 rfl rfl (by first | exact .sl | exact .v rfl | exact .v (by assumption)) (fun _ h => h))) rfl rfl ?_ | refine aany_take 15 rfl (.yes rfl rfl (by first | with_reducible assumption | with_reducible exact rfl | decide | (refine decide_eq_true ?_; omega) | (refine decide_eq_false ?_; omega))) (by kernel_rfl) (by kernel_rfl) (by kernel_rfl) (AQ.ar (aq_load_el1' rfl rfl (by first | exact .sl | exact .v rfl | exact .v (by assumption)) (fun _ h => h))) rfl rfl ?_ | refine aany_take 15 rfl (.yes rfl rfl (by first | with_reducible assumption | with_reducible exact rfl | decide | (refine decide_eq_true ?_; omega) | (refine decide_eq_false ?_; omega))) (by kernel_rfl) (by kernel_rfl) (by kernel_rfl) (ar_load_own1 rfl (by repeat (first | exact .here | apply UpdF.there)) rfl (by first | with_reducible assumption | assumption | rfl) (by first | exact .sl | exact .v rfl | exact .v (by assumption))) rfl rfl ?_
                        refine aany_take 16 rfl (.yes rfl rfl (by first | with_reducible assumption | with_reducible exact rfl | decide | (refine decide_eq_true ?_; omega) | (refine decide_eq_false ?_; omega))) (by kernel_rfl) (by kernel_rfl) (by kernel_rfl) (AP.ar (ap_index (k := 1) rfl rfl rfl rfl (by decide) rfl hy1)) rfl rfl ?_
                        first | refine aany_take 17 rfl (.yes rfl rfl (by first | with_reducible assumption | with_reducible exact rfl | decide | (refine decide_eq_true ?_; omega) | (refine decide_eq_false ?_; omega))) (by kernel_rfl) (by kernel_rfl) (by kernel_rfl) (ar_load rfl (by repeat (first | exact .here | apply UpdF.there)) rfl rfl (by repeat constructor)) rfl rfl ?_ | refine aany_take 17 rfl (.yes rfl rfl (by first | with_reducible assumption | with_reducible exact rfl | decide | (refine decide_eq_true ?_; omega) | (refine decide_eq_false ?_; omega))) (by kernel_rfl) (by kernel_rfl) (by kernel_rfl) (AQ.ar (aq_load_el rfl rfl rfl rfl (fun _ h => h))) rfl rfl ?_
                        refine aany_take 18 rfl (.yes rfl rfl (by first | with_reducible assumption | with_reducible exact rfl | decide | (refine decide_eq_true ?_; omega) | (refine decide_eq_false ?_; omega))) (by kernel_rfl) (by kernel_rfl) (by kernel_rfl) (AP.ar (ap_move rfl)) rfl rfl ?_
                        first | refine aany_take 19 rfl (.yes rfl rfl (by first | with_reducible assumption | with_reducible exact rfl | decide | (refine decide_eq_true ?_; omega) | (refine decide_eq_false ?_; omega))) (by kernel_rfl) (by kernel_rfl) (by kernel_rfl) (AP.ar (ap_fieldAddr (off := 1) (sz := 1) (g := false) rfl rfl)) rfl rfl ?_ | refine aany_take 19 rfl (.yes rfl rfl (by first | with_reducible assumption | with_reducible exact rfl | decide | (refine decide_eq_true ?_; omega) | (refine decide_eq_false ?_; omega))) (by kernel_rfl) (by kernel_rfl) (by kernel_rfl) (AP.ar (ap_fieldAddr_el (off := 1) (sz := 1) (g := false) rfl rfl (by repeat constructor))) rfl rfl ?_
                        first | refine aany_take 20 rfl (.yes rfl rfl (by first | with_reducible assumption | with_reducible exact rfl | decide | (refine decide_eq_true ?_; omega) | (refine decide_eq_false ?_; omega))) (by kernel_rfl) (by kernel_rfl) (by kernel_rfl) (ar_load1 rfl (by repeat (first | exact .here | apply UpdF.there)) rfl (by repeat constructor)) rfl rfl ?_ | refine aany_take 20 rfl (.yes rfl rfl (by first | with_reducible assumption | with_reducible exact rfl | decide | (refine decide_eq_true ?_; omega) | (refine decide_eq_false ?_; omega))) (by kernel_rfl) (by kernel_rfl) (by kernel_rfl) (AQ.ar (aq_load_el1 rfl rfl (by first | exact .sl | exact .v rfl | exact .v (by assumption)) (fun _ h => h))) rfl rfl ?_ | refine aany_take 20 rfl (.yes rfl rfl (by first | with_reducible assumption | with_reducible exact rfl | decide | (refine decide_eq_true ?_; omega) | (refine decide_eq_false ?_; omega))) (by kernel_rfl) (by kernel_rfl) (by kernel_rfl) (AQ.ar (aq_load_el1' rfl rfl (by first | exact .sl | exact .v rfl | exact .v (by assumption)) (fun _ h => h))) rfl rfl ?_ | refine aany_take 20 rfl (.yes rfl rfl (by first | with_reducible assumption | with_reducible exact rfl | decide | (refine decide_eq_true ?_; omega) | (refine decide_eq_false ?_; omega))) (by kernel_rfl) (by kernel_rfl) (by kernel_rfl) (ar_load_own1 rfl (by repeat (first | exact .here | apply UpdF.there)) rfl (by first | with_reducible assumption | assumption | rfl) (by first | exact .sl | exact .v rfl | exact .v (by assumption))) rfl rfl ?_
                        refine aany_take 21 rfl (.yes rfl rfl (by first | with_reducible assumption | with_reducible exact rfl | decide | (refine decide_eq_true ?_; omega) | (refine decide_eq_false ?_; omega))) (by kernel_rfl) (by kernel_rfl) (by kernel_rfl) (AP.ar (ap_shl (p := 1) rfl rfl rfl (by omega) (by omega))) rfl rfl ?_
                        refine aany_take 22 rfl (.yes rfl rfl (by first | with_reducible assumption | with_reducible exact rfl | decide | (refine decide_eq_true ?_; omega) | (refine decide_eq_false ?_; omega))) (by kernel_rfl) (by kernel_rfl) (by kernel_rfl) (AP.ar (ap_bits rfl rfl rfl (by omega) (by omega))) rfl rfl ?_
                        refine aany_take 23 rfl (.yes rfl rfl (by first | with_reducible assumption | with_reducible exact rfl | decide | (refine decide_eq_true ?_; omega) | (refine decide_eq_false ?_; omega))) (by kernel_rfl) (by kernel_rfl) (by kernel_rfl) (AP.ar (ap_move rfl)) rfl rfl ?_
                        refine aany_one 24 (by kernel_rfl) rfl (.yes rfl rfl (by first | with_reducible assumption | with_reducible exact rfl | decide | (refine decide_eq_true ?_; omega) | (refine decide_eq_false ?_; omega))) ?_
                        refine aops_call_b (by repeat constructor) (ih b (by rw [hab]; simp) (req ||| 1 * 2 ^ j) exc hrj he) rfl rfl (fun c80 hc80 => ?_)
                        refine aops_nil ?_
                        first | refine aany_take 25 rfl (.none rfl) (by kernel_rfl) (by kernel_rfl) (by kernel_rfl) (AP.ar (ap_pick_true rfl (by first | with_reducible assumption | with_reducible exact rfl | decide | (refine decide_eq_true ?_; omega) | (refine decide_eq_false ?_; omega)) rfl)) rfl rfl ?_ | refine aany_take 25 rfl (.none rfl) (by kernel_rfl) (by kernel_rfl) (by kernel_rfl) (AP.ar (ap_pick_false rfl (by first | with_reducible assumption | with_reducible exact rfl | decide | (refine decide_eq_true ?_; omega) | (refine decide_eq_false ?_; omega)) rfl)) rfl rfl ?_
                        refine aany_take 26 rfl (.none rfl) (by kernel_rfl) (by kernel_rfl) (by kernel_rfl) (AP.ar (ap_assign rfl)) rfl rfl ?_
                        refine aany_nil (by kernel_rfl) ?_
                       )
                   all_goals (
                     refine seqQ_n ?_
                     refine awp_ret ?_
                     refine blockQ_r ?_
                     refine seqQ_r ?_
                     refine post_is (.tmp rfl .nil) .nil ?_
                     rw [right_3t hk3 hab hnj hh]
                     first | (rw [hc67, show c67 = false by with_reducible assumption, Bool.false_and]; rfl) | (rw [hc67, hc80, show c67 = true by with_reducible assumption, Bool.true_and]; rfl)
                     )
                  )
              )
          · have hk3 := of_decide_eq_false hc
            refine awp_skip ?_
            refine blockQ_n ?_
            refine seqQ_n ?_
            refine awp_seq ?_
            refine awp_region ?_
            refine aops_p (ap_assign rfl) rfl rfl rfl ?_
            refine aops_nil ?_
            refine seqQ_n ?_
            refine awp_ret ?_
            refine post_is (.tmp rfl .nil) .nil ?_
            rw [right_0 hk1 hk2 hk3]; rfl
      )
theorem samec_con (n k : Nat) (hn : n ≤ 10) : Con Try.prog 70 [.i n, .i k] [] (Is (cv (sameC n k)) []) := by
  have hcap : capB = 140737488355328 := rfl
  refine con_intro Try.func70 rfl Try.call70 rfl ?_
  refine awp_seq ?_
  refine awp_region ?_
  refine aops_alloc rfl (by repeat constructor) rfl rfl (fun b4 => ?_)
  refine aops_nil ?_
  refine seqQ_n ?_
  refine awp_seq ?_
  refine awp_region ?_
  refine aops_p (ap_move rfl) rfl rfl rfl ?_
  refine aops_p (ap_build (by kernel_rfl) rfl (by repeat constructor) (by repeat (first | exact .nil | apply FillL.cons rfl (by first | exact .agg | exact .sl | exact .v rfl | exact .v (by assumption)) rfl (by repeat constructor)))) rfl rfl rfl ?_
  refine aops_alloc rfl (by repeat constructor) rfl rfl (fun b5 => ?_)
  first | refine aops_store rfl rfl (by first | exact .agg | exact .sl | exact .v rfl | exact .v (by assumption)) (by repeat (first | exact .here | apply UpdF.there)) rfl (by repeat constructor) ?_ | refine aops_store_own1 rfl rfl (by first | exact .sl | exact .v rfl | exact .v (by assumption)) (by repeat (first | exact .here | apply UpdF.there)) rfl (by simp only [List.length_set, List.length_map]; omega) ?_
  refine aops_nil ?_
  refine seqQ_n ?_
  refine awp_seq ?_
  refine awp_seq ?_
  refine awp_region ?_
  refine aops_p (ap_assign rfl) rfl rfl rfl ?_
  refine aops_nil ?_
  refine seqQ_n ?_
  refine awp_block ?_
  refine awp_loop2 [0, 4, 5] [.box b4 _ _] (fun (i : Nat) (v : Value) r => (6, .i (i : Int)) :: r) (fun (i : Nat) (v : Value) r => .box b5 27 [.i k, .v v, .nil] :: .arr v 3 1 ((upTo i).map .i) :: r) (fun (i : Nat) (v : Value) => i ≤ n) (fun (i : Nat) (v : Value) => n - i) (0) (.slice none 0 0) (by repeat constructor) (by omega) ((wk_own 3 1 rfl).trans (wk (by repeat (first | exact .nil | refine .cons rfl ?_)) (by repeat (first | exact .nil | refine .cons (by first | exact .here | exact .there .here | exact .there (.there .here) | exact .there (.there (.there .here)) | exact .there (.there (.there (.there .here)))) ?_)))) ?_
  intro i v hi
  have hml : ((upTo i).map D.i).length = i := by rw [List.length_map, upTo_len]
  refine awp_seq ?_
  refine awp_seq ?_
  refine awp_region ?_
  refine aops_p (ap_move rfl) rfl rfl rfl ?_
  refine aops_p (ap_move rfl) rfl rfl rfl ?_
  refine aops_p (ap_cmp rfl rfl rfl) rfl rfl rfl ?_
  refine aops_nil ?_
  refine seqQ_n ?_
  refine awp_cond rfl (fun hc => ?_) (fun hc => ?_)
  · have hlt := of_decide_eq_true hc
    refine awp_skip ?_
    refine seqQ_n ?_
    refine awp_seq ?_
    refine awp_block ?_
    refine awp_region ?_
    first | refine aops_p (ap_fieldAddr (off := 1) (sz := 1) (g := false) rfl rfl) rfl rfl rfl ?_ | refine aops_p (ap_fieldAddr_el (off := 1) (sz := 1) (g := false) rfl rfl (by repeat constructor)) rfl rfl rfl ?_
    first | refine aops_q (aq_load1 rfl (by repeat (first | exact .here | apply UpdF.there)) List.not_mem_nil rfl (by repeat constructor)) rfl rfl rfl ?_ | refine aops_q (aq_load_el1 rfl rfl (by first | exact .sl | exact .v rfl | exact .v (by assumption)) (fun _ h => absurd h List.not_mem_nil)) rfl rfl rfl ?_ | refine aops_q (aq_load_el1' rfl rfl (by first | exact .sl | exact .v rfl | exact .v (by assumption)) (fun _ h => absurd h List.not_mem_nil)) rfl rfl rfl ?_ | refine aops_q (aq_load_own1 rfl (by repeat (first | exact .here | apply UpdF.there)) List.not_mem_nil rfl (by first | with_reducible assumption | assumption | rfl) (by first | exact .sl | exact .v rfl | exact .v (by assumption))) rfl rfl rfl ?_
    refine aops_p (ap_move rfl) rfl rfl rfl ?_
    refine aops_lit (e := 3) (sz := 1) (by_ := 8) rfl rfl (by repeat constructor) rfl rfl rfl rfl ?_
    first | refine aops_append (e := 3) (sz := 1) (by_ := 8) rfl (by repeat (first | exact .here | apply UpdF.there)) rfl rfl rfl rfl rfl (by simp only [List.length_cons, List.length_nil, List.length_map, List.length_replicate, upTo_len]; omega) (fun v20 hv20 => ?_) | refine aops_append_nil (e := 3) (sz := 1) (by_ := 8) rfl rfl rfl rfl rfl rfl (by simp only [List.length_cons, List.length_nil, List.length_map, List.length_replicate, upTo_len]; omega) (fun v20 hv20 => ?_)
    first | refine aops_p (ap_fieldAddr (off := 1) (sz := 1) (g := false) rfl rfl) rfl rfl rfl ?_ | refine aops_p (ap_fieldAddr_el (off := 1) (sz := 1) (g := false) rfl rfl (by repeat constructor)) rfl rfl rfl ?_
    first | refine aops_store rfl rfl (by first | exact .agg | exact .sl | exact .v rfl | exact .v (by assumption)) (by repeat (first | exact .here | apply UpdF.there)) rfl (by repeat constructor) ?_ | refine aops_store_own1 rfl rfl (by first | exact .sl | exact .v rfl | exact .v (by assumption)) (by repeat (first | exact .here | apply UpdF.there)) rfl (by simp only [List.length_set, List.length_map]; omega) ?_
    refine aops_nil ?_
    refine blockQ_n ?_
    refine seqQ_n ?_
    refine awp_region ?_
    refine aops_p (ap_move rfl) rfl rfl rfl ?_
    refine aops_p (ap_arith rfl rfl rfl (by omega)) rfl rfl rfl ?_
    refine aops_p (ap_assign rfl) rfl rfl rfl ?_
    refine aops_nil ?_
    refine seqQ_n ?_
    rw [mapi_snoc, ← upTo_succ]
    refine ⟨i + 1, _, by omega, by omega, wk (by repeat (first | exact .nil | refine .cons rfl ?_)) (by repeat (first | exact .nil | refine .cons (by first | exact .here | exact .there .here | exact .there (.there .here) | exact .there (.there (.there .here)) | exact .there (.there (.there (.there .here)))) ?_))⟩
  · have hge := of_decide_eq_false hc
    obtain ⟨m, hm⟩ : ∃ m, m = i := ⟨i, rfl⟩
    obtain rfl : m = n := by omega
    subst hm
    refine awp_exit ?_
    refine seqQ_x ?_
    refine seqQ_x ?_
    refine blockQ_x rfl ?_
    refine seqQ_n ?_
    refine awp_seq ?_
    refine awp_freeze v [0,4,5] (by repeat (first | exact .here | apply Rem.there)) (by repeat (first | exact .nil | apply SelC.cons rfl (by first | exact Cv.fz | (apply Cv.agg; repeat (first | exact CvL.nil | apply CvL.cons (by first | exact Cv.fz | exact Cv.same))) | exact Cv.same))) (by repeat (first | exact .nil | apply HeapA.box (by repeat (first | exact CvL.nil | apply CvL.cons (by first | exact Cv.fz | exact Cv.same))) | apply HeapA.arr)) ?_
    refine awp_region ?_
    refine aops_alloc rfl (by repeat constructor) rfl rfl (fun b7 => ?_)
    refine aops_nil ?_
    refine seqQ_n ?_
    refine awp_seq ?_
    refine awp_seq ?_
    refine awp_region ?_
    refine aops_p (ap_assign rfl) rfl rfl rfl ?_
    refine aops_nil ?_
    refine seqQ_n ?_
    refine awp_block ?_
    refine awp_loop2 [0, 4, 5, 7] [.box b5 _ _, .box b4 _ _] (fun (j : Nat) (v2 : Value) r => (8, .i (j : Int)) :: r) (fun (j : Nat) (v2 : Value) r => .box b7 38 [.v v2] :: .arr v2 63 4 ((List.replicate j (⟨true, sameT m k⟩ : Mem)).map mv) :: r) (fun (j : Nat) (v2 : Value) => j ≤ m) (fun (j : Nat) (v2 : Value) => m - j) (0) (.slice none 0 0) (by repeat constructor) (by omega) ((wk_own 63 4 rfl).trans (wk (by repeat (first | exact .nil | refine .cons rfl ?_)) (by repeat (first | exact .nil | refine .cons (by first | exact .here | exact .there .here | exact .there (.there .here) | exact .there (.there (.there .here)) | exact .there (.there (.there (.there .here)))) ?_)))) ?_
    intro j v2 hj
    have hml2 : ((List.replicate j (⟨true, sameT m k⟩ : Mem)).map mv).length = j := by simp
    refine awp_seq ?_
    refine awp_seq ?_
    refine awp_region ?_
    refine aops_p (ap_move rfl) rfl rfl rfl ?_
    refine aops_p (ap_move rfl) rfl rfl rfl ?_
    refine aops_p (ap_cmp rfl rfl rfl) rfl rfl rfl ?_
    refine aops_nil ?_
    refine seqQ_n ?_
    refine awp_cond rfl (fun hc => ?_) (fun hc => ?_)
    · have hlt2 := of_decide_eq_true hc
      refine awp_skip ?_
      refine seqQ_n ?_
      refine awp_seq ?_
      refine awp_block ?_
      refine awp_region ?_
      first | refine aops_p (ap_fieldAddr (off := 0) (sz := 1) (g := false) rfl rfl) rfl rfl rfl ?_ | refine aops_p (ap_fieldAddr_el (off := 0) (sz := 1) (g := false) rfl rfl (by repeat constructor)) rfl rfl rfl ?_
      first | refine aops_q (aq_load1 rfl (by repeat (first | exact .here | apply UpdF.there)) List.not_mem_nil rfl (by repeat constructor)) rfl rfl rfl ?_ | refine aops_q (aq_load_el1 rfl rfl (by first | exact .sl | exact .v rfl | exact .v (by assumption)) (fun _ h => absurd h List.not_mem_nil)) rfl rfl rfl ?_ | refine aops_q (aq_load_el1' rfl rfl (by first | exact .sl | exact .v rfl | exact .v (by assumption)) (fun _ h => absurd h List.not_mem_nil)) rfl rfl rfl ?_ | refine aops_q (aq_load_own1 rfl (by repeat (first | exact .here | apply UpdF.there)) List.not_mem_nil rfl (by first | with_reducible assumption | assumption | rfl) (by first | exact .sl | exact .v rfl | exact .v (by assumption))) rfl rfl rfl ?_
      first | refine aops_q (aq_load rfl (by repeat (first | exact .here | apply UpdF.there)) List.not_mem_nil rfl rfl (by repeat constructor)) rfl rfl rfl ?_ | refine aops_q (aq_load_el rfl rfl rfl rfl (fun _ h => absurd h List.not_mem_nil)) rfl rfl rfl ?_
      refine aops_p (ap_build (by kernel_rfl) rfl (by repeat constructor) (by repeat (first | exact .nil | apply FillL.cons rfl (by first | exact .agg | exact .sl | exact .v rfl | exact .v (by assumption)) rfl (by repeat constructor)))) rfl rfl rfl ?_
      refine aops_unnil [0,4,5,7,8,28,30] 3 rfl rfl (by repeat (first | exact .nil | apply SelC.cons rfl (by first | exact Cv.fz | (apply Cv.agg; repeat (first | exact CvL.nil | apply CvL.cons (by first | exact Cv.fz | exact Cv.same))) | exact Cv.same))) (by repeat (first | exact .nil | apply HeapA.box (by repeat (first | exact CvL.nil | apply CvL.cons Cv.same)) | apply HeapA.arr)) ?_; refine aops_lit (e := 63) (sz := 4) (by_ := 64) rfl rfl (by repeat constructor) rfl rfl rfl rfl ?_
      first | refine aops_append (e := 63) (sz := 4) (by_ := 64) rfl (by repeat (first | exact .here | apply UpdF.there)) rfl rfl rfl rfl rfl (by simp only [List.length_cons, List.length_nil, List.length_map, List.length_replicate, upTo_len]; omega) (fun v32 hv32 => ?_) | refine aops_append_nil (e := 63) (sz := 4) (by_ := 64) rfl rfl rfl rfl rfl rfl (by simp only [List.length_cons, List.length_nil, List.length_map, List.length_replicate, upTo_len]; omega) (fun v32 hv32 => ?_)
      first | refine aops_p (ap_fieldAddr (off := 0) (sz := 1) (g := false) rfl rfl) rfl rfl rfl ?_ | refine aops_p (ap_fieldAddr_el (off := 0) (sz := 1) (g := false) rfl rfl (by repeat constructor)) rfl rfl rfl ?_
      first | refine aops_store rfl rfl (by first | exact .agg | exact .sl | exact .v rfl | exact .v (by assumption)) (by repeat (first | exact .here | apply UpdF.there)) rfl (by repeat constructor) ?_ | refine aops_store_own1 rfl rfl (by first | exact .sl | exact .v rfl | exact .v (by assumption)) (by repeat (first | exact .here | apply UpdF.there)) rfl (by simp only [List.length_set, List.length_map]; omega) ?_
      refine aops_nil ?_
      refine blockQ_n ?_
      refine seqQ_n ?_
      refine awp_region ?_
      refine aops_p (ap_move rfl) rfl rfl rfl ?_
      refine aops_p (ap_arith rfl rfl rfl (by omega)) rfl rfl rfl ?_
      refine aops_p (ap_assign rfl) rfl rfl rfl ?_
      refine aops_nil ?_
      refine seqQ_n ?_
      rw [show D.agg [.b true, .i k, .sl 1 ((upTo m).map .i), .sl 3 []] = mv ⟨true, sameT m k⟩ from rfl, mv_snoc, ← List.replicate_succ']
      refine ⟨j + 1, _, by omega, by omega, wk (by repeat (first | exact .nil | refine .cons rfl ?_)) (by repeat (first | exact .nil | refine .cons (by first | exact .here | exact .there .here | exact .there (.there .here) | exact .there (.there (.there .here)) | exact .there (.there (.there (.there .here)))) ?_))⟩
    · have hge2 := of_decide_eq_false hc
      obtain rfl : j = m := by omega
      refine awp_exit ?_
      refine seqQ_x ?_
      refine seqQ_x ?_
      refine blockQ_x rfl ?_
      refine seqQ_n ?_
      refine awp_seq ?_
      refine awp_freeze v2 [4,7] (by repeat (first | exact .here | apply Rem.there)) (by repeat (first | exact .nil | apply SelC.cons rfl (by first | exact Cv.fz | (apply Cv.agg; repeat (first | exact CvL.nil | apply CvL.cons (by first | exact Cv.fz | exact Cv.same))) | exact Cv.same))) (by repeat (first | exact .nil | apply HeapA.box (by repeat (first | exact CvL.nil | apply CvL.cons (by first | exact Cv.fz | exact Cv.same))) | apply HeapA.arr)) ?_
      refine awp_region ?_
      first | refine aops_q (aq_load rfl (by repeat (first | exact .here | apply UpdF.there)) List.not_mem_nil rfl rfl (by repeat constructor)) rfl rfl rfl ?_ | refine aops_q (aq_load_el rfl rfl rfl rfl (fun _ h => absurd h List.not_mem_nil)) rfl rfl rfl ?_
      first | refine aops_store rfl rfl (by first | exact .agg | exact .sl | exact .v rfl | exact .v (by assumption)) (by repeat (first | exact .here | apply UpdF.there)) rfl (by repeat constructor) ?_ | refine aops_store_own1 rfl rfl (by first | exact .sl | exact .v rfl | exact .v (by assumption)) (by repeat (first | exact .here | apply UpdF.there)) rfl (by simp only [List.length_set, List.length_map]; omega) ?_
      refine aops_nil ?_
      refine seqQ_n ?_
      refine awp_ret ?_
      exact post_ret (.cell rfl (by repeat (first | exact .here | apply UpdF.there)) rfl rfl .nil) (by repeat (first | exact .nil | refine .cons (by first | exact .here | exact .there .here | exact .there (.there .here) | exact .there (.there (.there .here)) | exact .there (.there (.there (.there .here)))) ?_)) ⟨rfl, rfl⟩
theorem nodes_pick {s : Nat} {k : Int} {l : List Int} (h : nodesOf (s : Int) = k :: l) : Con Try.prog 142 [.i s] [] (Is (.sl 1 ((k :: l).map .i)) []) := by rw [← h]; exact Nodes_con s
theorem tvs_two (y z : Tr) : [tv y, tv z] = tvs [y, z] := by rw [tvs_cons, tvs_cons]; rfl
end Go.Proofs.Ytanlbfnlnfkcjaa
