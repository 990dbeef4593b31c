/- The walks of: rright_con, rtsize_con, rcheckT_con, rdisj_con, ianswers_con. Each says what one function of the program answers, for the arguments that its statement names. No condition beyond what each theorem says. -/
import Derived.Test.YtanlbfnlnfkcjaaIntersectionAnswersW8
import Derived.Test.YtanlbfnlnfkcjaaProg
import Derived.KernelRfl
import Derived.Tactics
import Derived.Tactics2
import Derived.StillTactics
set_option linter.unusedVariables false
set_option linter.unusedSimpArgs false
set_option linter.unnecessarySimpa false
set_option maxRecDepth 4000
namespace Go.Proofs.Ytanlbfnlnfkcjaa
open Go Go.Av Go.Tq
theorem rright_con (c : List Mem) (hcl : c.length ≤ 10) : ∀ (x : Tr) (req exc : Nat), req < 1024 → exc < 1024 → Con Try.prog 111 [cv c, tv x, .i req, .i exc] [] (Is (.b (rightC c x req exc)) []) := by
  have hcap : capB = 140737488355328 := rfl
  intro x
  induction x using Tr.ind with
  | _ x ih =>
    intro req exc hr he
    have hl := tvs_len x.kids
    have h10 := pow_le10 hcl
    have hpos : 0 < 2 ^ c.length := Nat.pow_pos (by omega)
    have hml : (c.map mv).length = c.length := by simp
    have hgl := great_lt c ((co c exc : Nat) : Int)
    have hor : req ||| exc < 1024 := Nat.or_lt_two_pow (n := 10) hr he
    refine con_intro Try.func111 rfl Try.call111 rfl ?_
    refine awp_seq ?_
    refine awp_region ?_
    refine aops_box rfl zFlat rfl rfl (fun b4 => ?_)
    refine aops_box rfl zFlat rfl rfl (fun b5 => ?_)
    refine aops_p (ap_assign rfl) rfl rfl rfl ?_
    refine aops_nil ?_
    refine seqQ_n ?_
    refine awp_seq ?_
    refine awp_seq ?_
    refine awp_region ?_
    first | refine aops_p (ap_fieldAddr (off := 0) (sz := 1) (g := false) rfl rfl) rfl rfl rfl ?_ | refine aops_p (ap_fieldAddr_el (off := 0) (sz := 1) (g := false) rfl rfl zRc) rfl rfl rfl ?_
    first | refine aops_q (aq_load1 rfl zUpd List.not_mem_nil rfl zRc) rfl rfl rfl ?_ | refine aops_q (aq_load_el1 rfl rfl zScal (fun _ h => absurd h List.not_mem_nil)) rfl rfl rfl ?_ | refine aops_q (aq_load_el1' rfl rfl zScal (fun _ h => absurd h List.not_mem_nil)) rfl rfl rfl ?_ | refine aops_q (aq_load_own1 rfl zUpd List.not_mem_nil rfl zAss zScal) rfl rfl rfl ?_
    refine aops_nil ?_
    refine seqQ_n ?_
    refine awp_block ?_
    refine awp_seq ?_
    refine awp_region ?_
    refine aops_p (ap_cmp rfl rfl rfl) rfl rfl rfl ?_
    refine aops_p (ap_assign rfl) rfl rfl rfl ?_
    refine aops_nil ?_
    refine seqQ_n ?_
    refine awp_cond rfl (fun hc => ?_) (fun hc => ?_)
    · have hk1 := of_decide_eq_true hc
      refine awp_seq ?_
      refine awp_draw (Hm := []) zKr zSplit ?_
      first | refine aany_take 0 rfl (.none rfl) zKr zKr zKr (ar_load rfl zUpd rfl rfl zRc) rfl rfl ?_ | refine aany_take 0 rfl (.none rfl) zKr zKr zKr (AQ.ar (aq_load_el rfl rfl rfl rfl (fun _ h => h))) rfl rfl ?_
      first | refine aany_take 1 rfl (.none rfl) zKr zKr zKr (ar_load rfl zUpd rfl rfl zRc) rfl rfl ?_ | refine aany_take 1 rfl (.none rfl) zKr zKr zKr (AQ.ar (aq_load_el rfl rfl rfl rfl (fun _ h => h))) rfl rfl ?_
      refine aany_take 3 rfl (.none rfl) zKr zKr zKr (AP.ar (ap_move rfl)) rfl rfl ?_
      refine aany_one 2 zKr rfl (.none rfl) ?_
      refine aops_call_v zRc (rmembers_con c hcl) rfl rfl ?_
      refine aops_nil ?_
      refine aany_take 4 rfl (.none rfl) zKr zKr zKr (AP.ar (ap_bits rfl rfl rfl (by omega) (by omega))) rfl rfl ?_
      refine aany_one 5 zKr rfl (.none rfl) ?_
      refine aops_call_v zRc (rgreat_con c (co c exc)) rfl rfl ?_
      refine aops_nil ?_
      refine aany_take 6 rfl (.none rfl) zKr zKr zKr (AP.ar (ap_assign rfl)) rfl rfl ?_
      refine aany_nil zKr ?_
      all_goals (
        refine seqQ_n ?_
        refine awp_seq ?_
        refine awp_region ?_
        first | refine aops_p (ap_fieldAddr (off := 1) (sz := 1) (g := false) rfl rfl) rfl rfl rfl ?_ | refine aops_p (ap_fieldAddr_el (off := 1) (sz := 1) (g := false) rfl rfl zRc) rfl rfl rfl ?_
        first | refine aops_q (aq_load1 rfl zUpd List.not_mem_nil rfl zRc) rfl rfl rfl ?_ | refine aops_q (aq_load_el1 rfl rfl zScal (fun _ h => absurd h List.not_mem_nil)) rfl rfl rfl ?_ | refine aops_q (aq_load_el1' rfl rfl zScal (fun _ h => absurd h List.not_mem_nil)) rfl rfl rfl ?_ | refine aops_q (aq_load_own1 rfl zUpd List.not_mem_nil rfl zAss zScal) rfl rfl rfl ?_
        refine aops_p (ap_cmp rfl rfl rfl) rfl rfl rfl ?_
        refine aops_p (ap_move rfl) rfl rfl rfl ?_
        all_goals (first | (refine aops_yes rfl rfl rfl rfl zDec ?_; (first | refine aops_p (ap_fieldAddr (off := 2) (sz := 1) (g := false) rfl rfl) rfl rfl rfl ?_ | refine aops_p (ap_fieldAddr_el (off := 2) (sz := 1) (g := false) rfl rfl zRc) rfl rfl rfl ?_)) | refine aops_no_u rfl rfl rfl ?_ | refine aops_no_t rfl rfl rfl rfl zDec ?_ | (refine aops_guard_t rfl rfl rfl rfl (fun hg => ?_) (fun hg => ?_); case' _ => (first | refine aops_p (ap_fieldAddr (off := 2) (sz := 1) (g := false) rfl rfl) rfl rfl rfl ?_ | refine aops_p (ap_fieldAddr_el (off := 2) (sz := 1) (g := false) rfl rfl zRc) rfl rfl rfl ?_)))
        all_goals (first | (refine aops_yes rfl rfl rfl rfl zDec ?_; (first | refine aops_q (aq_load1 rfl zUpd List.not_mem_nil rfl zRc) rfl rfl rfl ?_ | refine aops_q (aq_load_el1 rfl rfl zScal (fun _ h => absurd h List.not_mem_nil)) rfl rfl rfl ?_ | refine aops_q (aq_load_el1' rfl rfl zScal (fun _ h => absurd h List.not_mem_nil)) rfl rfl rfl ?_ | refine aops_q (aq_load_own1 rfl zUpd List.not_mem_nil rfl zAss zScal) rfl rfl rfl ?_)) | refine aops_no_u rfl rfl rfl ?_ | refine aops_no_t rfl rfl rfl rfl zDec ?_ | (refine aops_guard_t rfl rfl rfl rfl (fun hg => ?_) (fun hg => ?_); case' _ => (first | refine aops_q (aq_load1 rfl zUpd List.not_mem_nil rfl zRc) rfl rfl rfl ?_ | refine aops_q (aq_load_el1 rfl rfl zScal (fun _ h => absurd h List.not_mem_nil)) rfl rfl rfl ?_ | refine aops_q (aq_load_el1' rfl rfl zScal (fun _ h => absurd h List.not_mem_nil)) rfl rfl rfl ?_ | refine aops_q (aq_load_own1 rfl zUpd List.not_mem_nil rfl zAss zScal) rfl rfl rfl ?_)))
        all_goals (first | (refine aops_yes rfl rfl rfl rfl zDec ?_; (first | refine aops_len rfl rfl rfl rfl (fun _ => ?_) | refine aops_p (ap_len_arr rfl zUpd rfl) rfl rfl rfl ?_ | refine aops_p (ap_len_nil rfl rfl) rfl rfl rfl ?_)) | refine aops_no_u rfl rfl rfl ?_ | refine aops_no_t rfl rfl rfl rfl zDec ?_ | (refine aops_guard_t rfl rfl rfl rfl (fun hg => ?_) (fun hg => ?_); case' _ => (first | refine aops_len rfl rfl rfl rfl (fun _ => ?_) | refine aops_p (ap_len_arr rfl zUpd rfl) rfl rfl rfl ?_ | refine aops_p (ap_len_nil rfl rfl) rfl rfl rfl ?_)))
        all_goals (first | (refine aops_yes rfl rfl rfl rfl zDec ?_; (refine aops_p (ap_cmp rfl rfl rfl) rfl rfl rfl ?_)) | refine aops_no_u rfl rfl rfl ?_ | refine aops_no_t rfl rfl rfl rfl zDec ?_ | (refine aops_guard_t rfl rfl rfl rfl (fun hg => ?_) (fun hg => ?_); case' _ => (refine aops_p (ap_cmp rfl rfl rfl) rfl rfl rfl ?_)))
        all_goals (first | refine aops_p (ap_pick_true rfl zDec rfl) rfl rfl rfl ?_ | refine aops_p (ap_pick_false rfl zDec rfl) rfl rfl rfl ?_)
        all_goals (refine aops_p (ap_move rfl) rfl rfl rfl ?_)
        all_goals (first | (refine aops_yes rfl rfl rfl rfl zDec ?_; (refine aops_p (ap_move rfl) rfl rfl rfl ?_)) | refine aops_no_u rfl rfl rfl ?_ | refine aops_no_t rfl rfl rfl rfl zDec ?_ | (refine aops_guard_t rfl rfl rfl rfl (fun hg => ?_) (fun hg => ?_); case' _ => (refine aops_p (ap_move rfl) rfl rfl rfl ?_)))
        all_goals (first | (refine aops_yes rfl rfl rfl rfl zDec ?_; (refine aops_p (ap_cmp rfl rfl rfl) rfl rfl rfl ?_)) | refine aops_no_u rfl rfl rfl ?_ | refine aops_no_t rfl rfl rfl rfl zDec ?_ | (refine aops_guard_t rfl rfl rfl rfl (fun hg => ?_) (fun hg => ?_); case' _ => (refine aops_p (ap_cmp rfl rfl rfl) rfl rfl rfl ?_)))
        all_goals (first | (refine aops_yes rfl rfl rfl rfl zDec ?_; (refine aops_p (ap_move rfl) rfl rfl rfl ?_)) | refine aops_no_u rfl rfl rfl ?_ | refine aops_no_t rfl rfl rfl rfl zDec ?_ | (refine aops_guard_t rfl rfl rfl rfl (fun hg => ?_) (fun hg => ?_); case' _ => (refine aops_p (ap_move rfl) rfl rfl rfl ?_)))
        all_goals (first | (refine aops_yes rfl rfl rfl rfl zDec ?_; (refine aops_p (ap_move rfl) rfl rfl rfl ?_)) | refine aops_no_u rfl rfl rfl ?_ | refine aops_no_f rfl rfl rfl rfl zDec ?_ | (refine aops_guard_f rfl rfl rfl rfl (fun hg => ?_) (fun hg => ?_); case' _ => (refine aops_p (ap_move rfl) rfl rfl rfl ?_)))
        all_goals (first | (refine aops_yes rfl rfl rfl rfl zDec ?_; (refine aops_p (ap_move rfl) rfl rfl rfl ?_)) | refine aops_no_u rfl rfl rfl ?_ | refine aops_no_f rfl rfl rfl rfl zDec ?_ | (refine aops_guard_f rfl rfl rfl rfl (fun hg => ?_) (fun hg => ?_); case' _ => (refine aops_p (ap_move rfl) rfl rfl rfl ?_)))
        all_goals (first | (refine aops_yes rfl rfl rfl rfl zDec ?_; (refine aops_p (ap_bits rfl rfl rfl (by omega) (by omega)) rfl rfl rfl ?_)) | refine aops_no_u rfl rfl rfl ?_ | refine aops_no_f rfl rfl rfl rfl zDec ?_ | (refine aops_guard_f rfl rfl rfl rfl (fun hg => ?_) (fun hg => ?_); case' _ => (refine aops_p (ap_bits rfl rfl rfl (by omega) (by omega)) rfl rfl rfl ?_)))
        all_goals (first | (refine aops_yes rfl rfl rfl rfl zDec ?_; (refine aops_p (ap_move rfl) rfl rfl rfl ?_)) | refine aops_no_u rfl rfl rfl ?_ | refine aops_no_f rfl rfl rfl rfl zDec ?_ | (refine aops_guard_f rfl rfl rfl rfl (fun hg => ?_) (fun hg => ?_); case' _ => (refine aops_p (ap_move rfl) rfl rfl rfl ?_)))
        all_goals (first | (refine aops_yes rfl rfl rfl rfl zDec ?_; (refine aops_p (ap_cmp rfl rfl rfl) rfl rfl rfl ?_)) | refine aops_no_u rfl rfl rfl ?_ | refine aops_no_f rfl rfl rfl rfl zDec ?_ | (refine aops_guard_f rfl rfl rfl rfl (fun hg => ?_) (fun hg => ?_); case' _ => (refine aops_p (ap_cmp rfl rfl rfl) rfl rfl rfl ?_)))
        all_goals (first | (refine aops_yes rfl rfl rfl rfl zDec ?_; (first | refine aops_p (ap_pick_true rfl zDec rfl) rfl rfl rfl ?_ | refine aops_p (ap_pick_false rfl zDec rfl) rfl rfl rfl ?_)) | refine aops_no_u rfl rfl rfl ?_ | refine aops_no_t rfl rfl rfl rfl zDec ?_ | (refine aops_guard_t rfl rfl rfl rfl (fun hg => ?_) (fun hg => ?_); case' _ => (first | refine aops_p (ap_pick_true rfl zDec rfl) rfl rfl rfl ?_ | refine aops_p (ap_pick_false rfl zDec rfl) rfl rfl rfl ?_)))
        all_goals (first | refine aops_p (ap_pick_true rfl zDec rfl) rfl rfl rfl ?_ | refine aops_p (ap_pick_false rfl zDec rfl) rfl rfl rfl ?_)
        all_goals (refine aops_p (ap_assign rfl) rfl rfl rfl ?_)
        all_goals (
          refine aops_nil ?_
          refine seqQ_n ?_
          refine awp_ret ?_
          refine blockQ_r ?_
          refine seqQ_r ?_
          refine post_is (.tmp rfl .nil) .nil ?_
          rw [right_1 hk1, none_alt hr]
          simp only [resD]
          first | (simp_all; done)
          )
        )
    · have hk1 := of_decide_eq_false hc
      refine awp_seq ?_
      refine awp_region ?_
      refine aops_p (ap_cmp rfl rfl rfl) rfl rfl rfl ?_
      refine aops_p (ap_assign rfl) rfl rfl rfl ?_
      refine aops_nil ?_
      refine seqQ_n ?_
      refine awp_cond rfl (fun hc => ?_) (fun hc => ?_)
      · have hk2 := of_decide_eq_true hc
        refine awp_seq ?_
        refine awp_draw (Hm := []) zKr zSplit ?_
        first | refine aany_take 0 rfl (.none rfl) zKr zKr zKr (AP.ar (ap_fieldAddr (off := 1) (sz := 1) (g := false) rfl rfl)) rfl rfl ?_ | refine aany_take 0 rfl (.none rfl) zKr zKr zKr (AP.ar (ap_fieldAddr_el (off := 1) (sz := 1) (g := false) rfl rfl zRc)) rfl rfl ?_
        first | refine aany_take 1 rfl (.none rfl) zKr zKr zKr (ar_load1 rfl zUpd rfl zRc) rfl rfl ?_ | refine aany_take 1 rfl (.none rfl) zKr zKr zKr (AQ.ar (aq_load_el1 rfl rfl zScal (fun _ h => h))) rfl rfl ?_ | refine aany_take 1 rfl (.none rfl) zKr zKr zKr (AQ.ar (aq_load_el1' rfl rfl zScal (fun _ h => h))) rfl rfl ?_ | refine aany_take 1 rfl (.none rfl) zKr zKr zKr (ar_load_own1 rfl zUpd rfl zAss zScal) rfl rfl ?_
        refine aany_take 2 rfl (.none rfl) zKr zKr zKr (AP.ar (ap_cmp rfl rfl rfl)) rfl rfl ?_
        refine aany_take 3 rfl (.none rfl) zKr zKr zKr (AP.ar (ap_move rfl)) rfl rfl ?_
        refine aany_guard 3 rfl (fun hg => ?_) (fun hg => ?_)
        rotate_left
        case' _ =>
          first
          | (exact absurd hg (by decide))
          | (exfalso; simp at hg; done)
          | (refine aany_skip 4 rfl (.no rfl rfl (by first | (show _ = false; with_reducible assumption) | exact zDec)) zKr zKr zKr rfl rfl ?_
             refine aany_skip 5 rfl (.no rfl rfl (by first | (show _ = false; with_reducible assumption) | exact zDec)) zKr zKr zKr rfl rfl ?_
             refine aany_skip 6 rfl (.no rfl rfl (by first | (show _ = false; with_reducible assumption) | exact zDec)) zKr zKr zKr rfl rfl ?_
             refine aany_skip 7 rfl (.no rfl rfl (by first | (show _ = false; with_reducible assumption) | exact zDec)) zKr zKr zKr rfl rfl ?_
             first | refine aany_take 8 rfl (.none rfl) zKr zKr zKr (AP.ar (ap_pick_true rfl zDec rfl)) rfl rfl ?_ | refine aany_take 8 rfl (.none rfl) zKr zKr zKr (AP.ar (ap_pick_false rfl zDec rfl)) rfl rfl ?_
             refine aany_take 9 rfl (.none rfl) zKr zKr zKr (AP.ar (ap_move rfl)) rfl rfl ?_
             refine aany_skip 10 rfl (.no rfl rfl (by first | (show _ = false; with_reducible assumption) | exact zDec)) zKr zKr zKr rfl rfl ?_
             refine aany_skip 11 rfl (.no rfl rfl (by first | (show _ = false; with_reducible assumption) | exact zDec)) zKr zKr zKr rfl rfl ?_
             refine aany_skip 12 rfl (.no rfl rfl (by first | (show _ = false; with_reducible assumption) | exact zDec)) zKr zKr zKr rfl rfl ?_
             refine aany_skip 13 rfl (.no rfl rfl (by first | (show _ = false; with_reducible assumption) | exact zDec)) zKr zKr zKr rfl rfl ?_
             refine aany_skip 14 rfl (.no rfl rfl (by first | (show _ = false; with_reducible assumption) | exact zDec)) zKr zKr zKr rfl rfl ?_
             refine aany_skip 15 rfl (.no rfl rfl (by first | (show _ = false; with_reducible assumption) | exact zDec)) zKr zKr zKr rfl rfl ?_
             refine aany_skip 16 rfl (.no rfl rfl (by first | (show _ = false; with_reducible assumption) | exact zDec)) zKr zKr zKr rfl rfl ?_
             first | refine aany_take 17 rfl (.none rfl) zKr zKr zKr (AP.ar (ap_pick_true rfl zDec rfl)) rfl rfl ?_ | refine aany_take 17 rfl (.none rfl) zKr zKr zKr (AP.ar (ap_pick_false rfl zDec rfl)) rfl rfl ?_
             refine aany_take 18 rfl (.none rfl) zKr zKr zKr (AP.ar (ap_assign rfl)) rfl rfl ?_
             refine aany_nil zKr ?_
            )
        rotate_right
        case' _ =>
          first
          | (exact absurd hg (by decide))
          | (exfalso; simp at hg; done)
          | (first | refine aany_take 4 rfl (.yes rfl rfl zDec) zKr zKr zKr (AP.ar (ap_fieldAddr (off := 2) (sz := 1) (g := false) rfl rfl)) rfl rfl ?_ | refine aany_take 4 rfl (.yes rfl rfl zDec) zKr zKr zKr (AP.ar (ap_fieldAddr_el (off := 2) (sz := 1) (g := false) rfl rfl zRc)) rfl rfl ?_
             first | refine aany_take 5 rfl (.yes rfl rfl zDec) zKr zKr zKr (ar_load1 rfl zUpd rfl zRc) rfl rfl ?_ | refine aany_take 5 rfl (.yes rfl rfl zDec) zKr zKr zKr (AQ.ar (aq_load_el1 rfl rfl zScal (fun _ h => h))) rfl rfl ?_ | refine aany_take 5 rfl (.yes rfl rfl zDec) zKr zKr zKr (AQ.ar (aq_load_el1' rfl rfl zScal (fun _ h => h))) rfl rfl ?_ | refine aany_take 5 rfl (.yes rfl rfl zDec) zKr zKr zKr (ar_load_own1 rfl zUpd rfl zAss zScal) rfl rfl ?_
             first | refine aany_take 6 rfl (.yes rfl rfl zDec) zKr zKr zKr (AP.ar (ap_len rfl rfl)) rfl rfl ?_ | refine aany_take 6 rfl (.yes rfl rfl zDec) zKr zKr zKr (ar_len_arr rfl zUpd rfl) rfl rfl ?_ | refine aany_take 6 rfl (.yes rfl rfl zDec) zKr zKr zKr (AP.ar (ap_len_nil rfl rfl)) rfl rfl ?_
             refine aany_take 7 rfl (.yes rfl rfl zDec) zKr zKr zKr (AP.ar (ap_cmp rfl rfl rfl)) rfl rfl ?_
             first | refine aany_take 8 rfl (.none rfl) zKr zKr zKr (AP.ar (ap_pick_true rfl zDec rfl)) rfl rfl ?_ | refine aany_take 8 rfl (.none rfl) zKr zKr zKr (AP.ar (ap_pick_false rfl zDec rfl)) rfl rfl ?_
             refine aany_take 9 rfl (.none rfl) zKr zKr zKr (AP.ar (ap_move rfl)) rfl rfl ?_
             refine aany_guard 9 rfl (fun hg => ?_) (fun hg => ?_)
             rotate_left
             case' _ =>
               first
               | (exact absurd hg (by decide))
               | (exfalso; simp at hg; done)
               | (refine aany_skip 10 rfl (.no rfl rfl (by first | (show _ = false; with_reducible assumption) | exact zDec)) zKr zKr zKr rfl rfl ?_
                  refine aany_skip 11 rfl (.no rfl rfl (by first | (show _ = false; with_reducible assumption) | exact zDec)) zKr zKr zKr rfl rfl ?_
                  refine aany_skip 12 rfl (.no rfl rfl (by first | (show _ = false; with_reducible assumption) | exact zDec)) zKr zKr zKr rfl rfl ?_
                  refine aany_skip 13 rfl (.no rfl rfl (by first | (show _ = false; with_reducible assumption) | exact zDec)) zKr zKr zKr rfl rfl ?_
                  refine aany_skip 14 rfl (.no rfl rfl (by first | (show _ = false; with_reducible assumption) | exact zDec)) zKr zKr zKr rfl rfl ?_
                  refine aany_skip 15 rfl (.no rfl rfl (by first | (show _ = false; with_reducible assumption) | exact zDec)) zKr zKr zKr rfl rfl ?_
                  refine aany_skip 16 rfl (.no rfl rfl (by first | (show _ = false; with_reducible assumption) | exact zDec)) zKr zKr zKr rfl rfl ?_
                  first | refine aany_take 17 rfl (.none rfl) zKr zKr zKr (AP.ar (ap_pick_true rfl zDec rfl)) rfl rfl ?_ | refine aany_take 17 rfl (.none rfl) zKr zKr zKr (AP.ar (ap_pick_false rfl zDec rfl)) rfl rfl ?_
                  refine aany_take 18 rfl (.none rfl) zKr zKr zKr (AP.ar (ap_assign rfl)) rfl rfl ?_
                  refine aany_nil zKr ?_
                 )
             rotate_right
             case' _ =>
               first
               | (exact absurd hg (by decide))
               | (exfalso; simp at hg; done)
               | (first | refine aany_take 10 rfl (.yes rfl rfl zDec) zKr zKr zKr (ar_load rfl zUpd rfl rfl zRc) rfl rfl ?_ | refine aany_take 10 rfl (.yes rfl rfl zDec) zKr zKr zKr (AQ.ar (aq_load_el rfl rfl rfl rfl (fun _ h => h))) rfl rfl ?_
                  first | refine aany_take 11 rfl (.yes rfl rfl zDec) zKr zKr zKr (ar_load rfl zUpd rfl rfl zRc) rfl rfl ?_ | refine aany_take 11 rfl (.yes rfl rfl zDec) zKr zKr zKr (AQ.ar (aq_load_el rfl rfl rfl rfl (fun _ h => h))) rfl rfl ?_
                  refine aany_take 13 rfl (.yes rfl rfl zDec) zKr zKr zKr (AP.ar (ap_move rfl)) rfl rfl ?_
                  refine aany_one 12 zKr rfl (.yes rfl rfl zDec) ?_
                  refine aops_call_v zRc (rmembers_con c hcl) rfl rfl ?_
                  refine aops_nil ?_
                  refine aany_take 14 rfl (.yes rfl rfl zDec) zKr zKr zKr (AP.ar (ap_bits rfl rfl rfl (by omega) (by omega))) rfl rfl ?_
                  refine aany_one 15 zKr rfl (.yes rfl rfl zDec) ?_
                  refine aops_call_v zRc (rgreat_con c (co c req)) rfl rfl ?_
                  refine aops_nil ?_
                  refine aany_take 16 rfl (.yes rfl rfl zDec) zKr zKr zKr (AP.ar (ap_cmp rfl rfl rfl)) rfl rfl ?_
                  first | refine aany_take 17 rfl (.none rfl) zKr zKr zKr (AP.ar (ap_pick_true rfl zDec rfl)) rfl rfl ?_ | refine aany_take 17 rfl (.none rfl) zKr zKr zKr (AP.ar (ap_pick_false rfl zDec rfl)) rfl rfl ?_
                  refine aany_take 18 rfl (.none rfl) zKr zKr zKr (AP.ar (ap_assign rfl)) rfl rfl ?_
                  refine aany_nil zKr ?_
                 )
            )
        all_goals (
          refine seqQ_n ?_
          refine awp_ret ?_
          refine blockQ_r ?_
          refine seqQ_r ?_
          refine post_is (.tmp rfl .nil) .nil ?_
          rw [right_2 hk2]
          unfold aloneC
          simp only [resD]
          first | (simp_all; done)
          )
      · have hk2 := of_decide_eq_false hc
        refine awp_seq ?_
        refine awp_region ?_
        refine aops_p (ap_cmp rfl rfl rfl) rfl rfl rfl ?_
        refine aops_p (ap_assign rfl) rfl rfl rfl ?_
        refine aops_nil ?_
        refine seqQ_n ?_
        refine awp_cond rfl (fun hc => ?_) (fun hc => ?_)
        · have hk3 := of_decide_eq_true hc
          refine awp_seq ?_
          refine awp_seq ?_
          by_cases hin : 0 ≤ x.node ∧ x.node < (c.length : Int)
          case' pos => (obtain ⟨j, hnj⟩ := Int.eq_ofNat_of_zero_le hin.1)
          case' pos => (have hjl : j < c.length := by omega)
          case' pos => (have hpj := pow_lt10 (k := j) (by omega))
          case' pos => (have hsd : (req ||| exc) / 2 ^ j ≤ req ||| exc := Nat.div_le_self _ _)
          case' pos => (have hej := or_lt10 he (show j < 10 by omega))
          case' pos => (have hrj := or_lt10 hr (show j < 10 by omega))
          case' pos => rw [hnj]
          case' neg => by_cases hneg : x.node < 0
          all_goals (
            refine awp_region ?_
            first | refine aops_p (ap_fieldAddr (off := 1) (sz := 1) (g := false) rfl rfl) rfl rfl rfl ?_ | refine aops_p (ap_fieldAddr_el (off := 1) (sz := 1) (g := false) rfl rfl zRc) rfl rfl rfl ?_
            first | refine aops_q (aq_load1 rfl zUpd List.not_mem_nil rfl zRc) rfl rfl rfl ?_ | refine aops_q (aq_load_el1 rfl rfl zScal (fun _ h => absurd h List.not_mem_nil)) rfl rfl rfl ?_ | refine aops_q (aq_load_el1' rfl rfl zScal (fun _ h => absurd h List.not_mem_nil)) rfl rfl rfl ?_ | refine aops_q (aq_load_own1 rfl zUpd List.not_mem_nil rfl zAss zScal) rfl rfl rfl ?_
            refine aops_p (ap_cmp rfl rfl rfl) rfl rfl rfl ?_
            refine aops_p (ap_move rfl) rfl rfl rfl ?_
            all_goals (first | (refine aops_yes rfl rfl rfl rfl zDec ?_; (first | refine aops_p (ap_fieldAddr (off := 1) (sz := 1) (g := false) rfl rfl) rfl rfl rfl ?_ | refine aops_p (ap_fieldAddr_el (off := 1) (sz := 1) (g := false) rfl rfl zRc) rfl rfl rfl ?_)) | refine aops_no_u rfl rfl rfl ?_ | refine aops_no_f rfl rfl rfl rfl zDec ?_ | (refine aops_guard_f rfl rfl rfl rfl (fun hg => ?_) (fun hg => ?_); case' _ => (first | refine aops_p (ap_fieldAddr (off := 1) (sz := 1) (g := false) rfl rfl) rfl rfl rfl ?_ | refine aops_p (ap_fieldAddr_el (off := 1) (sz := 1) (g := false) rfl rfl zRc) rfl rfl rfl ?_)))
            all_goals (first | (refine aops_yes rfl rfl rfl rfl zDec ?_; (first | refine aops_q (aq_load1 rfl zUpd List.not_mem_nil rfl zRc) rfl rfl rfl ?_ | refine aops_q (aq_load_el1 rfl rfl zScal (fun _ h => absurd h List.not_mem_nil)) rfl rfl rfl ?_ | refine aops_q (aq_load_el1' rfl rfl zScal (fun _ h => absurd h List.not_mem_nil)) rfl rfl rfl ?_ | refine aops_q (aq_load_own1 rfl zUpd List.not_mem_nil rfl zAss zScal) rfl rfl rfl ?_)) | refine aops_no_u rfl rfl rfl ?_ | refine aops_no_f rfl rfl rfl rfl zDec ?_ | (refine aops_guard_f rfl rfl rfl rfl (fun hg => ?_) (fun hg => ?_); case' _ => (first | refine aops_q (aq_load1 rfl zUpd List.not_mem_nil rfl zRc) rfl rfl rfl ?_ | refine aops_q (aq_load_el1 rfl rfl zScal (fun _ h => absurd h List.not_mem_nil)) rfl rfl rfl ?_ | refine aops_q (aq_load_el1' rfl rfl zScal (fun _ h => absurd h List.not_mem_nil)) rfl rfl rfl ?_ | refine aops_q (aq_load_own1 rfl zUpd List.not_mem_nil rfl zAss zScal) rfl rfl rfl ?_)))
            all_goals (first | (refine aops_yes rfl rfl rfl rfl zDec ?_; (first | refine aops_p (ap_fieldAddr (off := 0) (sz := 1) (g := false) rfl rfl) rfl rfl rfl ?_ | refine aops_p (ap_fieldAddr_el (off := 0) (sz := 1) (g := false) rfl rfl zRc) rfl rfl rfl ?_)) | refine aops_no_u rfl rfl rfl ?_ | refine aops_no_f rfl rfl rfl rfl zDec ?_ | (refine aops_guard_f rfl rfl rfl rfl (fun hg => ?_) (fun hg => ?_); case' _ => (first | refine aops_p (ap_fieldAddr (off := 0) (sz := 1) (g := false) rfl rfl) rfl rfl rfl ?_ | refine aops_p (ap_fieldAddr_el (off := 0) (sz := 1) (g := false) rfl rfl zRc) rfl rfl rfl ?_)))
            all_goals (first | (refine aops_yes rfl rfl rfl rfl zDec ?_; (first | refine aops_q (aq_load1 rfl zUpd List.not_mem_nil rfl zRc) rfl rfl rfl ?_ | refine aops_q (aq_load_el1 rfl rfl zScal (fun _ h => absurd h List.not_mem_nil)) rfl rfl rfl ?_ | refine aops_q (aq_load_el1' rfl rfl zScal (fun _ h => absurd h List.not_mem_nil)) rfl rfl rfl ?_ | refine aops_q (aq_load_own1 rfl zUpd List.not_mem_nil rfl zAss zScal) rfl rfl rfl ?_)) | refine aops_no_u rfl rfl rfl ?_ | refine aops_no_f rfl rfl rfl rfl zDec ?_ | (refine aops_guard_f rfl rfl rfl rfl (fun hg => ?_) (fun hg => ?_); case' _ => (first | refine aops_q (aq_load1 rfl zUpd List.not_mem_nil rfl zRc) rfl rfl rfl ?_ | refine aops_q (aq_load_el1 rfl rfl zScal (fun _ h => absurd h List.not_mem_nil)) rfl rfl rfl ?_ | refine aops_q (aq_load_el1' rfl rfl zScal (fun _ h => absurd h List.not_mem_nil)) rfl rfl rfl ?_ | refine aops_q (aq_load_own1 rfl zUpd List.not_mem_nil rfl zAss zScal) rfl rfl rfl ?_)))
            all_goals (first | (refine aops_yes rfl rfl rfl rfl zDec ?_; (first | refine aops_len rfl rfl rfl rfl (fun _ => ?_) | refine aops_p (ap_len_arr rfl zUpd rfl) rfl rfl rfl ?_ | refine aops_p (ap_len_nil rfl rfl) rfl rfl rfl ?_)) | refine aops_no_u rfl rfl rfl ?_ | refine aops_no_f rfl rfl rfl rfl zDec ?_ | (refine aops_guard_f rfl rfl rfl rfl (fun hg => ?_) (fun hg => ?_); case' _ => (first | refine aops_len rfl rfl rfl rfl (fun _ => ?_) | refine aops_p (ap_len_arr rfl zUpd rfl) rfl rfl rfl ?_ | refine aops_p (ap_len_nil rfl rfl) rfl rfl rfl ?_)))
            all_goals (first | (refine aops_yes rfl rfl rfl rfl zDec ?_; (refine aops_p (ap_cmp rfl rfl rfl) rfl rfl rfl ?_)) | refine aops_no_u rfl rfl rfl ?_ | refine aops_no_f rfl rfl rfl rfl zDec ?_ | (refine aops_guard_f rfl rfl rfl rfl (fun hg => ?_) (fun hg => ?_); case' _ => (refine aops_p (ap_cmp rfl rfl rfl) rfl rfl rfl ?_)))
            all_goals (first | refine aops_p (ap_pick_true rfl zDec rfl) rfl rfl rfl ?_ | refine aops_p (ap_pick_false rfl zDec rfl) rfl rfl rfl ?_)
            all_goals (refine aops_p (ap_move rfl) rfl rfl rfl ?_)
            all_goals (first | (refine aops_yes rfl rfl rfl rfl zDec ?_; (refine aops_p (ap_move rfl) rfl rfl rfl ?_)) | refine aops_no_u rfl rfl rfl ?_ | refine aops_no_f rfl rfl rfl rfl zDec ?_ | (refine aops_guard_f rfl rfl rfl rfl (fun hg => ?_) (fun hg => ?_); case' _ => (refine aops_p (ap_move rfl) rfl rfl rfl ?_)))
            all_goals (first | (refine aops_yes rfl rfl rfl rfl zDec ?_; (refine aops_p (ap_move rfl) rfl rfl rfl ?_)) | refine aops_no_u rfl rfl rfl ?_ | refine aops_no_f rfl rfl rfl rfl zDec ?_ | (refine aops_guard_f rfl rfl rfl rfl (fun hg => ?_) (fun hg => ?_); case' _ => (refine aops_p (ap_move rfl) rfl rfl rfl ?_)))
            all_goals (first | (refine aops_yes rfl rfl rfl rfl zDec ?_; (refine aops_p (ap_bits rfl rfl rfl (by omega) (by omega)) rfl rfl rfl ?_)) | refine aops_no_u rfl rfl rfl ?_ | refine aops_no_f rfl rfl rfl rfl zDec ?_ | (refine aops_guard_f rfl rfl rfl rfl (fun hg => ?_) (fun hg => ?_); case' _ => (refine aops_p (ap_bits rfl rfl rfl (by omega) (by omega)) rfl rfl rfl ?_)))
            all_goals (first | (refine aops_yes rfl rfl rfl rfl zDec ?_; (first | refine aops_p (ap_fieldAddr (off := 1) (sz := 1) (g := false) rfl rfl) rfl rfl rfl ?_ | refine aops_p (ap_fieldAddr_el (off := 1) (sz := 1) (g := false) rfl rfl zRc) rfl rfl rfl ?_)) | refine aops_no_u rfl rfl rfl ?_ | refine aops_no_f rfl rfl rfl rfl zDec ?_ | (refine aops_guard_f rfl rfl rfl rfl (fun hg => ?_) (fun hg => ?_); case' _ => (first | refine aops_p (ap_fieldAddr (off := 1) (sz := 1) (g := false) rfl rfl) rfl rfl rfl ?_ | refine aops_p (ap_fieldAddr_el (off := 1) (sz := 1) (g := false) rfl rfl zRc) rfl rfl rfl ?_)))
            all_goals (first | (refine aops_yes rfl rfl rfl rfl zDec ?_; (first | refine aops_q (aq_load1 rfl zUpd List.not_mem_nil rfl zRc) rfl rfl rfl ?_ | refine aops_q (aq_load_el1 rfl rfl zScal (fun _ h => absurd h List.not_mem_nil)) rfl rfl rfl ?_ | refine aops_q (aq_load_el1' rfl rfl zScal (fun _ h => absurd h List.not_mem_nil)) rfl rfl rfl ?_ | refine aops_q (aq_load_own1 rfl zUpd List.not_mem_nil rfl zAss zScal) rfl rfl rfl ?_)) | refine aops_no_u rfl rfl rfl ?_ | refine aops_no_f rfl rfl rfl rfl zDec ?_ | (refine aops_guard_f rfl rfl rfl rfl (fun hg => ?_) (fun hg => ?_); case' _ => (first | refine aops_q (aq_load1 rfl zUpd List.not_mem_nil rfl zRc) rfl rfl rfl ?_ | refine aops_q (aq_load_el1 rfl rfl zScal (fun _ h => absurd h List.not_mem_nil)) rfl rfl rfl ?_ | refine aops_q (aq_load_el1' rfl rfl zScal (fun _ h => absurd h List.not_mem_nil)) rfl rfl rfl ?_ | refine aops_q (aq_load_own1 rfl zUpd List.not_mem_nil rfl zAss zScal) rfl rfl rfl ?_)))
            all_goals (first | (refine aops_yes rfl rfl rfl rfl zDec ?_; (refine aops_p (ap_shr rfl rfl (by omega)) rfl rfl rfl ?_)) | refine aops_no_u rfl rfl rfl ?_ | refine aops_no_f rfl rfl rfl rfl zDec ?_ | (refine aops_guard_f rfl rfl rfl rfl (fun hg => ?_) (fun hg => ?_); case' _ => (refine aops_p (ap_shr rfl rfl (by omega)) rfl rfl rfl ?_)))
            all_goals (first | (refine aops_yes rfl rfl rfl rfl zDec ?_; (refine aops_p (ap_bits (q := 1) rfl rfl rfl (by omega) (by omega)) rfl rfl rfl ?_)) | refine aops_no_u rfl rfl rfl ?_ | refine aops_no_f rfl rfl rfl rfl zDec ?_ | (refine aops_guard_f rfl rfl rfl rfl (fun hg => ?_) (fun hg => ?_); case' _ => (refine aops_p (ap_bits (q := 1) rfl rfl rfl (by omega) (by omega)) rfl rfl rfl ?_)))
            all_goals (first | (refine aops_yes rfl rfl rfl rfl zDec ?_; (refine aops_p (ap_cmp rfl rfl rfl) rfl rfl rfl ?_)) | refine aops_no_u rfl rfl rfl ?_ | refine aops_no_f rfl rfl rfl rfl zDec ?_ | (refine aops_guard_f rfl rfl rfl rfl (fun hg => ?_) (fun hg => ?_); case' _ => (refine aops_p (ap_cmp rfl rfl rfl) rfl rfl rfl ?_)))
            all_goals (first | refine aops_p (ap_pick_true rfl zDec rfl) rfl rfl rfl ?_ | refine aops_p (ap_pick_false rfl zDec rfl) rfl rfl rfl ?_)
            all_goals (refine aops_p (ap_move rfl) rfl rfl rfl ?_)
            all_goals (first | (refine aops_yes rfl rfl rfl rfl zDec ?_; (first | refine aops_p (ap_fieldAddr (off := 2) (sz := 1) (g := false) rfl rfl) rfl rfl rfl ?_ | refine aops_p (ap_fieldAddr_el (off := 2) (sz := 1) (g := false) rfl rfl zRc) rfl rfl rfl ?_)) | refine aops_no_u rfl rfl rfl ?_ | refine aops_no_f rfl rfl rfl rfl zDec ?_ | (refine aops_guard_f rfl rfl rfl rfl (fun hg => ?_) (fun hg => ?_); case' _ => (first | refine aops_p (ap_fieldAddr (off := 2) (sz := 1) (g := false) rfl rfl) rfl rfl rfl ?_ | refine aops_p (ap_fieldAddr_el (off := 2) (sz := 1) (g := false) rfl rfl zRc) rfl rfl rfl ?_)))
            all_goals (first | (refine aops_yes rfl rfl rfl rfl zDec ?_; (first | refine aops_q (aq_load1 rfl zUpd List.not_mem_nil rfl zRc) rfl rfl rfl ?_ | refine aops_q (aq_load_el1 rfl rfl zScal (fun _ h => absurd h List.not_mem_nil)) rfl rfl rfl ?_ | refine aops_q (aq_load_el1' rfl rfl zScal (fun _ h => absurd h List.not_mem_nil)) rfl rfl rfl ?_ | refine aops_q (aq_load_own1 rfl zUpd List.not_mem_nil rfl zAss zScal) rfl rfl rfl ?_)) | refine aops_no_u rfl rfl rfl ?_ | refine aops_no_f rfl rfl rfl rfl zDec ?_ | (refine aops_guard_f rfl rfl rfl rfl (fun hg => ?_) (fun hg => ?_); case' _ => (first | refine aops_q (aq_load1 rfl zUpd List.not_mem_nil rfl zRc) rfl rfl rfl ?_ | refine aops_q (aq_load_el1 rfl rfl zScal (fun _ h => absurd h List.not_mem_nil)) rfl rfl rfl ?_ | refine aops_q (aq_load_el1' rfl rfl zScal (fun _ h => absurd h List.not_mem_nil)) rfl rfl rfl ?_ | refine aops_q (aq_load_own1 rfl zUpd List.not_mem_nil rfl zAss zScal) rfl rfl rfl ?_)))
            all_goals (first | (refine aops_yes rfl rfl rfl rfl zDec ?_; (first | refine aops_len rfl rfl rfl rfl (fun _ => ?_) | refine aops_p (ap_len_arr rfl zUpd rfl) rfl rfl rfl ?_ | refine aops_p (ap_len_nil rfl rfl) rfl rfl rfl ?_)) | refine aops_no_u rfl rfl rfl ?_ | refine aops_no_f rfl rfl rfl rfl zDec ?_ | (refine aops_guard_f rfl rfl rfl rfl (fun hg => ?_) (fun hg => ?_); case' _ => (first | refine aops_len rfl rfl rfl rfl (fun _ => ?_) | refine aops_p (ap_len_arr rfl zUpd rfl) rfl rfl rfl ?_ | refine aops_p (ap_len_nil rfl rfl) rfl rfl rfl ?_)))
            all_goals (first | (refine aops_yes rfl rfl rfl rfl zDec ?_; (refine aops_p (ap_cmp rfl rfl rfl) rfl rfl rfl ?_)) | refine aops_no_u rfl rfl rfl ?_ | refine aops_no_f rfl rfl rfl rfl zDec ?_ | (refine aops_guard_f rfl rfl rfl rfl (fun hg => ?_) (fun hg => ?_); case' _ => (refine aops_p (ap_cmp rfl rfl rfl) rfl rfl rfl ?_)))
            all_goals (first | refine aops_p (ap_pick_true rfl zDec rfl) rfl rfl rfl ?_ | refine aops_p (ap_pick_false rfl zDec rfl) rfl rfl rfl ?_)
            all_goals (
              refine aops_nil ?_
              refine seqQ_n ?_
              refine awp_cond rfl (fun hc => ?_) (fun hc => ?_)
              · first
                | (exact absurd hc (by decide))
                | (refine awp_seq ?_
                   refine awp_region ?_
                   refine aops_p (ap_assign rfl) rfl rfl rfl ?_
                   refine aops_nil ?_
                   refine seqQ_n ?_
                   refine awp_ret ?_
                   refine seqQ_r ?_
                   refine blockQ_r ?_
                   refine seqQ_r ?_
                   refine post_is (.tmp rfl .nil) .nil ?_
                   first
                   | (rw [right_3x hk3 (has_out hcl hr he hin)]; rfl)
                   | (rw [right_3n hk3 (fun e => of_neq_true (show (!decide ((((tvs x.kids).length : Nat) : Int) = 2)) = true by with_reducible assumption) (by omega))]; rfl)
                   | (have hbit : decide ((((req ||| exc) / 2 ^ j &&& 1 : Nat) : Int) = 1) = true := (by with_reducible assumption); rw [Go.Tq.shr_bit1] at hbit; rw [right_3x hk3 (by rw [hnj]; exact has_bitF hcl hr he hbit)]; rfl)
                  )
              · first
                | (exact absurd hc (by decide))
                | (have hl2 := of_neq_false (show (!decide ((((tvs x.kids).length : Nat) : Int) = 2)) = false by with_reducible assumption)
                   have hl3 : x.kids.length = 2 := by omega
                   obtain ⟨a, b, hab⟩ := two_kids hl3
                   have hbit : decide ((((req ||| exc) / 2 ^ j &&& 1 : Nat) : Int) = 1) = false := by with_reducible assumption
                   rw [Go.Tq.shr_bit1] at hbit
                   have hh : has (freeC c req exc) x.node = true := by rw [hnj]; exact has_yes hcl hr he hjl hbit
                   have hy0 : (tvs x.kids)[0]? = some (tv a) := tvs_get (by rw [hab]; rfl)
                   have hy1 : (tvs x.kids)[1]? = some (tv b) := tvs_get (by rw [hab]; rfl)
                   refine awp_skip ?_
                   refine seqQ_n ?_
                   refine awp_seq ?_
                   refine awp_draw (Hm := []) zKr zSplit ?_
                   first | refine aany_take 0 rfl (.none rfl) zKr zKr zKr (ar_load rfl zUpd rfl rfl zRc) rfl rfl ?_ | refine aany_take 0 rfl (.none rfl) zKr zKr zKr (AQ.ar (aq_load_el rfl rfl rfl rfl (fun _ h => h))) rfl rfl ?_
                   first | refine aany_take 1 rfl (.none rfl) zKr zKr zKr (AP.ar (ap_fieldAddr (off := 2) (sz := 1) (g := false) rfl rfl)) rfl rfl ?_ | refine aany_take 1 rfl (.none rfl) zKr zKr zKr (AP.ar (ap_fieldAddr_el (off := 2) (sz := 1) (g := false) rfl rfl zRc)) rfl rfl ?_
                   first | refine aany_take 2 rfl (.none rfl) zKr zKr zKr (ar_load1 rfl zUpd rfl zRc) rfl rfl ?_ | refine aany_take 2 rfl (.none rfl) zKr zKr zKr (AQ.ar (aq_load_el1 rfl rfl zScal (fun _ h => h))) rfl rfl ?_ | refine aany_take 2 rfl (.none rfl) zKr zKr zKr (AQ.ar (aq_load_el1' rfl rfl zScal (fun _ h => h))) rfl rfl ?_ | refine aany_take 2 rfl (.none rfl) zKr zKr zKr (ar_load_own1 rfl zUpd rfl zAss zScal) rfl rfl ?_
                   refine aany_take 3 rfl (.none rfl) zKr zKr zKr (AP.ar (ap_index (k := 0) rfl rfl rfl rfl (by decide) rfl hy0)) rfl rfl ?_
                   first | refine aany_take 4 rfl (.none rfl) zKr zKr zKr (ar_load rfl zUpd rfl rfl zRc) rfl rfl ?_ | refine aany_take 4 rfl (.none rfl) zKr zKr zKr (AQ.ar (aq_load_el rfl rfl rfl rfl (fun _ h => h))) rfl rfl ?_
                   refine aany_take 5 rfl (.none rfl) zKr zKr zKr (AP.ar (ap_move rfl)) rfl rfl ?_
                   refine aany_take 6 rfl (.none rfl) zKr zKr zKr (AP.ar (ap_move rfl)) rfl rfl ?_
                   first | refine aany_take 7 rfl (.none rfl) zKr zKr zKr (AP.ar (ap_fieldAddr (off := 1) (sz := 1) (g := false) rfl rfl)) rfl rfl ?_ | refine aany_take 7 rfl (.none rfl) zKr zKr zKr (AP.ar (ap_fieldAddr_el (off := 1) (sz := 1) (g := false) rfl rfl zRc)) rfl rfl ?_
                   first | refine aany_take 8 rfl (.none rfl) zKr zKr zKr (ar_load1 rfl zUpd rfl zRc) rfl rfl ?_ | refine aany_take 8 rfl (.none rfl) zKr zKr zKr (AQ.ar (aq_load_el1 rfl rfl zScal (fun _ h => h))) rfl rfl ?_ | refine aany_take 8 rfl (.none rfl) zKr zKr zKr (AQ.ar (aq_load_el1' rfl rfl zScal (fun _ h => h))) rfl rfl ?_ | refine aany_take 8 rfl (.none rfl) zKr zKr zKr (ar_load_own1 rfl zUpd rfl zAss zScal) rfl rfl ?_
                   refine aany_take 9 rfl (.none rfl) zKr zKr zKr (AP.ar (ap_shl (p := 1) rfl rfl rfl (by omega) (by omega))) rfl rfl ?_
                   refine aany_take 10 rfl (.none rfl) zKr zKr zKr (AP.ar (ap_bits rfl rfl rfl (by omega) (by omega))) rfl rfl ?_
                   refine aany_one 11 zKr rfl (.none rfl) ?_
                   refine aops_call_b zRc (ih a (by rw [hab]; simp) req (exc ||| 1 * 2 ^ j) hr hej) rfl rfl (fun c100 hc100 => ?_)
                   refine aops_nil ?_
                   refine aany_take 12 rfl (.none rfl) zKr zKr zKr (AP.ar (ap_move rfl)) rfl rfl ?_
                   refine aany_guard 12 rfl (fun hg => ?_) (fun hg => ?_)
                   rotate_left
                   case' _ =>
                     first
                     | (exact absurd hg (by decide))
                     | (exfalso; simp at hg; done)
                     | (refine aany_skip 13 rfl (.no rfl rfl (by first | (show _ = false; with_reducible assumption) | exact zDec)) zKr zKr zKr rfl rfl ?_
                        refine aany_skip 14 rfl (.no rfl rfl (by first | (show _ = false; with_reducible assumption) | exact zDec)) zKr zKr zKr rfl rfl ?_
                        refine aany_skip 15 rfl (.no rfl rfl (by first | (show _ = false; with_reducible assumption) | exact zDec)) zKr zKr zKr rfl rfl ?_
                        refine aany_skip 16 rfl (.no rfl rfl (by first | (show _ = false; with_reducible assumption) | exact zDec)) zKr zKr zKr rfl rfl ?_
                        refine aany_skip 17 rfl (.no rfl rfl (by first | (show _ = false; with_reducible assumption) | exact zDec)) zKr zKr zKr rfl rfl ?_
                        refine aany_skip 18 rfl (.no rfl rfl (by first | (show _ = false; with_reducible assumption) | exact zDec)) zKr zKr zKr rfl rfl ?_
                        refine aany_skip 19 rfl (.no rfl rfl (by first | (show _ = false; with_reducible assumption) | exact zDec)) zKr zKr zKr rfl rfl ?_
                        refine aany_skip 20 rfl (.no rfl rfl (by first | (show _ = false; with_reducible assumption) | exact zDec)) zKr zKr zKr rfl rfl ?_
                        refine aany_skip 21 rfl (.no rfl rfl (by first | (show _ = false; with_reducible assumption) | exact zDec)) zKr zKr zKr rfl rfl ?_
                        refine aany_skip 22 rfl (.no rfl rfl (by first | (show _ = false; with_reducible assumption) | exact zDec)) zKr zKr zKr rfl rfl ?_
                        refine aany_skip 23 rfl (.no rfl rfl (by first | (show _ = false; with_reducible assumption) | exact zDec)) zKr zKr zKr rfl rfl ?_
                        refine aany_skip 24 rfl (.no rfl rfl (by first | (show _ = false; with_reducible assumption) | exact zDec)) zKr zKr zKr rfl rfl ?_
                        first | refine aany_take 25 rfl (.none rfl) zKr zKr zKr (AP.ar (ap_pick_true rfl zDec rfl)) rfl rfl ?_ | refine aany_take 25 rfl (.none rfl) zKr zKr zKr (AP.ar (ap_pick_false rfl zDec rfl)) rfl rfl ?_
                        refine aany_take 26 rfl (.none rfl) zKr zKr zKr (AP.ar (ap_assign rfl)) rfl rfl ?_
                        refine aany_nil zKr ?_
                       )
                   rotate_right
                   case' _ =>
                     first
                     | (exact absurd hg (by decide))
                     | (exfalso; simp at hg; done)
                     | (first | refine aany_take 13 rfl (.yes rfl rfl zDec) zKr zKr zKr (ar_load rfl zUpd rfl rfl zRc) rfl rfl ?_ | refine aany_take 13 rfl (.yes rfl rfl zDec) zKr zKr zKr (AQ.ar (aq_load_el rfl rfl rfl rfl (fun _ h => h))) rfl rfl ?_
                        first | refine aany_take 14 rfl (.yes rfl rfl zDec) zKr zKr zKr (AP.ar (ap_fieldAddr (off := 2) (sz := 1) (g := false) rfl rfl)) rfl rfl ?_ | refine aany_take 14 rfl (.yes rfl rfl zDec) zKr zKr zKr (AP.ar (ap_fieldAddr_el (off := 2) (sz := 1) (g := false) rfl rfl zRc)) rfl rfl ?_
                        first | refine aany_take 15 rfl (.yes rfl rfl zDec) zKr zKr zKr (ar_load1 rfl zUpd rfl zRc) rfl rfl ?_ | refine aany_take 15 rfl (.yes rfl rfl zDec) zKr zKr zKr (AQ.ar (aq_load_el1 rfl rfl zScal (fun _ h => h))) rfl rfl ?_ | refine aany_take 15 rfl (.yes rfl rfl zDec) zKr zKr zKr (AQ.ar (aq_load_el1' rfl rfl zScal (fun _ h => h))) rfl rfl ?_ | refine aany_take 15 rfl (.yes rfl rfl zDec) zKr zKr zKr (ar_load_own1 rfl zUpd rfl zAss zScal) rfl rfl ?_
                        refine aany_take 16 rfl (.yes rfl rfl zDec) zKr zKr zKr (AP.ar (ap_index (k := 1) rfl rfl rfl rfl (by decide) rfl hy1)) rfl rfl ?_
                        first | refine aany_take 17 rfl (.yes rfl rfl zDec) zKr zKr zKr (ar_load rfl zUpd rfl rfl zRc) rfl rfl ?_ | refine aany_take 17 rfl (.yes rfl rfl zDec) zKr zKr zKr (AQ.ar (aq_load_el rfl rfl rfl rfl (fun _ h => h))) rfl rfl ?_
                        refine aany_take 18 rfl (.yes rfl rfl zDec) zKr zKr zKr (AP.ar (ap_move rfl)) rfl rfl ?_
                        first | refine aany_take 19 rfl (.yes rfl rfl zDec) zKr zKr zKr (AP.ar (ap_fieldAddr (off := 1) (sz := 1) (g := false) rfl rfl)) rfl rfl ?_ | refine aany_take 19 rfl (.yes rfl rfl zDec) zKr zKr zKr (AP.ar (ap_fieldAddr_el (off := 1) (sz := 1) (g := false) rfl rfl zRc)) rfl rfl ?_
                        first | refine aany_take 20 rfl (.yes rfl rfl zDec) zKr zKr zKr (ar_load1 rfl zUpd rfl zRc) rfl rfl ?_ | refine aany_take 20 rfl (.yes rfl rfl zDec) zKr zKr zKr (AQ.ar (aq_load_el1 rfl rfl zScal (fun _ h => h))) rfl rfl ?_ | refine aany_take 20 rfl (.yes rfl rfl zDec) zKr zKr zKr (AQ.ar (aq_load_el1' rfl rfl zScal (fun _ h => h))) rfl rfl ?_ | refine aany_take 20 rfl (.yes rfl rfl zDec) zKr zKr zKr (ar_load_own1 rfl zUpd rfl zAss zScal) rfl rfl ?_
                        refine aany_take 21 rfl (.yes rfl rfl zDec) zKr zKr zKr (AP.ar (ap_shl (p := 1) rfl rfl rfl (by omega) (by omega))) rfl rfl ?_
                        refine aany_take 22 rfl (.yes rfl rfl zDec) zKr zKr zKr (AP.ar (ap_bits rfl rfl rfl (by omega) (by omega))) rfl rfl ?_
                        refine aany_take 23 rfl (.yes rfl rfl zDec) zKr zKr zKr (AP.ar (ap_move rfl)) rfl rfl ?_
                        refine aany_one 24 zKr rfl (.yes rfl rfl zDec) ?_
                        refine aops_call_b zRc (ih b (by rw [hab]; simp) (req ||| 1 * 2 ^ j) exc hrj he) rfl rfl (fun c113 hc113 => ?_)
                        refine aops_nil ?_
                        first | refine aany_take 25 rfl (.none rfl) zKr zKr zKr (AP.ar (ap_pick_true rfl zDec rfl)) rfl rfl ?_ | refine aany_take 25 rfl (.none rfl) zKr zKr zKr (AP.ar (ap_pick_false rfl zDec rfl)) rfl rfl ?_
                        refine aany_take 26 rfl (.none rfl) zKr zKr zKr (AP.ar (ap_assign rfl)) rfl rfl ?_
                        refine aany_nil zKr ?_
                       )
                   all_goals (
                     refine seqQ_n ?_
                     refine awp_ret ?_
                     refine blockQ_r ?_
                     refine seqQ_r ?_
                     refine post_is (.tmp rfl .nil) .nil ?_
                     rw [right_3t hk3 hab hnj hh]
                     first | (rw [hc100, show c100 = false by with_reducible assumption, Bool.false_and]; rfl) | (rw [hc100, hc113, show c100 = true by with_reducible assumption, Bool.true_and]; rfl)
                     )
                  )
              )
            )
        · have hk3 := of_decide_eq_false hc
          refine awp_skip ?_
          refine blockQ_n ?_
          refine seqQ_n ?_
          refine awp_seq ?_
          refine awp_region ?_
          refine aops_p (ap_assign rfl) rfl rfl rfl ?_
          refine aops_nil ?_
          refine seqQ_n ?_
          refine awp_ret ?_
          refine post_is (.tmp rfl .nil) .nil ?_
          rw [right_0 hk1 hk2 hk3]; rfl
theorem rtsize_con : ∀ (x : Tr), tsz x ≤ 1000000000 → Con Try.prog 68 [tv x] [] (Is (.i (tsz x : Int)) []) := by
  have hcap : capB = 140737488355328 := rfl
  intro x
  induction x using Tr.ind with
  | _ x ih =>
    intro hsz
    have hl := tvs_len x.kids
    have hs0 : tsz x = 1 + tszL x.kids := rfl
    refine con_intro Try.func68 rfl Try.call68 rfl ?_
    refine awp_seq ?_
    refine awp_region ?_
    refine aops_box rfl zFlat rfl rfl (fun b1 => ?_)
    refine aops_p (ap_assign rfl) rfl rfl rfl ?_
    refine aops_nil ?_
    refine seqQ_n ?_
    refine awp_seq ?_
    refine awp_region ?_
    refine aops_p (ap_assign rfl) rfl rfl rfl ?_
    refine aops_nil ?_
    refine seqQ_n ?_
    refine awp_seq ?_
    refine awp_seq ?_
    refine awp_region ?_
    first | refine aops_p (ap_fieldAddr (off := 2) (sz := 1) (g := false) rfl rfl) rfl rfl rfl ?_ | refine aops_p (ap_fieldAddr_el (off := 2) (sz := 1) (g := false) rfl rfl zRc) rfl rfl rfl ?_
    first | refine aops_q (aq_load1 rfl zUpd List.not_mem_nil rfl zRc) rfl rfl rfl ?_ | refine aops_q (aq_load_el1 rfl rfl zScal (fun _ h => absurd h List.not_mem_nil)) rfl rfl rfl ?_ | refine aops_q (aq_load_el1' rfl rfl zScal (fun _ h => absurd h List.not_mem_nil)) rfl rfl rfl ?_ | refine aops_q (aq_load_own1 rfl zUpd List.not_mem_nil rfl zAss zScal) rfl rfl rfl ?_
    first | refine aops_len rfl rfl rfl rfl (fun _ => ?_) | refine aops_p (ap_len_arr rfl zUpd rfl) rfl rfl rfl ?_ | refine aops_p (ap_len_nil rfl rfl) rfl rfl rfl ?_
    refine aops_p (ap_move rfl) rfl rfl rfl ?_
    refine aops_nil ?_
    refine seqQ_n ?_
    refine awp_block ?_
    refine awp_loop2 [7, 8] [.box b1 _ _] (fun (k : Nat) (n : Nat) r => (3, .i (n : Int)) :: (9, .i (k : Int)) :: r) (fun (k : Nat) (n : Nat) r => r) (fun (k : Nat) (n : Nat) => k ≤ x.kids.length ∧ n + tszL (x.kids.drop k) = tsz x) (fun (k : Nat) (n : Nat) => x.kids.length - k) (0) (1) zRc ⟨by omega, by simp; omega⟩ (wk zSub (by repeat (first | exact .nil | refine .cons (by first | exact .here | exact .there .here | exact .there (.there .here) | exact .there (.there (.there .here)) | exact .there (.there (.there (.there .here)))) ?_))) ?_
    intro k n ⟨hk, hI⟩
    refine awp_seq ?_
    refine awp_region ?_
    refine aops_p (ap_cmp rfl rfl rfl) rfl rfl rfl ?_
    refine aops_nil ?_
    refine seqQ_n ?_
    refine awp_seq ?_
    refine awp_cond rfl (fun hc => ?_) (fun hc => ?_)
    · have hlt := of_decide_eq_true hc
      obtain ⟨y, hy, hd⟩ := drop_cons (l := x.kids) (k := k) (by omega)
      have hy' := tvs_get hy
      have hym := List.mem_of_getElem? hy
      rw [hd, tszL_cons] at hI
      refine awp_skip ?_
      refine seqQ_n ?_
      refine awp_seq ?_
      refine awp_block ?_
      refine awp_seq ?_
      refine awp_region ?_
      first | refine aops_p (ap_index rfl rfl rfl rfl (by decide) rfl zAss) rfl rfl rfl ?_ | refine aops_p (ap_index rfl rfl rfl rfl (by decide) (by omega) zAss) rfl rfl rfl ?_ | refine aops_p (ap_index_own rfl rfl rfl rfl rfl (by first | omega | (simp only [List.length_map, List.length_set, avs_len]; omega))) rfl rfl rfl ?_
      first | refine aops_q (aq_load rfl zUpd List.not_mem_nil rfl rfl zRc) rfl rfl rfl ?_ | refine aops_q (aq_load_el rfl rfl rfl rfl (fun _ h => absurd h List.not_mem_nil)) rfl rfl rfl ?_
      refine aops_alloc rfl zRc rfl rfl (fun b5 => ?_)
      first | refine aops_store rfl rfl zFlat zUpd rfl zRc ?_ | refine aops_store_own1 rfl rfl zScal zUpd rfl (by simp only [List.length_set, List.length_map]; omega) ?_
      refine aops_nil ?_
      refine seqQ_n ?_
      refine awp_region ?_
      refine aops_p (ap_move rfl) rfl rfl rfl ?_
      first | refine aops_q (aq_load rfl zUpd List.not_mem_nil rfl rfl zRc) rfl rfl rfl ?_ | refine aops_q (aq_load_el rfl rfl rfl rfl (fun _ h => absurd h List.not_mem_nil)) rfl rfl rfl ?_
      refine aops_call_v zRc (ih y hym (by have := tszL_mem hym; omega)) rfl rfl ?_
      refine aops_p (ap_arith rfl rfl rfl (by omega)) rfl rfl rfl ?_
      refine aops_p (ap_assign rfl) rfl rfl rfl ?_
      refine aops_nil ?_
      refine blockQ_n ?_
      refine seqQ_n ?_
      refine awp_region ?_
      refine aops_p (ap_arith rfl rfl rfl (by omega)) rfl rfl rfl ?_
      refine aops_p (ap_move rfl) rfl rfl rfl ?_
      refine aops_nil ?_
      refine seqQ_n ?_
      refine ⟨k + 1, n + tsz y, ⟨by omega, by omega⟩, by omega, wk zSub (by repeat (first | exact .nil | refine .cons (by first | exact .here | exact .there .here | exact .there (.there .here) | exact .there (.there (.there .here)) | exact .there (.there (.there (.there .here)))) ?_))⟩
    · have hge := of_decide_eq_false hc
      rw [drop_nil (by omega)] at hI; simp only [tszL] at hI
      refine awp_exit ?_
      refine seqQ_x ?_
      refine seqQ_x ?_
      refine blockQ_x rfl ?_
      refine seqQ_n ?_
      refine awp_seq ?_
      refine awp_region ?_
      refine aops_p (ap_move rfl) rfl rfl rfl ?_
      refine aops_p (ap_assign rfl) rfl rfl rfl ?_
      refine aops_nil ?_
      refine seqQ_n ?_
      refine awp_ret ?_
      refine post_is (.tmp rfl .nil) .nil ?_
      rw [← hI]; rfl
theorem rcheckT_con (c : List Mem) (hs : ∀ m ∈ c, sizeT m.t ≤ 1000000000) (x : Tr) (hx : tsz x ≤ 1000000000) : Con Try.prog 66 [cv c, tv x] [] (Is (.b (checkTr c x)) []) := by
  have hcap : capB = 140737488355328 := rfl
  refine con_intro Try.func66 rfl Try.call66 rfl ?_
  refine awp_seq ?_
  refine awp_region ?_
  refine aops_box rfl zFlat rfl rfl (fun b2 => ?_)
  refine aops_box rfl zFlat rfl rfl (fun b3 => ?_)
  refine aops_p (ap_assign rfl) rfl rfl rfl ?_
  refine aops_nil ?_
  refine seqQ_n ?_
  refine awp_seq ?_
  refine awp_region ?_
  first | refine aops_q (aq_load rfl zUpd List.not_mem_nil rfl rfl zRc) rfl rfl rfl ?_ | refine aops_q (aq_load_el rfl rfl rfl rfl (fun _ h => absurd h List.not_mem_nil)) rfl rfl rfl ?_
  refine aops_call_v zRc (r6valid_con c hs) rfl rfl ?_
  refine aops_p (ap_cmp rfl rfl rfl) rfl rfl rfl ?_
  refine aops_p (ap_move rfl) rfl rfl rfl ?_
  all_goals (first | (refine aops_yes rfl rfl rfl rfl zDec ?_; (first | refine aops_q (aq_load rfl zUpd List.not_mem_nil rfl rfl zRc) rfl rfl rfl ?_ | refine aops_q (aq_load_el rfl rfl rfl rfl (fun _ h => absurd h List.not_mem_nil)) rfl rfl rfl ?_)) | refine aops_no_u rfl rfl rfl ?_ | refine aops_no_t rfl rfl rfl rfl zDec ?_ | (refine aops_guard_t rfl rfl rfl rfl (fun hg => ?_) (fun hg => ?_); case' _ => (first | refine aops_q (aq_load rfl zUpd List.not_mem_nil rfl rfl zRc) rfl rfl rfl ?_ | refine aops_q (aq_load_el rfl rfl rfl rfl (fun _ h => absurd h List.not_mem_nil)) rfl rfl rfl ?_)))
  all_goals (first | (refine aops_yes rfl rfl rfl rfl zDec ?_; (refine aops_call_v zRc (rtsize_con x hx) rfl rfl ?_)) | refine aops_no_u rfl rfl rfl ?_ | refine aops_no_t rfl rfl rfl rfl zDec ?_ | (refine aops_guard_t rfl rfl rfl rfl (fun hg => ?_) (fun hg => ?_); case' _ => (refine aops_call_v zRc (rtsize_con x hx) rfl rfl ?_)))
  all_goals (first | (refine aops_yes rfl rfl rfl rfl zDec ?_; (refine aops_p (ap_cmp rfl rfl rfl) rfl rfl rfl ?_)) | refine aops_no_u rfl rfl rfl ?_ | refine aops_no_t rfl rfl rfl rfl zDec ?_ | (refine aops_guard_t rfl rfl rfl rfl (fun hg => ?_) (fun hg => ?_); case' _ => (refine aops_p (ap_cmp rfl rfl rfl) rfl rfl rfl ?_)))
  all_goals (first | refine aops_p (ap_pick_true rfl zDec rfl) rfl rfl rfl ?_ | refine aops_p (ap_pick_false rfl zDec rfl) rfl rfl rfl ?_)
  all_goals (refine aops_p (ap_move rfl) rfl rfl rfl ?_)
  all_goals (first | (refine aops_yes rfl rfl rfl rfl zDec ?_; (first | refine aops_q (aq_load rfl zUpd List.not_mem_nil rfl rfl zRc) rfl rfl rfl ?_ | refine aops_q (aq_load_el rfl rfl rfl rfl (fun _ h => absurd h List.not_mem_nil)) rfl rfl rfl ?_)) | refine aops_no_u rfl rfl rfl ?_ | refine aops_no_t rfl rfl rfl rfl zDec ?_ | (refine aops_guard_t rfl rfl rfl rfl (fun hg => ?_) (fun hg => ?_); case' _ => (first | refine aops_q (aq_load rfl zUpd List.not_mem_nil rfl rfl zRc) rfl rfl rfl ?_ | refine aops_q (aq_load_el rfl rfl rfl rfl (fun _ h => absurd h List.not_mem_nil)) rfl rfl rfl ?_)))
  all_goals (first | (refine aops_yes rfl rfl rfl rfl zDec ?_; (first | refine aops_q (aq_load rfl zUpd List.not_mem_nil rfl rfl zRc) rfl rfl rfl ?_ | refine aops_q (aq_load_el rfl rfl rfl rfl (fun _ h => absurd h List.not_mem_nil)) rfl rfl rfl ?_)) | refine aops_no_u rfl rfl rfl ?_ | refine aops_no_t rfl rfl rfl rfl zDec ?_ | (refine aops_guard_t rfl rfl rfl rfl (fun hg => ?_) (fun hg => ?_); case' _ => (first | refine aops_q (aq_load rfl zUpd List.not_mem_nil rfl rfl zRc) rfl rfl rfl ?_ | refine aops_q (aq_load_el rfl rfl rfl rfl (fun _ h => absurd h List.not_mem_nil)) rfl rfl rfl ?_)))
  all_goals (first | (refine aops_yes rfl rfl rfl rfl zDec ?_; (refine aops_call_b zRc (rright_con c (validC_len (of_decide_eq_true (by with_reducible assumption))) x 0 0 (by omega) (by omega)) rfl rfl (fun c16 hc16 => ?_))) | refine aops_no_u rfl rfl rfl ?_ | refine aops_no_t rfl rfl rfl rfl zDec ?_ | (refine aops_guard_t rfl rfl rfl rfl (fun hg => ?_) (fun hg => ?_); case' _ => (refine aops_call_b zRc (rright_con c (validC_len (of_decide_eq_true (by with_reducible assumption))) x 0 0 (by omega) (by omega)) rfl rfl (fun c16 hc16 => ?_))))
  all_goals (first | refine aops_p (ap_pick_true rfl zDec rfl) rfl rfl rfl ?_ | refine aops_p (ap_pick_false rfl zDec rfl) rfl rfl rfl ?_)
  all_goals (refine aops_p (ap_assign rfl) rfl rfl rfl ?_)
  all_goals (
    refine aops_nil ?_
    refine seqQ_n ?_
    refine awp_ret ?_
    refine post_is (.tmp rfl .nil) .nil ?_
    unfold checkTr
    first
    | (rw [show decide (validC c = 0) = false by with_reducible assumption]; rfl)
    | (have h2 := of_decide_eq_false (show decide ((tsz x : Int) ≤ 20000) = false by with_reducible assumption); rw [decide_eq_false (p := tsz x ≤ 20000) (by omega), Bool.false_and, Bool.and_false]; rfl)
    | (have h2 := of_decide_eq_true (show decide ((tsz x : Int) ≤ 20000) = true by with_reducible assumption); rw [decide_eq_true (p := tsz x ≤ 20000) (by omega), show decide (validC c = 0) = true by with_reducible assumption, hc16]; rfl)
    )
theorem rcheckT_is {c : List Mem} {x : Tr} {b : Bool} (hs : ∀ m ∈ c, sizeT m.t ≤ 1000000000) (hx : tsz x ≤ 1000000000) (h : checkTr c x = b) : Con Try.prog 66 [cv c, tv x] [] (Is (.b b) []) := by rw [← h]; exact rcheckT_con c hs x hx
theorem rdisj_con (c : List Mem) (hs : ∀ m ∈ c, sizeT m.t ≤ 1000000000) : Con Try.prog 62 [cv c] [] (fun d H => ∃ (a b : Nat) (e : Int), d = .tup [.i a, .i b, .i e] ∧ ((¬ validC c = 0 ∧ a = 0 ∧ b = 0 ∧ e = validC c) ∨ (validC c = 0 ∧ FindR c a b ∧ e = if a = 0 then 11 else 0)) ∧ H = []) := by
  have hcap : capB = 140737488355328 := rfl
  refine con_intro Try.func62 rfl Try.call62 rfl ?_
  refine awp_seq ?_
  refine awp_region ?_
  refine aops_box rfl zFlat rfl rfl (fun b1 => ?_)
  refine aops_p (ap_assign rfl) rfl rfl rfl ?_
  refine aops_p (ap_assign rfl) rfl rfl rfl ?_
  refine aops_p (ap_assign rfl) rfl rfl rfl ?_
  refine aops_nil ?_
  refine seqQ_n ?_
  refine awp_seq ?_
  refine awp_seq ?_
  refine awp_region ?_
  first | refine aops_q (aq_load rfl zUpd List.not_mem_nil rfl rfl zRc) rfl rfl rfl ?_ | refine aops_q (aq_load_el rfl rfl rfl rfl (fun _ h => absurd h List.not_mem_nil)) rfl rfl rfl ?_
  refine aops_call_v zRc (r6valid_con c hs) rfl rfl ?_
  refine aops_p (ap_assign rfl) rfl rfl rfl ?_
  refine aops_nil ?_
  refine seqQ_n ?_
  refine awp_seq ?_
  refine awp_region ?_
  refine aops_p (ap_move rfl) rfl rfl rfl ?_
  refine aops_p (ap_cmp rfl rfl rfl) rfl rfl rfl ?_
  refine aops_nil ?_
  refine seqQ_n ?_
  refine awp_cond rfl (fun hc => ?_) (fun hc => ?_)
  · have hv := of_neq_true hc
    refine awp_seq ?_
    refine awp_region ?_
    refine aops_p (ap_move rfl) rfl rfl rfl ?_
    refine aops_p (ap_assign rfl) rfl rfl rfl ?_
    refine aops_p (ap_assign rfl) rfl rfl rfl ?_
    refine aops_p (ap_assign rfl) rfl rfl rfl ?_
    refine aops_nil ?_
    refine seqQ_n ?_
    refine awp_ret ?_
    refine seqQ_r ?_
    refine post_ret (.tmp rfl (.tmp rfl (.tmp rfl .nil))) (by repeat (first | exact .nil | refine .cons (by first | exact .here | exact .there .here | exact .there (.there .here) | exact .there (.there (.there .here)) | exact .there (.there (.there (.there .here)))) ?_)) ⟨0, 0, _, rfl, .inl ⟨hv, rfl, rfl, rfl⟩, rfl⟩
  · have hv := of_neq_false hc
    refine awp_skip ?_
    refine seqQ_n ?_
    refine awp_seq ?_
    refine awp_region ?_
    first | refine aops_q (aq_load rfl zUpd List.not_mem_nil rfl rfl zRc) rfl rfl rfl ?_ | refine aops_q (aq_load_el rfl rfl rfl rfl (fun _ h => absurd h List.not_mem_nil)) rfl rfl rfl ?_
    (refine aops_call zRc (apart_con c (validC_len hv)) zSplit rfl rfl ?_; rintro _ _ ⟨fa, fb, rfl, hF, rfl⟩)
    refine aops_p (ap_move rfl) rfl rfl rfl ?_
    refine aops_p (ap_extract rfl rfl) rfl rfl rfl ?_
    refine aops_p (ap_extract rfl rfl) rfl rfl rfl ?_
    refine aops_p (ap_assign rfl) rfl rfl rfl ?_
    refine aops_p (ap_assign rfl) rfl rfl rfl ?_
    refine aops_nil ?_
    refine seqQ_n ?_
    refine awp_seq ?_
    refine awp_seq ?_
    refine awp_region ?_
    refine aops_p (ap_move rfl) rfl rfl rfl ?_
    refine aops_p (ap_cmp rfl rfl rfl) rfl rfl rfl ?_
    refine aops_nil ?_
    refine seqQ_n ?_
    refine awp_cond rfl (fun hc => ?_) (fun hc => ?_)
    · have ha := of_decide_eq_true hc
      obtain rfl : fa = 0 := by omega
      have hb0 := (hF.none rfl).1
      subst hb0
      refine awp_seq ?_
      refine awp_region ?_
      refine aops_p (ap_assign rfl) rfl rfl rfl ?_
      refine aops_p (ap_assign rfl) rfl rfl rfl ?_
      refine aops_p (ap_assign rfl) rfl rfl rfl ?_
      refine aops_nil ?_
      refine seqQ_n ?_
      refine awp_ret ?_
      refine seqQ_r ?_
      refine post_ret (.tmp rfl (.tmp rfl (.tmp rfl .nil))) (by repeat (first | exact .nil | refine .cons (by first | exact .here | exact .there .here | exact .there (.there .here) | exact .there (.there (.there .here)) | exact .there (.there (.there (.there .here)))) ?_)) ⟨0, 0, _, rfl, .inr ⟨hv, hF, rfl⟩, rfl⟩
    · have ha := of_decide_eq_false hc
      refine awp_skip ?_
      refine seqQ_n ?_
      refine awp_seq ?_
      refine awp_region ?_
      refine aops_p (ap_move rfl) rfl rfl rfl ?_
      refine aops_p (ap_move rfl) rfl rfl rfl ?_
      refine aops_p (ap_assign rfl) rfl rfl rfl ?_
      refine aops_p (ap_assign rfl) rfl rfl rfl ?_
      refine aops_p (ap_assign rfl) rfl rfl rfl ?_
      refine aops_nil ?_
      refine seqQ_n ?_
      refine awp_ret ?_
      refine post_ret (.tmp rfl (.tmp rfl (.tmp rfl .nil))) (by repeat (first | exact .nil | refine .cons (by first | exact .here | exact .there .here | exact .there (.there .here) | exact .there (.there (.there .here)) | exact .there (.there (.there (.there .here)))) ?_)) ⟨fa, fb, _, rfl, .inr ⟨hv, hF, by rw [if_neg (by omega)]⟩, rfl⟩
def DisjV (c : List Mem) (a b : Nat) (e : Int) : Prop := (¬ validC c = 0 ∧ a = 0 ∧ b = 0 ∧ e = validC c) ∨ (validC c = 0 ∧ FindR c a b ∧ e = if a = 0 then 11 else 0)
theorem disjV_unique {c : List Mem} {a b a' b' : Nat} {e e' : Int} (h : DisjV c a b e) (k : DisjV c a' b' e') : a = a' ∧ b = b' ∧ e = e' := by
  rcases h with ⟨h, h1, h2, h3⟩ | ⟨h, h1, h2⟩
  · rcases k with ⟨k, k1, k2, k3⟩ | ⟨k, k1, k2⟩
    · exact ⟨by omega, by omega, by omega⟩
    · exact absurd k h
  · rcases k with ⟨k, k1, k2, k3⟩ | ⟨k, k1, k2⟩
    · exact absurd h k
    · obtain ⟨rfl, rfl⟩ := h1.unique (validC_len h) k1
      exact ⟨rfl, rfl, by rw [h2, k2]⟩
theorem disj_v {c : List Mem} (hs : ∀ m ∈ c, sizeT m.t ≤ 1000000000) : Con Try.prog 61 [cv c] [] (fun d H => ∃ (a b : Nat) (e : Int), d = .tup [.i a, .i b, .i e] ∧ DisjV c a b e ∧ H = []) := disj_con c hs
theorem rdisj_is {c : List Mem} {a b : Nat} {e : Int} (hs : ∀ m ∈ c, sizeT m.t ≤ 1000000000) (h : DisjV c a b e) : Con Try.prog 62 [cv c] [] (Is (.tup [.i a, .i b, .i e]) []) := (rdisj_con c hs).mono (fun d H ⟨a', b', e', h1, h2, h3⟩ => by
  obtain ⟨rfl, rfl, rfl⟩ := disjV_unique h h2
  exact ⟨h1, h3⟩)
def HV (c : List Mem) (hb : Bool) (hf : Int) : Prop := (¬ validC c = 0 ∧ hb = false ∧ hf = validC c) ∨ (validC c = 0 ∧ interB c = hb ∧ hf = 0)
theorem hv_ex (c : List Mem) : ∃ hb hf, HV c hb hf := by
  by_cases h : validC c = 0
  · exact ⟨interB c, 0, .inr ⟨h, rfl, rfl⟩⟩
  · exact ⟨false, validC c, .inl ⟨h, rfl, rfl⟩⟩
theorem hv_eq {c : List Mem} {hb : Bool} {hf : Int} (h : HV c hb hf) : holdsV c = (hb, hf) := by
  unfold holdsV
  rcases h with ⟨h, rfl, rfl⟩ | ⟨h, rfl, rfl⟩
  · rw [if_neg h]
  · rw [if_pos h]
theorem holds_is {c : List Mem} {hb : Bool} {hf : Int} (hs : ∀ m ∈ c, sizeT m.t ≤ 1000000000) (h : HV c hb hf) : Con Try.prog 59 [cv c] [] (Is (.tup [.b hb, .i hf]) []) := by
  have h1 := holds_con c hs
  rwa [hv_eq h] at h1
theorem rholds_is {c : List Mem} {hb : Bool} {hf : Int} (hs : ∀ m ∈ c, sizeT m.t ≤ 1000000000) (h : HV c hb hf) : Con Try.prog 60 [cv c] [] (Is (.tup [.b hb, .i hf]) []) := by
  have h1 := rholds_con c hs
  rwa [hv_eq h] at h1
theorem Prove_hv {c : List Mem} {hb : Bool} {hf : Int} (hs : ∀ m ∈ c, sizeT m.t ≤ 1000000000) (h : HV c hb hf) : Con Try.prog 63 [cv c] [] (fun d H => ∃ (x : Tr) (e : Int), d = .tup [tv x, .i e] ∧ ((¬ hf = 0 ∧ hb = false ∧ e = hf) ∨ (hf = 0 ∧ hb = false ∧ e = 11) ∨ (hf = 0 ∧ hb = true ∧ e = 0)) ∧ H = []) := (Prove_con c hs).mono (fun d H ⟨x, e, h1, ⟨k1, k2, k3⟩, h4⟩ => ⟨x, e, h1, by
  rcases h with ⟨h, rfl, rfl⟩ | ⟨h, rfl, rfl⟩
  · exact .inl ⟨h, rfl, k1 h⟩
  · cases hi : interB c with
    | false => exact .inr (.inl ⟨rfl, rfl, k2 h hi⟩)
    | true => exact .inr (.inr ⟨rfl, rfl, (k3 h hi).1⟩), h4⟩)
set_option maxHeartbeats 4000000 in
theorem ianswers_con (l : List Int) (raw : List Mem) (rawt : Tr) : Con Try.prog 7 [.sl 1 (l.map .i), cv raw, tv rawt] [] (Is (.b true) []) := by
  have hcap : capB = 140737488355328 := rfl
  refine con_intro Try.func7 rfl Try.call7 rfl ?_
  refine awp_seq ?_
  refine awp_region ?_
  refine aops_box rfl zFlat rfl rfl (fun b4 => ?_)
  refine aops_box rfl zFlat rfl rfl (fun b5 => ?_)
  refine aops_p (ap_assign rfl) rfl rfl rfl ?_
  refine aops_nil ?_
  refine seqQ_n ?_
  refine awp_seq ?_
  refine awp_seq ?_
  refine awp_region ?_
  first | refine aops_q (aq_load rfl zUpd List.not_mem_nil rfl rfl zRc) rfl rfl rfl ?_ | refine aops_q (aq_load_el rfl rfl rfl rfl (fun _ h => absurd h List.not_mem_nil)) rfl rfl rfl ?_
  (refine aops_call zRc (smallC_con raw) zSplit rfl rfl ?_; rintro _ _ ⟨c26, rfl, hs26, rfl⟩)
  refine aops_p (ap_not rfl) rfl rfl rfl ?_
  refine aops_p (ap_move rfl) rfl rfl rfl ?_
  all_goals (first | (refine aops_yes rfl rfl rfl rfl zDec ?_; (first | refine aops_q (aq_load rfl zUpd List.not_mem_nil rfl rfl zRc) rfl rfl rfl ?_ | refine aops_q (aq_load_el rfl rfl rfl rfl (fun _ h => absurd h List.not_mem_nil)) rfl rfl rfl ?_)) | refine aops_no_u rfl rfl rfl ?_ | refine aops_no_f rfl rfl rfl rfl zDec ?_ | (refine aops_guard_f rfl rfl rfl rfl (fun hg => ?_) (fun hg => ?_); case' _ => (first | refine aops_q (aq_load rfl zUpd List.not_mem_nil rfl rfl zRc) rfl rfl rfl ?_ | refine aops_q (aq_load_el rfl rfl rfl rfl (fun _ h => absurd h List.not_mem_nil)) rfl rfl rfl ?_)))
  all_goals (first | (refine aops_yes rfl rfl rfl rfl zDec ?_; ((refine aops_call zRc (smallT_con rawt) zSplit rfl rfl ?_; rintro _ _ ⟨c30, rfl, hs30, rfl⟩))) | refine aops_no_u rfl rfl rfl ?_ | refine aops_no_f rfl rfl rfl rfl zDec ?_ | (refine aops_guard_f rfl rfl rfl rfl (fun hg => ?_) (fun hg => ?_); case' _ => ((refine aops_call zRc (smallT_con rawt) zSplit rfl rfl ?_; rintro _ _ ⟨c30, rfl, hs30, rfl⟩))))
  all_goals (first | (refine aops_yes rfl rfl rfl rfl zDec ?_; (refine aops_p (ap_not rfl) rfl rfl rfl ?_)) | refine aops_no_u rfl rfl rfl ?_ | refine aops_no_f rfl rfl rfl rfl zDec ?_ | (refine aops_guard_f rfl rfl rfl rfl (fun hg => ?_) (fun hg => ?_); case' _ => (refine aops_p (ap_not rfl) rfl rfl rfl ?_)))
  all_goals (first | refine aops_p (ap_pick_true rfl zDec rfl) rfl rfl rfl ?_ | refine aops_p (ap_pick_false rfl zDec rfl) rfl rfl rfl ?_)
  all_goals (
    refine aops_nil ?_
    refine seqQ_n ?_
    refine awp_cond rfl (fun hc => ?_) (fun hc => ?_)
    · first
      | (exact absurd hc (by decide))
      | (refine awp_seq ?_
         refine awp_region ?_
         refine aops_call_v zRc (awake12_con) rfl rfl ?_
         refine aops_p (ap_assign rfl) rfl rfl rfl ?_
         refine aops_nil ?_
         refine seqQ_n ?_
         refine awp_ret ?_
         refine seqQ_r ?_
         first | (refine post_is (.tmp rfl .nil) (by repeat (first | exact .nil | refine .cons (by first | exact .here | exact .there .here | exact .there (.there .here) | exact .there (.there (.there .here)) | exact .there (.there (.there (.there .here)))) ?_)) rfl) | (exfalso; simp at hc; done) | (exfalso; simp at hg; done)
        )
    · first
      | (exact absurd hc (by decide))
      | (have hraw := hs26 (not_f (c := c26) (by with_reducible assumption))
         have hrawt := hs30 (not_f (c := c30) (by with_reducible assumption))
         refine awp_skip ?_
         refine seqQ_n ?_
         refine awp_seq ?_
         refine awp_region ?_
         refine aops_p (ap_move rfl) rfl rfl rfl ?_
         (refine aops_call zRc (New_con l) zSplit rfl rfl ?_; rintro _ _ ⟨b35, rfl, rfl⟩)
         refine aops_p (ap_assign rfl) rfl rfl rfl ?_
         refine aops_nil ?_
         refine seqQ_n ?_
         refine awp_seq ?_
         refine awp_region ?_
         refine aops_p (ap_move rfl) rfl rfl rfl ?_
         (refine aops_call zRc (Config_con _ 8 _ (by omega) _) zSplit rfl rfl ?_; rintro _ _ ⟨c, a37, rfl, ⟨hc0, hcl⟩, rfl⟩; have hc10 : c.length ≤ 10 := (by omega); have hcs := okc_sz hc0)
         refine aops_alloc rfl zRc rfl rfl (fun b8 => ?_)
         first | refine aops_store rfl rfl zFlat zUpd rfl zRc ?_ | refine aops_store_own1 rfl rfl zScal zUpd rfl (by simp only [List.length_set, List.length_map]; omega) ?_
         refine aops_nil ?_
         refine seqQ_n ?_
         refine awp_seq ?_
         refine awp_seq ?_
         refine awp_draw (Hm := [.box b35 _ _]) zKr zSplit ?_
         first | refine aany_take 0 rfl (.none rfl) zKr zKr zKr (ar_load rfl zUpd rfl rfl zRc) rfl rfl ?_ | refine aany_take 0 rfl (.none rfl) zKr zKr zKr (AQ.ar (aq_load_el rfl rfl rfl rfl (fun _ h => h))) rfl rfl ?_
         refine aany_take 1 rfl (.none rfl) zKr zKr zKr (AP.ar (ap_move rfl)) rfl rfl ?_
         first | refine aany_take 2 rfl (.none rfl) zKr zKr zKr (ar_load rfl zUpd rfl rfl zRc) rfl rfl ?_ | refine aany_take 2 rfl (.none rfl) zKr zKr zKr (AQ.ar (aq_load_el rfl rfl rfl rfl (fun _ h => h))) rfl rfl ?_
         first | refine aany_take 4 rfl (.none rfl) zKr zKr zKr (ar_load rfl zUpd rfl rfl zRc) rfl rfl ?_ | refine aany_take 4 rfl (.none rfl) zKr zKr zKr (AQ.ar (aq_load_el rfl rfl rfl rfl (fun _ h => h))) rfl rfl ?_
         refine aany_take 7 rfl (.none rfl) zKr zKr zKr (AP.ar (ap_move rfl)) rfl rfl ?_
         refine aany_one 3 zKr rfl (.none rfl) ?_
         (refine aops_call zRc (bentC_con _ _ c hc0.len 100000 ⟨by omega, okc_size hc0⟩ _) zSplit rfl rfl ?_; rintro _ _ ⟨c2, a41, rfl, hc2, rfl⟩)
         refine aops_nil ?_
         refine aany_one 5 zKr rfl (.none rfl) ?_
         refine aops_lit (e := 38) (sz := 1) (by_ := 24) rfl rfl zRc rfl rfl rfl rfl ?_
         refine aops_nil ?_
         first | refine aany_take 6 rfl (.none rfl) zKr zKr zKr (AP.ar (ap_len rfl rfl)) rfl rfl ?_ | refine aany_take 6 rfl (.none rfl) zKr zKr zKr (ar_len_arr rfl zUpd rfl) rfl rfl ?_ | refine aany_take 6 rfl (.none rfl) zKr zKr zKr (AP.ar (ap_len_nil rfl rfl)) rfl rfl ?_
         refine aany_nil zKr ?_
         all_goals (
           refine seqQ_n ?_
           refine awp_block ?_
           obtain ⟨ys, hys⟩ : ∃ ys, ys = [c, c2, raw] := ⟨_, rfl⟩
           have hyl : (ys.map cv).length = 3 := by rw [hys]; rfl
           have hyl2 : ys.length = 3 := by rw [hys]; rfl
           have hysm : ∀ y ∈ ys, ∀ m ∈ y, sizeT m.t ≤ 1000000000 := by rw [hys]; intro y hy; simp only [List.mem_cons, List.not_mem_nil, or_false] at hy; rcases hy with rfl | rfl | rfl <;> first | exact okc_sz hc0 | exact (fun m hm => (by have := hc2.2 m hm; omega)) | exact (fun m hm => (by have := hraw.2 m hm; omega))
           rw [show [D.agg [.sl 4 (c.map mv)], cv c2, D.agg [.sl 4 (raw.map mv)]] = ys.map cv from by rw [hys]; rfl]
           refine awp_loop2 [5, 7, 8, 43, 44] [.box b5 _ _, .box b8 _ _] (fun (k : Nat) (a : Nat) r => (45, .i (k : Int)) :: r) (fun (k : Nat) (a : Nat) r => .box b35 104 [.sl 1 ((l.take 400).map .i), .i ((a : Nat) : Int)] :: r) (fun (k : Nat) (a : Nat) => k ≤ 3) (fun (k : Nat) (a : Nat) => 3 - k) (0) (a41) zRc (by omega) (wk zSub (by repeat (first | exact .nil | refine .cons (by first | exact .here | exact .there .here | exact .there (.there .here) | exact .there (.there (.there .here)) | exact .there (.there (.there (.there .here)))) ?_))) ?_
           intro k a hk
           refine awp_seq ?_
           refine awp_region ?_
           refine aops_p (ap_cmp rfl rfl rfl) rfl rfl rfl ?_
           refine aops_nil ?_
           refine seqQ_n ?_
           refine awp_seq ?_
           refine awp_cond rfl (fun hc => ?_) (fun hc => ?_)
           · have hlt := of_decide_eq_true hc
             obtain ⟨y, hy, _⟩ := drop_cons (l := ys) (k := k) (by omega)
             have hy' := getMap cv hy
             have hys2 := hysm y (List.mem_of_getElem? hy)
             obtain ⟨hb, hf, hHV⟩ := hv_ex y
             refine awp_skip ?_
             refine seqQ_n ?_
             refine awp_seq ?_
             refine awp_block ?_
             refine awp_seq ?_
             refine awp_region ?_
             first | refine aops_p (ap_index rfl rfl rfl rfl (by decide) rfl zAss) rfl rfl rfl ?_ | refine aops_p (ap_index rfl rfl rfl rfl (by decide) (by omega) zAss) rfl rfl rfl ?_ | refine aops_p (ap_index_own rfl rfl rfl rfl rfl (by first | omega | (simp only [List.length_map, List.length_set, avs_len]; omega))) rfl rfl rfl ?_
             first | refine aops_q (aq_load rfl zUpd List.not_mem_nil rfl rfl zRc) rfl rfl rfl ?_ | refine aops_q (aq_load_el rfl rfl rfl rfl (fun _ h => absurd h List.not_mem_nil)) rfl rfl rfl ?_
             refine aops_alloc rfl zRc rfl rfl (fun b10 => ?_)
             first | refine aops_store rfl rfl zFlat zUpd rfl zRc ?_ | refine aops_store_own1 rfl rfl zScal zUpd rfl (by simp only [List.length_set, List.length_map]; omega) ?_
             refine aops_nil ?_
             refine seqQ_n ?_
             refine awp_seq ?_
             refine awp_region ?_
             first | refine aops_q (aq_load rfl zUpd List.not_mem_nil rfl rfl zRc) rfl rfl rfl ?_ | refine aops_q (aq_load_el rfl rfl rfl rfl (fun _ h => absurd h List.not_mem_nil)) rfl rfl rfl ?_
             refine aops_call_v zRc (holds_is hys2 hHV) rfl rfl ?_
             refine aops_p (ap_move rfl) rfl rfl rfl ?_
             refine aops_p (ap_extract rfl rfl) rfl rfl rfl ?_
             refine aops_p (ap_extract rfl rfl) rfl rfl rfl ?_
             refine aops_p (ap_assign rfl) rfl rfl rfl ?_
             refine aops_p (ap_assign rfl) rfl rfl rfl ?_
             refine aops_nil ?_
             refine seqQ_n ?_
             refine awp_seq ?_
             refine awp_region ?_
             first | refine aops_q (aq_load rfl zUpd List.not_mem_nil rfl rfl zRc) rfl rfl rfl ?_ | refine aops_q (aq_load_el rfl rfl rfl rfl (fun _ h => absurd h List.not_mem_nil)) rfl rfl rfl ?_
             refine aops_call_v zRc (rholds_is hys2 hHV) rfl rfl ?_
             refine aops_p (ap_move rfl) rfl rfl rfl ?_
             refine aops_p (ap_extract rfl rfl) rfl rfl rfl ?_
             refine aops_p (ap_extract rfl rfl) rfl rfl rfl ?_
             refine aops_p (ap_assign rfl) rfl rfl rfl ?_
             refine aops_p (ap_assign rfl) rfl rfl rfl ?_
             refine aops_nil ?_
             refine seqQ_n ?_
             refine awp_seq ?_
             refine awp_region ?_
             first | refine aops_q (aq_load rfl zUpd List.not_mem_nil rfl rfl zRc) rfl rfl rfl ?_ | refine aops_q (aq_load_el rfl rfl rfl rfl (fun _ h => absurd h List.not_mem_nil)) rfl rfl rfl ?_
             (refine aops_call zRc (disj_v hys2) zSplit rfl rfl ?_; rintro _ _ ⟨fa, fb, fe, rfl, hD, rfl⟩)
             refine aops_p (ap_move rfl) rfl rfl rfl ?_
             refine aops_p (ap_extract rfl rfl) rfl rfl rfl ?_
             refine aops_p (ap_extract rfl rfl) rfl rfl rfl ?_
             refine aops_p (ap_extract rfl rfl) rfl rfl rfl ?_
             refine aops_p (ap_assign rfl) rfl rfl rfl ?_
             refine aops_p (ap_assign rfl) rfl rfl rfl ?_
             refine aops_p (ap_assign rfl) rfl rfl rfl ?_
             refine aops_nil ?_
             refine seqQ_n ?_
             refine awp_seq ?_
             refine awp_region ?_
             first | refine aops_q (aq_load rfl zUpd List.not_mem_nil rfl rfl zRc) rfl rfl rfl ?_ | refine aops_q (aq_load_el rfl rfl rfl rfl (fun _ h => absurd h List.not_mem_nil)) rfl rfl rfl ?_
             refine aops_call_v zRc (rdisj_is hys2 hD) rfl rfl ?_
             refine aops_p (ap_move rfl) rfl rfl rfl ?_
             refine aops_p (ap_extract rfl rfl) rfl rfl rfl ?_
             refine aops_p (ap_extract rfl rfl) rfl rfl rfl ?_
             refine aops_p (ap_extract rfl rfl) rfl rfl rfl ?_
             refine aops_p (ap_assign rfl) rfl rfl rfl ?_
             refine aops_p (ap_assign rfl) rfl rfl rfl ?_
             refine aops_p (ap_assign rfl) rfl rfl rfl ?_
             refine aops_nil ?_
             refine seqQ_n ?_
             refine awp_seq ?_
             refine awp_region ?_
             first | refine aops_q (aq_load rfl zUpd List.not_mem_nil rfl rfl zRc) rfl rfl rfl ?_ | refine aops_q (aq_load_el rfl rfl rfl rfl (fun _ h => absurd h List.not_mem_nil)) rfl rfl rfl ?_
             (refine aops_call zRc (Prove_hv hys2 hHV) zSplit rfl rfl ?_; rintro _ _ ⟨px, pe, rfl, hpe, rfl⟩)
             refine aops_p (ap_move rfl) rfl rfl rfl ?_
             refine aops_p (ap_extract rfl rfl) rfl rfl rfl ?_
             refine aops_p (ap_extract rfl rfl) rfl rfl rfl ?_
             refine aops_alloc rfl zRc rfl rfl (fun b21 => ?_)
             first | refine aops_store rfl rfl zFlat zUpd rfl zRc ?_ | refine aops_store_own1 rfl rfl zScal zUpd rfl (by simp only [List.length_set, List.length_map]; omega) ?_
             refine aops_p (ap_assign rfl) rfl rfl rfl ?_
             refine aops_nil ?_
             refine seqQ_n ?_
             refine awp_seq ?_
             refine awp_seq ?_
             rcases hpe with ⟨hp1, rfl, rfl⟩ | ⟨rfl, rfl, rfl⟩ | ⟨rfl, rfl, rfl⟩
             all_goals (
               refine awp_region ?_
               refine aops_p (ap_move rfl) rfl rfl rfl ?_
               refine aops_p (ap_move rfl) rfl rfl rfl ?_
               refine aops_p (ap_neb rfl rfl rfl) rfl rfl rfl ?_
               refine aops_p (ap_move rfl) rfl rfl rfl ?_
               all_goals (first | (refine aops_yes rfl rfl rfl rfl zDec ?_; (refine aops_p (ap_move rfl) rfl rfl rfl ?_)) | refine aops_no_u rfl rfl rfl ?_ | refine aops_no_f rfl rfl rfl rfl zDec ?_ | (refine aops_guard_f rfl rfl rfl rfl (fun hg => ?_) (fun hg => ?_); case' _ => (refine aops_p (ap_move rfl) rfl rfl rfl ?_)))
               all_goals (first | (refine aops_yes rfl rfl rfl rfl zDec ?_; (refine aops_p (ap_move rfl) rfl rfl rfl ?_)) | refine aops_no_u rfl rfl rfl ?_ | refine aops_no_f rfl rfl rfl rfl zDec ?_ | (refine aops_guard_f rfl rfl rfl rfl (fun hg => ?_) (fun hg => ?_); case' _ => (refine aops_p (ap_move rfl) rfl rfl rfl ?_)))
               all_goals (first | (refine aops_yes rfl rfl rfl rfl zDec ?_; (refine aops_p (ap_cmp rfl rfl rfl) rfl rfl rfl ?_)) | refine aops_no_u rfl rfl rfl ?_ | refine aops_no_f rfl rfl rfl rfl zDec ?_ | (refine aops_guard_f rfl rfl rfl rfl (fun hg => ?_) (fun hg => ?_); case' _ => (refine aops_p (ap_cmp rfl rfl rfl) rfl rfl rfl ?_)))
               all_goals (first | refine aops_p (ap_pick_true rfl zDec rfl) rfl rfl rfl ?_ | refine aops_p (ap_pick_false rfl zDec rfl) rfl rfl rfl ?_)
               all_goals (refine aops_p (ap_move rfl) rfl rfl rfl ?_)
               all_goals (first | (refine aops_yes rfl rfl rfl rfl zDec ?_; (refine aops_p (ap_move rfl) rfl rfl rfl ?_)) | refine aops_no_u rfl rfl rfl ?_ | refine aops_no_f rfl rfl rfl rfl zDec ?_ | (refine aops_guard_f rfl rfl rfl rfl (fun hg => ?_) (fun hg => ?_); case' _ => (refine aops_p (ap_move rfl) rfl rfl rfl ?_)))
               all_goals (first | (refine aops_yes rfl rfl rfl rfl zDec ?_; (refine aops_p (ap_move rfl) rfl rfl rfl ?_)) | refine aops_no_u rfl rfl rfl ?_ | refine aops_no_f rfl rfl rfl rfl zDec ?_ | (refine aops_guard_f rfl rfl rfl rfl (fun hg => ?_) (fun hg => ?_); case' _ => (refine aops_p (ap_move rfl) rfl rfl rfl ?_)))
               all_goals (first | (refine aops_yes rfl rfl rfl rfl zDec ?_; (refine aops_p (ap_cmp rfl rfl rfl) rfl rfl rfl ?_)) | refine aops_no_u rfl rfl rfl ?_ | refine aops_no_f rfl rfl rfl rfl zDec ?_ | (refine aops_guard_f rfl rfl rfl rfl (fun hg => ?_) (fun hg => ?_); case' _ => (refine aops_p (ap_cmp rfl rfl rfl) rfl rfl rfl ?_)))
               all_goals (first | refine aops_p (ap_pick_true rfl zDec rfl) rfl rfl rfl ?_ | refine aops_p (ap_pick_false rfl zDec rfl) rfl rfl rfl ?_)
               all_goals (refine aops_p (ap_move rfl) rfl rfl rfl ?_)
               all_goals (first | (refine aops_yes rfl rfl rfl rfl zDec ?_; (refine aops_p (ap_move rfl) rfl rfl rfl ?_)) | refine aops_no_u rfl rfl rfl ?_ | refine aops_no_f rfl rfl rfl rfl zDec ?_ | (refine aops_guard_f rfl rfl rfl rfl (fun hg => ?_) (fun hg => ?_); case' _ => (refine aops_p (ap_move rfl) rfl rfl rfl ?_)))
               all_goals (first | (refine aops_yes rfl rfl rfl rfl zDec ?_; (refine aops_p (ap_move rfl) rfl rfl rfl ?_)) | refine aops_no_u rfl rfl rfl ?_ | refine aops_no_f rfl rfl rfl rfl zDec ?_ | (refine aops_guard_f rfl rfl rfl rfl (fun hg => ?_) (fun hg => ?_); case' _ => (refine aops_p (ap_move rfl) rfl rfl rfl ?_)))
               all_goals (first | (refine aops_yes rfl rfl rfl rfl zDec ?_; (refine aops_p (ap_cmp rfl rfl rfl) rfl rfl rfl ?_)) | refine aops_no_u rfl rfl rfl ?_ | refine aops_no_f rfl rfl rfl rfl zDec ?_ | (refine aops_guard_f rfl rfl rfl rfl (fun hg => ?_) (fun hg => ?_); case' _ => (refine aops_p (ap_cmp rfl rfl rfl) rfl rfl rfl ?_)))
               all_goals (first | refine aops_p (ap_pick_true rfl zDec rfl) rfl rfl rfl ?_ | refine aops_p (ap_pick_false rfl zDec rfl) rfl rfl rfl ?_)
               all_goals (refine aops_p (ap_move rfl) rfl rfl rfl ?_)
               all_goals (first | (refine aops_yes rfl rfl rfl rfl zDec ?_; (refine aops_p (ap_move rfl) rfl rfl rfl ?_)) | refine aops_no_u rfl rfl rfl ?_ | refine aops_no_f rfl rfl rfl rfl zDec ?_ | (refine aops_guard_f rfl rfl rfl rfl (fun hg => ?_) (fun hg => ?_); case' _ => (refine aops_p (ap_move rfl) rfl rfl rfl ?_)))
               all_goals (first | (refine aops_yes rfl rfl rfl rfl zDec ?_; (refine aops_p (ap_move rfl) rfl rfl rfl ?_)) | refine aops_no_u rfl rfl rfl ?_ | refine aops_no_f rfl rfl rfl rfl zDec ?_ | (refine aops_guard_f rfl rfl rfl rfl (fun hg => ?_) (fun hg => ?_); case' _ => (refine aops_p (ap_move rfl) rfl rfl rfl ?_)))
               all_goals (first | (refine aops_yes rfl rfl rfl rfl zDec ?_; (refine aops_p (ap_cmp rfl rfl rfl) rfl rfl rfl ?_)) | refine aops_no_u rfl rfl rfl ?_ | refine aops_no_f rfl rfl rfl rfl zDec ?_ | (refine aops_guard_f rfl rfl rfl rfl (fun hg => ?_) (fun hg => ?_); case' _ => (refine aops_p (ap_cmp rfl rfl rfl) rfl rfl rfl ?_)))
               all_goals (first | refine aops_p (ap_pick_true rfl zDec rfl) rfl rfl rfl ?_ | refine aops_p (ap_pick_false rfl zDec rfl) rfl rfl rfl ?_)
               all_goals (refine aops_p (ap_move rfl) rfl rfl rfl ?_)
               all_goals (first | (refine aops_yes rfl rfl rfl rfl zDec ?_; (refine aops_p (ap_move rfl) rfl rfl rfl ?_)) | refine aops_no_u rfl rfl rfl ?_ | refine aops_no_f rfl rfl rfl rfl zDec ?_ | (refine aops_guard_f rfl rfl rfl rfl (fun hg => ?_) (fun hg => ?_); case' _ => (refine aops_p (ap_move rfl) rfl rfl rfl ?_)))
               all_goals (first | (refine aops_yes rfl rfl rfl rfl zDec ?_; (refine aops_p (ap_cmp rfl rfl rfl) rfl rfl rfl ?_)) | refine aops_no_u rfl rfl rfl ?_ | refine aops_no_f rfl rfl rfl rfl zDec ?_ | (refine aops_guard_f rfl rfl rfl rfl (fun hg => ?_) (fun hg => ?_); case' _ => (refine aops_p (ap_cmp rfl rfl rfl) rfl rfl rfl ?_)))
               all_goals (first | (refine aops_yes rfl rfl rfl rfl zDec ?_; (refine aops_p (ap_move rfl) rfl rfl rfl ?_)) | refine aops_no_u rfl rfl rfl ?_ | refine aops_no_f rfl rfl rfl rfl zDec ?_ | (refine aops_guard_f rfl rfl rfl rfl (fun hg => ?_) (fun hg => ?_); case' _ => (refine aops_p (ap_move rfl) rfl rfl rfl ?_)))
               all_goals (first | (refine aops_yes rfl rfl rfl rfl zDec ?_; (refine aops_p (ap_move rfl) rfl rfl rfl ?_)) | refine aops_no_u rfl rfl rfl ?_ | refine aops_no_t rfl rfl rfl rfl zDec ?_ | (refine aops_guard_t rfl rfl rfl rfl (fun hg => ?_) (fun hg => ?_); case' _ => (refine aops_p (ap_move rfl) rfl rfl rfl ?_)))
               all_goals (first | (refine aops_yes rfl rfl rfl rfl zDec ?_; (refine aops_p (ap_move rfl) rfl rfl rfl ?_)) | refine aops_no_u rfl rfl rfl ?_ | refine aops_no_t rfl rfl rfl rfl zDec ?_ | (refine aops_guard_t rfl rfl rfl rfl (fun hg => ?_) (fun hg => ?_); case' _ => (refine aops_p (ap_move rfl) rfl rfl rfl ?_)))
               all_goals (first | (refine aops_yes rfl rfl rfl rfl zDec ?_; (refine aops_p (ap_cmp rfl rfl rfl) rfl rfl rfl ?_)) | refine aops_no_u rfl rfl rfl ?_ | refine aops_no_t rfl rfl rfl rfl zDec ?_ | (refine aops_guard_t rfl rfl rfl rfl (fun hg => ?_) (fun hg => ?_); case' _ => (refine aops_p (ap_cmp rfl rfl rfl) rfl rfl rfl ?_)))
               all_goals (first | (refine aops_yes rfl rfl rfl rfl zDec ?_; (first | refine aops_p (ap_pick_true rfl zDec rfl) rfl rfl rfl ?_ | refine aops_p (ap_pick_false rfl zDec rfl) rfl rfl rfl ?_)) | refine aops_no_u rfl rfl rfl ?_ | refine aops_no_f rfl rfl rfl rfl zDec ?_ | (refine aops_guard_f rfl rfl rfl rfl (fun hg => ?_) (fun hg => ?_); case' _ => (first | refine aops_p (ap_pick_true rfl zDec rfl) rfl rfl rfl ?_ | refine aops_p (ap_pick_false rfl zDec rfl) rfl rfl rfl ?_)))
               all_goals (first | refine aops_p (ap_pick_true rfl zDec rfl) rfl rfl rfl ?_ | refine aops_p (ap_pick_false rfl zDec rfl) rfl rfl rfl ?_)
               all_goals (refine aops_p (ap_move rfl) rfl rfl rfl ?_)
               all_goals (first | (refine aops_yes rfl rfl rfl rfl zDec ?_; (refine aops_p (ap_move rfl) rfl rfl rfl ?_)) | refine aops_no_u rfl rfl rfl ?_ | refine aops_no_f rfl rfl rfl rfl zDec ?_ | (refine aops_guard_f rfl rfl rfl rfl (fun hg => ?_) (fun hg => ?_); case' _ => (refine aops_p (ap_move rfl) rfl rfl rfl ?_)))
               all_goals (first | (refine aops_yes rfl rfl rfl rfl zDec ?_; (refine aops_p (ap_cmp rfl rfl rfl) rfl rfl rfl ?_)) | refine aops_no_u rfl rfl rfl ?_ | refine aops_no_f rfl rfl rfl rfl zDec ?_ | (refine aops_guard_f rfl rfl rfl rfl (fun hg => ?_) (fun hg => ?_); case' _ => (refine aops_p (ap_cmp rfl rfl rfl) rfl rfl rfl ?_)))
               all_goals (first | (refine aops_yes rfl rfl rfl rfl zDec ?_; (refine aops_p (ap_move rfl) rfl rfl rfl ?_)) | refine aops_no_u rfl rfl rfl ?_ | refine aops_no_f rfl rfl rfl rfl zDec ?_ | (refine aops_guard_f rfl rfl rfl rfl (fun hg => ?_) (fun hg => ?_); case' _ => (refine aops_p (ap_move rfl) rfl rfl rfl ?_)))
               all_goals (first | (refine aops_yes rfl rfl rfl rfl zDec ?_; (refine aops_p (ap_move rfl) rfl rfl rfl ?_)) | refine aops_no_u rfl rfl rfl ?_ | refine aops_no_t rfl rfl rfl rfl zDec ?_ | (refine aops_guard_t rfl rfl rfl rfl (fun hg => ?_) (fun hg => ?_); case' _ => (refine aops_p (ap_move rfl) rfl rfl rfl ?_)))
               all_goals (first | (refine aops_yes rfl rfl rfl rfl zDec ?_; (refine aops_p (ap_cmp rfl rfl rfl) rfl rfl rfl ?_)) | refine aops_no_u rfl rfl rfl ?_ | refine aops_no_t rfl rfl rfl rfl zDec ?_ | (refine aops_guard_t rfl rfl rfl rfl (fun hg => ?_) (fun hg => ?_); case' _ => (refine aops_p (ap_cmp rfl rfl rfl) rfl rfl rfl ?_)))
               all_goals (first | (refine aops_yes rfl rfl rfl rfl zDec ?_; (refine aops_p (ap_move rfl) rfl rfl rfl ?_)) | refine aops_no_u rfl rfl rfl ?_ | refine aops_no_t rfl rfl rfl rfl zDec ?_ | (refine aops_guard_t rfl rfl rfl rfl (fun hg => ?_) (fun hg => ?_); case' _ => (refine aops_p (ap_move rfl) rfl rfl rfl ?_)))
               all_goals (first | (refine aops_yes rfl rfl rfl rfl zDec ?_; (refine aops_p (ap_neb rfl rfl rfl) rfl rfl rfl ?_)) | refine aops_no_u rfl rfl rfl ?_ | refine aops_no_t rfl rfl rfl rfl zDec ?_ | (refine aops_guard_t rfl rfl rfl rfl (fun hg => ?_) (fun hg => ?_); case' _ => (refine aops_p (ap_neb rfl rfl rfl) rfl rfl rfl ?_)))
               all_goals (first | (refine aops_yes rfl rfl rfl rfl zDec ?_; (first | refine aops_p (ap_pick_true rfl zDec rfl) rfl rfl rfl ?_ | refine aops_p (ap_pick_false rfl zDec rfl) rfl rfl rfl ?_)) | refine aops_no_u rfl rfl rfl ?_ | refine aops_no_f rfl rfl rfl rfl zDec ?_ | (refine aops_guard_f rfl rfl rfl rfl (fun hg => ?_) (fun hg => ?_); case' _ => (first | refine aops_p (ap_pick_true rfl zDec rfl) rfl rfl rfl ?_ | refine aops_p (ap_pick_false rfl zDec rfl) rfl rfl rfl ?_)))
               all_goals (first | refine aops_p (ap_pick_true rfl zDec rfl) rfl rfl rfl ?_ | refine aops_p (ap_pick_false rfl zDec rfl) rfl rfl rfl ?_)
               all_goals (refine aops_p (ap_move rfl) rfl rfl rfl ?_)
               all_goals (first | (refine aops_yes rfl rfl rfl rfl zDec ?_; (refine aops_p (ap_move rfl) rfl rfl rfl ?_)) | refine aops_no_u rfl rfl rfl ?_ | refine aops_no_f rfl rfl rfl rfl zDec ?_ | (refine aops_guard_f rfl rfl rfl rfl (fun hg => ?_) (fun hg => ?_); case' _ => (refine aops_p (ap_move rfl) rfl rfl rfl ?_)))
               all_goals (first | (refine aops_yes rfl rfl rfl rfl zDec ?_; (refine aops_p (ap_cmp rfl rfl rfl) rfl rfl rfl ?_)) | refine aops_no_u rfl rfl rfl ?_ | refine aops_no_f rfl rfl rfl rfl zDec ?_ | (refine aops_guard_f rfl rfl rfl rfl (fun hg => ?_) (fun hg => ?_); case' _ => (refine aops_p (ap_cmp rfl rfl rfl) rfl rfl rfl ?_)))
               all_goals (first | (refine aops_yes rfl rfl rfl rfl zDec ?_; (refine aops_p (ap_move rfl) rfl rfl rfl ?_)) | refine aops_no_u rfl rfl rfl ?_ | refine aops_no_f rfl rfl rfl rfl zDec ?_ | (refine aops_guard_f rfl rfl rfl rfl (fun hg => ?_) (fun hg => ?_); case' _ => (refine aops_p (ap_move rfl) rfl rfl rfl ?_)))
               all_goals (first | (refine aops_yes rfl rfl rfl rfl zDec ?_; (refine aops_p (ap_move rfl) rfl rfl rfl ?_)) | refine aops_no_u rfl rfl rfl ?_ | refine aops_no_t rfl rfl rfl rfl zDec ?_ | (refine aops_guard_t rfl rfl rfl rfl (fun hg => ?_) (fun hg => ?_); case' _ => (refine aops_p (ap_move rfl) rfl rfl rfl ?_)))
               all_goals (first | (refine aops_yes rfl rfl rfl rfl zDec ?_; (refine aops_p (ap_not rfl) rfl rfl rfl ?_)) | refine aops_no_u rfl rfl rfl ?_ | refine aops_no_t rfl rfl rfl rfl zDec ?_ | (refine aops_guard_t rfl rfl rfl rfl (fun hg => ?_) (fun hg => ?_); case' _ => (refine aops_p (ap_not rfl) rfl rfl rfl ?_)))
               all_goals (first | (refine aops_yes rfl rfl rfl rfl zDec ?_; (first | refine aops_p (ap_pick_true rfl zDec rfl) rfl rfl rfl ?_ | refine aops_p (ap_pick_false rfl zDec rfl) rfl rfl rfl ?_)) | refine aops_no_u rfl rfl rfl ?_ | refine aops_no_f rfl rfl rfl rfl zDec ?_ | (refine aops_guard_f rfl rfl rfl rfl (fun hg => ?_) (fun hg => ?_); case' _ => (first | refine aops_p (ap_pick_true rfl zDec rfl) rfl rfl rfl ?_ | refine aops_p (ap_pick_false rfl zDec rfl) rfl rfl rfl ?_)))
               all_goals (first | (refine aops_yes rfl rfl rfl rfl zDec ?_; (refine aops_p (ap_move rfl) rfl rfl rfl ?_)) | refine aops_no_u rfl rfl rfl ?_ | refine aops_no_f rfl rfl rfl rfl zDec ?_ | (refine aops_guard_f rfl rfl rfl rfl (fun hg => ?_) (fun hg => ?_); case' _ => (refine aops_p (ap_move rfl) rfl rfl rfl ?_)))
               all_goals (first | (refine aops_yes rfl rfl rfl rfl zDec ?_; (refine aops_p (ap_move rfl) rfl rfl rfl ?_)) | refine aops_no_u rfl rfl rfl ?_ | refine aops_no_t rfl rfl rfl rfl zDec ?_ | (refine aops_guard_t rfl rfl rfl rfl (fun hg => ?_) (fun hg => ?_); case' _ => (refine aops_p (ap_move rfl) rfl rfl rfl ?_)))
               all_goals (first | (refine aops_yes rfl rfl rfl rfl zDec ?_; (refine aops_p (ap_cmp rfl rfl rfl) rfl rfl rfl ?_)) | refine aops_no_u rfl rfl rfl ?_ | refine aops_no_t rfl rfl rfl rfl zDec ?_ | (refine aops_guard_t rfl rfl rfl rfl (fun hg => ?_) (fun hg => ?_); case' _ => (refine aops_p (ap_cmp rfl rfl rfl) rfl rfl rfl ?_)))
               all_goals (first | (refine aops_yes rfl rfl rfl rfl zDec ?_; (first | refine aops_p (ap_pick_true rfl zDec rfl) rfl rfl rfl ?_ | refine aops_p (ap_pick_false rfl zDec rfl) rfl rfl rfl ?_)) | refine aops_no_u rfl rfl rfl ?_ | refine aops_no_f rfl rfl rfl rfl zDec ?_ | (refine aops_guard_f rfl rfl rfl rfl (fun hg => ?_) (fun hg => ?_); case' _ => (first | refine aops_p (ap_pick_true rfl zDec rfl) rfl rfl rfl ?_ | refine aops_p (ap_pick_false rfl zDec rfl) rfl rfl rfl ?_)))
               all_goals (first | refine aops_p (ap_pick_true rfl zDec rfl) rfl rfl rfl ?_ | refine aops_p (ap_pick_false rfl zDec rfl) rfl rfl rfl ?_)
               all_goals (
                 refine aops_nil ?_
                 refine seqQ_n ?_
                 refine awp_cond rfl (fun hc => ?_) (fun hc => ?_)
                 · first
                   | (exact absurd hc (by decide))
                   | (refine awp_seq ?_
                      refine awp_region ?_
                      refine aops_p (ap_assign rfl) rfl rfl rfl ?_
                      refine aops_nil ?_
                      refine seqQ_n ?_
                      refine awp_ret ?_
                      refine seqQ_r ?_
                      refine blockQ_r ?_
                      refine seqQ_r ?_
                      refine seqQ_r ?_
                      refine blockQ_r ?_
                      refine seqQ_r ?_
                      first | (refine post_is (.tmp rfl .nil) (by repeat (first | exact .nil | refine .cons (by first | exact .here | exact .there .here | exact .there (.there .here) | exact .there (.there (.there .here)) | exact .there (.there (.there (.there .here)))) ?_)) rfl) | (exfalso; simp at hc; done) | (exfalso; simp at hg; done)
                     )
                 · first
                   | (exact absurd hc (by decide))
                   | (refine awp_skip ?_
                      refine seqQ_n ?_
                      refine awp_seq ?_
                      refine awp_draw (Hm := [.box b35 _ _]) zKr zSplit ?_
                      refine aany_take 0 rfl (.none rfl) zKr zKr zKr (AP.ar (ap_move rfl)) rfl rfl ?_
                      first | refine aany_take 1 rfl (.none rfl) zKr zKr zKr (ar_load rfl zUpd rfl rfl zRc) rfl rfl ?_ | refine aany_take 1 rfl (.none rfl) zKr zKr zKr (AQ.ar (aq_load_el rfl rfl rfl rfl (fun _ h => h))) rfl rfl ?_
                      refine aany_take 3 rfl (.none rfl) zKr zKr zKr (AP.ar (ap_move rfl)) rfl rfl ?_
                      first | refine aany_take 4 rfl (.none rfl) zKr zKr zKr (ar_load rfl zUpd rfl rfl zRc) rfl rfl ?_ | refine aany_take 4 rfl (.none rfl) zKr zKr zKr (AQ.ar (aq_load_el rfl rfl rfl rfl (fun _ h => h))) rfl rfl ?_
                      first | refine aany_take 6 rfl (.none rfl) zKr zKr zKr (ar_load rfl zUpd rfl rfl zRc) rfl rfl ?_ | refine aany_take 6 rfl (.none rfl) zKr zKr zKr (AQ.ar (aq_load_el rfl rfl rfl rfl (fun _ h => h))) rfl rfl ?_
                      refine aany_take 9 rfl (.none rfl) zKr zKr zKr (AP.ar (ap_move rfl)) rfl rfl ?_
                      refine aany_one 2 zKr rfl (.none rfl) ?_
                      (refine aops_call zRc (mTrace_con _ _ c hc10 false _) zSplit rfl rfl ?_; rintro _ _ ⟨x132, a132, rfl, ⟨hx132, _⟩, rfl⟩)
                      refine aops_nil ?_
                      refine aany_one 5 zKr rfl (.none rfl) ?_
                      (refine aops_call zRc (mTrace_con _ _ c hc10 true _) zSplit rfl rfl ?_; rintro _ _ ⟨x135, a135, rfl, ⟨hx135, _⟩, rfl⟩)
                      refine aops_nil ?_
                      refine aany_one 7 zKr rfl (.none rfl) ?_
                      refine aops_lit (e := 87) (sz := 3) (by_ := 40) rfl rfl zRc rfl rfl rfl rfl ?_
                      refine aops_nil ?_
                      first | refine aany_take 8 rfl (.none rfl) zKr zKr zKr (AP.ar (ap_len rfl rfl)) rfl rfl ?_ | refine aany_take 8 rfl (.none rfl) zKr zKr zKr (ar_len_arr rfl zUpd rfl) rfl rfl ?_ | refine aany_take 8 rfl (.none rfl) zKr zKr zKr (AP.ar (ap_len_nil rfl rfl)) rfl rfl ?_
                      refine aany_nil zKr ?_
                      all_goals (
                        refine seqQ_n ?_
                        refine awp_block ?_
                        obtain ⟨zs, hzs⟩ : ∃ zs, zs = [x132, x135, rawt] := ⟨_, rfl⟩
                        have hzl : zs.length = 3 := by rw [hzs]; rfl
                        have hal := tvs_len zs
                        have hzm : ∀ z ∈ zs, tsz z ≤ 2047 := by rw [hzs]; intro z hz; simp only [List.mem_cons, List.not_mem_nil, or_false] at hz; rcases hz with rfl | rfl | rfl <;> omega
                        first | rw [show [tv x132, tv x135, D.agg [.i rawt.kind, .i rawt.node, .sl 3 (tvs rawt.kids)]] = tvs zs from by rw [hzs]; simp only [tvs_cons]; rfl] | rw [show [D.agg [.i x132.kind, .i x132.node, .sl 3 (tvs x132.kids)], D.agg [.i x135.kind, .i x135.node, .sl 3 (tvs x135.kids)], D.agg [.i rawt.kind, .i rawt.node, .sl 3 (tvs rawt.kids)]] = tvs zs from by rw [hzs]; simp only [tvs_cons]; rfl]
                        refine awp_loop1 [5, 7, 8, 10, 43, 44, 45, 137, 138] [.box b5 _ _, .box b8 _ _, .box b10 _ _, .box b35 _ _] (fun (j : Nat) r => (139, .i (j : Int)) :: r) (fun (j : Nat) r => r) (fun (j : Nat) => j ≤ 3) (fun (j : Nat) => 3 - j) (0) zRc (by omega) (wk zSub (by repeat (first | exact .nil | refine .cons (by first | exact .here | exact .there .here | exact .there (.there .here) | exact .there (.there (.there .here)) | exact .there (.there (.there (.there .here)))) ?_))) ?_
                        intro j hj
                        refine awp_seq ?_
                        refine awp_region ?_
                        refine aops_p (ap_cmp rfl rfl rfl) rfl rfl rfl ?_
                        refine aops_nil ?_
                        refine seqQ_n ?_
                        refine awp_seq ?_
                        refine awp_cond rfl (fun hc => ?_) (fun hc => ?_)
                        · have hlt := of_decide_eq_true hc
                          obtain ⟨z, hz, _⟩ := drop_cons (l := zs) (k := j) (by omega)
                          have hz' := tvs_get hz
                          have hzs2 := hzm z (List.mem_of_getElem? hz)
                          refine awp_skip ?_
                          refine seqQ_n ?_
                          refine awp_seq ?_
                          refine awp_block ?_
                          refine awp_seq ?_
                          refine awp_region ?_
                          first | refine aops_p (ap_index rfl rfl rfl rfl (by decide) rfl zAss) rfl rfl rfl ?_ | refine aops_p (ap_index rfl rfl rfl rfl (by decide) (by omega) zAss) rfl rfl rfl ?_ | refine aops_p (ap_index_own rfl rfl rfl rfl rfl (by first | omega | (simp only [List.length_map, List.length_set, avs_len]; omega))) rfl rfl rfl ?_
                          first | refine aops_q (aq_load rfl zUpd List.not_mem_nil rfl rfl zRc) rfl rfl rfl ?_ | refine aops_q (aq_load_el rfl rfl rfl rfl (fun _ h => absurd h List.not_mem_nil)) rfl rfl rfl ?_
                          refine aops_alloc rfl zRc rfl rfl (fun b24 => ?_)
                          first | refine aops_store rfl rfl zFlat zUpd rfl zRc ?_ | refine aops_store_own1 rfl rfl zScal zUpd rfl (by simp only [List.length_set, List.length_map]; omega) ?_
                          refine aops_nil ?_
                          refine seqQ_n ?_
                          refine awp_seq ?_
                          refine awp_draw (Hm := []) zKr zSplit ?_
                          first | refine aany_take 0 rfl (.none rfl) zKr zKr zKr (ar_load rfl zUpd rfl rfl zRc) rfl rfl ?_ | refine aany_take 0 rfl (.none rfl) zKr zKr zKr (AQ.ar (aq_load_el rfl rfl rfl rfl (fun _ h => h))) rfl rfl ?_
                          refine aany_one 1 zKr rfl (.none rfl) ?_
                          (refine aops_call zRc (smallT_con z) zSplit rfl rfl ?_; rintro _ _ ⟨c144, rfl, hs144, rfl⟩)
                          refine aops_nil ?_
                          refine aany_take 2 rfl (.none rfl) zKr zKr zKr (AP.ar (ap_move rfl)) rfl rfl ?_
                          refine aany_guard 2 rfl (fun hg => ?_) (fun hg => ?_)
                          rotate_left
                          case' _ =>
                            first
                            | (exact absurd hg (by decide))
                            | (exfalso; simp at hg; done)
                            | (refine aany_skip 3 rfl (.no rfl rfl (by first | (show _ = false; with_reducible assumption) | exact zDec)) zKr zKr zKr rfl rfl ?_
                               refine aany_skip 4 rfl (.no rfl rfl (by first | (show _ = false; with_reducible assumption) | exact zDec)) zKr zKr zKr rfl rfl ?_
                               refine aany_skip 5 rfl (.no rfl rfl (by first | (show _ = false; with_reducible assumption) | exact zDec)) zKr zKr zKr rfl rfl ?_
                               refine aany_skip 6 rfl (.no rfl rfl (by first | (show _ = false; with_reducible assumption) | exact zDec)) zKr zKr zKr rfl rfl ?_
                               refine aany_skip 7 rfl (.no rfl rfl (by first | (show _ = false; with_reducible assumption) | exact zDec)) zKr zKr zKr rfl rfl ?_
                               refine aany_skip 8 rfl (.no rfl rfl (by first | (show _ = false; with_reducible assumption) | exact zDec)) zKr zKr zKr rfl rfl ?_
                               refine aany_skip 9 rfl (.no rfl rfl (by first | (show _ = false; with_reducible assumption) | exact zDec)) zKr zKr zKr rfl rfl ?_
                               refine aany_skipu 10 rfl (.no rfl rfl (by first | (show _ = false; with_reducible assumption) | exact zDec)) zKr zKr zKr rfl rfl ?_
                               refine aany_skip 11 rfl (.nou rfl rfl) zKr zKr zKr rfl rfl ?_
                               refine aany_skip 12 rfl (.nou rfl rfl) zKr zKr zKr rfl rfl ?_
                               refine aany_skip 13 rfl (.nou rfl rfl) zKr zKr zKr rfl rfl ?_
                               refine aany_skip 14 rfl (.nou rfl rfl) zKr zKr zKr rfl rfl ?_
                               refine aany_skip 15 rfl (.nou rfl rfl) zKr zKr zKr rfl rfl ?_
                               refine aany_skip 16 rfl (.no rfl rfl (by first | (show _ = false; with_reducible assumption) | exact zDec)) zKr zKr zKr rfl rfl ?_
                               first | refine aany_take 17 rfl (.none rfl) zKr zKr zKr (AP.ar (ap_pick_true rfl zDec rfl)) rfl rfl ?_ | refine aany_take 17 rfl (.none rfl) zKr zKr zKr (AP.ar (ap_pick_false rfl zDec rfl)) rfl rfl ?_
                               refine aany_nil zKr ?_
                              )
                          rotate_right
                          case' _ =>
                            first
                            | (exact absurd hg (by decide))
                            | (exfalso; simp at hg; done)
                            | (first | refine aany_take 3 rfl (.yes rfl rfl zDec) zKr zKr zKr (ar_load rfl zUpd rfl rfl zRc) rfl rfl ?_ | refine aany_take 3 rfl (.yes rfl rfl zDec) zKr zKr zKr (AQ.ar (aq_load_el rfl rfl rfl rfl (fun _ h => h))) rfl rfl ?_
                               first | refine aany_take 4 rfl (.yes rfl rfl zDec) zKr zKr zKr (ar_load rfl zUpd rfl rfl zRc) rfl rfl ?_ | refine aany_take 4 rfl (.yes rfl rfl zDec) zKr zKr zKr (AQ.ar (aq_load_el rfl rfl rfl rfl (fun _ h => h))) rfl rfl ?_
                               first | refine aany_take 6 rfl (.yes rfl rfl zDec) zKr zKr zKr (ar_load rfl zUpd rfl rfl zRc) rfl rfl ?_ | refine aany_take 6 rfl (.yes rfl rfl zDec) zKr zKr zKr (AQ.ar (aq_load_el rfl rfl rfl rfl (fun _ h => h))) rfl rfl ?_
                               first | refine aany_take 7 rfl (.yes rfl rfl zDec) zKr zKr zKr (ar_load rfl zUpd rfl rfl zRc) rfl rfl ?_ | refine aany_take 7 rfl (.yes rfl rfl zDec) zKr zKr zKr (AQ.ar (aq_load_el rfl rfl rfl rfl (fun _ h => h))) rfl rfl ?_
                               refine aany_one 5 zKr rfl (.yes rfl rfl zDec) ?_
                               refine aops_call_b zRc (checkT_con y hys2 z (by omega)) rfl rfl (fun c148 hc148 => ?_)
                               refine aops_nil ?_
                               refine aany_one 8 zKr rfl (.yes rfl rfl zDec) ?_
                               refine aops_call_v zRc (rcheckT_is hys2 (by omega) hc148) rfl rfl ?_
                               refine aops_nil ?_
                               refine aany_take 9 rfl (.yes rfl rfl zDec) zKr zKr zKr (AP.ar (ap_neb rfl rfl rfl)) rfl rfl ?_
                               refine aany_take 10 rfl (.yes rfl rfl zDec) zKr zKr zKr (AP.ar (ap_move rfl)) rfl rfl ?_
                               refine aany_guard 10 rfl (fun hg => ?_) (fun hg => ?_)
                               rotate_left
                               case' _ =>
                                 first
                                 | (exact absurd hg (by decide))
                                 | (exfalso; simp at hg; done)
                                 | (first | refine aany_take 11 rfl (.yes rfl rfl zDec) zKr zKr zKr (ar_load rfl zUpd rfl rfl zRc) rfl rfl ?_ | refine aany_take 11 rfl (.yes rfl rfl zDec) zKr zKr zKr (AQ.ar (aq_load_el rfl rfl rfl rfl (fun _ h => h))) rfl rfl ?_
                                    first | refine aany_take 13 rfl (.yes rfl rfl zDec) zKr zKr zKr (ar_load rfl zUpd rfl rfl zRc) rfl rfl ?_ | refine aany_take 13 rfl (.yes rfl rfl zDec) zKr zKr zKr (AQ.ar (aq_load_el rfl rfl rfl rfl (fun _ h => h))) rfl rfl ?_
                                    refine aany_one 12 zKr rfl (.yes rfl rfl zDec) ?_
                                    refine aops_call_v zRc (tsize_con z (by omega)) rfl rfl ?_
                                    refine aops_nil ?_
                                    refine aany_one 14 zKr rfl (.yes rfl rfl zDec) ?_
                                    refine aops_call_v zRc (rtsize_con z (by omega)) rfl rfl ?_
                                    refine aops_nil ?_
                                    refine aany_take 15 rfl (.yes rfl rfl zDec) zKr zKr zKr (AP.ar (ap_cmp rfl rfl rfl)) rfl rfl ?_
                                    first | refine aany_take 16 rfl (.yes rfl rfl zDec) zKr zKr zKr (AP.ar (ap_pick_true rfl zDec rfl)) rfl rfl ?_ | refine aany_take 16 rfl (.yes rfl rfl zDec) zKr zKr zKr (AP.ar (ap_pick_false rfl zDec rfl)) rfl rfl ?_
                                    first | refine aany_take 17 rfl (.none rfl) zKr zKr zKr (AP.ar (ap_pick_true rfl zDec rfl)) rfl rfl ?_ | refine aany_take 17 rfl (.none rfl) zKr zKr zKr (AP.ar (ap_pick_false rfl zDec rfl)) rfl rfl ?_
                                    refine aany_nil zKr ?_
                                   )
                               rotate_right
                               case' _ =>
                                 first
                                 | (exact absurd hg (by decide))
                                 | (exfalso; simp at hg; done)
                                 | (refine aany_skip 11 rfl (.no rfl rfl (by first | (show _ = true; with_reducible assumption) | exact zDec)) zKr zKr zKr rfl rfl ?_
                                    refine aany_skip 12 rfl (.no rfl rfl (by first | (show _ = true; with_reducible assumption) | exact zDec)) zKr zKr zKr rfl rfl ?_
                                    refine aany_skip 13 rfl (.no rfl rfl (by first | (show _ = true; with_reducible assumption) | exact zDec)) zKr zKr zKr rfl rfl ?_
                                    refine aany_skip 14 rfl (.no rfl rfl (by first | (show _ = true; with_reducible assumption) | exact zDec)) zKr zKr zKr rfl rfl ?_
                                    refine aany_skip 15 rfl (.no rfl rfl (by first | (show _ = true; with_reducible assumption) | exact zDec)) zKr zKr zKr rfl rfl ?_
                                    first | refine aany_take 16 rfl (.yes rfl rfl zDec) zKr zKr zKr (AP.ar (ap_pick_true rfl zDec rfl)) rfl rfl ?_ | refine aany_take 16 rfl (.yes rfl rfl zDec) zKr zKr zKr (AP.ar (ap_pick_false rfl zDec rfl)) rfl rfl ?_
                                    first | refine aany_take 17 rfl (.none rfl) zKr zKr zKr (AP.ar (ap_pick_true rfl zDec rfl)) rfl rfl ?_ | refine aany_take 17 rfl (.none rfl) zKr zKr zKr (AP.ar (ap_pick_false rfl zDec rfl)) rfl rfl ?_
                                    refine aany_nil zKr ?_
                                   )
                              )
                          all_goals (
                            refine seqQ_n ?_
                            refine awp_cond rfl (fun hc => ?_) (fun hc => ?_)
                            · first
                              | (exact absurd hc (by decide))
                              | (refine awp_seq ?_
                                 refine awp_region ?_
                                 refine aops_p (ap_assign rfl) rfl rfl rfl ?_
                                 refine aops_nil ?_
                                 refine seqQ_n ?_
                                 refine awp_ret ?_
                                 refine blockQ_r ?_
                                 refine seqQ_r ?_
                                 refine seqQ_r ?_
                                 refine blockQ_r ?_
                                 refine blockQ_r ?_
                                 refine seqQ_r ?_
                                 refine seqQ_r ?_
                                 refine blockQ_r ?_
                                 refine seqQ_r ?_
                                 first | (refine post_is (.tmp rfl .nil) (by repeat (first | exact .nil | refine .cons (by first | exact .here | exact .there .here | exact .there (.there .here) | exact .there (.there (.there .here)) | exact .there (.there (.there (.there .here)))) ?_)) rfl) | (exfalso; simp at hc; done) | (exfalso; simp at hg; done)
                                )
                            · first
                              | (exact absurd hc (by decide))
                              | (refine awp_skip ?_
                                 refine blockQ_n ?_
                                 refine seqQ_n ?_
                                 refine awp_region ?_
                                 refine aops_p (ap_arith rfl rfl rfl (by omega)) rfl rfl rfl ?_
                                 refine aops_p (ap_move rfl) rfl rfl rfl ?_
                                 refine aops_nil ?_
                                 refine seqQ_n ?_
                                 refine ⟨j + 1, by omega, by omega, wk zSub (by repeat (first | exact .nil | refine .cons (by first | exact .here | exact .there .here | exact .there (.there .here) | exact .there (.there (.there .here)) | exact .there (.there (.there (.there .here)))) ?_))⟩
                                )
                            )
                        · refine awp_exit ?_
                          refine seqQ_x ?_
                          refine seqQ_x ?_
                          refine blockQ_x rfl ?_
                          refine blockQ_n ?_
                          refine seqQ_n ?_
                          refine awp_region ?_
                          refine aops_p (ap_arith rfl rfl rfl (by omega)) rfl rfl rfl ?_
                          refine aops_p (ap_move rfl) rfl rfl rfl ?_
                          refine aops_nil ?_
                          refine seqQ_n ?_
                          refine ⟨k + 1, _, by omega, by omega, wk zSub (by repeat (first | exact .nil | refine .cons (by first | exact .here | exact .there .here | exact .there (.there .here) | exact .there (.there (.there .here)) | exact .there (.there (.there (.there .here)))) ?_))⟩
                        )
                     )
                 )
               )
           · refine awp_exit ?_
             refine seqQ_x ?_
             refine seqQ_x ?_
             refine blockQ_x rfl ?_
             refine seqQ_n ?_
             refine awp_seq ?_
             refine awp_region ?_
             refine aops_call_v zRc (awake12_con) rfl rfl ?_
             refine aops_p (ap_assign rfl) rfl rfl rfl ?_
             refine aops_nil ?_
             refine seqQ_n ?_
             refine awp_ret ?_
             first | (refine post_is (.tmp rfl .nil) (by repeat (first | exact .nil | refine .cons (by first | exact .here | exact .there .here | exact .there (.there .here) | exact .there (.there (.there .here)) | exact .there (.there (.there (.there .here)))) ?_)) rfl) | (exfalso; simp at hc; done) | (exfalso; simp at hg; done)
           )
        )
    )
end Go.Proofs.Ytanlbfnlnfkcjaa
