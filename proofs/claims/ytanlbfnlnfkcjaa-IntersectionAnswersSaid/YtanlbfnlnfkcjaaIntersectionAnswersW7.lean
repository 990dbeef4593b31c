/- The walks of: right_con, samec_con, prove_con, Prove_con, checkT_con, awake12_con, r1size_con, subsets_con, rmembers_con. Each says what one function of the program answers, for the arguments that its statement names. No condition beyond what each theorem says. -/
import Derived.Test.YtanlbfnlnfkcjaaIntersectionAnswersW6
import Derived.Test.YtanlbfnlnfkcjaaProg
import Derived.KernelRfl
import Derived.Tactics
import Derived.Tactics2
import Derived.StillTactics
set_option linter.unusedVariables false
set_option linter.unusedSimpArgs false
set_option linter.unnecessarySimpa false
set_option maxRecDepth 4000
namespace Go.Proofs.Ytanlbfnlnfkcjaa
open Go Go.Av Go.Tq
theorem right_con (c : List Mem) (hcl : c.length ≤ 10) : ∀ (x : Tr) (req exc : Nat), req < 1024 → exc < 1024 → Con Try.prog 110 [cv c, tv x, .i req, .i exc] [] (Is (.b (rightC c x req exc)) []) := by
  have hcap : capB = 140737488355328 := rfl
  intro x
  induction x using Tr.ind with
  | _ x ih =>
    intro req exc hr he
    have hl := tvs_len x.kids
    have h10 := pow_le10 hcl
    have hpos : 0 < 2 ^ c.length := Nat.pow_pos (by omega)
    have hcol : (2 ^ c.length - 1) &&& (2 ^ 63 - 1 - req) < 1024 := co_lt (s := req) hcl
    refine con_intro Try.func110 rfl Try.call110 rfl ?_
    refine awp_seq ?_
    refine awp_region ?_
    refine aops_box rfl zFlat rfl rfl (fun b4 => ?_)
    refine aops_box rfl zFlat rfl rfl (fun b5 => ?_)
    refine aops_p (ap_assign rfl) rfl rfl rfl ?_
    refine aops_nil ?_
    refine seqQ_n ?_
    refine awp_seq ?_
    refine awp_region ?_
    first | refine aops_p (ap_fieldAddr (off := 1) (sz := 1) (g := false) rfl rfl) rfl rfl rfl ?_ | refine aops_p (ap_fieldAddr_el (off := 1) (sz := 1) (g := false) rfl rfl zRc) rfl rfl rfl ?_
    first | refine aops_q (aq_load1 rfl zUpd List.not_mem_nil rfl zRc) rfl rfl rfl ?_ | refine aops_q (aq_load_el1 rfl rfl zScal (fun _ h => absurd h List.not_mem_nil)) rfl rfl rfl ?_ | refine aops_q (aq_load_el1' rfl rfl zScal (fun _ h => absurd h List.not_mem_nil)) rfl rfl rfl ?_ | refine aops_q (aq_load_own1 rfl zUpd List.not_mem_nil rfl zAss zScal) rfl rfl rfl ?_
    refine aops_p (ap_cmp rfl rfl rfl) rfl rfl rfl ?_
    refine aops_p (ap_move rfl) rfl rfl rfl ?_
    all_goals (first | (refine aops_yes rfl rfl rfl rfl zDec ?_; (first | refine aops_p (ap_fieldAddr (off := 2) (sz := 1) (g := false) rfl rfl) rfl rfl rfl ?_ | refine aops_p (ap_fieldAddr_el (off := 2) (sz := 1) (g := false) rfl rfl zRc) rfl rfl rfl ?_)) | refine aops_no_u rfl rfl rfl ?_ | refine aops_no_t rfl rfl rfl rfl zDec ?_ | (refine aops_guard_t rfl rfl rfl rfl (fun hg => ?_) (fun hg => ?_); case' _ => (first | refine aops_p (ap_fieldAddr (off := 2) (sz := 1) (g := false) rfl rfl) rfl rfl rfl ?_ | refine aops_p (ap_fieldAddr_el (off := 2) (sz := 1) (g := false) rfl rfl zRc) rfl rfl rfl ?_)))
    all_goals (first | (refine aops_yes rfl rfl rfl rfl zDec ?_; (first | refine aops_q (aq_load1 rfl zUpd List.not_mem_nil rfl zRc) rfl rfl rfl ?_ | refine aops_q (aq_load_el1 rfl rfl zScal (fun _ h => absurd h List.not_mem_nil)) rfl rfl rfl ?_ | refine aops_q (aq_load_el1' rfl rfl zScal (fun _ h => absurd h List.not_mem_nil)) rfl rfl rfl ?_ | refine aops_q (aq_load_own1 rfl zUpd List.not_mem_nil rfl zAss zScal) rfl rfl rfl ?_)) | refine aops_no_u rfl rfl rfl ?_ | refine aops_no_t rfl rfl rfl rfl zDec ?_ | (refine aops_guard_t rfl rfl rfl rfl (fun hg => ?_) (fun hg => ?_); case' _ => (first | refine aops_q (aq_load1 rfl zUpd List.not_mem_nil rfl zRc) rfl rfl rfl ?_ | refine aops_q (aq_load_el1 rfl rfl zScal (fun _ h => absurd h List.not_mem_nil)) rfl rfl rfl ?_ | refine aops_q (aq_load_el1' rfl rfl zScal (fun _ h => absurd h List.not_mem_nil)) rfl rfl rfl ?_ | refine aops_q (aq_load_own1 rfl zUpd List.not_mem_nil rfl zAss zScal) rfl rfl rfl ?_)))
    all_goals (first | (refine aops_yes rfl rfl rfl rfl zDec ?_; (first | refine aops_len rfl rfl rfl rfl (fun _ => ?_) | refine aops_p (ap_len_arr rfl zUpd rfl) rfl rfl rfl ?_ | refine aops_p (ap_len_nil rfl rfl) rfl rfl rfl ?_)) | refine aops_no_u rfl rfl rfl ?_ | refine aops_no_t rfl rfl rfl rfl zDec ?_ | (refine aops_guard_t rfl rfl rfl rfl (fun hg => ?_) (fun hg => ?_); case' _ => (first | refine aops_len rfl rfl rfl rfl (fun _ => ?_) | refine aops_p (ap_len_arr rfl zUpd rfl) rfl rfl rfl ?_ | refine aops_p (ap_len_nil rfl rfl) rfl rfl rfl ?_)))
    all_goals (first | (refine aops_yes rfl rfl rfl rfl zDec ?_; (refine aops_p (ap_cmp rfl rfl rfl) rfl rfl rfl ?_)) | refine aops_no_u rfl rfl rfl ?_ | refine aops_no_t rfl rfl rfl rfl zDec ?_ | (refine aops_guard_t rfl rfl rfl rfl (fun hg => ?_) (fun hg => ?_); case' _ => (refine aops_p (ap_cmp rfl rfl rfl) rfl rfl rfl ?_)))
    all_goals (first | refine aops_p (ap_pick_true rfl zDec rfl) rfl rfl rfl ?_ | refine aops_p (ap_pick_false rfl zDec rfl) rfl rfl rfl ?_)
    all_goals (refine aops_p (ap_assign rfl) rfl rfl rfl ?_)
    all_goals (
      refine aops_nil ?_
      refine seqQ_n ?_
      refine awp_seq ?_
      refine awp_seq ?_
      refine awp_region ?_
      first | refine aops_p (ap_fieldAddr (off := 0) (sz := 1) (g := false) rfl rfl) rfl rfl rfl ?_ | refine aops_p (ap_fieldAddr_el (off := 0) (sz := 1) (g := false) rfl rfl zRc) rfl rfl rfl ?_
      first | refine aops_q (aq_load1 rfl zUpd List.not_mem_nil rfl zRc) rfl rfl rfl ?_ | refine aops_q (aq_load_el1 rfl rfl zScal (fun _ h => absurd h List.not_mem_nil)) rfl rfl rfl ?_ | refine aops_q (aq_load_el1' rfl rfl zScal (fun _ h => absurd h List.not_mem_nil)) rfl rfl rfl ?_ | refine aops_q (aq_load_own1 rfl zUpd List.not_mem_nil rfl zAss zScal) rfl rfl rfl ?_
      refine aops_nil ?_
      refine seqQ_n ?_
      refine awp_block ?_
      refine awp_seq ?_
      refine awp_region ?_
      refine aops_p (ap_cmp rfl rfl rfl) rfl rfl rfl ?_
      refine aops_p (ap_assign rfl) rfl rfl rfl ?_
      refine aops_nil ?_
      refine seqQ_n ?_
      refine awp_cond rfl (fun hc => ?_) (fun hc => ?_)
      · have hk1 := of_decide_eq_true hc
        refine awp_seq ?_
        refine awp_region ?_
        refine aops_p (ap_move rfl) rfl rfl rfl ?_
        refine aops_p (ap_move rfl) rfl rfl rfl ?_
        all_goals (first | (refine aops_yes rfl rfl rfl rfl zDec ?_; (first | refine aops_q (aq_load rfl zUpd List.not_mem_nil rfl rfl zRc) rfl rfl rfl ?_ | refine aops_q (aq_load_el rfl rfl rfl rfl (fun _ h => absurd h List.not_mem_nil)) rfl rfl rfl ?_)) | refine aops_no_u rfl rfl rfl ?_ | refine aops_no_t rfl rfl rfl rfl zDec ?_ | (refine aops_guard_t rfl rfl rfl rfl (fun hg => ?_) (fun hg => ?_); case' _ => (first | refine aops_q (aq_load rfl zUpd List.not_mem_nil rfl rfl zRc) rfl rfl rfl ?_ | refine aops_q (aq_load_el rfl rfl rfl rfl (fun _ h => absurd h List.not_mem_nil)) rfl rfl rfl ?_)))
        all_goals (first | (refine aops_yes rfl rfl rfl rfl zDec ?_; (refine aops_p (ap_move rfl) rfl rfl rfl ?_)) | refine aops_no_u rfl rfl rfl ?_ | refine aops_no_t rfl rfl rfl rfl zDec ?_ | (refine aops_guard_t rfl rfl rfl rfl (fun hg => ?_) (fun hg => ?_); case' _ => (refine aops_p (ap_move rfl) rfl rfl rfl ?_)))
        all_goals (first | (refine aops_yes rfl rfl rfl rfl zDec ?_; (refine aops_p (ap_move rfl) rfl rfl rfl ?_)) | refine aops_no_u rfl rfl rfl ?_ | refine aops_no_t rfl rfl rfl rfl zDec ?_ | (refine aops_guard_t rfl rfl rfl rfl (fun hg => ?_) (fun hg => ?_); case' _ => (refine aops_p (ap_move rfl) rfl rfl rfl ?_)))
        all_goals (first | (refine aops_yes rfl rfl rfl rfl zDec ?_; (refine aops_call_b zRc (none_con c hcl req exc hr he) rfl rfl (fun c28 hc28 => ?_))) | refine aops_no_u rfl rfl rfl ?_ | refine aops_no_t rfl rfl rfl rfl zDec ?_ | (refine aops_guard_t rfl rfl rfl rfl (fun hg => ?_) (fun hg => ?_); case' _ => (refine aops_call_b zRc (none_con c hcl req exc hr he) rfl rfl (fun c28 hc28 => ?_))))
        all_goals (first | refine aops_p (ap_pick_true rfl zDec rfl) rfl rfl rfl ?_ | refine aops_p (ap_pick_false rfl zDec rfl) rfl rfl rfl ?_)
        all_goals (refine aops_p (ap_assign rfl) rfl rfl rfl ?_)
        all_goals (
          refine aops_nil ?_
          refine seqQ_n ?_
          refine awp_ret ?_
          refine blockQ_r ?_
          refine seqQ_r ?_
          refine post_is (.tmp rfl .nil) .nil ?_
          rw [right_1 hk1]
          simp only [resD]
          first | (simp_all; done)
          )
      · have hk1 := of_decide_eq_false hc
        refine awp_seq ?_
        refine awp_region ?_
        refine aops_p (ap_cmp rfl rfl rfl) rfl rfl rfl ?_
        refine aops_p (ap_assign rfl) rfl rfl rfl ?_
        refine aops_nil ?_
        refine seqQ_n ?_
        refine awp_cond rfl (fun hc => ?_) (fun hc => ?_)
        · have hk2 := of_decide_eq_true hc
          refine awp_seq ?_
          refine awp_region ?_
          refine aops_p (ap_move rfl) rfl rfl rfl ?_
          refine aops_p (ap_move rfl) rfl rfl rfl ?_
          all_goals (first | (refine aops_yes rfl rfl rfl rfl zDec ?_; (first | refine aops_q (aq_load rfl zUpd List.not_mem_nil rfl rfl zRc) rfl rfl rfl ?_ | refine aops_q (aq_load_el rfl rfl rfl rfl (fun _ h => absurd h List.not_mem_nil)) rfl rfl rfl ?_)) | refine aops_no_u rfl rfl rfl ?_ | refine aops_no_t rfl rfl rfl rfl zDec ?_ | (refine aops_guard_t rfl rfl rfl rfl (fun hg => ?_) (fun hg => ?_); case' _ => (first | refine aops_q (aq_load rfl zUpd List.not_mem_nil rfl rfl zRc) rfl rfl rfl ?_ | refine aops_q (aq_load_el rfl rfl rfl rfl (fun _ h => absurd h List.not_mem_nil)) rfl rfl rfl ?_)))
          all_goals (first | (refine aops_yes rfl rfl rfl rfl zDec ?_; (refine aops_p (ap_move rfl) rfl rfl rfl ?_)) | refine aops_no_u rfl rfl rfl ?_ | refine aops_no_t rfl rfl rfl rfl zDec ?_ | (refine aops_guard_t rfl rfl rfl rfl (fun hg => ?_) (fun hg => ?_); case' _ => (refine aops_p (ap_move rfl) rfl rfl rfl ?_)))
          all_goals (first | (refine aops_yes rfl rfl rfl rfl zDec ?_; (refine aops_call_b zRc (alone_con c hcl req hr) rfl rfl (fun c36 hc36 => ?_))) | refine aops_no_u rfl rfl rfl ?_ | refine aops_no_t rfl rfl rfl rfl zDec ?_ | (refine aops_guard_t rfl rfl rfl rfl (fun hg => ?_) (fun hg => ?_); case' _ => (refine aops_call_b zRc (alone_con c hcl req hr) rfl rfl (fun c36 hc36 => ?_))))
          all_goals (first | refine aops_p (ap_pick_true rfl zDec rfl) rfl rfl rfl ?_ | refine aops_p (ap_pick_false rfl zDec rfl) rfl rfl rfl ?_)
          all_goals (refine aops_p (ap_assign rfl) rfl rfl rfl ?_)
          all_goals (
            refine aops_nil ?_
            refine seqQ_n ?_
            refine awp_ret ?_
            refine blockQ_r ?_
            refine seqQ_r ?_
            refine post_is (.tmp rfl .nil) .nil ?_
            rw [right_2 hk2]
            simp only [resD]
            first | (simp_all; done)
            )
        · have hk2 := of_decide_eq_false hc
          refine awp_seq ?_
          refine awp_region ?_
          refine aops_p (ap_cmp rfl rfl rfl) rfl rfl rfl ?_
          refine aops_p (ap_assign rfl) rfl rfl rfl ?_
          refine aops_nil ?_
          refine seqQ_n ?_
          refine awp_cond rfl (fun hc => ?_) (fun hc => ?_)
          · have hk3 := of_decide_eq_true hc
            refine awp_seq ?_
            refine awp_seq ?_
            refine awp_draw (Hm := []) zKr zSplit ?_
            first | refine aany_take 0 rfl (.none rfl) zKr zKr zKr (AP.ar (ap_fieldAddr (off := 2) (sz := 1) (g := false) rfl rfl)) rfl rfl ?_ | refine aany_take 0 rfl (.none rfl) zKr zKr zKr (AP.ar (ap_fieldAddr_el (off := 2) (sz := 1) (g := false) rfl rfl zRc)) rfl rfl ?_
            first | refine aany_take 1 rfl (.none rfl) zKr zKr zKr (ar_load1 rfl zUpd rfl zRc) rfl rfl ?_ | refine aany_take 1 rfl (.none rfl) zKr zKr zKr (AQ.ar (aq_load_el1 rfl rfl zScal (fun _ h => h))) rfl rfl ?_ | refine aany_take 1 rfl (.none rfl) zKr zKr zKr (AQ.ar (aq_load_el1' rfl rfl zScal (fun _ h => h))) rfl rfl ?_ | refine aany_take 1 rfl (.none rfl) zKr zKr zKr (ar_load_own1 rfl zUpd rfl zAss zScal) rfl rfl ?_
            first | refine aany_take 2 rfl (.none rfl) zKr zKr zKr (AP.ar (ap_len rfl rfl)) rfl rfl ?_ | refine aany_take 2 rfl (.none rfl) zKr zKr zKr (ar_len_arr rfl zUpd rfl) rfl rfl ?_ | refine aany_take 2 rfl (.none rfl) zKr zKr zKr (AP.ar (ap_len_nil rfl rfl)) rfl rfl ?_
            refine aany_take 3 rfl (.none rfl) zKr zKr zKr (AP.ar (ap_cmp rfl rfl rfl)) rfl rfl ?_
            refine aany_take 4 rfl (.none rfl) zKr zKr zKr (AP.ar (ap_move rfl)) rfl rfl ?_
            refine aany_guard 4 rfl (fun hg => ?_) (fun hg => ?_)
            rotate_left
            case' _ =>
              first
              | (exact absurd hg (by decide))
              | (exfalso; simp at hg; done)
              | (first | refine aany_take 5 rfl (.yes rfl rfl zDec) zKr zKr zKr (ar_load rfl zUpd rfl rfl zRc) rfl rfl ?_ | refine aany_take 5 rfl (.yes rfl rfl zDec) zKr zKr zKr (AQ.ar (aq_load_el rfl rfl rfl rfl (fun _ h => h))) rfl rfl ?_
                 refine aany_take 7 rfl (.yes rfl rfl zDec) zKr zKr zKr (AP.ar (ap_move rfl)) rfl rfl ?_
                 refine aany_take 9 rfl (.yes rfl rfl zDec) zKr zKr zKr (AP.ar (ap_move rfl)) rfl rfl ?_
                 first | refine aany_take 11 rfl (.yes rfl rfl zDec) zKr zKr zKr (AP.ar (ap_fieldAddr (off := 1) (sz := 1) (g := false) rfl rfl)) rfl rfl ?_ | refine aany_take 11 rfl (.yes rfl rfl zDec) zKr zKr zKr (AP.ar (ap_fieldAddr_el (off := 1) (sz := 1) (g := false) rfl rfl zRc)) rfl rfl ?_
                 first | refine aany_take 12 rfl (.yes rfl rfl zDec) zKr zKr zKr (ar_load1 rfl zUpd rfl zRc) rfl rfl ?_ | refine aany_take 12 rfl (.yes rfl rfl zDec) zKr zKr zKr (AQ.ar (aq_load_el1 rfl rfl zScal (fun _ h => h))) rfl rfl ?_ | refine aany_take 12 rfl (.yes rfl rfl zDec) zKr zKr zKr (AQ.ar (aq_load_el1' rfl rfl zScal (fun _ h => h))) rfl rfl ?_ | refine aany_take 12 rfl (.yes rfl rfl zDec) zKr zKr zKr (ar_load_own1 rfl zUpd rfl zAss zScal) rfl rfl ?_
                 refine aany_one 6 zKr rfl (.yes rfl rfl zDec) ?_
                 refine aops_call_v zRc (members_con c hcl) rfl rfl ?_
                 refine aops_nil ?_
                 refine aany_take 8 rfl (.yes rfl rfl zDec) zKr zKr zKr (AP.ar (ap_bits rfl rfl rfl (by omega) (by omega))) rfl rfl ?_
                 refine aany_take 10 rfl (.yes rfl rfl zDec) zKr zKr zKr (AP.ar (ap_bits rfl rfl rfl (by omega) (by omega))) rfl rfl ?_
                 refine aany_one 13 zKr rfl (.yes rfl rfl zDec) ?_
                 refine aops_call_b zRc (has_con (freeC c req exc) x.node) rfl rfl (fun c53 hc53 => ?_)
                 refine aops_nil ?_
                 refine aany_take 14 rfl (.yes rfl rfl zDec) zKr zKr zKr (AP.ar (ap_not rfl)) rfl rfl ?_
                 first | refine aany_take 15 rfl (.none rfl) zKr zKr zKr (AP.ar (ap_pick_true rfl zDec rfl)) rfl rfl ?_ | refine aany_take 15 rfl (.none rfl) zKr zKr zKr (AP.ar (ap_pick_false rfl zDec rfl)) rfl rfl ?_
                 refine aany_nil zKr ?_
                )
            rotate_right
            case' _ =>
              first
              | (exact absurd hg (by decide))
              | (exfalso; simp at hg; done)
              | (refine aany_skip 5 rfl (.no rfl rfl (by first | (show _ = true; with_reducible assumption) | exact zDec)) zKr zKr zKr rfl rfl ?_
                 refine aany_skip 6 rfl (.no rfl rfl (by first | (show _ = true; with_reducible assumption) | exact zDec)) zKr zKr zKr rfl rfl ?_
                 refine aany_skip 7 rfl (.no rfl rfl (by first | (show _ = true; with_reducible assumption) | exact zDec)) zKr zKr zKr rfl rfl ?_
                 refine aany_skip 8 rfl (.no rfl rfl (by first | (show _ = true; with_reducible assumption) | exact zDec)) zKr zKr zKr rfl rfl ?_
                 refine aany_skip 9 rfl (.no rfl rfl (by first | (show _ = true; with_reducible assumption) | exact zDec)) zKr zKr zKr rfl rfl ?_
                 refine aany_skip 10 rfl (.no rfl rfl (by first | (show _ = true; with_reducible assumption) | exact zDec)) zKr zKr zKr rfl rfl ?_
                 refine aany_skip 11 rfl (.no rfl rfl (by first | (show _ = true; with_reducible assumption) | exact zDec)) zKr zKr zKr rfl rfl ?_
                 refine aany_skip 12 rfl (.no rfl rfl (by first | (show _ = true; with_reducible assumption) | exact zDec)) zKr zKr zKr rfl rfl ?_
                 refine aany_skip 13 rfl (.no rfl rfl (by first | (show _ = true; with_reducible assumption) | exact zDec)) zKr zKr zKr rfl rfl ?_
                 refine aany_skip 14 rfl (.no rfl rfl (by first | (show _ = true; with_reducible assumption) | exact zDec)) zKr zKr zKr rfl rfl ?_
                 first | refine aany_take 15 rfl (.none rfl) zKr zKr zKr (AP.ar (ap_pick_true rfl zDec rfl)) rfl rfl ?_ | refine aany_take 15 rfl (.none rfl) zKr zKr zKr (AP.ar (ap_pick_false rfl zDec rfl)) rfl rfl ?_
                 refine aany_nil zKr ?_
                )
            all_goals (
              refine seqQ_n ?_
              refine awp_cond rfl (fun hc => ?_) (fun hc => ?_)
              · first
                | (exact absurd hc (by decide))
                | (refine awp_seq ?_
                   refine awp_region ?_
                   refine aops_p (ap_assign rfl) rfl rfl rfl ?_
                   refine aops_nil ?_
                   refine seqQ_n ?_
                   refine awp_ret ?_
                   refine seqQ_r ?_
                   refine blockQ_r ?_
                   refine seqQ_r ?_
                   refine post_is (.tmp rfl .nil) .nil ?_
                   first
                   | (rw [right_3n hk3 (fun e => of_neq_true (show (!decide ((((tvs x.kids).length : Nat) : Int) = 2)) = true by with_reducible assumption) (by omega))]; rfl)
                   | (have hl2 := of_neq_false (show (!decide ((((tvs x.kids).length : Nat) : Int) = 2)) = false by with_reducible assumption); rw [right_3f hk3 (by omega) (hc53.trans (not_t hc))]; rfl)
                  )
              · first
                | (exact absurd hc (by decide))
                | (have hl2 := of_neq_false (show (!decide ((((tvs x.kids).length : Nat) : Int) = 2)) = false by with_reducible assumption)
                   have hl3 : x.kids.length = 2 := by omega
                   obtain ⟨a, b, hab⟩ := two_kids hl3
                   have hh := hc53.trans (not_f hc)
                   obtain ⟨j, hnj, hjl, hjr, hje⟩ := (free_has hcl hr he).1 hh
                   have hpj := pow_lt10 (k := j) (by omega)
                   have hy0 : (tvs x.kids)[0]? = some (tv a) := tvs_get (by rw [hab]; rfl)
                   have hy1 : (tvs x.kids)[1]? = some (tv b) := tvs_get (by rw [hab]; rfl)
                   have hej := or_lt10 he (show j < 10 by omega)
                   have hrj := or_lt10 hr (show j < 10 by omega)
                   refine awp_skip ?_
                   refine seqQ_n ?_
                   refine awp_seq ?_
                   rw [hnj]
                   refine awp_draw (Hm := []) zKr zSplit ?_
                   first | refine aany_take 0 rfl (.none rfl) zKr zKr zKr (ar_load rfl zUpd rfl rfl zRc) rfl rfl ?_ | refine aany_take 0 rfl (.none rfl) zKr zKr zKr (AQ.ar (aq_load_el rfl rfl rfl rfl (fun _ h => h))) rfl rfl ?_
                   first | refine aany_take 1 rfl (.none rfl) zKr zKr zKr (AP.ar (ap_fieldAddr (off := 2) (sz := 1) (g := false) rfl rfl)) rfl rfl ?_ | refine aany_take 1 rfl (.none rfl) zKr zKr zKr (AP.ar (ap_fieldAddr_el (off := 2) (sz := 1) (g := false) rfl rfl zRc)) rfl rfl ?_
                   first | refine aany_take 2 rfl (.none rfl) zKr zKr zKr (ar_load1 rfl zUpd rfl zRc) rfl rfl ?_ | refine aany_take 2 rfl (.none rfl) zKr zKr zKr (AQ.ar (aq_load_el1 rfl rfl zScal (fun _ h => h))) rfl rfl ?_ | refine aany_take 2 rfl (.none rfl) zKr zKr zKr (AQ.ar (aq_load_el1' rfl rfl zScal (fun _ h => h))) rfl rfl ?_ | refine aany_take 2 rfl (.none rfl) zKr zKr zKr (ar_load_own1 rfl zUpd rfl zAss zScal) rfl rfl ?_
                   refine aany_take 3 rfl (.none rfl) zKr zKr zKr (AP.ar (ap_index (k := 0) rfl rfl rfl rfl (by decide) rfl hy0)) rfl rfl ?_
                   first | refine aany_take 4 rfl (.none rfl) zKr zKr zKr (ar_load rfl zUpd rfl rfl zRc) rfl rfl ?_ | refine aany_take 4 rfl (.none rfl) zKr zKr zKr (AQ.ar (aq_load_el rfl rfl rfl rfl (fun _ h => h))) rfl rfl ?_
                   refine aany_take 5 rfl (.none rfl) zKr zKr zKr (AP.ar (ap_move rfl)) rfl rfl ?_
                   refine aany_take 6 rfl (.none rfl) zKr zKr zKr (AP.ar (ap_move rfl)) rfl rfl ?_
                   first | refine aany_take 7 rfl (.none rfl) zKr zKr zKr (AP.ar (ap_fieldAddr (off := 1) (sz := 1) (g := false) rfl rfl)) rfl rfl ?_ | refine aany_take 7 rfl (.none rfl) zKr zKr zKr (AP.ar (ap_fieldAddr_el (off := 1) (sz := 1) (g := false) rfl rfl zRc)) rfl rfl ?_
                   first | refine aany_take 8 rfl (.none rfl) zKr zKr zKr (ar_load1 rfl zUpd rfl zRc) rfl rfl ?_ | refine aany_take 8 rfl (.none rfl) zKr zKr zKr (AQ.ar (aq_load_el1 rfl rfl zScal (fun _ h => h))) rfl rfl ?_ | refine aany_take 8 rfl (.none rfl) zKr zKr zKr (AQ.ar (aq_load_el1' rfl rfl zScal (fun _ h => h))) rfl rfl ?_ | refine aany_take 8 rfl (.none rfl) zKr zKr zKr (ar_load_own1 rfl zUpd rfl zAss zScal) rfl rfl ?_
                   refine aany_take 9 rfl (.none rfl) zKr zKr zKr (AP.ar (ap_shl (p := 1) rfl rfl rfl (by omega) (by omega))) rfl rfl ?_
                   refine aany_take 10 rfl (.none rfl) zKr zKr zKr (AP.ar (ap_bits rfl rfl rfl (by omega) (by omega))) rfl rfl ?_
                   refine aany_one 11 zKr rfl (.none rfl) ?_
                   refine aops_call_b zRc (ih a (by rw [hab]; simp) req (exc ||| 1 * 2 ^ j) hr hej) rfl rfl (fun c67 hc67 => ?_)
                   refine aops_nil ?_
                   refine aany_take 12 rfl (.none rfl) zKr zKr zKr (AP.ar (ap_move rfl)) rfl rfl ?_
                   refine aany_guard 12 rfl (fun hg => ?_) (fun hg => ?_)
                   rotate_left
                   case' _ =>
                     first
                     | (exact absurd hg (by decide))
                     | (exfalso; simp at hg; done)
                     | (refine aany_skip 13 rfl (.no rfl rfl (by first | (show _ = false; with_reducible assumption) | exact zDec)) zKr zKr zKr rfl rfl ?_
                        refine aany_skip 14 rfl (.no rfl rfl (by first | (show _ = false; with_reducible assumption) | exact zDec)) zKr zKr zKr rfl rfl ?_
                        refine aany_skip 15 rfl (.no rfl rfl (by first | (show _ = false; with_reducible assumption) | exact zDec)) zKr zKr zKr rfl rfl ?_
                        refine aany_skip 16 rfl (.no rfl rfl (by first | (show _ = false; with_reducible assumption) | exact zDec)) zKr zKr zKr rfl rfl ?_
                        refine aany_skip 17 rfl (.no rfl rfl (by first | (show _ = false; with_reducible assumption) | exact zDec)) zKr zKr zKr rfl rfl ?_
                        refine aany_skip 18 rfl (.no rfl rfl (by first | (show _ = false; with_reducible assumption) | exact zDec)) zKr zKr zKr rfl rfl ?_
                        refine aany_skip 19 rfl (.no rfl rfl (by first | (show _ = false; with_reducible assumption) | exact zDec)) zKr zKr zKr rfl rfl ?_
                        refine aany_skip 20 rfl (.no rfl rfl (by first | (show _ = false; with_reducible assumption) | exact zDec)) zKr zKr zKr rfl rfl ?_
                        refine aany_skip 21 rfl (.no rfl rfl (by first | (show _ = false; with_reducible assumption) | exact zDec)) zKr zKr zKr rfl rfl ?_
                        refine aany_skip 22 rfl (.no rfl rfl (by first | (show _ = false; with_reducible assumption) | exact zDec)) zKr zKr zKr rfl rfl ?_
                        refine aany_skip 23 rfl (.no rfl rfl (by first | (show _ = false; with_reducible assumption) | exact zDec)) zKr zKr zKr rfl rfl ?_
                        refine aany_skip 24 rfl (.no rfl rfl (by first | (show _ = false; with_reducible assumption) | exact zDec)) zKr zKr zKr rfl rfl ?_
                        first | refine aany_take 25 rfl (.none rfl) zKr zKr zKr (AP.ar (ap_pick_true rfl zDec rfl)) rfl rfl ?_ | refine aany_take 25 rfl (.none rfl) zKr zKr zKr (AP.ar (ap_pick_false rfl zDec rfl)) rfl rfl ?_
                        refine aany_take 26 rfl (.none rfl) zKr zKr zKr (AP.ar (ap_assign rfl)) rfl rfl ?_
                        refine aany_nil zKr ?_
                       )
                   rotate_right
                   case' _ =>
                     first
                     | (exact absurd hg (by decide))
                     | (exfalso; simp at hg; done)
                     | (first | refine aany_take 13 rfl (.yes rfl rfl zDec) zKr zKr zKr (ar_load rfl zUpd rfl rfl zRc) rfl rfl ?_ | refine aany_take 13 rfl (.yes rfl rfl zDec) zKr zKr zKr (AQ.ar (aq_load_el rfl rfl rfl rfl (fun _ h => h))) rfl rfl ?_
                        first | refine aany_take 14 rfl (.yes rfl rfl zDec) zKr zKr zKr (AP.ar (ap_fieldAddr (off := 2) (sz := 1) (g := false) rfl rfl)) rfl rfl ?_ | refine aany_take 14 rfl (.yes rfl rfl zDec) zKr zKr zKr (AP.ar (ap_fieldAddr_el (off := 2) (sz := 1) (g := false) rfl rfl zRc)) rfl rfl ?_
                        first | refine aany_take 15 rfl (.yes rfl rfl zDec) zKr zKr zKr (ar_load1 rfl zUpd rfl zRc) rfl rfl ?_ | refine aany_take 15 rfl (.yes rfl rfl zDec) zKr zKr zKr (AQ.ar (aq_load_el1 rfl rfl zScal (fun _ h => h))) rfl rfl ?_ | refine aany_take 15 rfl (.yes rfl rfl zDec) zKr zKr zKr (AQ.ar (aq_load_el1' rfl rfl zScal (fun _ h => h))) rfl rfl ?_ | refine aany_take 15 rfl (.yes rfl rfl zDec) zKr zKr zKr (ar_load_own1 rfl zUpd rfl zAss zScal) rfl rfl ?_
                        refine aany_take 16 rfl (.yes rfl rfl zDec) zKr zKr zKr (AP.ar (ap_index (k := 1) rfl rfl rfl rfl (by decide) rfl hy1)) rfl rfl ?_
                        first | refine aany_take 17 rfl (.yes rfl rfl zDec) zKr zKr zKr (ar_load rfl zUpd rfl rfl zRc) rfl rfl ?_ | refine aany_take 17 rfl (.yes rfl rfl zDec) zKr zKr zKr (AQ.ar (aq_load_el rfl rfl rfl rfl (fun _ h => h))) rfl rfl ?_
                        refine aany_take 18 rfl (.yes rfl rfl zDec) zKr zKr zKr (AP.ar (ap_move rfl)) rfl rfl ?_
                        first | refine aany_take 19 rfl (.yes rfl rfl zDec) zKr zKr zKr (AP.ar (ap_fieldAddr (off := 1) (sz := 1) (g := false) rfl rfl)) rfl rfl ?_ | refine aany_take 19 rfl (.yes rfl rfl zDec) zKr zKr zKr (AP.ar (ap_fieldAddr_el (off := 1) (sz := 1) (g := false) rfl rfl zRc)) rfl rfl ?_
                        first | refine aany_take 20 rfl (.yes rfl rfl zDec) zKr zKr zKr (ar_load1 rfl zUpd rfl zRc) rfl rfl ?_ | refine aany_take 20 rfl (.yes rfl rfl zDec) zKr zKr zKr (AQ.ar (aq_load_el1 rfl rfl zScal (fun _ h => h))) rfl rfl ?_ | refine aany_take 20 rfl (.yes rfl rfl zDec) zKr zKr zKr (AQ.ar (aq_load_el1' rfl rfl zScal (fun _ h => h))) rfl rfl ?_ | refine aany_take 20 rfl (.yes rfl rfl zDec) zKr zKr zKr (ar_load_own1 rfl zUpd rfl zAss zScal) rfl rfl ?_
                        refine aany_take 21 rfl (.yes rfl rfl zDec) zKr zKr zKr (AP.ar (ap_shl (p := 1) rfl rfl rfl (by omega) (by omega))) rfl rfl ?_
                        refine aany_take 22 rfl (.yes rfl rfl zDec) zKr zKr zKr (AP.ar (ap_bits rfl rfl rfl (by omega) (by omega))) rfl rfl ?_
                        refine aany_take 23 rfl (.yes rfl rfl zDec) zKr zKr zKr (AP.ar (ap_move rfl)) rfl rfl ?_
                        refine aany_one 24 zKr rfl (.yes rfl rfl zDec) ?_
                        refine aops_call_b zRc (ih b (by rw [hab]; simp) (req ||| 1 * 2 ^ j) exc hrj he) rfl rfl (fun c80 hc80 => ?_)
                        refine aops_nil ?_
                        first | refine aany_take 25 rfl (.none rfl) zKr zKr zKr (AP.ar (ap_pick_true rfl zDec rfl)) rfl rfl ?_ | refine aany_take 25 rfl (.none rfl) zKr zKr zKr (AP.ar (ap_pick_false rfl zDec rfl)) rfl rfl ?_
                        refine aany_take 26 rfl (.none rfl) zKr zKr zKr (AP.ar (ap_assign rfl)) rfl rfl ?_
                        refine aany_nil zKr ?_
                       )
                   all_goals (
                     refine seqQ_n ?_
                     refine awp_ret ?_
                     refine blockQ_r ?_
                     refine seqQ_r ?_
                     refine post_is (.tmp rfl .nil) .nil ?_
                     rw [right_3t hk3 hab hnj hh]
                     first | (rw [hc67, show c67 = false by with_reducible assumption, Bool.false_and]; rfl) | (rw [hc67, hc80, show c67 = true by with_reducible assumption, Bool.true_and]; rfl)
                     )
                  )
              )
          · have hk3 := of_decide_eq_false hc
            refine awp_skip ?_
            refine blockQ_n ?_
            refine seqQ_n ?_
            refine awp_seq ?_
            refine awp_region ?_
            refine aops_p (ap_assign rfl) rfl rfl rfl ?_
            refine aops_nil ?_
            refine seqQ_n ?_
            refine awp_ret ?_
            refine post_is (.tmp rfl .nil) .nil ?_
            rw [right_0 hk1 hk2 hk3]; rfl
      )
theorem samec_con (n k : Nat) (hn : n ≤ 10) : Con Try.prog 70 [.i n, .i k] [] (Is (cv (sameC n k)) []) := by
  have hcap : capB = 140737488355328 := rfl
  refine con_intro Try.func70 rfl Try.call70 rfl ?_
  refine awp_seq ?_
  refine awp_region ?_
  refine aops_alloc rfl zRc rfl rfl (fun b4 => ?_)
  refine aops_nil ?_
  refine seqQ_n ?_
  refine awp_seq ?_
  refine awp_region ?_
  refine aops_p (ap_move rfl) rfl rfl rfl ?_
  refine aops_p (ap_build zKr rfl zRc (by repeat (first | exact .nil | apply FillL.cons rfl zFlat rfl zRc))) rfl rfl rfl ?_
  refine aops_alloc rfl zRc rfl rfl (fun b5 => ?_)
  first | refine aops_store rfl rfl zFlat zUpd rfl zRc ?_ | refine aops_store_own1 rfl rfl zScal zUpd rfl (by simp only [List.length_set, List.length_map]; omega) ?_
  refine aops_nil ?_
  refine seqQ_n ?_
  refine awp_seq ?_
  refine awp_seq ?_
  refine awp_region ?_
  refine aops_p (ap_assign rfl) rfl rfl rfl ?_
  refine aops_nil ?_
  refine seqQ_n ?_
  refine awp_block ?_
  refine awp_loop2 [0, 4, 5] [.box b4 _ _] (fun (i : Nat) (v : Value) r => (6, .i (i : Int)) :: r) (fun (i : Nat) (v : Value) r => .box b5 27 [.i k, .v v, .nil] :: .arr v 3 1 ((upTo i).map .i) :: r) (fun (i : Nat) (v : Value) => i ≤ n) (fun (i : Nat) (v : Value) => n - i) (0) (.slice none 0 0) zRc (by omega) ((wk_own 3 1 rfl).trans (wk zSub (by repeat (first | exact .nil | refine .cons (by first | exact .here | exact .there .here | exact .there (.there .here) | exact .there (.there (.there .here)) | exact .there (.there (.there (.there .here)))) ?_)))) ?_
  intro i v hi
  have hml : ((upTo i).map D.i).length = i := by rw [List.length_map, upTo_len]
  refine awp_seq ?_
  refine awp_seq ?_
  refine awp_region ?_
  refine aops_p (ap_move rfl) rfl rfl rfl ?_
  refine aops_p (ap_move rfl) rfl rfl rfl ?_
  refine aops_p (ap_cmp rfl rfl rfl) rfl rfl rfl ?_
  refine aops_nil ?_
  refine seqQ_n ?_
  refine awp_cond rfl (fun hc => ?_) (fun hc => ?_)
  · have hlt := of_decide_eq_true hc
    refine awp_skip ?_
    refine seqQ_n ?_
    refine awp_seq ?_
    refine awp_block ?_
    refine awp_region ?_
    first | refine aops_p (ap_fieldAddr (off := 1) (sz := 1) (g := false) rfl rfl) rfl rfl rfl ?_ | refine aops_p (ap_fieldAddr_el (off := 1) (sz := 1) (g := false) rfl rfl zRc) rfl rfl rfl ?_
    first | refine aops_q (aq_load1 rfl zUpd List.not_mem_nil rfl zRc) rfl rfl rfl ?_ | refine aops_q (aq_load_el1 rfl rfl zScal (fun _ h => absurd h List.not_mem_nil)) rfl rfl rfl ?_ | refine aops_q (aq_load_el1' rfl rfl zScal (fun _ h => absurd h List.not_mem_nil)) rfl rfl rfl ?_ | refine aops_q (aq_load_own1 rfl zUpd List.not_mem_nil rfl zAss zScal) rfl rfl rfl ?_
    refine aops_p (ap_move rfl) rfl rfl rfl ?_
    refine aops_lit (e := 3) (sz := 1) (by_ := 8) rfl rfl zRc rfl rfl rfl rfl ?_
    first | refine aops_append (e := 3) (sz := 1) (by_ := 8) rfl zUpd rfl rfl rfl rfl rfl (by simp only [List.length_cons, List.length_nil, List.length_map, List.length_replicate, upTo_len]; omega) (fun v20 hv20 => ?_) | refine aops_append_nil (e := 3) (sz := 1) (by_ := 8) rfl rfl rfl rfl rfl rfl (by simp only [List.length_cons, List.length_nil, List.length_map, List.length_replicate, upTo_len]; omega) (fun v20 hv20 => ?_)
    first | refine aops_p (ap_fieldAddr (off := 1) (sz := 1) (g := false) rfl rfl) rfl rfl rfl ?_ | refine aops_p (ap_fieldAddr_el (off := 1) (sz := 1) (g := false) rfl rfl zRc) rfl rfl rfl ?_
    first | refine aops_store rfl rfl zFlat zUpd rfl zRc ?_ | refine aops_store_own1 rfl rfl zScal zUpd rfl (by simp only [List.length_set, List.length_map]; omega) ?_
    refine aops_nil ?_
    refine blockQ_n ?_
    refine seqQ_n ?_
    refine awp_region ?_
    refine aops_p (ap_move rfl) rfl rfl rfl ?_
    refine aops_p (ap_arith rfl rfl rfl (by omega)) rfl rfl rfl ?_
    refine aops_p (ap_assign rfl) rfl rfl rfl ?_
    refine aops_nil ?_
    refine seqQ_n ?_
    rw [mapi_snoc, ← upTo_succ]
    refine ⟨i + 1, _, by omega, by omega, wk zSub (by repeat (first | exact .nil | refine .cons (by first | exact .here | exact .there .here | exact .there (.there .here) | exact .there (.there (.there .here)) | exact .there (.there (.there (.there .here)))) ?_))⟩
  · have hge := of_decide_eq_false hc
    obtain ⟨m, hm⟩ : ∃ m, m = i := ⟨i, rfl⟩
    obtain rfl : m = n := by omega
    subst hm
    refine awp_exit ?_
    refine seqQ_x ?_
    refine seqQ_x ?_
    refine blockQ_x rfl ?_
    refine seqQ_n ?_
    refine awp_seq ?_
    refine awp_freeze v [0,4,5] (by repeat (first | exact .here | apply Rem.there)) (by repeat (first | exact .nil | apply SelC.cons rfl (by first | exact Cv.fz | (apply Cv.agg; repeat (first | exact CvL.nil | apply CvL.cons (by first | exact Cv.fz | exact Cv.same))) | exact Cv.same))) (by repeat (first | exact .nil | apply HeapA.box (by repeat (first | exact CvL.nil | apply CvL.cons (by first | exact Cv.fz | exact Cv.same))) | apply HeapA.arr)) ?_
    refine awp_region ?_
    refine aops_alloc rfl zRc rfl rfl (fun b7 => ?_)
    refine aops_nil ?_
    refine seqQ_n ?_
    refine awp_seq ?_
    refine awp_seq ?_
    refine awp_region ?_
    refine aops_p (ap_assign rfl) rfl rfl rfl ?_
    refine aops_nil ?_
    refine seqQ_n ?_
    refine awp_block ?_
    refine awp_loop2 [0, 4, 5, 7] [.box b5 _ _, .box b4 _ _] (fun (j : Nat) (v2 : Value) r => (8, .i (j : Int)) :: r) (fun (j : Nat) (v2 : Value) r => .box b7 38 [.v v2] :: .arr v2 63 4 ((List.replicate j (⟨true, sameT m k⟩ : Mem)).map mv) :: r) (fun (j : Nat) (v2 : Value) => j ≤ m) (fun (j : Nat) (v2 : Value) => m - j) (0) (.slice none 0 0) zRc (by omega) ((wk_own 63 4 rfl).trans (wk zSub (by repeat (first | exact .nil | refine .cons (by first | exact .here | exact .there .here | exact .there (.there .here) | exact .there (.there (.there .here)) | exact .there (.there (.there (.there .here)))) ?_)))) ?_
    intro j v2 hj
    have hml2 : ((List.replicate j (⟨true, sameT m k⟩ : Mem)).map mv).length = j := by simp
    refine awp_seq ?_
    refine awp_seq ?_
    refine awp_region ?_
    refine aops_p (ap_move rfl) rfl rfl rfl ?_
    refine aops_p (ap_move rfl) rfl rfl rfl ?_
    refine aops_p (ap_cmp rfl rfl rfl) rfl rfl rfl ?_
    refine aops_nil ?_
    refine seqQ_n ?_
    refine awp_cond rfl (fun hc => ?_) (fun hc => ?_)
    · have hlt2 := of_decide_eq_true hc
      refine awp_skip ?_
      refine seqQ_n ?_
      refine awp_seq ?_
      refine awp_block ?_
      refine awp_region ?_
      first | refine aops_p (ap_fieldAddr (off := 0) (sz := 1) (g := false) rfl rfl) rfl rfl rfl ?_ | refine aops_p (ap_fieldAddr_el (off := 0) (sz := 1) (g := false) rfl rfl zRc) rfl rfl rfl ?_
      first | refine aops_q (aq_load1 rfl zUpd List.not_mem_nil rfl zRc) rfl rfl rfl ?_ | refine aops_q (aq_load_el1 rfl rfl zScal (fun _ h => absurd h List.not_mem_nil)) rfl rfl rfl ?_ | refine aops_q (aq_load_el1' rfl rfl zScal (fun _ h => absurd h List.not_mem_nil)) rfl rfl rfl ?_ | refine aops_q (aq_load_own1 rfl zUpd List.not_mem_nil rfl zAss zScal) rfl rfl rfl ?_
      first | refine aops_q (aq_load rfl zUpd List.not_mem_nil rfl rfl zRc) rfl rfl rfl ?_ | refine aops_q (aq_load_el rfl rfl rfl rfl (fun _ h => absurd h List.not_mem_nil)) rfl rfl rfl ?_
      refine aops_p (ap_build zKr rfl zRc (by repeat (first | exact .nil | apply FillL.cons rfl zFlat rfl zRc))) rfl rfl rfl ?_
      refine aops_unnil [0,4,5,7,8,28,30] 3 rfl rfl (by repeat (first | exact .nil | apply SelC.cons rfl (by first | exact Cv.fz | (apply Cv.agg; repeat (first | exact CvL.nil | apply CvL.cons (by first | exact Cv.fz | exact Cv.same))) | exact Cv.same))) (by repeat (first | exact .nil | apply HeapA.box (by repeat (first | exact CvL.nil | apply CvL.cons Cv.same)) | apply HeapA.arr)) ?_; refine aops_lit (e := 63) (sz := 4) (by_ := 64) rfl rfl zRc rfl rfl rfl rfl ?_
      first | refine aops_append (e := 63) (sz := 4) (by_ := 64) rfl zUpd rfl rfl rfl rfl rfl (by simp only [List.length_cons, List.length_nil, List.length_map, List.length_replicate, upTo_len]; omega) (fun v32 hv32 => ?_) | refine aops_append_nil (e := 63) (sz := 4) (by_ := 64) rfl rfl rfl rfl rfl rfl (by simp only [List.length_cons, List.length_nil, List.length_map, List.length_replicate, upTo_len]; omega) (fun v32 hv32 => ?_)
      first | refine aops_p (ap_fieldAddr (off := 0) (sz := 1) (g := false) rfl rfl) rfl rfl rfl ?_ | refine aops_p (ap_fieldAddr_el (off := 0) (sz := 1) (g := false) rfl rfl zRc) rfl rfl rfl ?_
      first | refine aops_store rfl rfl zFlat zUpd rfl zRc ?_ | refine aops_store_own1 rfl rfl zScal zUpd rfl (by simp only [List.length_set, List.length_map]; omega) ?_
      refine aops_nil ?_
      refine blockQ_n ?_
      refine seqQ_n ?_
      refine awp_region ?_
      refine aops_p (ap_move rfl) rfl rfl rfl ?_
      refine aops_p (ap_arith rfl rfl rfl (by omega)) rfl rfl rfl ?_
      refine aops_p (ap_assign rfl) rfl rfl rfl ?_
      refine aops_nil ?_
      refine seqQ_n ?_
      rw [show D.agg [.b true, .i k, .sl 1 ((upTo m).map .i), .sl 3 []] = mv ⟨true, sameT m k⟩ from rfl, mv_snoc, ← List.replicate_succ']
      refine ⟨j + 1, _, by omega, by omega, wk zSub (by repeat (first | exact .nil | refine .cons (by first | exact .here | exact .there .here | exact .there (.there .here) | exact .there (.there (.there .here)) | exact .there (.there (.there (.there .here)))) ?_))⟩
    · have hge2 := of_decide_eq_false hc
      obtain rfl : j = m := by omega
      refine awp_exit ?_
      refine seqQ_x ?_
      refine seqQ_x ?_
      refine blockQ_x rfl ?_
      refine seqQ_n ?_
      refine awp_seq ?_
      refine awp_freeze v2 [4,7] (by repeat (first | exact .here | apply Rem.there)) (by repeat (first | exact .nil | apply SelC.cons rfl (by first | exact Cv.fz | (apply Cv.agg; repeat (first | exact CvL.nil | apply CvL.cons (by first | exact Cv.fz | exact Cv.same))) | exact Cv.same))) (by repeat (first | exact .nil | apply HeapA.box (by repeat (first | exact CvL.nil | apply CvL.cons (by first | exact Cv.fz | exact Cv.same))) | apply HeapA.arr)) ?_
      refine awp_region ?_
      first | refine aops_q (aq_load rfl zUpd List.not_mem_nil rfl rfl zRc) rfl rfl rfl ?_ | refine aops_q (aq_load_el rfl rfl rfl rfl (fun _ h => absurd h List.not_mem_nil)) rfl rfl rfl ?_
      first | refine aops_store rfl rfl zFlat zUpd rfl zRc ?_ | refine aops_store_own1 rfl rfl zScal zUpd rfl (by simp only [List.length_set, List.length_map]; omega) ?_
      refine aops_nil ?_
      refine seqQ_n ?_
      refine awp_ret ?_
      exact post_ret (.cell rfl zUpd rfl rfl .nil) (by repeat (first | exact .nil | refine .cons (by first | exact .here | exact .there .here | exact .there (.there .here) | exact .there (.there (.there .here)) | exact .there (.there (.there (.there .here)))) ?_)) ⟨rfl, rfl⟩
theorem nodes_pick {s : Nat} {k : Int} {l : List Int} (h : nodesOf (s : Int) = k :: l) : Con Try.prog 142 [.i s] [] (Is (.sl 1 ((k :: l).map .i)) []) := by rw [← h]; exact Nodes_con s
theorem tvs_two (y z : Tr) : [tv y, tv z] = tvs [y, z] := by rw [tvs_cons, tvs_cons]; rfl
theorem prove_con (c : List Mem) (hcl : c.length ≤ 10) (hI : interB c = true) : ∀ (m req exc : Nat), req < 1024 → exc < 1024 → popN (req ||| exc) + m = 10 → Con Try.prog 108 [cv c, .i req, .i exc] [] (fun d H => ∃ x : Tr, d = tv x ∧ (rightC c x req exc = true ∧ tsz x + 1 ≤ 2 ^ (m + 1) ∧ (noneC c req exc = false → aloneC c req = false → 1 < tsz x)) ∧ H = []) := by
  have hcap : capB = 140737488355328 := rfl
  intro m
  induction m using Nat.strongRecOn with
  | ind m ih =>
    intro req exc hr he hpm
    have h10 := pow_le10 hcl
    have hpos : 0 < 2 ^ c.length := Nat.pow_pos (by omega)
    have hgl := great_lt c ((co c exc : Nat) : Int)
    have h2m : 2 ≤ 2 ^ (m + 1) := by rw [Nat.pow_succ]; have : 0 < 2 ^ m := Nat.pow_pos (by omega); omega
    refine con_intro Try.func108 rfl Try.call108 rfl ?_
    refine awp_seq ?_
    refine awp_region ?_
    refine aops_box rfl zFlat rfl rfl (fun b3 => ?_)
    refine aops_alloc rfl zRc rfl rfl (fun b6 => ?_)
    refine aops_nil ?_
    refine seqQ_n ?_
    refine awp_seq ?_
    refine awp_seq ?_
    refine awp_region ?_
    first | refine aops_q (aq_load rfl zUpd List.not_mem_nil rfl rfl zRc) rfl rfl rfl ?_ | refine aops_q (aq_load_el rfl rfl rfl rfl (fun _ h => absurd h List.not_mem_nil)) rfl rfl rfl ?_
    refine aops_p (ap_move rfl) rfl rfl rfl ?_
    refine aops_p (ap_move rfl) rfl rfl rfl ?_
    refine aops_call_b zRc (none_con c hcl req exc hr he) rfl rfl (fun c11 hc11 => ?_)
    refine aops_nil ?_
    refine seqQ_n ?_
    refine awp_cond rfl (fun hc => ?_) (fun hc => ?_)
    · have hn := hc11.trans hc
      refine awp_seq ?_
      refine awp_region ?_
      refine aops_p (ap_build zKr rfl zRc (by repeat (first | exact .nil | apply FillL.cons rfl zFlat rfl zRc))) rfl rfl rfl ?_
      first | refine aops_store rfl rfl zFlat zUpd rfl zRc ?_ | refine aops_store_own1 rfl rfl zScal zUpd rfl (by simp only [List.length_set, List.length_map]; omega) ?_
      refine aops_nil ?_
      refine seqQ_n ?_
      refine awp_unnil [6] 3 rfl (by repeat (first | exact .nil | apply SelC.cons rfl (by first | exact Cv.fz | (apply Cv.agg; repeat (first | exact CvL.nil | apply CvL.cons (by first | exact Cv.fz | exact Cv.same))) | exact Cv.same))) (by repeat (first | exact .nil | apply HeapA.box (by repeat (first | exact CvL.nil | apply CvL.cons (by first | exact Cv.fz | exact Cv.same))) | apply HeapA.arr)) ?_
      refine awp_ret ?_
      refine seqQ_r ?_
      refine post_ret (.cell rfl zUpd rfl rfl .nil) (by repeat (first | exact .nil | refine .cons (by first | exact .here | exact .there .here | exact .there (.there .here) | exact .there (.there (.there .here)) | exact .there (.there (.there (.there .here)))) ?_)) ⟨.mk 1 0 [], rfl, ⟨by rw [right_1 rfl, hn]; rfl, h2m, fun h => by rw [hn] at h; cases h⟩, rfl⟩
    · have hn := hc11.trans hc
      refine awp_skip ?_
      refine seqQ_n ?_
      refine awp_seq ?_
      refine awp_seq ?_
      refine awp_region ?_
      first | refine aops_q (aq_load rfl zUpd List.not_mem_nil rfl rfl zRc) rfl rfl rfl ?_ | refine aops_q (aq_load_el rfl rfl rfl rfl (fun _ h => absurd h List.not_mem_nil)) rfl rfl rfl ?_
      refine aops_p (ap_move rfl) rfl rfl rfl ?_
      refine aops_call_b zRc (alone_con c hcl req hr) rfl rfl (fun c15 hc15 => ?_)
      refine aops_nil ?_
      refine seqQ_n ?_
      refine awp_cond rfl (fun hc => ?_) (fun hc => ?_)
      · have hal := hc15.trans hc
        refine awp_seq ?_
        refine awp_region ?_
        refine aops_p (ap_build zKr rfl zRc (by repeat (first | exact .nil | apply FillL.cons rfl zFlat rfl zRc))) rfl rfl rfl ?_
        first | refine aops_store rfl rfl zFlat zUpd rfl zRc ?_ | refine aops_store_own1 rfl rfl zScal zUpd rfl (by simp only [List.length_set, List.length_map]; omega) ?_
        refine aops_nil ?_
        refine seqQ_n ?_
        refine awp_unnil [6] 3 rfl (by repeat (first | exact .nil | apply SelC.cons rfl (by first | exact Cv.fz | (apply Cv.agg; repeat (first | exact CvL.nil | apply CvL.cons (by first | exact Cv.fz | exact Cv.same))) | exact Cv.same))) (by repeat (first | exact .nil | apply HeapA.box (by repeat (first | exact CvL.nil | apply CvL.cons (by first | exact Cv.fz | exact Cv.same))) | apply HeapA.arr)) ?_
        refine awp_ret ?_
        refine seqQ_r ?_
        refine post_ret (.cell rfl zUpd rfl rfl .nil) (by repeat (first | exact .nil | refine .cons (by first | exact .here | exact .there .here | exact .there (.there .here) | exact .there (.there (.there .here)) | exact .there (.there (.there (.there .here)))) ?_)) ⟨.mk 2 0 [], rfl, ⟨by rw [right_2 rfl, hal]; rfl, h2m, fun _ h => by rw [hal] at h; cases h⟩, rfl⟩
      · have hal := hc15.trans hc
        refine awp_skip ?_
        refine seqQ_n ?_
        refine awp_seq ?_
        obtain ⟨k, l', hnl, hkl, hkr, hke⟩ := prove_pick hcl hr he hI hn hal
        have hk10 : k < 10 := by omega
        have hpk := pow_lt10 hk10
        have hor : req ||| exc < 1024 := Nat.or_lt_two_pow (n := 10) hr he
        have hpa := pop_add hor hk10 (by rw [Nat.testBit_or, hkr, hke]; rfl)
        have hek := or_lt10 he hk10
        have hrk := or_lt10 hr hk10
        have hle : popN ((req ||| exc) ||| 2 ^ k) ≤ 10 := (pop_one (Nat.or_lt_two_pow (n := 10) hor (Nat.pow_lt_pow_right (by omega) hk10))).2.2.1
        have hpe : popN (req ||| (exc ||| 1 * 2 ^ k)) + (m - 1) = 10 := by rw [Nat.one_mul, ← Nat.or_assoc, hpa]; omega
        have hpr : popN ((req ||| 1 * 2 ^ k) ||| exc) + (m - 1) = 10 := by rw [Nat.one_mul, Nat.or_assoc, Nat.or_comm (2 ^ k), ← Nat.or_assoc, hpa]; omega
        refine awp_draw (Hm := []) zKr zSplit ?_
        first | refine aany_take 0 rfl (.none rfl) zKr zKr zKr (ar_load rfl zUpd rfl rfl zRc) rfl rfl ?_ | refine aany_take 0 rfl (.none rfl) zKr zKr zKr (AQ.ar (aq_load_el rfl rfl rfl rfl (fun _ h => h))) rfl rfl ?_
        first | refine aany_take 1 rfl (.none rfl) zKr zKr zKr (ar_load rfl zUpd rfl rfl zRc) rfl rfl ?_ | refine aany_take 1 rfl (.none rfl) zKr zKr zKr (AQ.ar (aq_load_el rfl rfl rfl rfl (fun _ h => h))) rfl rfl ?_
        refine aany_take 3 rfl (.none rfl) zKr zKr zKr (AP.ar (ap_move rfl)) rfl rfl ?_
        refine aany_take 6 rfl (.none rfl) zKr zKr zKr (AP.ar (ap_move rfl)) rfl rfl ?_
        refine aany_one 2 zKr rfl (.none rfl) ?_
        refine aops_call_v zRc (members_con c hcl) rfl rfl ?_
        refine aops_nil ?_
        refine aany_take 4 rfl (.none rfl) zKr zKr zKr (AP.ar (ap_bits rfl rfl rfl (by omega) (by omega))) rfl rfl ?_
        refine aany_one 5 zKr rfl (.none rfl) ?_
        refine aops_call_v zRc (great_con c (co c exc)) rfl rfl ?_
        refine aops_nil ?_
        refine aany_take 7 rfl (.none rfl) zKr zKr zKr (AP.ar (ap_bits rfl rfl rfl (by omega) (by omega))) rfl rfl ?_
        refine aany_one 8 zKr rfl (.none rfl) ?_
        refine aops_call_v zRc (nodes_pick hnl) rfl rfl ?_
        refine aops_nil ?_
        refine aany_take 9 rfl (.none rfl) zKr zKr zKr (AP.ar (ap_index (k := 0) rfl rfl rfl rfl (by decide) rfl rfl)) rfl rfl ?_
        first | refine aany_take 10 rfl (.none rfl) zKr zKr zKr (ar_load1 rfl zUpd rfl zRc) rfl rfl ?_ | refine aany_take 10 rfl (.none rfl) zKr zKr zKr (AQ.ar (aq_load_el1 rfl rfl zScal (fun _ h => h))) rfl rfl ?_ | refine aany_take 10 rfl (.none rfl) zKr zKr zKr (AQ.ar (aq_load_el1' rfl rfl zScal (fun _ h => h))) rfl rfl ?_ | refine aany_take 10 rfl (.none rfl) zKr zKr zKr (ar_load_own1 rfl zUpd rfl zAss zScal) rfl rfl ?_
        refine aany_take 11 rfl (.none rfl) zKr zKr zKr (AP.ar (ap_assign rfl)) rfl rfl ?_
        refine aany_nil zKr ?_
        all_goals (
          refine seqQ_n ?_
          refine awp_seq ?_
          refine awp_draw (Hm := [.box b6 _ _]) zKr zSplit ?_
          refine aany_take 0 rfl (.none rfl) zKr zKr zKr (AP.ar (ap_move rfl)) rfl rfl ?_
          first | refine aany_take 1 rfl (.none rfl) zKr zKr zKr (ar_load rfl zUpd rfl rfl zRc) rfl rfl ?_ | refine aany_take 1 rfl (.none rfl) zKr zKr zKr (AQ.ar (aq_load_el rfl rfl rfl rfl (fun _ h => h))) rfl rfl ?_
          refine aany_take 2 rfl (.none rfl) zKr zKr zKr (AP.ar (ap_move rfl)) rfl rfl ?_
          refine aany_take 3 rfl (.none rfl) zKr zKr zKr (AP.ar (ap_move rfl)) rfl rfl ?_
          refine aany_take 4 rfl (.none rfl) zKr zKr zKr (AP.ar (ap_move rfl)) rfl rfl ?_
          refine aany_take 5 rfl (.none rfl) zKr zKr zKr (AP.ar (ap_shl (p := 1) rfl rfl rfl (by omega) (by omega))) rfl rfl ?_
          refine aany_take 6 rfl (.none rfl) zKr zKr zKr (AP.ar (ap_bits rfl rfl rfl (by omega) (by omega))) rfl rfl ?_
          first | refine aany_take 8 rfl (.none rfl) zKr zKr zKr (ar_load rfl zUpd rfl rfl zRc) rfl rfl ?_ | refine aany_take 8 rfl (.none rfl) zKr zKr zKr (AQ.ar (aq_load_el rfl rfl rfl rfl (fun _ h => h))) rfl rfl ?_
          refine aany_take 9 rfl (.none rfl) zKr zKr zKr (AP.ar (ap_move rfl)) rfl rfl ?_
          refine aany_take 10 rfl (.none rfl) zKr zKr zKr (AP.ar (ap_move rfl)) rfl rfl ?_
          refine aany_take 11 rfl (.none rfl) zKr zKr zKr (AP.ar (ap_shl (p := 1) rfl rfl rfl (by omega) (by omega))) rfl rfl ?_
          refine aany_take 12 rfl (.none rfl) zKr zKr zKr (AP.ar (ap_bits rfl rfl rfl (by omega) (by omega))) rfl rfl ?_
          refine aany_take 13 rfl (.none rfl) zKr zKr zKr (AP.ar (ap_move rfl)) rfl rfl ?_
          refine aany_one 7 zKr rfl (.none rfl) ?_
          (refine aops_call zRc (ih (m - 1) (by omega) req (exc ||| 1 * 2 ^ k) hr hek hpe) zSplit rfl rfl ?_; rintro _ _ ⟨y, rfl, ⟨hy1, hy2, _⟩, rfl⟩)
          refine aops_nil ?_
          refine aany_one 14 zKr rfl (.none rfl) ?_
          (refine aops_call zRc (ih (m - 1) (by omega) (req ||| 1 * 2 ^ k) exc hrk he hpr) zSplit rfl rfl ?_; rintro _ _ ⟨z, rfl, ⟨hz1, hz2, _⟩, rfl⟩)
          refine aops_nil ?_
          refine aany_one 15 zKr rfl (.none rfl) ?_
          refine aops_lit (e := 87) (sz := 3) (by_ := 40) rfl rfl zRc rfl rfl rfl rfl ?_
          refine aops_nil ?_
          refine aany_take 16 rfl (.none rfl) zKr zKr zKr (AP.ar (ap_build zKr rfl zRc (by repeat (first | exact .nil | apply FillL.cons rfl zFlat rfl zRc)))) rfl rfl ?_
          refine aany_one 17 zKr rfl (.none rfl) ?_
          first | refine aops_store rfl rfl zFlat zUpd rfl zRc ?_ | refine aops_store_own1 rfl rfl zScal zUpd rfl (by simp only [List.length_set, List.length_map]; omega) ?_
          refine aops_nil ?_
          refine aany_nil zKr ?_
          all_goals (
            refine seqQ_n ?_
            rw [tvs_two]
            refine awp_ret ?_
            refine post_ret (.cell rfl zUpd rfl rfl .nil) (by repeat (first | exact .nil | refine .cons (by first | exact .here | exact .there .here | exact .there (.there .here) | exact .there (.there (.there .here)) | exact .there (.there (.there (.there .here)))) ?_)) ⟨.mk 3 k [y, z], rfl, ⟨?_, ?_, fun _ _ => ?_⟩, rfl⟩
            · rw [right_3t (a := y) (b := z) (j := k) rfl rfl rfl ((free_has hcl hr he).2 ⟨k, rfl, hkl, hkr, hke⟩), hy1, hz1]; rfl
            · have e : tsz (.mk 3 k [y, z]) = 1 + (tsz y + (tsz z + 0)) := (by show 1 + tszL [y, z] = _; rw [tszL_cons, tszL_cons]; rfl)
              have h9 : m - 1 + 1 = m := (by omega)
              rw [h9] at hy2 hz2
              rw [e, Nat.pow_succ]; omega
            · have e : tsz (.mk 3 k [y, z]) = 1 + (tsz y + (tsz z + 0)) := (by show 1 + tszL [y, z] = _; rw [tszL_cons, tszL_cons]; rfl)
              have h8 : 1 ≤ tsz y := (by unfold tsz; omega)
              omega
            )
          )
theorem holds_a {c : List Mem} (hs : ∀ m ∈ c, sizeT m.t ≤ 1000000000) (hv : ¬ validC c = 0) : Con Try.prog 59 [cv c] [] (Is (.tup [.b false, .i (validC c)]) []) := by
  have h := holds_con c hs
  unfold holdsV at h
  rwa [if_neg hv] at h
theorem holds_b {c : List Mem} {b : Bool} (hs : ∀ m ∈ c, sizeT m.t ≤ 1000000000) (hv : validC c = 0) (hb : interB c = b) : Con Try.prog 59 [cv c] [] (Is (.tup [.b b, .i 0]) []) := by
  have h := holds_con c hs
  unfold holdsV at h
  rwa [if_pos hv, hb] at h
theorem Prove_con (c : List Mem) (hs : ∀ m ∈ c, sizeT m.t ≤ 1000000000) : Con Try.prog 63 [cv c] [] (fun d H => ∃ (x : Tr) (e : Int), d = .tup [tv x, .i e] ∧ ((¬ validC c = 0 → e = validC c) ∧ (validC c = 0 → interB c = false → e = 11) ∧ (validC c = 0 → interB c = true → e = 0 ∧ rightC c x 0 0 = true ∧ tsz x ≤ 2047 ∧ (noneC c 0 0 = false → aloneC c 0 = false → 1 < tsz x))) ∧ H = []) := by
  have hcap : capB = 140737488355328 := rfl
  refine con_intro Try.func63 rfl Try.call63 rfl ?_
  refine awp_seq ?_
  refine awp_region ?_
  refine aops_box rfl zFlat rfl rfl (fun b1 => ?_)
  refine aops_alloc rfl zRc rfl rfl (fun b2 => ?_)
  refine aops_p (ap_assign rfl) rfl rfl rfl ?_
  refine aops_nil ?_
  refine seqQ_n ?_
  refine awp_seq ?_
  by_cases hv : validC c = 0
  case' pos => rcases Bool.eq_false_or_eq_true (interB c) with hib | hib
  all_goals (
    refine awp_region ?_
    first | refine aops_q (aq_load rfl zUpd List.not_mem_nil rfl rfl zRc) rfl rfl rfl ?_ | refine aops_q (aq_load_el rfl rfl rfl rfl (fun _ h => absurd h List.not_mem_nil)) rfl rfl rfl ?_
    refine aops_call_v zRc ((by first | exact holds_a hs hv | exact holds_b hs hv hib)) rfl rfl ?_
    refine aops_p (ap_move rfl) rfl rfl rfl ?_
    refine aops_p (ap_extract rfl rfl) rfl rfl rfl ?_
    refine aops_p (ap_extract rfl rfl) rfl rfl rfl ?_
    refine aops_p (ap_assign rfl) rfl rfl rfl ?_
    refine aops_p (ap_assign rfl) rfl rfl rfl ?_
    refine aops_nil ?_
    refine seqQ_n ?_
    refine awp_seq ?_
    refine awp_seq ?_
    refine awp_region ?_
    refine aops_p (ap_move rfl) rfl rfl rfl ?_
    refine aops_p (ap_cmp rfl rfl rfl) rfl rfl rfl ?_
    refine aops_nil ?_
    refine seqQ_n ?_
    refine awp_cond rfl (fun hc => ?_) (fun hc => ?_)
    · first
      | (exact absurd hc (by decide))
      | (exact absurd (of_neq_false hc) hv)
      | (refine awp_seq ?_
         refine awp_region ?_
         refine aops_p (ap_build zKr rfl zRc (by repeat (first | exact .nil | apply FillL.cons rfl zFlat rfl zRc))) rfl rfl rfl ?_
         refine aops_p (ap_move rfl) rfl rfl rfl ?_
         first | refine aops_store rfl rfl zFlat zUpd rfl zRc ?_ | refine aops_store_own1 rfl rfl zScal zUpd rfl (by simp only [List.length_set, List.length_map]; omega) ?_
         refine aops_p (ap_assign rfl) rfl rfl rfl ?_
         refine aops_nil ?_
         refine seqQ_n ?_
         refine awp_unnil [2,3] 3 rfl (by repeat (first | exact .nil | apply SelC.cons rfl (by first | exact Cv.fz | (apply Cv.agg; repeat (first | exact CvL.nil | apply CvL.cons (by first | exact Cv.fz | exact Cv.same))) | exact Cv.same))) (by repeat (first | exact .nil | apply HeapA.box (by repeat (first | exact CvL.nil | apply CvL.cons (by first | exact Cv.fz | exact Cv.same))) | apply HeapA.arr)) ?_
         refine awp_ret ?_
         refine seqQ_r ?_
         refine post_ret (.cell rfl zUpd rfl rfl (.tmp rfl .nil)) (by repeat (first | exact .nil | refine .cons (by first | exact .here | exact .there .here | exact .there (.there .here) | exact .there (.there (.there .here)) | exact .there (.there (.there (.there .here)))) ?_)) ⟨.mk 0 0 [], _, rfl, ⟨fun _ => rfl, fun h => absurd h hv, fun h => absurd h hv⟩, rfl⟩
        )
    · first
      | (exact absurd hc (by decide))
      | (exact absurd (of_neq_false hc) hv)
      | (refine awp_skip ?_
         refine seqQ_n ?_
         refine awp_seq ?_
         refine awp_seq ?_
         refine awp_region ?_
         refine aops_p (ap_move rfl) rfl rfl rfl ?_
         refine aops_p (ap_not rfl) rfl rfl rfl ?_
         refine aops_nil ?_
         refine seqQ_n ?_
         refine awp_cond rfl (fun hc => ?_) (fun hc => ?_)
         · first
           | (exact absurd hc (by decide))
           | (refine awp_seq ?_
              refine awp_region ?_
              refine aops_p (ap_build zKr rfl zRc (by repeat (first | exact .nil | apply FillL.cons rfl zFlat rfl zRc))) rfl rfl rfl ?_
              first | refine aops_store rfl rfl zFlat zUpd rfl zRc ?_ | refine aops_store_own1 rfl rfl zScal zUpd rfl (by simp only [List.length_set, List.length_map]; omega) ?_
              refine aops_p (ap_assign rfl) rfl rfl rfl ?_
              refine aops_nil ?_
              refine seqQ_n ?_
              refine awp_unnil [2,3] 3 rfl (by repeat (first | exact .nil | apply SelC.cons rfl (by first | exact Cv.fz | (apply Cv.agg; repeat (first | exact CvL.nil | apply CvL.cons (by first | exact Cv.fz | exact Cv.same))) | exact Cv.same))) (by repeat (first | exact .nil | apply HeapA.box (by repeat (first | exact CvL.nil | apply CvL.cons (by first | exact Cv.fz | exact Cv.same))) | apply HeapA.arr)) ?_
              refine awp_ret ?_
              refine seqQ_r ?_
              refine post_ret (.cell rfl zUpd rfl rfl (.tmp rfl .nil)) (by repeat (first | exact .nil | refine .cons (by first | exact .here | exact .there .here | exact .there (.there .here) | exact .there (.there (.there .here)) | exact .there (.there (.there (.there .here)))) ?_)) ⟨.mk 0 0 [], _, rfl, ⟨fun h => absurd hv h, fun _ _ => rfl, fun _ h => (by rw [hib] at h; cases h)⟩, rfl⟩
             )
         · first
           | (exact absurd hc (by decide))
           | (refine awp_skip ?_
              refine seqQ_n ?_
              refine awp_seq ?_
              refine awp_region ?_
              first | refine aops_q (aq_load rfl zUpd List.not_mem_nil rfl rfl zRc) rfl rfl rfl ?_ | refine aops_q (aq_load_el rfl rfl rfl rfl (fun _ h => absurd h List.not_mem_nil)) rfl rfl rfl ?_
              (refine aops_call zRc (prove_con c (validC_len hv) hib 10 0 0 (by omega) (by omega) rfl) zSplit rfl rfl ?_; rintro _ _ ⟨x, rfl, ⟨hx1, hx2, hx3⟩, rfl⟩)
              first | refine aops_store rfl rfl zFlat zUpd rfl zRc ?_ | refine aops_store_own1 rfl rfl zScal zUpd rfl (by simp only [List.length_set, List.length_map]; omega) ?_
              refine aops_p (ap_assign rfl) rfl rfl rfl ?_
              refine aops_nil ?_
              refine seqQ_n ?_
              refine awp_ret ?_
              refine post_ret (.cell rfl zUpd rfl rfl (.tmp rfl .nil)) (by repeat (first | exact .nil | refine .cons (by first | exact .here | exact .there .here | exact .there (.there .here) | exact .there (.there (.there .here)) | exact .there (.there (.there (.there .here)))) ?_)) ⟨x, _, rfl, ⟨fun h => absurd hv h, fun _ h => (by rw [hib] at h; cases h), fun _ _ => ⟨rfl, hx1, by omega, hx3⟩⟩, rfl⟩
             )
        )
    )
def checkTr (c : List Mem) (x : Tr) : Bool := decide (validC c = 0) && (decide (tsz x ≤ 20000) && rightC c x 0 0)
theorem checkT_con (c : List Mem) (hs : ∀ m ∈ c, sizeT m.t ≤ 1000000000) (x : Tr) (hx : tsz x ≤ 1000000000) : Con Try.prog 65 [cv c, tv x] [] (Is (.b (checkTr c x)) []) := by
  have hcap : capB = 140737488355328 := rfl
  refine con_intro Try.func65 rfl Try.call65 rfl ?_
  refine awp_seq ?_
  refine awp_region ?_
  refine aops_box rfl zFlat rfl rfl (fun b2 => ?_)
  refine aops_box rfl zFlat rfl rfl (fun b3 => ?_)
  refine aops_p (ap_assign rfl) rfl rfl rfl ?_
  refine aops_nil ?_
  refine seqQ_n ?_
  refine awp_seq ?_
  refine awp_region ?_
  first | refine aops_q (aq_load rfl zUpd List.not_mem_nil rfl rfl zRc) rfl rfl rfl ?_ | refine aops_q (aq_load_el rfl rfl rfl rfl (fun _ h => absurd h List.not_mem_nil)) rfl rfl rfl ?_
  refine aops_call_v zRc (validC_con c hs) rfl rfl ?_
  refine aops_p (ap_cmp rfl rfl rfl) rfl rfl rfl ?_
  refine aops_p (ap_move rfl) rfl rfl rfl ?_
  all_goals (first | (refine aops_yes rfl rfl rfl rfl zDec ?_; (first | refine aops_q (aq_load rfl zUpd List.not_mem_nil rfl rfl zRc) rfl rfl rfl ?_ | refine aops_q (aq_load_el rfl rfl rfl rfl (fun _ h => absurd h List.not_mem_nil)) rfl rfl rfl ?_)) | refine aops_no_u rfl rfl rfl ?_ | refine aops_no_t rfl rfl rfl rfl zDec ?_ | (refine aops_guard_t rfl rfl rfl rfl (fun hg => ?_) (fun hg => ?_); case' _ => (first | refine aops_q (aq_load rfl zUpd List.not_mem_nil rfl rfl zRc) rfl rfl rfl ?_ | refine aops_q (aq_load_el rfl rfl rfl rfl (fun _ h => absurd h List.not_mem_nil)) rfl rfl rfl ?_)))
  all_goals (first | (refine aops_yes rfl rfl rfl rfl zDec ?_; (refine aops_call_v zRc (tsize_con x hx) rfl rfl ?_)) | refine aops_no_u rfl rfl rfl ?_ | refine aops_no_t rfl rfl rfl rfl zDec ?_ | (refine aops_guard_t rfl rfl rfl rfl (fun hg => ?_) (fun hg => ?_); case' _ => (refine aops_call_v zRc (tsize_con x hx) rfl rfl ?_)))
  all_goals (first | (refine aops_yes rfl rfl rfl rfl zDec ?_; (refine aops_p (ap_cmp rfl rfl rfl) rfl rfl rfl ?_)) | refine aops_no_u rfl rfl rfl ?_ | refine aops_no_t rfl rfl rfl rfl zDec ?_ | (refine aops_guard_t rfl rfl rfl rfl (fun hg => ?_) (fun hg => ?_); case' _ => (refine aops_p (ap_cmp rfl rfl rfl) rfl rfl rfl ?_)))
  all_goals (first | refine aops_p (ap_pick_true rfl zDec rfl) rfl rfl rfl ?_ | refine aops_p (ap_pick_false rfl zDec rfl) rfl rfl rfl ?_)
  all_goals (refine aops_p (ap_move rfl) rfl rfl rfl ?_)
  all_goals (first | (refine aops_yes rfl rfl rfl rfl zDec ?_; (first | refine aops_q (aq_load rfl zUpd List.not_mem_nil rfl rfl zRc) rfl rfl rfl ?_ | refine aops_q (aq_load_el rfl rfl rfl rfl (fun _ h => absurd h List.not_mem_nil)) rfl rfl rfl ?_)) | refine aops_no_u rfl rfl rfl ?_ | refine aops_no_t rfl rfl rfl rfl zDec ?_ | (refine aops_guard_t rfl rfl rfl rfl (fun hg => ?_) (fun hg => ?_); case' _ => (first | refine aops_q (aq_load rfl zUpd List.not_mem_nil rfl rfl zRc) rfl rfl rfl ?_ | refine aops_q (aq_load_el rfl rfl rfl rfl (fun _ h => absurd h List.not_mem_nil)) rfl rfl rfl ?_)))
  all_goals (first | (refine aops_yes rfl rfl rfl rfl zDec ?_; (first | refine aops_q (aq_load rfl zUpd List.not_mem_nil rfl rfl zRc) rfl rfl rfl ?_ | refine aops_q (aq_load_el rfl rfl rfl rfl (fun _ h => absurd h List.not_mem_nil)) rfl rfl rfl ?_)) | refine aops_no_u rfl rfl rfl ?_ | refine aops_no_t rfl rfl rfl rfl zDec ?_ | (refine aops_guard_t rfl rfl rfl rfl (fun hg => ?_) (fun hg => ?_); case' _ => (first | refine aops_q (aq_load rfl zUpd List.not_mem_nil rfl rfl zRc) rfl rfl rfl ?_ | refine aops_q (aq_load_el rfl rfl rfl rfl (fun _ h => absurd h List.not_mem_nil)) rfl rfl rfl ?_)))
  all_goals (first | (refine aops_yes rfl rfl rfl rfl zDec ?_; (refine aops_call_b zRc (right_con c (validC_len (of_decide_eq_true (by with_reducible assumption))) x 0 0 (by omega) (by omega)) rfl rfl (fun c16 hc16 => ?_))) | refine aops_no_u rfl rfl rfl ?_ | refine aops_no_t rfl rfl rfl rfl zDec ?_ | (refine aops_guard_t rfl rfl rfl rfl (fun hg => ?_) (fun hg => ?_); case' _ => (refine aops_call_b zRc (right_con c (validC_len (of_decide_eq_true (by with_reducible assumption))) x 0 0 (by omega) (by omega)) rfl rfl (fun c16 hc16 => ?_))))
  all_goals (first | refine aops_p (ap_pick_true rfl zDec rfl) rfl rfl rfl ?_ | refine aops_p (ap_pick_false rfl zDec rfl) rfl rfl rfl ?_)
  all_goals (refine aops_p (ap_assign rfl) rfl rfl rfl ?_)
  all_goals (
    refine aops_nil ?_
    refine seqQ_n ?_
    refine awp_ret ?_
    refine post_is (.tmp rfl .nil) .nil ?_
    unfold checkTr
    first
    | (rw [show decide (validC c = 0) = false by with_reducible assumption]; rfl)
    | (have h2 := of_decide_eq_false (show decide ((tsz x : Int) ≤ 20000) = false by with_reducible assumption); rw [decide_eq_false (p := tsz x ≤ 20000) (by omega), Bool.false_and, Bool.and_false]; rfl)
    | (have h2 := of_decide_eq_true (show decide ((tsz x : Int) ≤ 20000) = true by with_reducible assumption); rw [decide_eq_true (p := tsz x ≤ 20000) (by omega), show decide (validC c = 0) = true by with_reducible assumption, hc16]; rfl)
    )
theorem same_sz (n k : Nat) (hn : n ≤ 10) : ∀ m ∈ sameC n k, sizeT m.t ≤ 1000000000 := fun m hm => by have := same_size n k m hm; omega
theorem v32 : validC (sameC 3 2) = 0 := same_valid (by omega) (by omega)
theorem v31 : validC (sameC 3 1) = 0 := same_valid (by omega) (by omega)
theorem i32 : interB (sameC 3 2) = true := by kernel_rfl
theorem f31 : FindR (sameC 3 1) 1 6 := findB_R zKr
theorem n32 : noneC (sameC 3 2) 0 0 = false := by kernel_rfl
theorem a32 : aloneC (sameC 3 2) 0 = false := by kernel_rfl
theorem s32 : Con Try.prog 70 [.i 3, .i 2] [] (Is (cv (sameC 3 2)) []) := samec_con 3 2 (by omega)
theorem s31 : Con Try.prog 70 [.i 3, .i 1] [] (Is (cv (sameC 3 1)) []) := samec_con 3 1 (by omega)
theorem h32 : Con Try.prog 59 [cv (sameC 3 2)] [] (Is (.tup [.b true, .i 0]) []) := holds_b (same_sz 3 2 (by omega)) v32 i32
theorem d31 : Con Try.prog 61 [cv (sameC 3 1)] [] (Is (.tup [.i 1, .i 6, .i 0]) []) := (disj_con (sameC 3 1) (same_sz 3 1 (by omega))).mono (fun d H ⟨a, b, e, h1, h2, h3⟩ => by
  rcases h2 with h2 | h2
  · exact absurd v31 h2.1
  · obtain ⟨e1, e2⟩ := h2.2.1.unique (by rw [same_len]; omega) f31
    subst e1; subst e2
    have h4 := h2.2.2
    rw [if_neg (by omega)] at h4
    subst h4
    exact ⟨h1, h3⟩)
theorem p32 : Con Try.prog 63 [cv (sameC 3 2)] [] (fun d H => ∃ x : Tr, d = .tup [tv x, .i 0] ∧ (rightC (sameC 3 2) x 0 0 = true ∧ tsz x ≤ 2047 ∧ 1 < tsz x) ∧ H = []) := (Prove_con (sameC 3 2) (same_sz 3 2 (by omega))).mono (fun d H ⟨x, e, h1, h2, h3⟩ => by
  have h4 := h2.2.2 v32 i32
  obtain ⟨rfl, h5, h6, h7⟩ := h4
  exact ⟨x, h1, ⟨h5, h6, h7 n32 a32⟩, h3⟩)
theorem checkT_is {c : List Mem} {x : Tr} {b : Bool} (hs : ∀ m ∈ c, sizeT m.t ≤ 1000000000) (hx : tsz x ≤ 1000000000) (h : checkTr c x = b) : Con Try.prog 65 [cv c, tv x] [] (Is (.b b) []) := by rw [← h]; exact checkT_con c hs x hx
theorem check_t {c : List Mem} {x : Tr} (h1 : validC c = 0) (h2 : tsz x ≤ 20000) (h3 : rightC c x 0 0 = true) : checkTr c x = true := by unfold checkTr; rw [decide_eq_true h1, decide_eq_true h2, h3]; rfl
theorem awake12_con : Con Try.prog 58 [] [] (Is (.b true) []) := by
  have hcap : capB = 140737488355328 := rfl
  refine con_intro Try.func58 rfl Try.call58 rfl ?_
  refine awp_seq ?_
  refine awp_region ?_
  refine aops_p (ap_assign rfl) rfl rfl rfl ?_
  refine aops_nil ?_
  refine seqQ_n ?_
  refine awp_seq ?_
  refine awp_region ?_
  refine aops_call_v zRc (s32) rfl rfl ?_
  refine aops_call_v zRc (h32) rfl rfl ?_
  refine aops_p (ap_move rfl) rfl rfl rfl ?_
  refine aops_p (ap_extract rfl rfl) rfl rfl rfl ?_
  refine aops_p (ap_extract rfl rfl) rfl rfl rfl ?_
  refine aops_p (ap_assign rfl) rfl rfl rfl ?_
  refine aops_p (ap_assign rfl) rfl rfl rfl ?_
  refine aops_nil ?_
  refine seqQ_n ?_
  refine awp_seq ?_
  refine awp_region ?_
  refine aops_call_v zRc (s31) rfl rfl ?_
  refine aops_call_v zRc (d31) rfl rfl ?_
  refine aops_p (ap_move rfl) rfl rfl rfl ?_
  refine aops_p (ap_extract rfl rfl) rfl rfl rfl ?_
  refine aops_p (ap_extract rfl rfl) rfl rfl rfl ?_
  refine aops_p (ap_extract rfl rfl) rfl rfl rfl ?_
  refine aops_p (ap_assign rfl) rfl rfl rfl ?_
  refine aops_p (ap_assign rfl) rfl rfl rfl ?_
  refine aops_p (ap_assign rfl) rfl rfl rfl ?_
  refine aops_nil ?_
  refine seqQ_n ?_
  refine awp_seq ?_
  refine awp_region ?_
  refine aops_call_v zRc (s32) rfl rfl ?_
  (refine aops_call zRc (p32) zSplit rfl rfl ?_; rintro _ _ ⟨x, rfl, ⟨hx1, hx2, hx3⟩, rfl⟩)
  refine aops_p (ap_move rfl) rfl rfl rfl ?_
  refine aops_p (ap_extract rfl rfl) rfl rfl rfl ?_
  refine aops_p (ap_extract rfl rfl) rfl rfl rfl ?_
  refine aops_alloc rfl zRc rfl rfl (fun b6 => ?_)
  first | refine aops_store rfl rfl zFlat zUpd rfl zRc ?_ | refine aops_store_own1 rfl rfl zScal zUpd rfl (by simp only [List.length_set, List.length_map]; omega) ?_
  refine aops_p (ap_assign rfl) rfl rfl rfl ?_
  refine aops_nil ?_
  refine seqQ_n ?_
  refine awp_seq ?_
  refine awp_draw (Hm := []) zKr zSplit ?_
  refine aany_take 0 rfl (.none rfl) zKr zKr zKr (AP.ar (ap_move rfl)) rfl rfl ?_
  refine aany_take 1 rfl (.none rfl) zKr zKr zKr (AP.ar (ap_cmp rfl rfl rfl)) rfl rfl ?_
  refine aany_take 2 rfl (.none rfl) zKr zKr zKr (AP.ar (ap_move rfl)) rfl rfl ?_
  refine aany_guard 2 rfl (fun hg => ?_) (fun hg => ?_)
  rotate_left
  case' _ =>
    first
    | (exact absurd hg (by decide))
    | (exfalso; simp at hg; done)
    | (refine aany_skip 3 rfl (.no rfl rfl (by first | (show _ = false; with_reducible assumption) | exact zDec)) zKr zKr zKr rfl rfl ?_
       first | refine aany_take 4 rfl (.none rfl) zKr zKr zKr (AP.ar (ap_pick_true rfl zDec rfl)) rfl rfl ?_ | refine aany_take 4 rfl (.none rfl) zKr zKr zKr (AP.ar (ap_pick_false rfl zDec rfl)) rfl rfl ?_
       refine aany_take 5 rfl (.none rfl) zKr zKr zKr (AP.ar (ap_move rfl)) rfl rfl ?_
       refine aany_skip 6 rfl (.no rfl rfl (by first | (show _ = false; with_reducible assumption) | exact zDec)) zKr zKr zKr rfl rfl ?_
       refine aany_skip 7 rfl (.no rfl rfl (by first | (show _ = false; with_reducible assumption) | exact zDec)) zKr zKr zKr rfl rfl ?_
       first | refine aany_take 8 rfl (.none rfl) zKr zKr zKr (AP.ar (ap_pick_true rfl zDec rfl)) rfl rfl ?_ | refine aany_take 8 rfl (.none rfl) zKr zKr zKr (AP.ar (ap_pick_false rfl zDec rfl)) rfl rfl ?_
       refine aany_take 9 rfl (.none rfl) zKr zKr zKr (AP.ar (ap_move rfl)) rfl rfl ?_
       refine aany_skip 10 rfl (.no rfl rfl (by first | (show _ = false; with_reducible assumption) | exact zDec)) zKr zKr zKr rfl rfl ?_
       refine aany_skip 11 rfl (.no rfl rfl (by first | (show _ = false; with_reducible assumption) | exact zDec)) zKr zKr zKr rfl rfl ?_
       first | refine aany_take 12 rfl (.none rfl) zKr zKr zKr (AP.ar (ap_pick_true rfl zDec rfl)) rfl rfl ?_ | refine aany_take 12 rfl (.none rfl) zKr zKr zKr (AP.ar (ap_pick_false rfl zDec rfl)) rfl rfl ?_
       refine aany_take 13 rfl (.none rfl) zKr zKr zKr (AP.ar (ap_move rfl)) rfl rfl ?_
       refine aany_skip 14 rfl (.no rfl rfl (by first | (show _ = false; with_reducible assumption) | exact zDec)) zKr zKr zKr rfl rfl ?_
       refine aany_skip 15 rfl (.no rfl rfl (by first | (show _ = false; with_reducible assumption) | exact zDec)) zKr zKr zKr rfl rfl ?_
       first | refine aany_take 16 rfl (.none rfl) zKr zKr zKr (AP.ar (ap_pick_true rfl zDec rfl)) rfl rfl ?_ | refine aany_take 16 rfl (.none rfl) zKr zKr zKr (AP.ar (ap_pick_false rfl zDec rfl)) rfl rfl ?_
       refine aany_take 17 rfl (.none rfl) zKr zKr zKr (AP.ar (ap_move rfl)) rfl rfl ?_
       refine aany_skip 18 rfl (.no rfl rfl (by first | (show _ = false; with_reducible assumption) | exact zDec)) zKr zKr zKr rfl rfl ?_
       refine aany_skip 19 rfl (.no rfl rfl (by first | (show _ = false; with_reducible assumption) | exact zDec)) zKr zKr zKr rfl rfl ?_
       first | refine aany_take 20 rfl (.none rfl) zKr zKr zKr (AP.ar (ap_pick_true rfl zDec rfl)) rfl rfl ?_ | refine aany_take 20 rfl (.none rfl) zKr zKr zKr (AP.ar (ap_pick_false rfl zDec rfl)) rfl rfl ?_
       refine aany_take 21 rfl (.none rfl) zKr zKr zKr (AP.ar (ap_move rfl)) rfl rfl ?_
       refine aany_skip 22 rfl (.no rfl rfl (by first | (show _ = false; with_reducible assumption) | exact zDec)) zKr zKr zKr rfl rfl ?_
       refine aany_skip 23 rfl (.no rfl rfl (by first | (show _ = false; with_reducible assumption) | exact zDec)) zKr zKr zKr rfl rfl ?_
       refine aany_skip 24 rfl (.no rfl rfl (by first | (show _ = false; with_reducible assumption) | exact zDec)) zKr zKr zKr rfl rfl ?_
       first | refine aany_take 25 rfl (.none rfl) zKr zKr zKr (AP.ar (ap_pick_true rfl zDec rfl)) rfl rfl ?_ | refine aany_take 25 rfl (.none rfl) zKr zKr zKr (AP.ar (ap_pick_false rfl zDec rfl)) rfl rfl ?_
       refine aany_take 26 rfl (.none rfl) zKr zKr zKr (AP.ar (ap_move rfl)) rfl rfl ?_
       refine aany_skip 27 rfl (.no rfl rfl (by first | (show _ = false; with_reducible assumption) | exact zDec)) zKr zKr zKr rfl rfl ?_
       refine aany_skip 28 rfl (.no rfl rfl (by first | (show _ = false; with_reducible assumption) | exact zDec)) zKr zKr zKr rfl rfl ?_
       refine aany_skip 29 rfl (.no rfl rfl (by first | (show _ = false; with_reducible assumption) | exact zDec)) zKr zKr zKr rfl rfl ?_
       first | refine aany_take 30 rfl (.none rfl) zKr zKr zKr (AP.ar (ap_pick_true rfl zDec rfl)) rfl rfl ?_ | refine aany_take 30 rfl (.none rfl) zKr zKr zKr (AP.ar (ap_pick_false rfl zDec rfl)) rfl rfl ?_
       refine aany_take 31 rfl (.none rfl) zKr zKr zKr (AP.ar (ap_assign rfl)) rfl rfl ?_
       refine aany_nil zKr ?_
      )
  rotate_right
  case' _ =>
    first
    | (exact absurd hg (by decide))
    | (exfalso; simp at hg; done)
    | (refine aany_take 3 rfl (.yes rfl rfl zDec) zKr zKr zKr (AP.ar (ap_move rfl)) rfl rfl ?_
       first | refine aany_take 4 rfl (.none rfl) zKr zKr zKr (AP.ar (ap_pick_true rfl zDec rfl)) rfl rfl ?_ | refine aany_take 4 rfl (.none rfl) zKr zKr zKr (AP.ar (ap_pick_false rfl zDec rfl)) rfl rfl ?_
       refine aany_take 5 rfl (.none rfl) zKr zKr zKr (AP.ar (ap_move rfl)) rfl rfl ?_
       refine aany_guard 5 rfl (fun hg => ?_) (fun hg => ?_)
       rotate_left
       case' _ =>
         first
         | (exact absurd hg (by decide))
         | (exfalso; simp at hg; done)
         | (refine aany_skip 6 rfl (.no rfl rfl (by first | (show _ = false; with_reducible assumption) | exact zDec)) zKr zKr zKr rfl rfl ?_
            refine aany_skip 7 rfl (.no rfl rfl (by first | (show _ = false; with_reducible assumption) | exact zDec)) zKr zKr zKr rfl rfl ?_
            first | refine aany_take 8 rfl (.none rfl) zKr zKr zKr (AP.ar (ap_pick_true rfl zDec rfl)) rfl rfl ?_ | refine aany_take 8 rfl (.none rfl) zKr zKr zKr (AP.ar (ap_pick_false rfl zDec rfl)) rfl rfl ?_
            refine aany_take 9 rfl (.none rfl) zKr zKr zKr (AP.ar (ap_move rfl)) rfl rfl ?_
            refine aany_skip 10 rfl (.no rfl rfl (by first | (show _ = false; with_reducible assumption) | exact zDec)) zKr zKr zKr rfl rfl ?_
            refine aany_skip 11 rfl (.no rfl rfl (by first | (show _ = false; with_reducible assumption) | exact zDec)) zKr zKr zKr rfl rfl ?_
            first | refine aany_take 12 rfl (.none rfl) zKr zKr zKr (AP.ar (ap_pick_true rfl zDec rfl)) rfl rfl ?_ | refine aany_take 12 rfl (.none rfl) zKr zKr zKr (AP.ar (ap_pick_false rfl zDec rfl)) rfl rfl ?_
            refine aany_take 13 rfl (.none rfl) zKr zKr zKr (AP.ar (ap_move rfl)) rfl rfl ?_
            refine aany_skip 14 rfl (.no rfl rfl (by first | (show _ = false; with_reducible assumption) | exact zDec)) zKr zKr zKr rfl rfl ?_
            refine aany_skip 15 rfl (.no rfl rfl (by first | (show _ = false; with_reducible assumption) | exact zDec)) zKr zKr zKr rfl rfl ?_
            first | refine aany_take 16 rfl (.none rfl) zKr zKr zKr (AP.ar (ap_pick_true rfl zDec rfl)) rfl rfl ?_ | refine aany_take 16 rfl (.none rfl) zKr zKr zKr (AP.ar (ap_pick_false rfl zDec rfl)) rfl rfl ?_
            refine aany_take 17 rfl (.none rfl) zKr zKr zKr (AP.ar (ap_move rfl)) rfl rfl ?_
            refine aany_skip 18 rfl (.no rfl rfl (by first | (show _ = false; with_reducible assumption) | exact zDec)) zKr zKr zKr rfl rfl ?_
            refine aany_skip 19 rfl (.no rfl rfl (by first | (show _ = false; with_reducible assumption) | exact zDec)) zKr zKr zKr rfl rfl ?_
            first | refine aany_take 20 rfl (.none rfl) zKr zKr zKr (AP.ar (ap_pick_true rfl zDec rfl)) rfl rfl ?_ | refine aany_take 20 rfl (.none rfl) zKr zKr zKr (AP.ar (ap_pick_false rfl zDec rfl)) rfl rfl ?_
            refine aany_take 21 rfl (.none rfl) zKr zKr zKr (AP.ar (ap_move rfl)) rfl rfl ?_
            refine aany_skip 22 rfl (.no rfl rfl (by first | (show _ = false; with_reducible assumption) | exact zDec)) zKr zKr zKr rfl rfl ?_
            refine aany_skip 23 rfl (.no rfl rfl (by first | (show _ = false; with_reducible assumption) | exact zDec)) zKr zKr zKr rfl rfl ?_
            refine aany_skip 24 rfl (.no rfl rfl (by first | (show _ = false; with_reducible assumption) | exact zDec)) zKr zKr zKr rfl rfl ?_
            first | refine aany_take 25 rfl (.none rfl) zKr zKr zKr (AP.ar (ap_pick_true rfl zDec rfl)) rfl rfl ?_ | refine aany_take 25 rfl (.none rfl) zKr zKr zKr (AP.ar (ap_pick_false rfl zDec rfl)) rfl rfl ?_
            refine aany_take 26 rfl (.none rfl) zKr zKr zKr (AP.ar (ap_move rfl)) rfl rfl ?_
            refine aany_skip 27 rfl (.no rfl rfl (by first | (show _ = false; with_reducible assumption) | exact zDec)) zKr zKr zKr rfl rfl ?_
            refine aany_skip 28 rfl (.no rfl rfl (by first | (show _ = false; with_reducible assumption) | exact zDec)) zKr zKr zKr rfl rfl ?_
            refine aany_skip 29 rfl (.no rfl rfl (by first | (show _ = false; with_reducible assumption) | exact zDec)) zKr zKr zKr rfl rfl ?_
            first | refine aany_take 30 rfl (.none rfl) zKr zKr zKr (AP.ar (ap_pick_true rfl zDec rfl)) rfl rfl ?_ | refine aany_take 30 rfl (.none rfl) zKr zKr zKr (AP.ar (ap_pick_false rfl zDec rfl)) rfl rfl ?_
            refine aany_take 31 rfl (.none rfl) zKr zKr zKr (AP.ar (ap_assign rfl)) rfl rfl ?_
            refine aany_nil zKr ?_
           )
       rotate_right
       case' _ =>
         first
         | (exact absurd hg (by decide))
         | (exfalso; simp at hg; done)
         | (refine aany_take 6 rfl (.yes rfl rfl zDec) zKr zKr zKr (AP.ar (ap_move rfl)) rfl rfl ?_
            refine aany_take 7 rfl (.yes rfl rfl zDec) zKr zKr zKr (AP.ar (ap_cmp rfl rfl rfl)) rfl rfl ?_
            first | refine aany_take 8 rfl (.none rfl) zKr zKr zKr (AP.ar (ap_pick_true rfl zDec rfl)) rfl rfl ?_ | refine aany_take 8 rfl (.none rfl) zKr zKr zKr (AP.ar (ap_pick_false rfl zDec rfl)) rfl rfl ?_
            refine aany_take 9 rfl (.none rfl) zKr zKr zKr (AP.ar (ap_move rfl)) rfl rfl ?_
            refine aany_guard 9 rfl (fun hg => ?_) (fun hg => ?_)
            rotate_left
            case' _ =>
              first
              | (exact absurd hg (by decide))
              | (exfalso; simp at hg; done)
              | (refine aany_skip 10 rfl (.no rfl rfl (by first | (show _ = false; with_reducible assumption) | exact zDec)) zKr zKr zKr rfl rfl ?_
                 refine aany_skip 11 rfl (.no rfl rfl (by first | (show _ = false; with_reducible assumption) | exact zDec)) zKr zKr zKr rfl rfl ?_
                 first | refine aany_take 12 rfl (.none rfl) zKr zKr zKr (AP.ar (ap_pick_true rfl zDec rfl)) rfl rfl ?_ | refine aany_take 12 rfl (.none rfl) zKr zKr zKr (AP.ar (ap_pick_false rfl zDec rfl)) rfl rfl ?_
                 refine aany_take 13 rfl (.none rfl) zKr zKr zKr (AP.ar (ap_move rfl)) rfl rfl ?_
                 refine aany_skip 14 rfl (.no rfl rfl (by first | (show _ = false; with_reducible assumption) | exact zDec)) zKr zKr zKr rfl rfl ?_
                 refine aany_skip 15 rfl (.no rfl rfl (by first | (show _ = false; with_reducible assumption) | exact zDec)) zKr zKr zKr rfl rfl ?_
                 first | refine aany_take 16 rfl (.none rfl) zKr zKr zKr (AP.ar (ap_pick_true rfl zDec rfl)) rfl rfl ?_ | refine aany_take 16 rfl (.none rfl) zKr zKr zKr (AP.ar (ap_pick_false rfl zDec rfl)) rfl rfl ?_
                 refine aany_take 17 rfl (.none rfl) zKr zKr zKr (AP.ar (ap_move rfl)) rfl rfl ?_
                 refine aany_skip 18 rfl (.no rfl rfl (by first | (show _ = false; with_reducible assumption) | exact zDec)) zKr zKr zKr rfl rfl ?_
                 refine aany_skip 19 rfl (.no rfl rfl (by first | (show _ = false; with_reducible assumption) | exact zDec)) zKr zKr zKr rfl rfl ?_
                 first | refine aany_take 20 rfl (.none rfl) zKr zKr zKr (AP.ar (ap_pick_true rfl zDec rfl)) rfl rfl ?_ | refine aany_take 20 rfl (.none rfl) zKr zKr zKr (AP.ar (ap_pick_false rfl zDec rfl)) rfl rfl ?_
                 refine aany_take 21 rfl (.none rfl) zKr zKr zKr (AP.ar (ap_move rfl)) rfl rfl ?_
                 refine aany_skip 22 rfl (.no rfl rfl (by first | (show _ = false; with_reducible assumption) | exact zDec)) zKr zKr zKr rfl rfl ?_
                 refine aany_skip 23 rfl (.no rfl rfl (by first | (show _ = false; with_reducible assumption) | exact zDec)) zKr zKr zKr rfl rfl ?_
                 refine aany_skip 24 rfl (.no rfl rfl (by first | (show _ = false; with_reducible assumption) | exact zDec)) zKr zKr zKr rfl rfl ?_
                 first | refine aany_take 25 rfl (.none rfl) zKr zKr zKr (AP.ar (ap_pick_true rfl zDec rfl)) rfl rfl ?_ | refine aany_take 25 rfl (.none rfl) zKr zKr zKr (AP.ar (ap_pick_false rfl zDec rfl)) rfl rfl ?_
                 refine aany_take 26 rfl (.none rfl) zKr zKr zKr (AP.ar (ap_move rfl)) rfl rfl ?_
                 refine aany_skip 27 rfl (.no rfl rfl (by first | (show _ = false; with_reducible assumption) | exact zDec)) zKr zKr zKr rfl rfl ?_
                 refine aany_skip 28 rfl (.no rfl rfl (by first | (show _ = false; with_reducible assumption) | exact zDec)) zKr zKr zKr rfl rfl ?_
                 refine aany_skip 29 rfl (.no rfl rfl (by first | (show _ = false; with_reducible assumption) | exact zDec)) zKr zKr zKr rfl rfl ?_
                 first | refine aany_take 30 rfl (.none rfl) zKr zKr zKr (AP.ar (ap_pick_true rfl zDec rfl)) rfl rfl ?_ | refine aany_take 30 rfl (.none rfl) zKr zKr zKr (AP.ar (ap_pick_false rfl zDec rfl)) rfl rfl ?_
                 refine aany_take 31 rfl (.none rfl) zKr zKr zKr (AP.ar (ap_assign rfl)) rfl rfl ?_
                 refine aany_nil zKr ?_
                )
            rotate_right
            case' _ =>
              first
              | (exact absurd hg (by decide))
              | (exfalso; simp at hg; done)
              | (refine aany_take 10 rfl (.yes rfl rfl zDec) zKr zKr zKr (AP.ar (ap_move rfl)) rfl rfl ?_
                 refine aany_take 11 rfl (.yes rfl rfl zDec) zKr zKr zKr (AP.ar (ap_cmp rfl rfl rfl)) rfl rfl ?_
                 first | refine aany_take 12 rfl (.none rfl) zKr zKr zKr (AP.ar (ap_pick_true rfl zDec rfl)) rfl rfl ?_ | refine aany_take 12 rfl (.none rfl) zKr zKr zKr (AP.ar (ap_pick_false rfl zDec rfl)) rfl rfl ?_
                 refine aany_take 13 rfl (.none rfl) zKr zKr zKr (AP.ar (ap_move rfl)) rfl rfl ?_
                 refine aany_guard 13 rfl (fun hg => ?_) (fun hg => ?_)
                 rotate_left
                 case' _ =>
                   first
                   | (exact absurd hg (by decide))
                   | (exfalso; simp at hg; done)
                   | (refine aany_skip 14 rfl (.no rfl rfl (by first | (show _ = false; with_reducible assumption) | exact zDec)) zKr zKr zKr rfl rfl ?_
                      refine aany_skip 15 rfl (.no rfl rfl (by first | (show _ = false; with_reducible assumption) | exact zDec)) zKr zKr zKr rfl rfl ?_
                      first | refine aany_take 16 rfl (.none rfl) zKr zKr zKr (AP.ar (ap_pick_true rfl zDec rfl)) rfl rfl ?_ | refine aany_take 16 rfl (.none rfl) zKr zKr zKr (AP.ar (ap_pick_false rfl zDec rfl)) rfl rfl ?_
                      refine aany_take 17 rfl (.none rfl) zKr zKr zKr (AP.ar (ap_move rfl)) rfl rfl ?_
                      refine aany_skip 18 rfl (.no rfl rfl (by first | (show _ = false; with_reducible assumption) | exact zDec)) zKr zKr zKr rfl rfl ?_
                      refine aany_skip 19 rfl (.no rfl rfl (by first | (show _ = false; with_reducible assumption) | exact zDec)) zKr zKr zKr rfl rfl ?_
                      first | refine aany_take 20 rfl (.none rfl) zKr zKr zKr (AP.ar (ap_pick_true rfl zDec rfl)) rfl rfl ?_ | refine aany_take 20 rfl (.none rfl) zKr zKr zKr (AP.ar (ap_pick_false rfl zDec rfl)) rfl rfl ?_
                      refine aany_take 21 rfl (.none rfl) zKr zKr zKr (AP.ar (ap_move rfl)) rfl rfl ?_
                      refine aany_skip 22 rfl (.no rfl rfl (by first | (show _ = false; with_reducible assumption) | exact zDec)) zKr zKr zKr rfl rfl ?_
                      refine aany_skip 23 rfl (.no rfl rfl (by first | (show _ = false; with_reducible assumption) | exact zDec)) zKr zKr zKr rfl rfl ?_
                      refine aany_skip 24 rfl (.no rfl rfl (by first | (show _ = false; with_reducible assumption) | exact zDec)) zKr zKr zKr rfl rfl ?_
                      first | refine aany_take 25 rfl (.none rfl) zKr zKr zKr (AP.ar (ap_pick_true rfl zDec rfl)) rfl rfl ?_ | refine aany_take 25 rfl (.none rfl) zKr zKr zKr (AP.ar (ap_pick_false rfl zDec rfl)) rfl rfl ?_
                      refine aany_take 26 rfl (.none rfl) zKr zKr zKr (AP.ar (ap_move rfl)) rfl rfl ?_
                      refine aany_skip 27 rfl (.no rfl rfl (by first | (show _ = false; with_reducible assumption) | exact zDec)) zKr zKr zKr rfl rfl ?_
                      refine aany_skip 28 rfl (.no rfl rfl (by first | (show _ = false; with_reducible assumption) | exact zDec)) zKr zKr zKr rfl rfl ?_
                      refine aany_skip 29 rfl (.no rfl rfl (by first | (show _ = false; with_reducible assumption) | exact zDec)) zKr zKr zKr rfl rfl ?_
                      first | refine aany_take 30 rfl (.none rfl) zKr zKr zKr (AP.ar (ap_pick_true rfl zDec rfl)) rfl rfl ?_ | refine aany_take 30 rfl (.none rfl) zKr zKr zKr (AP.ar (ap_pick_false rfl zDec rfl)) rfl rfl ?_
                      refine aany_take 31 rfl (.none rfl) zKr zKr zKr (AP.ar (ap_assign rfl)) rfl rfl ?_
                      refine aany_nil zKr ?_
                     )
                 rotate_right
                 case' _ =>
                   first
                   | (exact absurd hg (by decide))
                   | (exfalso; simp at hg; done)
                   | (refine aany_take 14 rfl (.yes rfl rfl zDec) zKr zKr zKr (AP.ar (ap_move rfl)) rfl rfl ?_
                      refine aany_take 15 rfl (.yes rfl rfl zDec) zKr zKr zKr (AP.ar (ap_cmp rfl rfl rfl)) rfl rfl ?_
                      first | refine aany_take 16 rfl (.none rfl) zKr zKr zKr (AP.ar (ap_pick_true rfl zDec rfl)) rfl rfl ?_ | refine aany_take 16 rfl (.none rfl) zKr zKr zKr (AP.ar (ap_pick_false rfl zDec rfl)) rfl rfl ?_
                      refine aany_take 17 rfl (.none rfl) zKr zKr zKr (AP.ar (ap_move rfl)) rfl rfl ?_
                      refine aany_guard 17 rfl (fun hg => ?_) (fun hg => ?_)
                      rotate_left
                      case' _ =>
                        first
                        | (exact absurd hg (by decide))
                        | (exfalso; simp at hg; done)
                        | (refine aany_skip 18 rfl (.no rfl rfl (by first | (show _ = false; with_reducible assumption) | exact zDec)) zKr zKr zKr rfl rfl ?_
                           refine aany_skip 19 rfl (.no rfl rfl (by first | (show _ = false; with_reducible assumption) | exact zDec)) zKr zKr zKr rfl rfl ?_
                           first | refine aany_take 20 rfl (.none rfl) zKr zKr zKr (AP.ar (ap_pick_true rfl zDec rfl)) rfl rfl ?_ | refine aany_take 20 rfl (.none rfl) zKr zKr zKr (AP.ar (ap_pick_false rfl zDec rfl)) rfl rfl ?_
                           refine aany_take 21 rfl (.none rfl) zKr zKr zKr (AP.ar (ap_move rfl)) rfl rfl ?_
                           refine aany_skip 22 rfl (.no rfl rfl (by first | (show _ = false; with_reducible assumption) | exact zDec)) zKr zKr zKr rfl rfl ?_
                           refine aany_skip 23 rfl (.no rfl rfl (by first | (show _ = false; with_reducible assumption) | exact zDec)) zKr zKr zKr rfl rfl ?_
                           refine aany_skip 24 rfl (.no rfl rfl (by first | (show _ = false; with_reducible assumption) | exact zDec)) zKr zKr zKr rfl rfl ?_
                           first | refine aany_take 25 rfl (.none rfl) zKr zKr zKr (AP.ar (ap_pick_true rfl zDec rfl)) rfl rfl ?_ | refine aany_take 25 rfl (.none rfl) zKr zKr zKr (AP.ar (ap_pick_false rfl zDec rfl)) rfl rfl ?_
                           refine aany_take 26 rfl (.none rfl) zKr zKr zKr (AP.ar (ap_move rfl)) rfl rfl ?_
                           refine aany_skip 27 rfl (.no rfl rfl (by first | (show _ = false; with_reducible assumption) | exact zDec)) zKr zKr zKr rfl rfl ?_
                           refine aany_skip 28 rfl (.no rfl rfl (by first | (show _ = false; with_reducible assumption) | exact zDec)) zKr zKr zKr rfl rfl ?_
                           refine aany_skip 29 rfl (.no rfl rfl (by first | (show _ = false; with_reducible assumption) | exact zDec)) zKr zKr zKr rfl rfl ?_
                           first | refine aany_take 30 rfl (.none rfl) zKr zKr zKr (AP.ar (ap_pick_true rfl zDec rfl)) rfl rfl ?_ | refine aany_take 30 rfl (.none rfl) zKr zKr zKr (AP.ar (ap_pick_false rfl zDec rfl)) rfl rfl ?_
                           refine aany_take 31 rfl (.none rfl) zKr zKr zKr (AP.ar (ap_assign rfl)) rfl rfl ?_
                           refine aany_nil zKr ?_
                          )
                      rotate_right
                      case' _ =>
                        first
                        | (exact absurd hg (by decide))
                        | (exfalso; simp at hg; done)
                        | (refine aany_take 18 rfl (.yes rfl rfl zDec) zKr zKr zKr (AP.ar (ap_move rfl)) rfl rfl ?_
                           refine aany_take 19 rfl (.yes rfl rfl zDec) zKr zKr zKr (AP.ar (ap_cmp rfl rfl rfl)) rfl rfl ?_
                           first | refine aany_take 20 rfl (.none rfl) zKr zKr zKr (AP.ar (ap_pick_true rfl zDec rfl)) rfl rfl ?_ | refine aany_take 20 rfl (.none rfl) zKr zKr zKr (AP.ar (ap_pick_false rfl zDec rfl)) rfl rfl ?_
                           refine aany_take 21 rfl (.none rfl) zKr zKr zKr (AP.ar (ap_move rfl)) rfl rfl ?_
                           refine aany_guard 21 rfl (fun hg => ?_) (fun hg => ?_)
                           rotate_left
                           case' _ =>
                             first
                             | (exact absurd hg (by decide))
                             | (exfalso; simp at hg; done)
                             | (refine aany_skip 22 rfl (.no rfl rfl (by first | (show _ = false; with_reducible assumption) | exact zDec)) zKr zKr zKr rfl rfl ?_
                                refine aany_skip 23 rfl (.no rfl rfl (by first | (show _ = false; with_reducible assumption) | exact zDec)) zKr zKr zKr rfl rfl ?_
                                refine aany_skip 24 rfl (.no rfl rfl (by first | (show _ = false; with_reducible assumption) | exact zDec)) zKr zKr zKr rfl rfl ?_
                                first | refine aany_take 25 rfl (.none rfl) zKr zKr zKr (AP.ar (ap_pick_true rfl zDec rfl)) rfl rfl ?_ | refine aany_take 25 rfl (.none rfl) zKr zKr zKr (AP.ar (ap_pick_false rfl zDec rfl)) rfl rfl ?_
                                refine aany_take 26 rfl (.none rfl) zKr zKr zKr (AP.ar (ap_move rfl)) rfl rfl ?_
                                refine aany_skip 27 rfl (.no rfl rfl (by first | (show _ = false; with_reducible assumption) | exact zDec)) zKr zKr zKr rfl rfl ?_
                                refine aany_skip 28 rfl (.no rfl rfl (by first | (show _ = false; with_reducible assumption) | exact zDec)) zKr zKr zKr rfl rfl ?_
                                refine aany_skip 29 rfl (.no rfl rfl (by first | (show _ = false; with_reducible assumption) | exact zDec)) zKr zKr zKr rfl rfl ?_
                                first | refine aany_take 30 rfl (.none rfl) zKr zKr zKr (AP.ar (ap_pick_true rfl zDec rfl)) rfl rfl ?_ | refine aany_take 30 rfl (.none rfl) zKr zKr zKr (AP.ar (ap_pick_false rfl zDec rfl)) rfl rfl ?_
                                refine aany_take 31 rfl (.none rfl) zKr zKr zKr (AP.ar (ap_assign rfl)) rfl rfl ?_
                                refine aany_nil zKr ?_
                               )
                           rotate_right
                           case' _ =>
                             first
                             | (exact absurd hg (by decide))
                             | (exfalso; simp at hg; done)
                             | (first | refine aany_take 23 rfl (.yes rfl rfl zDec) zKr zKr zKr (ar_load rfl zUpd rfl rfl zRc) rfl rfl ?_ | refine aany_take 23 rfl (.yes rfl rfl zDec) zKr zKr zKr (AQ.ar (aq_load_el rfl rfl rfl rfl (fun _ h => h))) rfl rfl ?_
                                refine aany_one 22 zKr rfl (.yes rfl rfl zDec) ?_
                                refine aops_call_v zRc (s32) rfl rfl ?_
                                refine aops_nil ?_
                                refine aany_one 24 zKr rfl (.yes rfl rfl zDec) ?_
                                refine aops_call_v zRc (checkT_is (same_sz 3 2 (by omega)) (by omega) (check_t v32 (by omega) hx1)) rfl rfl ?_
                                refine aops_nil ?_
                                first | refine aany_take 25 rfl (.none rfl) zKr zKr zKr (AP.ar (ap_pick_true rfl zDec rfl)) rfl rfl ?_ | refine aany_take 25 rfl (.none rfl) zKr zKr zKr (AP.ar (ap_pick_false rfl zDec rfl)) rfl rfl ?_
                                refine aany_take 26 rfl (.none rfl) zKr zKr zKr (AP.ar (ap_move rfl)) rfl rfl ?_
                                refine aany_guard 26 rfl (fun hg => ?_) (fun hg => ?_)
                                rotate_left
                                case' _ =>
                                  first
                                  | (exact absurd hg (by decide))
                                  | (exfalso; simp at hg; done)
                                  | (refine aany_skip 27 rfl (.no rfl rfl (by first | (show _ = false; with_reducible assumption) | exact zDec)) zKr zKr zKr rfl rfl ?_
                                     refine aany_skip 28 rfl (.no rfl rfl (by first | (show _ = false; with_reducible assumption) | exact zDec)) zKr zKr zKr rfl rfl ?_
                                     refine aany_skip 29 rfl (.no rfl rfl (by first | (show _ = false; with_reducible assumption) | exact zDec)) zKr zKr zKr rfl rfl ?_
                                     first | refine aany_take 30 rfl (.none rfl) zKr zKr zKr (AP.ar (ap_pick_true rfl zDec rfl)) rfl rfl ?_ | refine aany_take 30 rfl (.none rfl) zKr zKr zKr (AP.ar (ap_pick_false rfl zDec rfl)) rfl rfl ?_
                                     refine aany_take 31 rfl (.none rfl) zKr zKr zKr (AP.ar (ap_assign rfl)) rfl rfl ?_
                                     refine aany_nil zKr ?_
                                    )
                                rotate_right
                                case' _ =>
                                  first
                                  | (exact absurd hg (by decide))
                                  | (exfalso; simp at hg; done)
                                  | (first | refine aany_take 27 rfl (.yes rfl rfl zDec) zKr zKr zKr (ar_load rfl zUpd rfl rfl zRc) rfl rfl ?_ | refine aany_take 27 rfl (.yes rfl rfl zDec) zKr zKr zKr (AQ.ar (aq_load_el rfl rfl rfl rfl (fun _ h => h))) rfl rfl ?_
                                     refine aany_one 28 zKr rfl (.yes rfl rfl zDec) ?_
                                     refine aops_call_v zRc (tsize_con x (by omega)) rfl rfl ?_
                                     refine aops_nil ?_
                                     refine aany_take 29 rfl (.yes rfl rfl zDec) zKr zKr zKr (AP.ar (ap_cmp rfl rfl rfl)) rfl rfl ?_
                                     first | refine aany_take 30 rfl (.none rfl) zKr zKr zKr (AP.ar (ap_pick_true rfl zDec rfl)) rfl rfl ?_ | refine aany_take 30 rfl (.none rfl) zKr zKr zKr (AP.ar (ap_pick_false rfl zDec rfl)) rfl rfl ?_
                                     refine aany_take 31 rfl (.none rfl) zKr zKr zKr (AP.ar (ap_assign rfl)) rfl rfl ?_
                                     refine aany_nil zKr ?_
                                    )
                               )
                          )
                     )
                )
           )
      )
  all_goals (
    refine seqQ_n ?_
    refine awp_ret ?_
    refine post_is (.tmp rfl .nil) (by repeat (first | exact .nil | refine .cons (by first | exact .here | exact .there .here | exact .there (.there .here) | exact .there (.there (.there .here)) | exact .there (.there (.there (.there .here)))) ?_)) ?_
    exact congrArg D.b (decide_eq_true (by omega))
    )
theorem pop_le (s : Nat) : ∀ k, popTo s k ≤ k
  | 0 => Nat.le_refl _
  | k + 1 => by have h1 := pop_le s k; have h2 := Nat.mod_two_eq_zero_or_one (s / 2 ^ k); simp only [popTo]; omega
theorem popTo_cast (s k : Nat) : ((popTo s k : Nat) : Int) + ((s / 2 ^ k % 2 : Nat) : Int) = ((popTo s (k + 1) : Nat) : Int) := by simp only [popTo]; push_cast; rfl
theorem subsIn_t {s n m : Nat} (h1 : decide (((m &&& s : Nat) : Int) = (m : Int)) = true) (h2 : decide ((popN m : Int) = (n : Int)) = true) : subsIn s n (m + 1) = subsIn s n m ++ [(m : Int)] := by simp only [subsIn]; rw [h1, h2]; rfl
theorem subsIn_f1 {s n m : Nat} (h1 : decide (((m &&& s : Nat) : Int) = (m : Int)) = false) : subsIn s n (m + 1) = subsIn s n m := by simp only [subsIn]; rw [h1, Bool.false_and, if_neg (by decide), List.append_nil]
theorem subsIn_f2 {s n m : Nat} (h2 : decide ((popN m : Int) = (n : Int)) = false) : subsIn s n (m + 1) = subsIn s n m := by simp only [subsIn]; rw [h2, Bool.and_false, if_neg (by decide), List.append_nil]
theorem co_sub {c : List Mem} {u : Nat} (hc : c.length ≤ 10) (hu : u < 2 ^ c.length) : ((2 ^ c.length - 1 : Nat) : Int) - (u : Int) = ((co c u : Nat) : Int) := by
  have h10 := pow_le10 hc
  have e : co c u = 2 ^ c.length - (u + 1) := by
    refine Nat.eq_of_testBit_eq fun i => ?_
    rw [coC_bit hc (by omega), Nat.testBit_two_pow_sub_succ hu]
  rw [e]
  omega
theorem co_full {c : List Mem} {s : Nat} : (2 ^ c.length - 1) &&& (2 ^ 63 - 1 - s) = co c s := rfl
theorem r1size_con (s : Nat) (hs : s < 1024) : Con Try.prog 157 [.i s] [] (Is (.i (popN s : Int)) []) := by
  have hcap : capB = 140737488355328 := rfl
  refine con_intro Try.func157 rfl Try.call157 rfl ?_
  refine awp_seq ?_
  refine awp_region ?_
  refine aops_p (ap_assign rfl) rfl rfl rfl ?_
  refine aops_nil ?_
  refine seqQ_n ?_
  refine awp_seq ?_
  refine awp_region ?_
  refine aops_p (ap_assign rfl) rfl rfl rfl ?_
  refine aops_nil ?_
  refine seqQ_n ?_
  refine awp_seq ?_
  refine awp_seq ?_
  refine awp_region ?_
  refine aops_p (ap_assign rfl) rfl rfl rfl ?_
  refine aops_nil ?_
  refine seqQ_n ?_
  refine awp_block ?_
  refine awp_loop1 [0] [] (fun (k : Nat) r => (3, .i ((popTo s k : Nat) : Int)) :: (4, .i (k : Int)) :: r) (fun (k : Nat) r => r) (fun (k : Nat) => k ≤ 10) (fun (k : Nat) => 10 - k) (0) zRc (by omega) (wk zSub (by repeat (first | exact .nil | refine .cons (by first | exact .here | exact .there .here | exact .there (.there .here) | exact .there (.there (.there .here)) | exact .there (.there (.there (.there .here)))) ?_))) ?_
  intro k hk
  have hpk := pop_le s k
  have hb1 : s / 2 ^ k &&& 1 ≤ 1 := Nat.and_le_right
  have hdv : s / 2 ^ k ≤ s := Nat.div_le_self _ _
  refine awp_seq ?_
  refine awp_seq ?_
  refine awp_region ?_
  refine aops_p (ap_move rfl) rfl rfl rfl ?_
  refine aops_p (ap_cmp rfl rfl rfl) rfl rfl rfl ?_
  refine aops_p (ap_move rfl) rfl rfl rfl ?_
  all_goals (first | (refine aops_yes rfl rfl rfl rfl zDec ?_; (refine aops_p (ap_move rfl) rfl rfl rfl ?_)) | refine aops_no_u rfl rfl rfl ?_ | refine aops_no_t rfl rfl rfl rfl zDec ?_ | (refine aops_guard_t rfl rfl rfl rfl (fun hg => ?_) (fun hg => ?_); case' _ => (refine aops_p (ap_move rfl) rfl rfl rfl ?_)))
  all_goals (first | (refine aops_yes rfl rfl rfl rfl zDec ?_; (refine aops_call_v zRc (rvalidn hs) rfl rfl ?_)) | refine aops_no_u rfl rfl rfl ?_ | refine aops_no_t rfl rfl rfl rfl zDec ?_ | (refine aops_guard_t rfl rfl rfl rfl (fun hg => ?_) (fun hg => ?_); case' _ => (refine aops_call_v zRc (rvalidn hs) rfl rfl ?_)))
  all_goals (first | refine aops_p (ap_pick_true rfl zDec rfl) rfl rfl rfl ?_ | refine aops_p (ap_pick_false rfl zDec rfl) rfl rfl rfl ?_)
  all_goals (
    refine aops_nil ?_
    refine seqQ_n ?_
    refine awp_cond rfl (fun hc => ?_) (fun hc => ?_)
    · first
      | (exact absurd hc (by decide))
      | (have hlt := of_decide_eq_true hg
         refine awp_skip ?_
         refine seqQ_n ?_
         refine awp_seq ?_
         refine awp_block ?_
         refine awp_region ?_
         refine aops_p (ap_move rfl) rfl rfl rfl ?_
         refine aops_p (ap_move rfl) rfl rfl rfl ?_
         refine aops_p (ap_move rfl) rfl rfl rfl ?_
         refine aops_p (ap_shr rfl rfl (by omega)) rfl rfl rfl ?_
         refine aops_p (ap_bits (q := 1) rfl rfl rfl (by omega) (by omega)) rfl rfl rfl ?_
         refine aops_p (ap_arith rfl rfl rfl (by omega)) rfl rfl rfl ?_
         refine aops_p (ap_assign rfl) rfl rfl rfl ?_
         refine aops_nil ?_
         refine blockQ_n ?_
         refine seqQ_n ?_
         refine awp_region ?_
         refine aops_p (ap_move rfl) rfl rfl rfl ?_
         refine aops_p (ap_arith rfl rfl rfl (by omega)) rfl rfl rfl ?_
         refine aops_p (ap_assign rfl) rfl rfl rfl ?_
         refine aops_nil ?_
         refine seqQ_n ?_
         rw [Nat.and_one_is_mod, popTo_cast]
         refine ⟨k + 1, by omega, by omega, wk zSub (by repeat (first | exact .nil | refine .cons (by first | exact .here | exact .there .here | exact .there (.there .here) | exact .there (.there (.there .here)) | exact .there (.there (.there (.there .here)))) ?_))⟩
        )
    · first
      | (exact absurd hc (by decide))
      | (have hge := of_decide_eq_false hg
         obtain rfl : k = 10 := by omega
         refine awp_exit ?_
         refine seqQ_x ?_
         refine seqQ_x ?_
         refine blockQ_x rfl ?_
         refine seqQ_n ?_
         refine awp_seq ?_
         refine awp_region ?_
         refine aops_p (ap_move rfl) rfl rfl rfl ?_
         refine aops_p (ap_assign rfl) rfl rfl rfl ?_
         refine aops_nil ?_
         refine seqQ_n ?_
         refine awp_ret ?_
         refine post_is (.tmp rfl .nil) (by repeat (first | exact .nil | refine .cons (by first | exact .here | exact .there .here | exact .there (.there .here) | exact .there (.there (.there .here)) | exact .there (.there (.there (.there .here)))) ?_)) rfl
        )
    )
theorem subsets_con (s : Nat) (hs : s < 1024) : Con Try.prog 138 [.i s] [] (Is (.sl 1 ((subs s).map .i)) []) := by
  have hcap : capB = 140737488355328 := rfl
  have hp10 := (pop_one hs).2.2.1
  refine con_intro Try.func138 rfl Try.call138 rfl ?_
  refine awp_seq ?_
  refine awp_region ?_
  refine aops_p (ap_assign rfl) rfl rfl rfl ?_
  refine aops_nil ?_
  refine seqQ_n ?_
  refine awp_seq ?_
  refine awp_region ?_
  refine aops_p (ap_assign rfl) rfl rfl rfl ?_
  refine aops_nil ?_
  refine seqQ_n ?_
  refine awp_seq ?_
  refine awp_seq ?_
  refine awp_region ?_
  refine aops_p (ap_assign rfl) rfl rfl rfl ?_
  refine aops_nil ?_
  refine seqQ_n ?_
  refine awp_block ?_
  refine awp_loop3 [0] [] (fun (n : Nat) (v : Value) (q : List Int) r => (3, .v v) :: (4, .i (n : Int)) :: r) (fun (n : Nat) (v : Value) (q : List Int) r => .arr v 3 1 (q.map .i) :: r) (fun (n : Nat) (v : Value) (q : List Int) => n ≤ popN s + 1 ∧ q.length ≤ n * 1024 ∧ q = subsTo s n) (fun (n : Nat) (v : Value) (q : List Int) => popN s + 1 - n) (0) (.slice none 0 0) ([]) zRc ⟨by omega, by simp, rfl⟩ ((wk_own 3 1 rfl).trans (wk zSub (by repeat (first | exact .nil | refine .cons (by first | exact .here | exact .there .here | exact .there (.there .here) | exact .there (.there (.there .here)) | exact .there (.there (.there (.there .here)))) ?_)))) ?_
  intro n v q ⟨hn, hql, hI⟩
  refine awp_seq ?_
  refine awp_seq ?_
  refine awp_region ?_
  refine aops_p (ap_move rfl) rfl rfl rfl ?_
  refine aops_p (ap_move rfl) rfl rfl rfl ?_
  refine aops_call_v zRc (r1size_con s hs) rfl rfl ?_
  refine aops_p (ap_cmp rfl rfl rfl) rfl rfl rfl ?_
  refine aops_p (ap_move rfl) rfl rfl rfl ?_
  all_goals (first | (refine aops_yes rfl rfl rfl rfl zDec ?_; (refine aops_p (ap_move rfl) rfl rfl rfl ?_)) | refine aops_no_u rfl rfl rfl ?_ | refine aops_no_t rfl rfl rfl rfl zDec ?_ | (refine aops_guard_t rfl rfl rfl rfl (fun hg => ?_) (fun hg => ?_); case' _ => (refine aops_p (ap_move rfl) rfl rfl rfl ?_)))
  all_goals (first | (refine aops_yes rfl rfl rfl rfl zDec ?_; (refine aops_call_v zRc (rvalidn hs) rfl rfl ?_)) | refine aops_no_u rfl rfl rfl ?_ | refine aops_no_t rfl rfl rfl rfl zDec ?_ | (refine aops_guard_t rfl rfl rfl rfl (fun hg => ?_) (fun hg => ?_); case' _ => (refine aops_call_v zRc (rvalidn hs) rfl rfl ?_)))
  all_goals (first | refine aops_p (ap_pick_true rfl zDec rfl) rfl rfl rfl ?_ | refine aops_p (ap_pick_false rfl zDec rfl) rfl rfl rfl ?_)
  all_goals (
    refine aops_nil ?_
    refine seqQ_n ?_
    refine awp_cond rfl (fun hc => ?_) (fun hc => ?_)
    · first
      | (exact absurd hc (by decide))
      | (have hle := of_decide_eq_true hg
         refine awp_skip ?_
         refine seqQ_n ?_
         refine awp_seq ?_
         refine awp_block ?_
         refine awp_seq ?_
         refine awp_region ?_
         refine aops_p (ap_assign rfl) rfl rfl rfl ?_
         refine aops_nil ?_
         refine seqQ_n ?_
         refine awp_block ?_
         refine awp_loop3 [0, 4] [] (fun (x : Nat) (v2 : Value) (q2 : List Int) r => (3, .v v2) :: (5, .i (x : Int)) :: r) (fun (x : Nat) (v2 : Value) (q2 : List Int) r => .arr v2 3 1 (q2.map .i) :: r) (fun (x : Nat) (v2 : Value) (q2 : List Int) => x ≤ s + 1 ∧ q2.length ≤ n * 1024 + x ∧ q2 = subsTo s n ++ subsIn s n x) (fun (x : Nat) (v2 : Value) (q2 : List Int) => s + 1 - x) (0) (v) (q) zRc ⟨by omega, by omega, by rw [hI]; simp [subsIn]⟩ (wk zSub (by repeat (first | exact .nil | refine .cons (by first | exact .here | exact .there .here | exact .there (.there .here) | exact .there (.there (.there .here)) | exact .there (.there (.there (.there .here)))) ?_))) ?_
         intro x v2 q2 ⟨hx, hql2, hI2⟩
         refine awp_seq ?_
         refine awp_seq ?_
         refine awp_region ?_
         refine aops_p (ap_move rfl) rfl rfl rfl ?_
         refine aops_p (ap_move rfl) rfl rfl rfl ?_
         refine aops_p (ap_cmp rfl rfl rfl) rfl rfl rfl ?_
         refine aops_nil ?_
         refine seqQ_n ?_
         refine awp_cond rfl (fun hc => ?_) (fun hc => ?_)
         · have hxs := of_decide_eq_true hc
           refine awp_skip ?_
           refine seqQ_n ?_
           refine awp_seq ?_
           refine awp_block ?_
           refine awp_seq ?_
           refine awp_region ?_
           refine aops_p (ap_move rfl) rfl rfl rfl ?_
           refine aops_p (ap_move rfl) rfl rfl rfl ?_
           refine aops_p (ap_bits rfl rfl rfl (by omega) (by omega)) rfl rfl rfl ?_
           refine aops_p (ap_move rfl) rfl rfl rfl ?_
           refine aops_p (ap_cmp rfl rfl rfl) rfl rfl rfl ?_
           refine aops_p (ap_move rfl) rfl rfl rfl ?_
           all_goals (first | (refine aops_yes rfl rfl rfl rfl zDec ?_; (refine aops_p (ap_move rfl) rfl rfl rfl ?_)) | refine aops_no_u rfl rfl rfl ?_ | refine aops_no_t rfl rfl rfl rfl zDec ?_ | (refine aops_guard_t rfl rfl rfl rfl (fun hg => ?_) (fun hg => ?_); case' _ => (refine aops_p (ap_move rfl) rfl rfl rfl ?_)))
           all_goals (first | (refine aops_yes rfl rfl rfl rfl zDec ?_; (refine aops_call_v zRc (r1size_con x (by omega)) rfl rfl ?_)) | refine aops_no_u rfl rfl rfl ?_ | refine aops_no_t rfl rfl rfl rfl zDec ?_ | (refine aops_guard_t rfl rfl rfl rfl (fun hg => ?_) (fun hg => ?_); case' _ => (refine aops_call_v zRc (r1size_con x (by omega)) rfl rfl ?_)))
           all_goals (first | (refine aops_yes rfl rfl rfl rfl zDec ?_; (refine aops_p (ap_move rfl) rfl rfl rfl ?_)) | refine aops_no_u rfl rfl rfl ?_ | refine aops_no_t rfl rfl rfl rfl zDec ?_ | (refine aops_guard_t rfl rfl rfl rfl (fun hg => ?_) (fun hg => ?_); case' _ => (refine aops_p (ap_move rfl) rfl rfl rfl ?_)))
           all_goals (first | (refine aops_yes rfl rfl rfl rfl zDec ?_; (refine aops_p (ap_cmp rfl rfl rfl) rfl rfl rfl ?_)) | refine aops_no_u rfl rfl rfl ?_ | refine aops_no_t rfl rfl rfl rfl zDec ?_ | (refine aops_guard_t rfl rfl rfl rfl (fun hg => ?_) (fun hg => ?_); case' _ => (refine aops_p (ap_cmp rfl rfl rfl) rfl rfl rfl ?_)))
           all_goals (first | refine aops_p (ap_pick_true rfl zDec rfl) rfl rfl rfl ?_ | refine aops_p (ap_pick_false rfl zDec rfl) rfl rfl rfl ?_)
           all_goals (
             refine aops_nil ?_
             refine seqQ_n ?_
             refine awp_cond rfl (fun hc => ?_) (fun hc => ?_)
             · first
               | (exact absurd hc (by decide))
               | (refine awp_region ?_
                  refine aops_p (ap_move rfl) rfl rfl rfl ?_
                  refine aops_p (ap_move rfl) rfl rfl rfl ?_
                  refine aops_lit (e := 3) (sz := 1) (by_ := 8) rfl rfl zRc rfl rfl rfl rfl ?_
                  first | refine aops_append (e := 3) (sz := 1) (by_ := 8) rfl zUpd rfl rfl rfl rfl rfl (by simp only [List.length_cons, List.length_nil, List.length_append, List.length_map, avs_len]; omega) (fun v35 hv35 => ?_) | refine aops_append_nil (e := 3) (sz := 1) (by_ := 8) rfl rfl rfl rfl rfl rfl (by simp only [List.length_cons, List.length_nil, List.length_append, List.length_map, avs_len]; omega) (fun v35 hv35 => ?_)
                  refine aops_p (ap_assign rfl) rfl rfl rfl ?_
                  refine aops_nil ?_
                  refine blockQ_n ?_
                  refine seqQ_n ?_
                  refine awp_region ?_
                  refine aops_p (ap_move rfl) rfl rfl rfl ?_
                  refine aops_p (ap_arith rfl rfl rfl (by omega)) rfl rfl rfl ?_
                  refine aops_p (ap_assign rfl) rfl rfl rfl ?_
                  refine aops_nil ?_
                  refine seqQ_n ?_
                  first
                  | (rw [mapi_snoc]; refine ⟨x + 1, _, q2 ++ [(x : Int)], ⟨by omega, by simp only [List.length_append, List.length_cons, List.length_nil]; omega, by rw [subsIn_t (by with_reducible assumption) (by with_reducible assumption), hI2, List.append_assoc]⟩, by omega, wk zSub (by repeat (first | exact .nil | refine .cons (by first | exact .here | exact .there .here | exact .there (.there .here) | exact .there (.there (.there .here)) | exact .there (.there (.there (.there .here)))) ?_))⟩)
                  | refine ⟨x + 1, _, q2, ⟨by omega, by omega, by first | rw [subsIn_f1 (by with_reducible assumption), hI2] | rw [subsIn_f2 (by with_reducible assumption), hI2]⟩, by omega, wk zSub (by repeat (first | exact .nil | refine .cons (by first | exact .here | exact .there .here | exact .there (.there .here) | exact .there (.there (.there .here)) | exact .there (.there (.there (.there .here)))) ?_))⟩
                 )
             · first
               | (exact absurd hc (by decide))
               | (refine awp_skip ?_
                  refine blockQ_n ?_
                  refine seqQ_n ?_
                  refine awp_region ?_
                  refine aops_p (ap_move rfl) rfl rfl rfl ?_
                  refine aops_p (ap_arith rfl rfl rfl (by omega)) rfl rfl rfl ?_
                  refine aops_p (ap_assign rfl) rfl rfl rfl ?_
                  refine aops_nil ?_
                  refine seqQ_n ?_
                  first
                  | (rw [mapi_snoc]; refine ⟨x + 1, _, q2 ++ [(x : Int)], ⟨by omega, by simp only [List.length_append, List.length_cons, List.length_nil]; omega, by rw [subsIn_t (by with_reducible assumption) (by with_reducible assumption), hI2, List.append_assoc]⟩, by omega, wk zSub (by repeat (first | exact .nil | refine .cons (by first | exact .here | exact .there .here | exact .there (.there .here) | exact .there (.there (.there .here)) | exact .there (.there (.there (.there .here)))) ?_))⟩)
                  | refine ⟨x + 1, _, q2, ⟨by omega, by omega, by first | rw [subsIn_f1 (by with_reducible assumption), hI2] | rw [subsIn_f2 (by with_reducible assumption), hI2]⟩, by omega, wk zSub (by repeat (first | exact .nil | refine .cons (by first | exact .here | exact .there .here | exact .there (.there .here) | exact .there (.there (.there .here)) | exact .there (.there (.there (.there .here)))) ?_))⟩
                 )
             )
         · have hxe := of_decide_eq_false hc
           obtain rfl : x = s + 1 := by omega
           refine awp_exit ?_
           refine seqQ_x ?_
           refine seqQ_x ?_
           refine blockQ_x rfl ?_
           refine blockQ_n ?_
           refine seqQ_n ?_
           refine awp_region ?_
           refine aops_p (ap_move rfl) rfl rfl rfl ?_
           refine aops_p (ap_arith rfl rfl rfl (by omega)) rfl rfl rfl ?_
           refine aops_p (ap_assign rfl) rfl rfl rfl ?_
           refine aops_nil ?_
           refine seqQ_n ?_
           refine ⟨n + 1, _, q2, ⟨by omega, by omega, by rw [hI2]; rfl⟩, by omega, wk zSub (by repeat (first | exact .nil | refine .cons (by first | exact .here | exact .there .here | exact .there (.there .here) | exact .there (.there (.there .here)) | exact .there (.there (.there (.there .here)))) ?_))⟩
        )
    · first
      | (exact absurd hc (by decide))
      | (have hgt := of_decide_eq_false hg
         obtain ⟨n2, hn2⟩ : ∃ n2, n2 = popN s + 1 := ⟨_, rfl⟩
         obtain rfl : n = n2 := by omega
         refine awp_exit ?_
         refine seqQ_x ?_
         refine seqQ_x ?_
         refine blockQ_x rfl ?_
         refine seqQ_n ?_
         refine awp_seq ?_
         refine awp_freeze v [3] (by repeat (first | exact .here | apply Rem.there)) (by repeat (first | exact .nil | apply SelC.cons rfl (by first | exact Cv.fz | (apply Cv.agg; repeat (first | exact CvL.nil | apply CvL.cons (by first | exact Cv.fz | exact Cv.same))) | exact Cv.same))) (by repeat (first | exact .nil | apply HeapA.box (by repeat (first | exact CvL.nil | apply CvL.cons (by first | exact Cv.fz | exact Cv.same))) | apply HeapA.arr)) ?_
         refine awp_region ?_
         refine aops_p (ap_move rfl) rfl rfl rfl ?_
         refine aops_p (ap_assign rfl) rfl rfl rfl ?_
         refine aops_nil ?_
         refine seqQ_n ?_
         refine awp_ret ?_
         refine post_is (.tmp rfl .nil) (by repeat (first | exact .nil | refine .cons (by first | exact .here | exact .there .here | exact .there (.there .here) | exact .there (.there (.there .here)) | exact .there (.there (.there (.there .here)))) ?_)) ?_
         rw [hI, hn2]; rfl
        )
    )
theorem rmembers_con (c : List Mem) (hc : c.length ≤ 10) : Con Try.prog 139 [cv c] [] (Is (.i ((2 ^ c.length - 1 : Nat) : Int)) []) := by
  have hcap : capB = 140737488355328 := rfl
  have h10 := pow_le10 hc
  have hpos : 0 < 2 ^ c.length := Nat.pow_pos (by omega)
  have hml : (c.map mv).length = c.length := by simp
  refine con_intro Try.func139 rfl Try.call139 rfl ?_
  refine awp_seq ?_
  refine awp_region ?_
  refine aops_box rfl zFlat rfl rfl (fun b1 => ?_)
  refine aops_p (ap_assign rfl) rfl rfl rfl ?_
  refine aops_nil ?_
  refine seqQ_n ?_
  refine awp_seq ?_
  refine awp_region ?_
  first | refine aops_p (ap_fieldAddr (off := 0) (sz := 1) (g := false) rfl rfl) rfl rfl rfl ?_ | refine aops_p (ap_fieldAddr_el (off := 0) (sz := 1) (g := false) rfl rfl zRc) rfl rfl rfl ?_
  first | refine aops_q (aq_load1 rfl zUpd List.not_mem_nil rfl zRc) rfl rfl rfl ?_ | refine aops_q (aq_load_el1 rfl rfl zScal (fun _ h => absurd h List.not_mem_nil)) rfl rfl rfl ?_ | refine aops_q (aq_load_el1' rfl rfl zScal (fun _ h => absurd h List.not_mem_nil)) rfl rfl rfl ?_ | refine aops_q (aq_load_own1 rfl zUpd List.not_mem_nil rfl zAss zScal) rfl rfl rfl ?_
  first | refine aops_len rfl rfl rfl rfl (fun _ => ?_) | refine aops_p (ap_len_arr rfl zUpd rfl) rfl rfl rfl ?_ | refine aops_p (ap_len_nil rfl rfl) rfl rfl rfl ?_
  (rw [hml]; refine aops_p (ap_shl (p := 1) rfl rfl rfl (by omega) (by omega)) rfl rfl rfl ?_)
  (rw [Nat.one_mul]; refine aops_p (ap_arith rfl rfl rfl (by omega)) rfl rfl rfl ?_)
  refine aops_p (ap_assign rfl) rfl rfl rfl ?_
  refine aops_nil ?_
  refine seqQ_n ?_
  refine awp_ret ?_
  refine post_is (.tmp rfl .nil) (by repeat (first | exact .nil | refine .cons (by first | exact .here | exact .there .here | exact .there (.there .here) | exact .there (.there (.there .here)) | exact .there (.there (.there (.there .here)))) ?_)) ?_
  simp only [resD]; congr 2; omega
end Go.Proofs.Ytanlbfnlnfkcjaa
