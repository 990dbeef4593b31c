/- The walks of: ints_con, check_con, awake09_con, Config10_con, rNodes_con, rdecl_con, entries_con. Each says what one function of the program answers, for the arguments that its statement names. No condition beyond what each theorem says. -/
import Derived.Test.YteogidjgmeemlaaClosureAnswersW4
import Derived.Test.YteogidjgmeemlaaProg
import Derived.KernelRfl
import Derived.Tactics
import Derived.Tactics2
import Derived.StillTactics
set_option linter.unusedVariables false
set_option linter.unusedSimpArgs false
set_option linter.unnecessarySimpa false
set_option maxRecDepth 4000
namespace Go.Proofs.Yteogidjgmeemlaa
open Go Go.Av Go.Tq
theorem ints_con (x y : List Int) : Con Try.prog 42 [.sl 1 (x.map .i), .sl 1 (y.map .i)] [] (Is (.b (decide (x = y))) []) := by
  have hcap : capB = 140737488355328 := rfl
  have hx1 : (x.map D.i).length = x.length := by simp
  have hy1 : (y.map D.i).length = y.length := by simp
  refine con_intro Try.func42 rfl Try.call42 rfl ?_
  refine awp_seq ?_
  refine awp_region ?_
  refine aops_p (ap_assign rfl) rfl rfl rfl ?_
  refine aops_nil ?_
  refine seqQ_n ?_
  refine awp_seq ?_
  refine awp_seq ?_
  refine awp_region ?_
  refine aops_p (ap_move rfl) rfl rfl rfl ?_
  first | refine aops_len rfl rfl rfl rfl (fun _ => ?_) | refine aops_p (ap_len_arr rfl (by repeat (first | exact .here | apply UpdF.there)) rfl) rfl rfl rfl ?_ | refine aops_p (ap_len_nil rfl rfl) rfl rfl rfl ?_
  refine aops_p (ap_move rfl) rfl rfl rfl ?_
  first | refine aops_len rfl rfl rfl rfl (fun _ => ?_) | refine aops_p (ap_len_arr rfl (by repeat (first | exact .here | apply UpdF.there)) rfl) rfl rfl rfl ?_ | refine aops_p (ap_len_nil rfl rfl) rfl rfl rfl ?_
  refine aops_p (ap_cmp rfl rfl rfl) rfl rfl rfl ?_
  refine aops_nil ?_
  refine seqQ_n ?_
  refine awp_cond rfl (fun hc => ?_) (fun hc => ?_)
  · have hne := of_neq_true hc
    refine awp_seq ?_
    refine awp_region ?_
    refine aops_p (ap_assign rfl) rfl rfl rfl ?_
    refine aops_nil ?_
    refine seqQ_n ?_
    refine awp_ret ?_
    refine seqQ_r ?_
    refine post_is (.tmp rfl .nil) (by repeat (first | exact .nil | refine .cons (by first | exact .here | exact .there .here | exact .there (.there .here) | exact .there (.there (.there .here)) | exact .there (.there (.there (.there .here)))) ?_)) ?_
    rw [decide_eq_false (fun e => hne (by rw [e]))]; rfl
  · have hlen := of_neq_false hc
    have hll : x.length = y.length := by omega
    refine awp_skip ?_
    refine seqQ_n ?_
    refine awp_seq ?_
    refine awp_seq ?_
    refine awp_region ?_
    refine aops_p (ap_move rfl) rfl rfl rfl ?_
    first | refine aops_len rfl rfl rfl rfl (fun _ => ?_) | refine aops_p (ap_len_arr rfl (by repeat (first | exact .here | apply UpdF.there)) rfl) rfl rfl rfl ?_ | refine aops_p (ap_len_nil rfl rfl) rfl rfl rfl ?_
    refine aops_p (ap_move rfl) rfl rfl rfl ?_
    refine aops_nil ?_
    refine seqQ_n ?_
    refine awp_block ?_
    refine awp_loop1 [0, 1, 12] [] (fun (k : Nat) r => (13, .i (k : Int)) :: r) (fun (k : Nat) r => r) (fun (k : Nat) => k ≤ x.length ∧ x.take k = y.take k) (fun (k : Nat) => x.length - k) (0) (by repeat constructor) ⟨by omega, by simp⟩ (wk (by repeat (first | exact .nil | refine .cons rfl ?_)) (by repeat (first | exact .nil | refine .cons (by first | exact .here | exact .there .here | exact .there (.there .here) | exact .there (.there (.there .here)) | exact .there (.there (.there (.there .here)))) ?_))) ?_
    intro k ⟨hk, hI⟩
    refine awp_seq ?_
    refine awp_region ?_
    refine aops_p (ap_cmp rfl rfl rfl) rfl rfl rfl ?_
    refine aops_nil ?_
    refine seqQ_n ?_
    refine awp_seq ?_
    refine awp_cond rfl (fun hc => ?_) (fun hc => ?_)
    · have hlt := of_decide_eq_true hc
      obtain ⟨u, hu, _⟩ := drop_cons (l := x) (k := k) (by omega)
      obtain ⟨v, hv, _⟩ := drop_cons (l := y) (k := k) (by omega)
      have hu' := getMap D.i hu
      have hv' := getMap D.i hv
      refine awp_skip ?_
      refine seqQ_n ?_
      refine awp_seq ?_
      refine awp_block ?_
      refine awp_seq ?_
      refine awp_region ?_
      refine aops_p (ap_move rfl) rfl rfl rfl ?_
      refine aops_p (ap_assign rfl) rfl rfl rfl ?_
      refine aops_nil ?_
      refine seqQ_n ?_
      refine awp_seq ?_
      refine awp_draw (Hm := []) (by kernel_rfl) (by repeat (first | exact .nil | exact Split.none _ | apply Split.left | apply Split.right)) ?_
      refine aany_take 0 rfl (.none rfl) (by kernel_rfl) (by kernel_rfl) (by kernel_rfl) (AP.ar (ap_move rfl)) rfl rfl ?_
      refine aany_take 1 rfl (.none rfl) (by kernel_rfl) (by kernel_rfl) (by kernel_rfl) (AP.ar (ap_move rfl)) rfl rfl ?_
      first | refine aany_take 2 rfl (.none rfl) (by kernel_rfl) (by kernel_rfl) (by kernel_rfl) (AP.ar (ap_index rfl rfl rfl rfl (by decide) rfl (by first | with_reducible assumption | assumption | rfl))) rfl rfl ?_ | refine aany_take 2 rfl (.none rfl) (by kernel_rfl) (by kernel_rfl) (by kernel_rfl) (AP.ar (ap_index rfl rfl rfl rfl (by decide) (by omega) (by first | with_reducible assumption | assumption | rfl))) rfl rfl ?_ | refine aany_take 2 rfl (.none rfl) (by kernel_rfl) (by kernel_rfl) (by kernel_rfl) (AP.ar (ap_index_own rfl rfl rfl rfl rfl (by first | omega | (simp only [List.length_map, List.length_set, avs_len]; omega)))) rfl rfl ?_
      first | refine aany_take 3 rfl (.none rfl) (by kernel_rfl) (by kernel_rfl) (by kernel_rfl) (ar_load1 rfl (by repeat (first | exact .here | apply UpdF.there)) rfl (by repeat constructor)) rfl rfl ?_ | refine aany_take 3 rfl (.none rfl) (by kernel_rfl) (by kernel_rfl) (by kernel_rfl) (AQ.ar (aq_load_el1 rfl rfl (by first | exact .sl | exact .v rfl | exact .v (by assumption)) (fun _ h => h))) rfl rfl ?_ | refine aany_take 3 rfl (.none rfl) (by kernel_rfl) (by kernel_rfl) (by kernel_rfl) (AQ.ar (aq_load_el1' rfl rfl (by first | exact .sl | exact .v rfl | exact .v (by assumption)) (fun _ h => h))) rfl rfl ?_ | refine aany_take 3 rfl (.none rfl) (by kernel_rfl) (by kernel_rfl) (by kernel_rfl) (ar_load_own1 rfl (by repeat (first | exact .here | apply UpdF.there)) rfl (by first | with_reducible assumption | assumption | rfl) (by first | exact .sl | exact .v rfl | exact .v (by assumption))) rfl rfl ?_
      refine aany_take 4 rfl (.none rfl) (by kernel_rfl) (by kernel_rfl) (by kernel_rfl) (AP.ar (ap_move rfl)) rfl rfl ?_
      refine aany_take 5 rfl (.none rfl) (by kernel_rfl) (by kernel_rfl) (by kernel_rfl) (AP.ar (ap_move rfl)) rfl rfl ?_
      first | refine aany_take 6 rfl (.none rfl) (by kernel_rfl) (by kernel_rfl) (by kernel_rfl) (AP.ar (ap_index rfl rfl rfl rfl (by decide) rfl (by first | with_reducible assumption | assumption | rfl))) rfl rfl ?_ | refine aany_take 6 rfl (.none rfl) (by kernel_rfl) (by kernel_rfl) (by kernel_rfl) (AP.ar (ap_index rfl rfl rfl rfl (by decide) (by omega) (by first | with_reducible assumption | assumption | rfl))) rfl rfl ?_ | refine aany_take 6 rfl (.none rfl) (by kernel_rfl) (by kernel_rfl) (by kernel_rfl) (AP.ar (ap_index_own rfl rfl rfl rfl rfl (by first | omega | (simp only [List.length_map, List.length_set, avs_len]; omega)))) rfl rfl ?_
      first | refine aany_take 7 rfl (.none rfl) (by kernel_rfl) (by kernel_rfl) (by kernel_rfl) (ar_load1 rfl (by repeat (first | exact .here | apply UpdF.there)) rfl (by repeat constructor)) rfl rfl ?_ | refine aany_take 7 rfl (.none rfl) (by kernel_rfl) (by kernel_rfl) (by kernel_rfl) (AQ.ar (aq_load_el1 rfl rfl (by first | exact .sl | exact .v rfl | exact .v (by assumption)) (fun _ h => h))) rfl rfl ?_ | refine aany_take 7 rfl (.none rfl) (by kernel_rfl) (by kernel_rfl) (by kernel_rfl) (AQ.ar (aq_load_el1' rfl rfl (by first | exact .sl | exact .v rfl | exact .v (by assumption)) (fun _ h => h))) rfl rfl ?_ | refine aany_take 7 rfl (.none rfl) (by kernel_rfl) (by kernel_rfl) (by kernel_rfl) (ar_load_own1 rfl (by repeat (first | exact .here | apply UpdF.there)) rfl (by first | with_reducible assumption | assumption | rfl) (by first | exact .sl | exact .v rfl | exact .v (by assumption))) rfl rfl ?_
      refine aany_take 8 rfl (.none rfl) (by kernel_rfl) (by kernel_rfl) (by kernel_rfl) (AP.ar (ap_cmp rfl rfl rfl)) rfl rfl ?_
      refine aany_nil (by kernel_rfl) ?_
      all_goals (
        refine seqQ_n ?_
        refine awp_cond rfl (fun hc => ?_) (fun hc => ?_)
        · have hne := of_neq_true hc
          refine awp_seq ?_
          refine awp_region ?_
          refine aops_p (ap_assign rfl) rfl rfl rfl ?_
          refine aops_nil ?_
          refine seqQ_n ?_
          refine awp_ret ?_
          refine blockQ_r ?_
          refine seqQ_r ?_
          refine seqQ_r ?_
          refine blockQ_r ?_
          refine seqQ_r ?_
          refine post_is (.tmp rfl .nil) (by repeat (first | exact .nil | refine .cons (by first | exact .here | exact .there .here | exact .there (.there .here) | exact .there (.there (.there .here)) | exact .there (.there (.there (.there .here)))) ?_)) ?_
          rw [decide_eq_false (fun e => hne (by rw [e, hv] at hu; injection hu with hu; exact hu.symm))]; rfl
        · refine awp_skip ?_
          refine blockQ_n ?_
          refine seqQ_n ?_
          refine awp_region ?_
          refine aops_p (ap_arith rfl rfl rfl (by omega)) rfl rfl rfl ?_
          refine aops_p (ap_move rfl) rfl rfl rfl ?_
          refine aops_nil ?_
          refine seqQ_n ?_
          have e := of_neq_false hc
          refine ⟨k + 1, ⟨by omega, by rw [List.take_add_one, List.take_add_one, hI, hu, hv, e]⟩, by omega, wk (by repeat (first | exact .nil | refine .cons rfl ?_)) (by repeat (first | exact .nil | refine .cons (by first | exact .here | exact .there .here | exact .there (.there .here) | exact .there (.there (.there .here)) | exact .there (.there (.there (.there .here)))) ?_))⟩
        )
    · have hge := of_decide_eq_false hc
      refine awp_exit ?_
      refine seqQ_x ?_
      refine seqQ_x ?_
      refine blockQ_x rfl ?_
      refine seqQ_n ?_
      refine awp_seq ?_
      refine awp_region ?_
      refine aops_p (ap_assign rfl) rfl rfl rfl ?_
      refine aops_nil ?_
      refine seqQ_n ?_
      refine awp_ret ?_
      refine post_is (.tmp rfl .nil) (by repeat (first | exact .nil | refine .cons (by first | exact .here | exact .there .here | exact .there (.there .here) | exact .there (.there (.there .here)) | exact .there (.there (.there (.there .here)))) ?_)) ?_
      rw [List.take_of_length_le (by omega), List.take_of_length_le (by omega)] at hI; rw [decide_eq_true hI]; rfl
theorem check_con (c : List Mem) (s0 : Nat) (hs0 : s0 < 1024) (l : List Int) : Con Try.prog 45 [cv c, .i s0, .sl 1 (l.map .i)] [] (Is (.tup [.i (checkGo c (s0 &&& declC c) l).1, .i (checkGo c (s0 &&& declC c) l).2]) []) := by
  have hcap : capB = 140737488355328 := rfl
  have hdl := declC_lt c
  have hl1 : (l.map D.i).length = l.length := by simp
  refine con_intro Try.func45 rfl Try.call45 rfl ?_
  refine awp_seq ?_
  refine awp_region ?_
  refine aops_box rfl (by first | exact .agg | exact .sl | exact .v rfl | exact .v (by assumption)) rfl rfl (fun b3 => ?_)
  refine aops_p (ap_assign rfl) rfl rfl rfl ?_
  refine aops_p (ap_assign rfl) rfl rfl rfl ?_
  refine aops_nil ?_
  refine seqQ_n ?_
  refine awp_seq ?_
  refine awp_seq ?_
  refine awp_region ?_
  refine aops_p (ap_move rfl) rfl rfl rfl ?_
  refine aops_call_v (by repeat constructor) (validn hs0) rfl rfl ?_
  refine aops_p (ap_not rfl) rfl rfl rfl ?_
  refine aops_nil ?_
  refine seqQ_n ?_
  refine awp_cond_f rfl (by first | with_reducible assumption | with_reducible exact rfl | decide | (refine decide_eq_true ?_; omega) | (refine decide_eq_false ?_; omega)) ?_
  refine awp_skip ?_
  refine seqQ_n ?_
  refine awp_seq ?_
  refine awp_region ?_
  refine aops_p (ap_move rfl) rfl rfl rfl ?_
  first | refine aops_q (aq_load rfl (by repeat (first | exact .here | apply UpdF.there)) List.not_mem_nil rfl rfl (by repeat constructor)) rfl rfl rfl ?_ | refine aops_q (aq_load_el rfl rfl rfl rfl (fun _ h => absurd h List.not_mem_nil)) rfl rfl rfl ?_
  refine aops_call_v (by repeat constructor) (decl_con c) rfl rfl ?_
  refine aops_p (ap_bits rfl rfl rfl (by omega) (by omega)) rfl rfl rfl ?_
  refine aops_p (ap_assign rfl) rfl rfl rfl ?_
  refine aops_nil ?_
  refine seqQ_n ?_
  refine awp_seq ?_
  refine awp_seq ?_
  refine awp_region ?_
  refine aops_p (ap_move rfl) rfl rfl rfl ?_
  first | refine aops_len rfl rfl rfl rfl (fun _ => ?_) | refine aops_p (ap_len_arr rfl (by repeat (first | exact .here | apply UpdF.there)) rfl) rfl rfl rfl ?_ | refine aops_p (ap_len_nil rfl rfl) rfl rfl rfl ?_
  refine aops_p (ap_move rfl) rfl rfl rfl ?_
  refine aops_nil ?_
  refine seqQ_n ?_
  refine awp_block ?_
  refine awp_loop2 [3, 17, 18] [.box b3 _ _] (fun (k : Nat) (s : Nat) r => (1, .i (s : Int)) :: (19, .i (k : Int)) :: r) (fun (k : Nat) (s : Nat) r => r) (fun (k : Nat) (s : Nat) => k ≤ l.length ∧ s < 1024 ∧ In c s ∧ checkGo c s (l.drop k) = checkGo c (s0 &&& declC c) l) (fun (k : Nat) (s : Nat) => l.length - k) (0) (s0 &&& declC c) (by repeat constructor) ⟨by omega, and_lt hdl, In.and c s0, by simp⟩ (wk (by repeat (first | exact .nil | refine .cons rfl ?_)) (by repeat (first | exact .nil | refine .cons (by first | exact .here | exact .there .here | exact .there (.there .here) | exact .there (.there (.there .here)) | exact .there (.there (.there (.there .here)))) ?_))) ?_
  intro k s ⟨hk, hs, hin, hI⟩
  refine awp_seq ?_
  refine awp_region ?_
  refine aops_p (ap_cmp rfl rfl rfl) rfl rfl rfl ?_
  refine aops_nil ?_
  refine seqQ_n ?_
  refine awp_seq ?_
  refine awp_cond rfl (fun hc => ?_) (fun hc => ?_)
  · have hlt := of_decide_eq_true hc
    obtain ⟨x, hx, hd⟩ := drop_cons (l := l) (k := k) (by omega)
    have hx' := getMap D.i hx
    rw [hd] at hI
    refine awp_skip ?_
    refine seqQ_n ?_
    refine awp_seq ?_
    refine awp_block ?_
    refine awp_seq ?_
    refine awp_region ?_
    first | refine aops_p (ap_index rfl rfl rfl rfl (by decide) rfl (by first | with_reducible assumption | assumption | rfl)) rfl rfl rfl ?_ | refine aops_p (ap_index rfl rfl rfl rfl (by decide) (by omega) (by first | with_reducible assumption | assumption | rfl)) rfl rfl rfl ?_ | refine aops_p (ap_index_own rfl rfl rfl rfl rfl (by first | omega | (simp only [List.length_map, List.length_set, avs_len]; omega))) rfl rfl rfl ?_
    first | refine aops_q (aq_load1 rfl (by repeat (first | exact .here | apply UpdF.there)) List.not_mem_nil rfl (by repeat constructor)) rfl rfl rfl ?_ | refine aops_q (aq_load_el1 rfl rfl (by first | exact .sl | exact .v rfl | exact .v (by assumption)) (fun _ h => absurd h List.not_mem_nil)) rfl rfl rfl ?_ | refine aops_q (aq_load_el1' rfl rfl (by first | exact .sl | exact .v rfl | exact .v (by assumption)) (fun _ h => absurd h List.not_mem_nil)) rfl rfl rfl ?_ | refine aops_q (aq_load_own1 rfl (by repeat (first | exact .here | apply UpdF.there)) List.not_mem_nil rfl (by first | with_reducible assumption | assumption | rfl) (by first | exact .sl | exact .v rfl | exact .v (by assumption))) rfl rfl rfl ?_
    refine aops_p (ap_assign rfl) rfl rfl rfl ?_
    refine aops_nil ?_
    refine seqQ_n ?_
    refine awp_seq ?_
    refine awp_seq ?_
    refine awp_region ?_
    refine aops_p (ap_move rfl) rfl rfl rfl ?_
    refine aops_p (ap_move rfl) rfl rfl rfl ?_
    refine aops_call_b (by repeat constructor) (has_con _ _) rfl rfl (fun c25 hc25 => ?_)
    refine aops_p (ap_not rfl) rfl rfl rfl ?_
    refine aops_p (ap_move rfl) rfl rfl rfl ?_
    all_goals (first | (refine aops_yes rfl rfl rfl rfl (by first | with_reducible assumption | with_reducible exact rfl | decide | (refine decide_eq_true ?_; omega) | (refine decide_eq_false ?_; omega)) ?_; (first | refine aops_q (aq_load rfl (by repeat (first | exact .here | apply UpdF.there)) List.not_mem_nil rfl rfl (by repeat constructor)) rfl rfl rfl ?_ | refine aops_q (aq_load_el rfl rfl rfl rfl (fun _ h => absurd h List.not_mem_nil)) rfl rfl rfl ?_)) | refine aops_no_u rfl rfl rfl ?_ | refine aops_no_f rfl rfl rfl rfl (by first | with_reducible assumption | with_reducible exact rfl | decide | (refine decide_eq_true ?_; omega) | (refine decide_eq_false ?_; omega)) ?_ | (refine aops_guard_f rfl rfl rfl rfl (fun hg => ?_) (fun hg => ?_); case' _ => (first | refine aops_q (aq_load rfl (by repeat (first | exact .here | apply UpdF.there)) List.not_mem_nil rfl rfl (by repeat constructor)) rfl rfl rfl ?_ | refine aops_q (aq_load_el rfl rfl rfl rfl (fun _ h => absurd h List.not_mem_nil)) rfl rfl rfl ?_)))
    all_goals (first | (refine aops_yes rfl rfl rfl rfl (by first | with_reducible assumption | with_reducible exact rfl | decide | (refine decide_eq_true ?_; omega) | (refine decide_eq_false ?_; omega)) ?_; (refine aops_p (ap_move rfl) rfl rfl rfl ?_)) | refine aops_no_u rfl rfl rfl ?_ | refine aops_no_f rfl rfl rfl rfl (by first | with_reducible assumption | with_reducible exact rfl | decide | (refine decide_eq_true ?_; omega) | (refine decide_eq_false ?_; omega)) ?_ | (refine aops_guard_f rfl rfl rfl rfl (fun hg => ?_) (fun hg => ?_); case' _ => (refine aops_p (ap_move rfl) rfl rfl rfl ?_)))
    all_goals (first | (refine aops_yes rfl rfl rfl rfl (by first | with_reducible assumption | with_reducible exact rfl | decide | (refine decide_eq_true ?_; omega) | (refine decide_eq_false ?_; omega)) ?_; (refine aops_p (ap_move rfl) rfl rfl rfl ?_)) | refine aops_no_u rfl rfl rfl ?_ | refine aops_no_f rfl rfl rfl rfl (by first | with_reducible assumption | with_reducible exact rfl | decide | (refine decide_eq_true ?_; omega) | (refine decide_eq_false ?_; omega)) ?_ | (refine aops_guard_f rfl rfl rfl rfl (fun hg => ?_) (fun hg => ?_); case' _ => (refine aops_p (ap_move rfl) rfl rfl rfl ?_)))
    all_goals (first | (refine aops_yes rfl rfl rfl rfl (by first | with_reducible assumption | with_reducible exact rfl | decide | (refine decide_eq_true ?_; omega) | (refine decide_eq_false ?_; omega)) ?_; ((obtain ⟨j, m, rfl, hj, hm, _⟩ := hin.get hs (hc25.trans (not_f (by with_reducible assumption))); refine aops_call_b (by repeat constructor) (content_con c j m hm _) rfl rfl (fun c31 hc31 => ?_)))) | refine aops_no_u rfl rfl rfl ?_ | refine aops_no_f rfl rfl rfl rfl (by first | with_reducible assumption | with_reducible exact rfl | decide | (refine decide_eq_true ?_; omega) | (refine decide_eq_false ?_; omega)) ?_ | (refine aops_guard_f rfl rfl rfl rfl (fun hg => ?_) (fun hg => ?_); case' _ => ((obtain ⟨j, m, rfl, hj, hm, _⟩ := hin.get hs (hc25.trans (not_f (by with_reducible assumption))); refine aops_call_b (by repeat constructor) (content_con c j m hm _) rfl rfl (fun c31 hc31 => ?_)))))
    all_goals (first | refine aops_p (ap_pick_true rfl (by first | with_reducible assumption | with_reducible exact rfl | decide | (refine decide_eq_true ?_; omega) | (refine decide_eq_false ?_; omega)) rfl) rfl rfl rfl ?_ | refine aops_p (ap_pick_false rfl (by first | with_reducible assumption | with_reducible exact rfl | decide | (refine decide_eq_true ?_; omega) | (refine decide_eq_false ?_; omega)) rfl) rfl rfl rfl ?_)
    all_goals (
      refine aops_nil ?_
      refine seqQ_n ?_
      refine awp_cond rfl (fun hc => ?_) (fun hc => ?_)
      · first
        | (exact absurd hc (by decide))
        | (refine awp_seq ?_
           refine awp_region ?_
           refine aops_p (ap_assign rfl) rfl rfl rfl ?_
           refine aops_p (ap_assign rfl) rfl rfl rfl ?_
           refine aops_nil ?_
           refine seqQ_n ?_
           refine awp_ret ?_
           refine seqQ_r ?_
           refine blockQ_r ?_
           refine seqQ_r ?_
           refine seqQ_r ?_
           refine blockQ_r ?_
           refine seqQ_r ?_
           refine post_is (.tmp rfl (.tmp rfl .nil)) (by repeat (first | exact .nil | refine .cons (by first | exact .here | exact .there .here | exact .there (.there .here) | exact .there (.there (.there .here)) | exact .there (.there (.there (.there .here)))) ?_)) ?_
           first | (rw [← hI, check_bad (fun h => by rw [tOf_get hm, hc31, hc] at h; exact Bool.noConfusion h.2)]; rfl) | (rw [← hI, check_bad (fun h => by rw [hc25.trans (not_t (by with_reducible assumption))] at h; exact Bool.noConfusion h.1)]; rfl)
          )
      · first
        | (exact absurd hc (by decide))
        | (have hp := pow_lt10 hj
           refine awp_skip ?_
           refine seqQ_n ?_
           refine awp_region ?_
           refine aops_p (ap_move rfl) rfl rfl rfl ?_
           refine aops_p (ap_move rfl) rfl rfl rfl ?_
           refine aops_p (ap_shl (p := 1) rfl rfl rfl (by omega) (by omega)) rfl rfl rfl ?_
           refine aops_p (ap_bits rfl rfl rfl (by omega) (by omega)) rfl rfl rfl ?_
           refine aops_p (ap_assign rfl) rfl rfl rfl ?_
           refine aops_nil ?_
           refine blockQ_n ?_
           refine seqQ_n ?_
           refine awp_region ?_
           refine aops_p (ap_arith rfl rfl rfl (by omega)) rfl rfl rfl ?_
           refine aops_p (ap_move rfl) rfl rfl rfl ?_
           refine aops_nil ?_
           refine seqQ_n ?_
           rw [check_step ⟨hc25.trans (not_f (by with_reducible assumption)), by rw [tOf_get hm]; exact hc31.trans hc⟩, Int.toNat_natCast] at hI
           refine ⟨k + 1, clr s j, ⟨by omega, Nat.lt_of_le_of_lt (clr_le s j) hs, hin.clr, hI⟩, by omega, ?_⟩
           unfold clr; rw [Nat.one_mul]
           exact (wk (by repeat (first | exact .nil | refine .cons rfl ?_)) (by repeat (first | exact .nil | refine .cons (by first | exact .here | exact .there .here | exact .there (.there .here) | exact .there (.there (.there .here)) | exact .there (.there (.there (.there .here)))) ?_)))
          )
      )
  · have hge := of_decide_eq_false hc
    rw [drop_nil (by omega)] at hI
    refine awp_exit ?_
    refine seqQ_x ?_
    refine seqQ_x ?_
    refine blockQ_x rfl ?_
    refine seqQ_n ?_
    refine awp_seq ?_
    refine awp_seq ?_
    refine awp_region ?_
    refine aops_p (ap_move rfl) rfl rfl rfl ?_
    refine aops_p (ap_cmp rfl rfl rfl) rfl rfl rfl ?_
    refine aops_p (ap_move rfl) rfl rfl rfl ?_
    all_goals (first | (refine aops_yes rfl rfl rfl rfl (by first | with_reducible assumption | with_reducible exact rfl | decide | (refine decide_eq_true ?_; omega) | (refine decide_eq_false ?_; omega)) ?_; (first | refine aops_q (aq_load rfl (by repeat (first | exact .here | apply UpdF.there)) List.not_mem_nil rfl rfl (by repeat constructor)) rfl rfl rfl ?_ | refine aops_q (aq_load_el rfl rfl rfl rfl (fun _ h => absurd h List.not_mem_nil)) rfl rfl rfl ?_)) | refine aops_no_u rfl rfl rfl ?_ | refine aops_no_t rfl rfl rfl rfl (by first | with_reducible assumption | with_reducible exact rfl | decide | (refine decide_eq_true ?_; omega) | (refine decide_eq_false ?_; omega)) ?_ | (refine aops_guard_t rfl rfl rfl rfl (fun hg => ?_) (fun hg => ?_); case' _ => (first | refine aops_q (aq_load rfl (by repeat (first | exact .here | apply UpdF.there)) List.not_mem_nil rfl rfl (by repeat constructor)) rfl rfl rfl ?_ | refine aops_q (aq_load_el rfl rfl rfl rfl (fun _ h => absurd h List.not_mem_nil)) rfl rfl rfl ?_)))
    all_goals (first | (refine aops_yes rfl rfl rfl rfl (by first | with_reducible assumption | with_reducible exact rfl | decide | (refine decide_eq_true ?_; omega) | (refine decide_eq_false ?_; omega)) ?_; (refine aops_p (ap_move rfl) rfl rfl rfl ?_)) | refine aops_no_u rfl rfl rfl ?_ | refine aops_no_t rfl rfl rfl rfl (by first | with_reducible assumption | with_reducible exact rfl | decide | (refine decide_eq_true ?_; omega) | (refine decide_eq_false ?_; omega)) ?_ | (refine aops_guard_t rfl rfl rfl rfl (fun hg => ?_) (fun hg => ?_); case' _ => (refine aops_p (ap_move rfl) rfl rfl rfl ?_)))
    all_goals (first | (refine aops_yes rfl rfl rfl rfl (by first | with_reducible assumption | with_reducible exact rfl | decide | (refine decide_eq_true ?_; omega) | (refine decide_eq_false ?_; omega)) ?_; (refine aops_call_b (by repeat constructor) (quorum_con c s hs) rfl rfl (fun c43 hc43 => ?_))) | refine aops_no_u rfl rfl rfl ?_ | refine aops_no_t rfl rfl rfl rfl (by first | with_reducible assumption | with_reducible exact rfl | decide | (refine decide_eq_true ?_; omega) | (refine decide_eq_false ?_; omega)) ?_ | (refine aops_guard_t rfl rfl rfl rfl (fun hg => ?_) (fun hg => ?_); case' _ => (refine aops_call_b (by repeat constructor) (quorum_con c s hs) rfl rfl (fun c43 hc43 => ?_))))
    all_goals (first | (refine aops_yes rfl rfl rfl rfl (by first | with_reducible assumption | with_reducible exact rfl | decide | (refine decide_eq_true ?_; omega) | (refine decide_eq_false ?_; omega)) ?_; (refine aops_p (ap_not rfl) rfl rfl rfl ?_)) | refine aops_no_u rfl rfl rfl ?_ | refine aops_no_t rfl rfl rfl rfl (by first | with_reducible assumption | with_reducible exact rfl | decide | (refine decide_eq_true ?_; omega) | (refine decide_eq_false ?_; omega)) ?_ | (refine aops_guard_t rfl rfl rfl rfl (fun hg => ?_) (fun hg => ?_); case' _ => (refine aops_p (ap_not rfl) rfl rfl rfl ?_)))
    all_goals (first | refine aops_p (ap_pick_true rfl (by first | with_reducible assumption | with_reducible exact rfl | decide | (refine decide_eq_true ?_; omega) | (refine decide_eq_false ?_; omega)) rfl) rfl rfl rfl ?_ | refine aops_p (ap_pick_false rfl (by first | with_reducible assumption | with_reducible exact rfl | decide | (refine decide_eq_true ?_; omega) | (refine decide_eq_false ?_; omega)) rfl) rfl rfl rfl ?_)
    all_goals (
      refine aops_nil ?_
      refine seqQ_n ?_
      refine awp_cond rfl (fun hc => ?_) (fun hc => ?_)
      · first
        | (exact absurd hc (by decide))
        | (refine awp_seq ?_
           refine awp_region ?_
           refine aops_p (ap_assign rfl) rfl rfl rfl ?_
           refine aops_p (ap_assign rfl) rfl rfl rfl ?_
           refine aops_nil ?_
           refine seqQ_n ?_
           refine awp_ret ?_
           refine seqQ_r ?_
           refine post_is (.tmp rfl (.tmp rfl .nil)) (by repeat (first | exact .nil | refine .cons (by first | exact .here | exact .there .here | exact .there (.there .here) | exact .there (.there (.there .here)) | exact .there (.there (.there (.there .here)))) ?_)) ?_
           rw [← hI, check_end1 (not_t (by with_reducible assumption)) (hc43.trans (not_t hc))]; rfl
          )
      · first
        | (exact absurd hc (by decide))
        | (refine awp_skip ?_
           refine seqQ_n ?_
           refine awp_seq ?_
           refine awp_region ?_
           refine aops_p (ap_move rfl) rfl rfl rfl ?_
           refine aops_p (ap_assign rfl) rfl rfl rfl ?_
           refine aops_p (ap_assign rfl) rfl rfl rfl ?_
           refine aops_nil ?_
           refine seqQ_n ?_
           refine awp_ret ?_
           refine post_is (.tmp rfl (.tmp rfl .nil)) (by repeat (first | exact .nil | refine .cons (by first | exact .here | exact .there .here | exact .there (.there .here) | exact .there (.there (.there .here)) | exact .there (.there (.there (.there .here)))) ?_)) ?_
           first | (rw [← hI, check_end3 (hc43.trans (not_f hc))]; rfl) | (rw [← hI, check_end2 (not_f (by with_reducible assumption))]; rfl)
          )
      )
theorem p0 : Con Try.prog 38 [cv c3, .i 3] [] (Is (.b true) []) := by
  have h := quorum_con c3 3 (by omega)
  rwa [show quorumC c3 3 = true from by kernel_rfl] at h
theorem p1 : Con Try.prog 40 [cv c3, .i 7] [] (Is (.i 7) []) := by
  have h := great_con c3 7
  rwa [show (great c3 7 : Int) = 7 from by kernel_rfl] at h
theorem p2 : Con Try.prog 40 [cv c3, .i 1] [] (Is (.i 0) []) := by
  have h := great_con c3 1
  rwa [show (great c3 1 : Int) = 0 from by kernel_rfl] at h
theorem p3 : Con Try.prog 45 [cv c3, .i 1, .sl 1 [.i 0]] [] (Is (.tup [.i 0, .i 0]) []) := by
  have h := check_con c3 1 (by omega) [0]
  rwa [show checkGo c3 (1 &&& declC c3) [0] = (0, 0) from by kernel_rfl] at h
theorem p4 : Con Try.prog 43 [cv c3, .i 1] [] (Is (.sl 1 [.i 0]) []) := by
  have h := elimination_con c3 1
  rwa [show gOrder c3 1 = [0] from by kernel_rfl] at h
theorem p5 : Con Try.prog 42 [.sl 1 [.i 0], .sl 1 [.i 0]] [] (Is (.b true) []) := by
  have h := ints_con [0] [0]
  rwa [show decide (([0] : List Int) = [0]) = true from by kernel_rfl] at h
theorem awake09_con : Con Try.prog 35 [] [] (Is (.b true) []) := by
  have hcap : capB = 140737488355328 := rfl
  refine con_intro Try.func35 rfl Try.call35 rfl ?_
  refine awp_seq ?_
  refine awp_region ?_
  refine aops_p (ap_assign rfl) rfl rfl rfl ?_
  refine aops_nil ?_
  refine seqQ_n ?_
  refine awp_seq ?_
  refine awp_region ?_
  refine aops_call_v (by repeat constructor) (three_con) rfl rfl ?_
  refine aops_lit (e := 3) (sz := 1) (by_ := 8) rfl rfl (by repeat constructor) rfl rfl rfl rfl ?_
  refine aops_call_v (by repeat constructor) (p3) rfl rfl ?_
  refine aops_p (ap_move rfl) rfl rfl rfl ?_
  refine aops_p (ap_extract rfl rfl) rfl rfl rfl ?_
  refine aops_p (ap_extract rfl rfl) rfl rfl rfl ?_
  refine aops_p (ap_assign rfl) rfl rfl rfl ?_
  refine aops_p (ap_assign rfl) rfl rfl rfl ?_
  refine aops_nil ?_
  refine seqQ_n ?_
  refine awp_seq ?_
  refine awp_region ?_
  refine aops_call_v (by repeat constructor) (three_con) rfl rfl ?_
  refine aops_call_v (by repeat constructor) (p0) rfl rfl ?_
  refine aops_p (ap_move rfl) rfl rfl rfl ?_
  all_goals (first | (refine aops_yes rfl rfl rfl rfl (by first | with_reducible assumption | with_reducible exact rfl | decide | (refine decide_eq_true ?_; omega) | (refine decide_eq_false ?_; omega)) ?_; (refine aops_call_v (by repeat constructor) (three_con) rfl rfl ?_)) | refine aops_no_u rfl rfl rfl ?_ | refine aops_no_t rfl rfl rfl rfl (by first | with_reducible assumption | with_reducible exact rfl | decide | (refine decide_eq_true ?_; omega) | (refine decide_eq_false ?_; omega)) ?_ | (refine aops_guard_t rfl rfl rfl rfl (fun hg => ?_) (fun hg => ?_); case' _ => (refine aops_call_v (by repeat constructor) (three_con) rfl rfl ?_)))
  all_goals (first | (refine aops_yes rfl rfl rfl rfl (by first | with_reducible assumption | with_reducible exact rfl | decide | (refine decide_eq_true ?_; omega) | (refine decide_eq_false ?_; omega)) ?_; (refine aops_call_v (by repeat constructor) (p1) rfl rfl ?_)) | refine aops_no_u rfl rfl rfl ?_ | refine aops_no_t rfl rfl rfl rfl (by first | with_reducible assumption | with_reducible exact rfl | decide | (refine decide_eq_true ?_; omega) | (refine decide_eq_false ?_; omega)) ?_ | (refine aops_guard_t rfl rfl rfl rfl (fun hg => ?_) (fun hg => ?_); case' _ => (refine aops_call_v (by repeat constructor) (p1) rfl rfl ?_)))
  all_goals (first | (refine aops_yes rfl rfl rfl rfl (by first | with_reducible assumption | with_reducible exact rfl | decide | (refine decide_eq_true ?_; omega) | (refine decide_eq_false ?_; omega)) ?_; (refine aops_p (ap_cmp rfl rfl rfl) rfl rfl rfl ?_)) | refine aops_no_u rfl rfl rfl ?_ | refine aops_no_t rfl rfl rfl rfl (by first | with_reducible assumption | with_reducible exact rfl | decide | (refine decide_eq_true ?_; omega) | (refine decide_eq_false ?_; omega)) ?_ | (refine aops_guard_t rfl rfl rfl rfl (fun hg => ?_) (fun hg => ?_); case' _ => (refine aops_p (ap_cmp rfl rfl rfl) rfl rfl rfl ?_)))
  all_goals (first | refine aops_p (ap_pick_true rfl (by first | with_reducible assumption | with_reducible exact rfl | decide | (refine decide_eq_true ?_; omega) | (refine decide_eq_false ?_; omega)) rfl) rfl rfl rfl ?_ | refine aops_p (ap_pick_false rfl (by first | with_reducible assumption | with_reducible exact rfl | decide | (refine decide_eq_true ?_; omega) | (refine decide_eq_false ?_; omega)) rfl) rfl rfl rfl ?_)
  all_goals (refine aops_p (ap_move rfl) rfl rfl rfl ?_)
  all_goals (first | (refine aops_yes rfl rfl rfl rfl (by first | with_reducible assumption | with_reducible exact rfl | decide | (refine decide_eq_true ?_; omega) | (refine decide_eq_false ?_; omega)) ?_; (refine aops_call_v (by repeat constructor) (three_con) rfl rfl ?_)) | refine aops_no_u rfl rfl rfl ?_ | refine aops_no_t rfl rfl rfl rfl (by first | with_reducible assumption | with_reducible exact rfl | decide | (refine decide_eq_true ?_; omega) | (refine decide_eq_false ?_; omega)) ?_ | (refine aops_guard_t rfl rfl rfl rfl (fun hg => ?_) (fun hg => ?_); case' _ => (refine aops_call_v (by repeat constructor) (three_con) rfl rfl ?_)))
  all_goals (first | (refine aops_yes rfl rfl rfl rfl (by first | with_reducible assumption | with_reducible exact rfl | decide | (refine decide_eq_true ?_; omega) | (refine decide_eq_false ?_; omega)) ?_; (refine aops_call_v (by repeat constructor) (p2) rfl rfl ?_)) | refine aops_no_u rfl rfl rfl ?_ | refine aops_no_t rfl rfl rfl rfl (by first | with_reducible assumption | with_reducible exact rfl | decide | (refine decide_eq_true ?_; omega) | (refine decide_eq_false ?_; omega)) ?_ | (refine aops_guard_t rfl rfl rfl rfl (fun hg => ?_) (fun hg => ?_); case' _ => (refine aops_call_v (by repeat constructor) (p2) rfl rfl ?_)))
  all_goals (first | (refine aops_yes rfl rfl rfl rfl (by first | with_reducible assumption | with_reducible exact rfl | decide | (refine decide_eq_true ?_; omega) | (refine decide_eq_false ?_; omega)) ?_; (refine aops_p (ap_cmp rfl rfl rfl) rfl rfl rfl ?_)) | refine aops_no_u rfl rfl rfl ?_ | refine aops_no_t rfl rfl rfl rfl (by first | with_reducible assumption | with_reducible exact rfl | decide | (refine decide_eq_true ?_; omega) | (refine decide_eq_false ?_; omega)) ?_ | (refine aops_guard_t rfl rfl rfl rfl (fun hg => ?_) (fun hg => ?_); case' _ => (refine aops_p (ap_cmp rfl rfl rfl) rfl rfl rfl ?_)))
  all_goals (first | refine aops_p (ap_pick_true rfl (by first | with_reducible assumption | with_reducible exact rfl | decide | (refine decide_eq_true ?_; omega) | (refine decide_eq_false ?_; omega)) rfl) rfl rfl rfl ?_ | refine aops_p (ap_pick_false rfl (by first | with_reducible assumption | with_reducible exact rfl | decide | (refine decide_eq_true ?_; omega) | (refine decide_eq_false ?_; omega)) rfl) rfl rfl rfl ?_)
  all_goals (refine aops_p (ap_move rfl) rfl rfl rfl ?_)
  all_goals (first | (refine aops_yes rfl rfl rfl rfl (by first | with_reducible assumption | with_reducible exact rfl | decide | (refine decide_eq_true ?_; omega) | (refine decide_eq_false ?_; omega)) ?_; (refine aops_call_v (by repeat constructor) (three_con) rfl rfl ?_)) | refine aops_no_u rfl rfl rfl ?_ | refine aops_no_t rfl rfl rfl rfl (by first | with_reducible assumption | with_reducible exact rfl | decide | (refine decide_eq_true ?_; omega) | (refine decide_eq_false ?_; omega)) ?_ | (refine aops_guard_t rfl rfl rfl rfl (fun hg => ?_) (fun hg => ?_); case' _ => (refine aops_call_v (by repeat constructor) (three_con) rfl rfl ?_)))
  all_goals (first | (refine aops_yes rfl rfl rfl rfl (by first | with_reducible assumption | with_reducible exact rfl | decide | (refine decide_eq_true ?_; omega) | (refine decide_eq_false ?_; omega)) ?_; (refine aops_call_v (by repeat constructor) (p4) rfl rfl ?_)) | refine aops_no_u rfl rfl rfl ?_ | refine aops_no_t rfl rfl rfl rfl (by first | with_reducible assumption | with_reducible exact rfl | decide | (refine decide_eq_true ?_; omega) | (refine decide_eq_false ?_; omega)) ?_ | (refine aops_guard_t rfl rfl rfl rfl (fun hg => ?_) (fun hg => ?_); case' _ => (refine aops_call_v (by repeat constructor) (p4) rfl rfl ?_)))
  all_goals (first | (refine aops_yes rfl rfl rfl rfl (by first | with_reducible assumption | with_reducible exact rfl | decide | (refine decide_eq_true ?_; omega) | (refine decide_eq_false ?_; omega)) ?_; (refine aops_lit (e := 3) (sz := 1) (by_ := 8) rfl rfl (by repeat constructor) rfl rfl rfl rfl ?_)) | refine aops_no_u rfl rfl rfl ?_ | refine aops_no_t rfl rfl rfl rfl (by first | with_reducible assumption | with_reducible exact rfl | decide | (refine decide_eq_true ?_; omega) | (refine decide_eq_false ?_; omega)) ?_ | (refine aops_guard_t rfl rfl rfl rfl (fun hg => ?_) (fun hg => ?_); case' _ => (refine aops_lit (e := 3) (sz := 1) (by_ := 8) rfl rfl (by repeat constructor) rfl rfl rfl rfl ?_)))
  all_goals (first | (refine aops_yes rfl rfl rfl rfl (by first | with_reducible assumption | with_reducible exact rfl | decide | (refine decide_eq_true ?_; omega) | (refine decide_eq_false ?_; omega)) ?_; (refine aops_call_v (by repeat constructor) (p5) rfl rfl ?_)) | refine aops_no_u rfl rfl rfl ?_ | refine aops_no_t rfl rfl rfl rfl (by first | with_reducible assumption | with_reducible exact rfl | decide | (refine decide_eq_true ?_; omega) | (refine decide_eq_false ?_; omega)) ?_ | (refine aops_guard_t rfl rfl rfl rfl (fun hg => ?_) (fun hg => ?_); case' _ => (refine aops_call_v (by repeat constructor) (p5) rfl rfl ?_)))
  all_goals (first | refine aops_p (ap_pick_true rfl (by first | with_reducible assumption | with_reducible exact rfl | decide | (refine decide_eq_true ?_; omega) | (refine decide_eq_false ?_; omega)) rfl) rfl rfl rfl ?_ | refine aops_p (ap_pick_false rfl (by first | with_reducible assumption | with_reducible exact rfl | decide | (refine decide_eq_true ?_; omega) | (refine decide_eq_false ?_; omega)) rfl) rfl rfl rfl ?_)
  all_goals (refine aops_p (ap_move rfl) rfl rfl rfl ?_)
  all_goals (first | (refine aops_yes rfl rfl rfl rfl (by first | with_reducible assumption | with_reducible exact rfl | decide | (refine decide_eq_true ?_; omega) | (refine decide_eq_false ?_; omega)) ?_; (refine aops_p (ap_move rfl) rfl rfl rfl ?_)) | refine aops_no_u rfl rfl rfl ?_ | refine aops_no_t rfl rfl rfl rfl (by first | with_reducible assumption | with_reducible exact rfl | decide | (refine decide_eq_true ?_; omega) | (refine decide_eq_false ?_; omega)) ?_ | (refine aops_guard_t rfl rfl rfl rfl (fun hg => ?_) (fun hg => ?_); case' _ => (refine aops_p (ap_move rfl) rfl rfl rfl ?_)))
  all_goals (first | (refine aops_yes rfl rfl rfl rfl (by first | with_reducible assumption | with_reducible exact rfl | decide | (refine decide_eq_true ?_; omega) | (refine decide_eq_false ?_; omega)) ?_; (refine aops_p (ap_cmp rfl rfl rfl) rfl rfl rfl ?_)) | refine aops_no_u rfl rfl rfl ?_ | refine aops_no_t rfl rfl rfl rfl (by first | with_reducible assumption | with_reducible exact rfl | decide | (refine decide_eq_true ?_; omega) | (refine decide_eq_false ?_; omega)) ?_ | (refine aops_guard_t rfl rfl rfl rfl (fun hg => ?_) (fun hg => ?_); case' _ => (refine aops_p (ap_cmp rfl rfl rfl) rfl rfl rfl ?_)))
  all_goals (first | refine aops_p (ap_pick_true rfl (by first | with_reducible assumption | with_reducible exact rfl | decide | (refine decide_eq_true ?_; omega) | (refine decide_eq_false ?_; omega)) rfl) rfl rfl rfl ?_ | refine aops_p (ap_pick_false rfl (by first | with_reducible assumption | with_reducible exact rfl | decide | (refine decide_eq_true ?_; omega) | (refine decide_eq_false ?_; omega)) rfl) rfl rfl rfl ?_)
  all_goals (refine aops_p (ap_move rfl) rfl rfl rfl ?_)
  all_goals (first | (refine aops_yes rfl rfl rfl rfl (by first | with_reducible assumption | with_reducible exact rfl | decide | (refine decide_eq_true ?_; omega) | (refine decide_eq_false ?_; omega)) ?_; (refine aops_p (ap_move rfl) rfl rfl rfl ?_)) | refine aops_no_u rfl rfl rfl ?_ | refine aops_no_t rfl rfl rfl rfl (by first | with_reducible assumption | with_reducible exact rfl | decide | (refine decide_eq_true ?_; omega) | (refine decide_eq_false ?_; omega)) ?_ | (refine aops_guard_t rfl rfl rfl rfl (fun hg => ?_) (fun hg => ?_); case' _ => (refine aops_p (ap_move rfl) rfl rfl rfl ?_)))
  all_goals (first | (refine aops_yes rfl rfl rfl rfl (by first | with_reducible assumption | with_reducible exact rfl | decide | (refine decide_eq_true ?_; omega) | (refine decide_eq_false ?_; omega)) ?_; (refine aops_p (ap_cmp rfl rfl rfl) rfl rfl rfl ?_)) | refine aops_no_u rfl rfl rfl ?_ | refine aops_no_t rfl rfl rfl rfl (by first | with_reducible assumption | with_reducible exact rfl | decide | (refine decide_eq_true ?_; omega) | (refine decide_eq_false ?_; omega)) ?_ | (refine aops_guard_t rfl rfl rfl rfl (fun hg => ?_) (fun hg => ?_); case' _ => (refine aops_p (ap_cmp rfl rfl rfl) rfl rfl rfl ?_)))
  all_goals (first | refine aops_p (ap_pick_true rfl (by first | with_reducible assumption | with_reducible exact rfl | decide | (refine decide_eq_true ?_; omega) | (refine decide_eq_false ?_; omega)) rfl) rfl rfl rfl ?_ | refine aops_p (ap_pick_false rfl (by first | with_reducible assumption | with_reducible exact rfl | decide | (refine decide_eq_true ?_; omega) | (refine decide_eq_false ?_; omega)) rfl) rfl rfl rfl ?_)
  all_goals (refine aops_p (ap_assign rfl) rfl rfl rfl ?_)
  all_goals (
    refine aops_nil ?_
    refine seqQ_n ?_
    refine awp_ret ?_
    refine post_is (.tmp rfl .nil) (by repeat (first | exact .nil | refine .cons (by first | exact .here | exact .there .here | exact .there (.there .here) | exact .there (.there (.there .here)) | exact .there (.there (.there (.there .here)))) ?_)) ?_; rfl
    )
theorem Config10_con (b : Nat) (l : List Int) (a : Nat) : Con Try.prog 16 [.p b 0, .i 10] [.box b 81 [.sl 1 (l.map .i), .i ((a : Nat) : Int)]] (fun d H => ∃ (c : List Mem) (a' : Nat), d = cv c ∧ (OKC c ∧ c.length ≤ 10) ∧ H = [.box b 81 [.sl 1 (l.map .i), .i ((a' : Nat) : Int)]]) := Config_con b 10 l (by omega) a
theorem rNodes_con (s : Int) : Con Try.prog 27 [.i s] [] (Is (.sl 1 ((nodesOf s).map .i)) []) := by
  have hcap : capB = 140737488355328 := rfl
  refine con_intro Try.func27 rfl Try.call27 rfl ?_
  refine awp_seq ?_
  refine awp_region ?_
  refine aops_p (ap_assign rfl) rfl rfl rfl ?_
  refine aops_nil ?_
  refine seqQ_n ?_
  refine awp_seq ?_
  refine awp_region ?_
  refine aops_p (ap_assign rfl) rfl rfl rfl ?_
  refine aops_nil ?_
  refine seqQ_n ?_
  refine awp_seq ?_
  refine awp_seq ?_
  refine awp_region ?_
  refine aops_p (ap_assign rfl) rfl rfl rfl ?_
  refine aops_nil ?_
  refine seqQ_n ?_
  refine awp_block ?_
  refine awp_loop3 [0] [] (fun (k : Nat) (v : Value) (q : List Int) r => (3, .v v) :: (4, .i (k : Int)) :: r) (fun (k : Nat) (v : Value) (q : List Int) r => .arr v 3 1 (q.map .i) :: r) (fun (k : Nat) (v : Value) (q : List Int) => k ≤ 10 ∧ q.length ≤ k ∧ q = (upTo k).filter fun x => has s x) (fun (k : Nat) (v : Value) (q : List Int) => 10 - k) (0) (.slice none 0 0) ([]) (by repeat constructor) ⟨by omega, by simp, rfl⟩ ((wk_own 3 1 rfl).trans (wk (by repeat (first | exact .nil | refine .cons rfl ?_)) (by repeat (first | exact .nil | refine .cons (by first | exact .here | exact .there .here | exact .there (.there .here) | exact .there (.there (.there .here)) | exact .there (.there (.there (.there .here)))) ?_)))) ?_
  intro k v q ⟨hk, hql, hI⟩
  refine awp_seq ?_
  refine awp_seq ?_
  refine awp_region ?_
  refine aops_p (ap_move rfl) rfl rfl rfl ?_
  refine aops_p (ap_cmp rfl rfl rfl) rfl rfl rfl ?_
  refine aops_nil ?_
  refine seqQ_n ?_
  refine awp_cond rfl (fun hc => ?_) (fun hc => ?_)
  · have hlt := of_decide_eq_true hc
    refine awp_skip ?_
    refine seqQ_n ?_
    refine awp_seq ?_
    refine awp_block ?_
    refine awp_seq ?_
    refine awp_region ?_
    refine aops_p (ap_move rfl) rfl rfl rfl ?_
    refine aops_p (ap_move rfl) rfl rfl rfl ?_
    refine aops_call_b (by repeat constructor) (rhas_con _ _) rfl rfl (fun c11 hc11 => ?_)
    refine aops_nil ?_
    refine seqQ_n ?_
    refine awp_cond rfl (fun hc => ?_) (fun hc => ?_)
    · refine awp_region ?_
      refine aops_p (ap_move rfl) rfl rfl rfl ?_
      refine aops_p (ap_move rfl) rfl rfl rfl ?_
      refine aops_lit (e := 3) (sz := 1) (by_ := 8) rfl rfl (by repeat constructor) rfl rfl rfl rfl ?_
      first | refine aops_append (e := 3) (sz := 1) (by_ := 8) rfl (by repeat (first | exact .here | apply UpdF.there)) rfl rfl rfl rfl rfl (by simp only [List.length_cons, List.length_nil, List.length_append, List.length_map, avs_len]; omega) (fun v15 hv15 => ?_) | refine aops_append_nil (e := 3) (sz := 1) (by_ := 8) rfl rfl rfl rfl rfl rfl (by simp only [List.length_cons, List.length_nil, List.length_append, List.length_map, avs_len]; omega) (fun v15 hv15 => ?_)
      refine aops_p (ap_assign rfl) rfl rfl rfl ?_
      refine aops_nil ?_
      refine blockQ_n ?_
      refine seqQ_n ?_
      refine awp_region ?_
      refine aops_p (ap_move rfl) rfl rfl rfl ?_
      refine aops_p (ap_arith rfl rfl rfl (by omega)) rfl rfl rfl ?_
      refine aops_p (ap_assign rfl) rfl rfl rfl ?_
      refine aops_nil ?_
      refine seqQ_n ?_
      first | (rw [mapi_snoc]; refine ⟨k + 1, _, q ++ [(k : Int)], ⟨by omega, by simp only [List.length_append, List.length_cons, List.length_nil]; omega, by rw [nodesTo_succ, if_pos (hc11.trans (by with_reducible assumption)), ← hI]⟩, by omega, wk (by repeat (first | exact .nil | refine .cons rfl ?_)) (by repeat (first | exact .nil | refine .cons (by first | exact .here | exact .there .here | exact .there (.there .here) | exact .there (.there (.there .here)) | exact .there (.there (.there (.there .here)))) ?_))⟩) | refine ⟨k + 1, _, q, ⟨by omega, by omega, by rw [nodesTo_succ, if_neg (by rw [hc11.trans (by with_reducible assumption)]; decide), ← hI, List.append_nil]⟩, by omega, wk (by repeat (first | exact .nil | refine .cons rfl ?_)) (by repeat (first | exact .nil | refine .cons (by first | exact .here | exact .there .here | exact .there (.there .here) | exact .there (.there (.there .here)) | exact .there (.there (.there (.there .here)))) ?_))⟩
    · refine awp_skip ?_
      refine blockQ_n ?_
      refine seqQ_n ?_
      refine awp_region ?_
      refine aops_p (ap_move rfl) rfl rfl rfl ?_
      refine aops_p (ap_arith rfl rfl rfl (by omega)) rfl rfl rfl ?_
      refine aops_p (ap_assign rfl) rfl rfl rfl ?_
      refine aops_nil ?_
      refine seqQ_n ?_
      first | (rw [mapi_snoc]; refine ⟨k + 1, _, q ++ [(k : Int)], ⟨by omega, by simp only [List.length_append, List.length_cons, List.length_nil]; omega, by rw [nodesTo_succ, if_pos (hc11.trans (by with_reducible assumption)), ← hI]⟩, by omega, wk (by repeat (first | exact .nil | refine .cons rfl ?_)) (by repeat (first | exact .nil | refine .cons (by first | exact .here | exact .there .here | exact .there (.there .here) | exact .there (.there (.there .here)) | exact .there (.there (.there (.there .here)))) ?_))⟩) | refine ⟨k + 1, _, q, ⟨by omega, by omega, by rw [nodesTo_succ, if_neg (by rw [hc11.trans (by with_reducible assumption)]; decide), ← hI, List.append_nil]⟩, by omega, wk (by repeat (first | exact .nil | refine .cons rfl ?_)) (by repeat (first | exact .nil | refine .cons (by first | exact .here | exact .there .here | exact .there (.there .here) | exact .there (.there (.there .here)) | exact .there (.there (.there (.there .here)))) ?_))⟩
  · have hge := of_decide_eq_false hc
    obtain rfl : k = 10 := by omega
    refine awp_exit ?_
    refine seqQ_x ?_
    refine seqQ_x ?_
    refine blockQ_x rfl ?_
    refine seqQ_n ?_
    refine awp_seq ?_
    refine awp_freeze v [3] (by repeat (first | exact .here | apply Rem.there)) (by repeat (first | exact .nil | apply SelC.cons rfl (by first | exact Cv.fz | (apply Cv.agg; repeat (first | exact CvL.nil | apply CvL.cons (by first | exact Cv.fz | exact Cv.same))) | exact Cv.same))) (by repeat (first | exact .nil | apply HeapA.box (by repeat (first | exact CvL.nil | apply CvL.cons (by first | exact Cv.fz | exact Cv.same))) | apply HeapA.arr)) ?_
    refine awp_region ?_
    refine aops_p (ap_move rfl) rfl rfl rfl ?_
    refine aops_p (ap_assign rfl) rfl rfl rfl ?_
    refine aops_nil ?_
    refine seqQ_n ?_
    refine awp_ret ?_
    refine post_is (.tmp rfl .nil) (by repeat (first | exact .nil | refine .cons (by first | exact .here | exact .there .here | exact .there (.there .here) | exact .there (.there (.there .here)) | exact .there (.there (.there (.there .here)))) ?_)) ?_
    rw [hI]; rfl
theorem rdecl_con (c : List Mem) : Con Try.prog 47 [cv c] [] (Is (.i (declC c : Int)) []) := by
  have hcap : capB = 140737488355328 := rfl
  have hl1 : (c.map mv).length = c.length := by simp
  refine con_intro Try.func47 rfl Try.call47 rfl ?_
  refine awp_seq ?_
  refine awp_region ?_
  refine aops_box rfl (by first | exact .agg | exact .sl | exact .v rfl | exact .v (by assumption)) rfl rfl (fun b1 => ?_)
  refine aops_p (ap_assign rfl) rfl rfl rfl ?_
  refine aops_nil ?_
  refine seqQ_n ?_
  refine awp_seq ?_
  refine awp_region ?_
  refine aops_p (ap_assign rfl) rfl rfl rfl ?_
  refine aops_nil ?_
  refine seqQ_n ?_
  refine awp_seq ?_
  refine awp_seq ?_
  refine awp_region ?_
  first | refine aops_p (ap_fieldAddr (off := 0) (sz := 1) (g := false) rfl rfl) rfl rfl rfl ?_ | refine aops_p (ap_fieldAddr_el (off := 0) (sz := 1) (g := false) rfl rfl (by repeat constructor)) rfl rfl rfl ?_
  first | refine aops_q (aq_load1 rfl (by repeat (first | exact .here | apply UpdF.there)) List.not_mem_nil rfl (by repeat constructor)) rfl rfl rfl ?_ | refine aops_q (aq_load_el1 rfl rfl (by first | exact .sl | exact .v rfl | exact .v (by assumption)) (fun _ h => absurd h List.not_mem_nil)) rfl rfl rfl ?_ | refine aops_q (aq_load_el1' rfl rfl (by first | exact .sl | exact .v rfl | exact .v (by assumption)) (fun _ h => absurd h List.not_mem_nil)) rfl rfl rfl ?_ | refine aops_q (aq_load_own1 rfl (by repeat (first | exact .here | apply UpdF.there)) List.not_mem_nil rfl (by first | with_reducible assumption | assumption | rfl) (by first | exact .sl | exact .v rfl | exact .v (by assumption))) rfl rfl rfl ?_
  first | refine aops_len rfl rfl rfl rfl (fun _ => ?_) | refine aops_p (ap_len_arr rfl (by repeat (first | exact .here | apply UpdF.there)) rfl) rfl rfl rfl ?_ | refine aops_p (ap_len_nil rfl rfl) rfl rfl rfl ?_
  refine aops_p (ap_move rfl) rfl rfl rfl ?_
  refine aops_nil ?_
  refine seqQ_n ?_
  refine awp_block ?_
  refine awp_loop2 [7, 8] [] (fun (k : Nat) (s : Nat) r => (3, .i (s : Int)) :: (9, .i (k : Int)) :: r) (fun (k : Nat) (s : Nat) r => r) (fun (k : Nat) (s : Nat) => k ≤ c.length ∧ s < 1024 ∧ declGo s k (c.drop k) = declC c) (fun (k : Nat) (s : Nat) => c.length - k) (0) (0) (by repeat constructor) ⟨by omega, by omega, by simp [declC]⟩ (wk (by repeat (first | exact .nil | refine .cons rfl ?_)) (by repeat (first | exact .nil | refine .cons (by first | exact .here | exact .there .here | exact .there (.there .here) | exact .there (.there (.there .here)) | exact .there (.there (.there (.there .here)))) ?_))) ?_
  intro k s ⟨hk, hs, hI⟩
  refine awp_seq ?_
  refine awp_region ?_
  refine aops_p (ap_cmp rfl rfl rfl) rfl rfl rfl ?_
  refine aops_nil ?_
  refine seqQ_n ?_
  refine awp_seq ?_
  refine awp_cond rfl (fun hc => ?_) (fun hc => ?_)
  · have hlt := of_decide_eq_true hc
    obtain ⟨x, hx, hd⟩ := drop_cons (l := c) (k := k) (by omega)
    have hx' := getMap mv hx
    refine awp_skip ?_
    refine seqQ_n ?_
    refine awp_seq ?_
    refine awp_block ?_
    refine awp_seq ?_
    refine awp_region ?_
    refine aops_p (ap_move rfl) rfl rfl rfl ?_
    first | refine aops_p (ap_index rfl rfl rfl rfl (by decide) rfl (by first | with_reducible assumption | assumption | rfl)) rfl rfl rfl ?_ | refine aops_p (ap_index rfl rfl rfl rfl (by decide) (by omega) (by first | with_reducible assumption | assumption | rfl)) rfl rfl rfl ?_ | refine aops_p (ap_index_own rfl rfl rfl rfl rfl (by first | omega | (simp only [List.length_map, List.length_set, avs_len]; omega))) rfl rfl rfl ?_
    first | refine aops_q (aq_load rfl (by repeat (first | exact .here | apply UpdF.there)) List.not_mem_nil rfl rfl (by repeat constructor)) rfl rfl rfl ?_ | refine aops_q (aq_load_el rfl rfl rfl rfl (fun _ h => absurd h List.not_mem_nil)) rfl rfl rfl ?_
    refine aops_alloc rfl (by repeat constructor) rfl rfl (fun b5 => ?_)
    refine aops_p (ap_assign rfl) rfl rfl rfl ?_
    first | refine aops_store rfl rfl (by first | exact .agg | exact .sl | exact .v rfl | exact .v (by assumption)) (by repeat (first | exact .here | apply UpdF.there)) rfl (by repeat constructor) ?_ | refine aops_store_own1 rfl rfl (by first | exact .sl | exact .v rfl | exact .v (by assumption)) (by repeat (first | exact .here | apply UpdF.there)) rfl (by simp only [List.length_set, List.length_map]; omega) ?_
    refine aops_nil ?_
    refine seqQ_n ?_
    refine awp_seq ?_
    refine awp_region ?_
    refine aops_p (ap_move rfl) rfl rfl rfl ?_
    refine aops_p (ap_cmp rfl rfl rfl) rfl rfl rfl ?_
    refine aops_p (ap_move rfl) rfl rfl rfl ?_
    all_goals (first | (refine aops_yes rfl rfl rfl rfl (by first | with_reducible assumption | with_reducible exact rfl | decide | (refine decide_eq_true ?_; omega) | (refine decide_eq_false ?_; omega)) ?_; (first | refine aops_p (ap_fieldAddr (off := 0) (sz := 1) (g := false) rfl rfl) rfl rfl rfl ?_ | refine aops_p (ap_fieldAddr_el (off := 0) (sz := 1) (g := false) rfl rfl (by repeat constructor)) rfl rfl rfl ?_)) | refine aops_no_u rfl rfl rfl ?_ | refine aops_no_t rfl rfl rfl rfl (by first | with_reducible assumption | with_reducible exact rfl | decide | (refine decide_eq_true ?_; omega) | (refine decide_eq_false ?_; omega)) ?_ | (refine aops_guard_t rfl rfl rfl rfl (fun hg => ?_) (fun hg => ?_); case' _ => (first | refine aops_p (ap_fieldAddr (off := 0) (sz := 1) (g := false) rfl rfl) rfl rfl rfl ?_ | refine aops_p (ap_fieldAddr_el (off := 0) (sz := 1) (g := false) rfl rfl (by repeat constructor)) rfl rfl rfl ?_)))
    all_goals (first | (refine aops_yes rfl rfl rfl rfl (by first | with_reducible assumption | with_reducible exact rfl | decide | (refine decide_eq_true ?_; omega) | (refine decide_eq_false ?_; omega)) ?_; (first | refine aops_q (aq_load1 rfl (by repeat (first | exact .here | apply UpdF.there)) List.not_mem_nil rfl (by repeat constructor)) rfl rfl rfl ?_ | refine aops_q (aq_load_el1 rfl rfl (by first | exact .sl | exact .v rfl | exact .v (by assumption)) (fun _ h => absurd h List.not_mem_nil)) rfl rfl rfl ?_ | refine aops_q (aq_load_el1' rfl rfl (by first | exact .sl | exact .v rfl | exact .v (by assumption)) (fun _ h => absurd h List.not_mem_nil)) rfl rfl rfl ?_ | refine aops_q (aq_load_own1 rfl (by repeat (first | exact .here | apply UpdF.there)) List.not_mem_nil rfl (by first | with_reducible assumption | assumption | rfl) (by first | exact .sl | exact .v rfl | exact .v (by assumption))) rfl rfl rfl ?_)) | refine aops_no_u rfl rfl rfl ?_ | refine aops_no_t rfl rfl rfl rfl (by first | with_reducible assumption | with_reducible exact rfl | decide | (refine decide_eq_true ?_; omega) | (refine decide_eq_false ?_; omega)) ?_ | (refine aops_guard_t rfl rfl rfl rfl (fun hg => ?_) (fun hg => ?_); case' _ => (first | refine aops_q (aq_load1 rfl (by repeat (first | exact .here | apply UpdF.there)) List.not_mem_nil rfl (by repeat constructor)) rfl rfl rfl ?_ | refine aops_q (aq_load_el1 rfl rfl (by first | exact .sl | exact .v rfl | exact .v (by assumption)) (fun _ h => absurd h List.not_mem_nil)) rfl rfl rfl ?_ | refine aops_q (aq_load_el1' rfl rfl (by first | exact .sl | exact .v rfl | exact .v (by assumption)) (fun _ h => absurd h List.not_mem_nil)) rfl rfl rfl ?_ | refine aops_q (aq_load_own1 rfl (by repeat (first | exact .here | apply UpdF.there)) List.not_mem_nil rfl (by first | with_reducible assumption | assumption | rfl) (by first | exact .sl | exact .v rfl | exact .v (by assumption))) rfl rfl rfl ?_)))
    all_goals (first | refine aops_p (ap_pick_true rfl (by first | with_reducible assumption | with_reducible exact rfl | decide | (refine decide_eq_true ?_; omega) | (refine decide_eq_false ?_; omega)) rfl) rfl rfl rfl ?_ | refine aops_p (ap_pick_false rfl (by first | with_reducible assumption | with_reducible exact rfl | decide | (refine decide_eq_true ?_; omega) | (refine decide_eq_false ?_; omega)) rfl) rfl rfl rfl ?_)
    all_goals (
      refine aops_nil ?_
      refine seqQ_n ?_
      refine awp_cond rfl (fun hc => ?_) (fun hc => ?_)
      · first
        | (exact absurd hc (by decide))
        | (first | (have h10 := of_decide_eq_true hg; have hp := pow_lt10 (k := k) (by omega)) | exact absurd hc (by decide)
           refine awp_region ?_
           refine aops_p (ap_move rfl) rfl rfl rfl ?_
           refine aops_p (ap_move rfl) rfl rfl rfl ?_
           refine aops_p (ap_shl (p := 1) rfl rfl rfl (by omega) (by omega)) rfl rfl rfl ?_
           refine aops_p (ap_bits rfl rfl rfl (by omega) (by omega)) rfl rfl rfl ?_
           refine aops_p (ap_assign rfl) rfl rfl rfl ?_
           refine aops_nil ?_
           refine blockQ_n ?_
           refine seqQ_n ?_
           refine awp_region ?_
           refine aops_p (ap_arith rfl rfl rfl (by omega)) rfl rfl rfl ?_
           refine aops_p (ap_move rfl) rfl rfl rfl ?_
           refine aops_nil ?_
           refine seqQ_n ?_
           rw [hd] at hI; simp only [declGo] at hI
           first | (rw [if_pos (by rw [show x.decl = true by with_reducible assumption, show decide ((k : Int) < 10) = true by with_reducible assumption]; rfl)] at hI; refine ⟨k + 1, s ||| 2 ^ k, ⟨by omega, Nat.or_lt_two_pow (n := 10) hs (pow_lt10 (by have := of_decide_eq_true (show decide ((k : Int) < 10) = true by with_reducible assumption); omega)), hI⟩, by omega, ?_⟩; rw [Nat.one_mul]; exact (wk (by repeat (first | exact .nil | refine .cons rfl ?_)) (by repeat (first | exact .nil | refine .cons (by first | exact .here | exact .there .here | exact .there (.there .here) | exact .there (.there (.there .here)) | exact .there (.there (.there (.there .here)))) ?_)))) | (rw [if_neg (by first | (rw [show x.decl = false by with_reducible assumption]; simp; done) | (rw [show decide ((k : Int) < 10) = false by with_reducible assumption]; simp; done))] at hI; refine ⟨k + 1, s, ⟨by omega, hs, hI⟩, by omega, wk (by repeat (first | exact .nil | refine .cons rfl ?_)) (by repeat (first | exact .nil | refine .cons (by first | exact .here | exact .there .here | exact .there (.there .here) | exact .there (.there (.there .here)) | exact .there (.there (.there (.there .here)))) ?_))⟩)
          )
      · first
        | (exact absurd hc (by decide))
        | (refine awp_skip ?_
           refine blockQ_n ?_
           refine seqQ_n ?_
           refine awp_region ?_
           refine aops_p (ap_arith rfl rfl rfl (by omega)) rfl rfl rfl ?_
           refine aops_p (ap_move rfl) rfl rfl rfl ?_
           refine aops_nil ?_
           refine seqQ_n ?_
           rw [hd] at hI; simp only [declGo] at hI
           first | (rw [if_pos (by rw [show x.decl = true by with_reducible assumption, show decide ((k : Int) < 10) = true by with_reducible assumption]; rfl)] at hI; refine ⟨k + 1, s ||| 2 ^ k, ⟨by omega, Nat.or_lt_two_pow (n := 10) hs (pow_lt10 (by have := of_decide_eq_true (show decide ((k : Int) < 10) = true by with_reducible assumption); omega)), hI⟩, by omega, ?_⟩; rw [Nat.one_mul]; exact (wk (by repeat (first | exact .nil | refine .cons rfl ?_)) (by repeat (first | exact .nil | refine .cons (by first | exact .here | exact .there .here | exact .there (.there .here) | exact .there (.there (.there .here)) | exact .there (.there (.there (.there .here)))) ?_)))) | (rw [if_neg (by first | (rw [show x.decl = false by with_reducible assumption]; simp; done) | (rw [show decide ((k : Int) < 10) = false by with_reducible assumption]; simp; done))] at hI; refine ⟨k + 1, s, ⟨by omega, hs, hI⟩, by omega, wk (by repeat (first | exact .nil | refine .cons rfl ?_)) (by repeat (first | exact .nil | refine .cons (by first | exact .here | exact .there .here | exact .there (.there .here) | exact .there (.there (.there .here)) | exact .there (.there (.there (.there .here)))) ?_))⟩)
          )
      )
  · have hge := of_decide_eq_false hc
    rw [drop_nil (by omega)] at hI; simp only [declGo] at hI
    refine awp_exit ?_
    refine seqQ_x ?_
    refine seqQ_x ?_
    refine blockQ_x rfl ?_
    refine seqQ_n ?_
    refine awp_seq ?_
    refine awp_region ?_
    refine aops_p (ap_move rfl) rfl rfl rfl ?_
    refine aops_p (ap_assign rfl) rfl rfl rfl ?_
    refine aops_nil ?_
    refine seqQ_n ?_
    refine awp_ret ?_
    refine post_is (.tmp rfl .nil) (by repeat (first | exact .nil | refine .cons (by first | exact .here | exact .there .here | exact .there (.there .here) | exact .there (.there (.there .here)) | exact .there (.there (.there (.there .here)))) ?_)) ?_
    rw [← hI]; rfl
theorem sub_clr {s j : Nat} (hs : s < 1024) (h : s.testBit j = true) : (s : Int) - ((1 * 2 ^ j : Nat) : Int) = ((clr s j : Nat) : Int) := by
  have h1 : clr s j < 1024 := Nat.lt_of_le_of_lt (clr_le s j) hs
  have h2 : j < 10 := by
    rcases Nat.lt_or_ge j 10 with h3 | h3
    · exact h3
    · have : s < 2 ^ j := Nat.lt_of_lt_of_le hs (Nat.pow_le_pow_right (n := 2) (by omega) h3)
      rw [Nat.testBit_lt_two_pow this] at h; cases h
  have h3 := pow_lt10 h2
  have hand : clr s j &&& 2 ^ j = 0 := by
    refine Nat.eq_of_testBit_eq fun i => ?_
    rw [Nat.testBit_and, drop_bit' hs h, Nat.testBit_two_pow, Nat.zero_testBit]
    by_cases e : j = i <;> simp [e]
  have hor : clr s j ||| 2 ^ j = s := by
    refine Nat.eq_of_testBit_eq fun i => ?_
    rw [Nat.testBit_or, drop_bit' hs h, Nat.testBit_two_pow]
    by_cases e : j = i
    · subst e; simp [h]
    · simp [e]
  have h4 : BitVec.ofNat 64 (clr s j) &&& BitVec.ofNat 64 (2 ^ j) = 0#64 := by
    apply BitVec.eq_of_toNat_eq
    rw [BitVec.toNat_and, BitVec.toNat_ofNat, BitVec.toNat_ofNat, Nat.mod_eq_of_lt (by omega), Nat.mod_eq_of_lt (by omega), hand]
    rfl
  have h5 := congrArg BitVec.toNat (BitVec.add_eq_or_of_and_eq_zero _ _ h4)
  rw [BitVec.toNat_or, BitVec.toNat_add, BitVec.toNat_ofNat, BitVec.toNat_ofNat, Nat.mod_eq_of_lt (a := clr s j) (by omega), Nat.mod_eq_of_lt (a := 2 ^ j) (by omega), hor] at h5
  omega
theorem op_ints {w : World} (n : Nat) : OpN Try.prog w 22 n (List Int) (fun l => [.sl 1 (l.map .i)]) :=
  op_slice Try.underlying22 (by kernel_rfl) (by omega) (of_decide_eq_true (by kernel_rfl)) mk_int (fun m _ => op_int Try.underlying3)
theorem op_trust {w : World} : ∀ n, OpN Try.prog w 48 n Trust (fun t => [.i t.th, .sl 1 (t.nodes.map .i), .sl 3 (avs t.inner)]) := by
  intro n
  induction n using Nat.strongRecOn with
  | ind n ih =>
    refine op_struct Try.underlying48 (by kernel_rfl) (fun m hm => ?_)
    refine (opf_cons (by kernel_rfl) (op_int Try.underlying3) (opf_cons (by kernel_rfl) (op_ints m) (opf_cons (by kernel_rfl) (op_slice (sz := 3) (mk := fun t => .agg [.i t.th, .sl 1 (t.nodes.map .i), .sl 3 (avs t.inner)]) Try.underlying46 (by kernel_rfl) (by omega) (of_decide_eq_true (by kernel_rfl)) (mk_agg _) (fun k hk => ih k (by omega))) opf_nil))).map (fun p => .mk p.1 p.2.1 p.2.2.1) ?_
    intro p
    show _ = [D.i p.1, D.sl 1 (p.2.1.map D.i), D.sl 3 (avs p.2.2.1)]
    rw [avs_map]
    rfl
theorem op_config {w : World} (n : Nat) : OpN Try.prog w 27 n (List Mem) (fun c => [.sl 4 (c.map mv)]) := by
  refine op_struct Try.underlying27 (by kernel_rfl) (fun m hm => ?_)
  refine (opf_cons (by kernel_rfl) (op_slice (sz := 4) (mk := mv) (toC := fun x : Mem => [.b x.decl, .i x.t.th, .sl 1 (x.t.nodes.map .i), .sl 3 (avs x.t.inner)]) Try.underlying25 (by kernel_rfl) (by omega) (of_decide_eq_true (by kernel_rfl)) (mk_agg _) (fun k hk => ?_)) opf_nil).map (fun p => p.1) (fun p => rfl)
  refine op_struct Try.underlying69 (by kernel_rfl) (fun j hj => ?_)
  exact (opf_cons (by kernel_rfl) (op_bool Try.underlying4) (opf_cons (by kernel_rfl) (op_trust j) opf_nil)).map (fun p => ⟨p.1, p.2.1⟩) (fun p => rfl)
theorem entries_con : ∀ (t : Trust) (n : Int), (0 ≤ n ∧ n ≤ 400) → Con Try.prog 89 [av t, .i n] [] (fun d H => ∃ r : Int, d = .i r ∧ (n ≤ r ∧ r ≤ 1000000000000000) ∧ (r ≤ 400 → n + 1 + sizeT t ≤ r) ∧ H = []) := by
  have hcap : capB = 140737488355328 := rfl
  intro t
  induction t using Trust.ind with
  | _ t ih =>
    intro n hn
    have hl1 : (t.nodes.map D.i).length = t.nodes.length := by simp
    have hl2 := avs_len t.inner
    refine con_intro Try.func89 rfl Try.call89 rfl ?_
    refine awp_seq ?_
    refine awp_region ?_
    refine aops_box rfl (by first | exact .agg | exact .sl | exact .v rfl | exact .v (by assumption)) rfl rfl (fun b2 => ?_)
    refine aops_p (ap_assign rfl) rfl rfl rfl ?_
    refine aops_nil ?_
    refine seqQ_n ?_
    refine awp_seq ?_
    refine awp_region ?_
    refine aops_p (ap_move rfl) rfl rfl rfl ?_
    first | refine aops_p (ap_fieldAddr (off := 1) (sz := 1) (g := false) rfl rfl) rfl rfl rfl ?_ | refine aops_p (ap_fieldAddr_el (off := 1) (sz := 1) (g := false) rfl rfl (by repeat constructor)) rfl rfl rfl ?_
    first | refine aops_q (aq_load1 rfl (by repeat (first | exact .here | apply UpdF.there)) List.not_mem_nil rfl (by repeat constructor)) rfl rfl rfl ?_ | refine aops_q (aq_load_el1 rfl rfl (by first | exact .sl | exact .v rfl | exact .v (by assumption)) (fun _ h => absurd h List.not_mem_nil)) rfl rfl rfl ?_ | refine aops_q (aq_load_el1' rfl rfl (by first | exact .sl | exact .v rfl | exact .v (by assumption)) (fun _ h => absurd h List.not_mem_nil)) rfl rfl rfl ?_ | refine aops_q (aq_load_own1 rfl (by repeat (first | exact .here | apply UpdF.there)) List.not_mem_nil rfl (by first | with_reducible assumption | assumption | rfl) (by first | exact .sl | exact .v rfl | exact .v (by assumption))) rfl rfl rfl ?_
    first | refine aops_len rfl rfl rfl rfl (fun _ => ?_) | refine aops_p (ap_len_arr rfl (by repeat (first | exact .here | apply UpdF.there)) rfl) rfl rfl rfl ?_ | refine aops_p (ap_len_nil rfl rfl) rfl rfl rfl ?_
    refine aops_p (ap_arith rfl rfl rfl (by omega)) rfl rfl rfl ?_
    refine aops_p (ap_arith rfl rfl rfl (by omega)) rfl rfl rfl ?_
    refine aops_p (ap_assign rfl) rfl rfl rfl ?_
    refine aops_nil ?_
    refine seqQ_n ?_
    refine awp_seq ?_
    refine awp_seq ?_
    refine awp_region ?_
    refine aops_p (ap_assign rfl) rfl rfl rfl ?_
    refine aops_nil ?_
    refine seqQ_n ?_
    refine awp_block ?_
    refine awp_loop2 [2] [.box b2 _ _] (fun (k : Nat) (s : Int) r => (1, .i s) :: (5, .i (k : Int)) :: r) (fun (k : Nat) (s : Int) r => r) (fun (k : Nat) (s : Int) => k ≤ t.inner.length ∧ (n ≤ s ∧ s ≤ 1000000000000000) ∧ (s ≤ 400 → n + 1 + t.nodes.length + k + sizeL t.inner ≤ s + sizeL (t.inner.drop k))) (fun (k : Nat) (s : Int) => t.inner.length - k) (0) (n + (1 + ((t.nodes.map D.i).length : Int))) (by repeat constructor) ⟨by omega, by unfold capB at *; omega, by simp; omega⟩ (wk (by repeat (first | exact .nil | refine .cons rfl ?_)) (by repeat (first | exact .nil | refine .cons (by first | exact .here | exact .there .here | exact .there (.there .here) | exact .there (.there (.there .here)) | exact .there (.there (.there (.there .here)))) ?_))) ?_
    intro k s ⟨hk, hs1, hI⟩
    refine awp_seq ?_
    refine awp_seq ?_
    refine awp_region ?_
    refine aops_p (ap_move rfl) rfl rfl rfl ?_
    first | refine aops_p (ap_fieldAddr (off := 2) (sz := 1) (g := false) rfl rfl) rfl rfl rfl ?_ | refine aops_p (ap_fieldAddr_el (off := 2) (sz := 1) (g := false) rfl rfl (by repeat constructor)) rfl rfl rfl ?_
    first | refine aops_q (aq_load1 rfl (by repeat (first | exact .here | apply UpdF.there)) List.not_mem_nil rfl (by repeat constructor)) rfl rfl rfl ?_ | refine aops_q (aq_load_el1 rfl rfl (by first | exact .sl | exact .v rfl | exact .v (by assumption)) (fun _ h => absurd h List.not_mem_nil)) rfl rfl rfl ?_ | refine aops_q (aq_load_el1' rfl rfl (by first | exact .sl | exact .v rfl | exact .v (by assumption)) (fun _ h => absurd h List.not_mem_nil)) rfl rfl rfl ?_ | refine aops_q (aq_load_own1 rfl (by repeat (first | exact .here | apply UpdF.there)) List.not_mem_nil rfl (by first | with_reducible assumption | assumption | rfl) (by first | exact .sl | exact .v rfl | exact .v (by assumption))) rfl rfl rfl ?_
    first | refine aops_len rfl rfl rfl rfl (fun _ => ?_) | refine aops_p (ap_len_arr rfl (by repeat (first | exact .here | apply UpdF.there)) rfl) rfl rfl rfl ?_ | refine aops_p (ap_len_nil rfl rfl) rfl rfl rfl ?_
    refine aops_p (ap_cmp rfl rfl rfl) rfl rfl rfl ?_
    refine aops_p (ap_move rfl) rfl rfl rfl ?_
    all_goals (first | (refine aops_yes rfl rfl rfl rfl (by first | with_reducible assumption | with_reducible exact rfl | decide | (refine decide_eq_true ?_; omega) | (refine decide_eq_false ?_; omega)) ?_; (refine aops_p (ap_move rfl) rfl rfl rfl ?_)) | refine aops_no_u rfl rfl rfl ?_ | refine aops_no_t rfl rfl rfl rfl (by first | with_reducible assumption | with_reducible exact rfl | decide | (refine decide_eq_true ?_; omega) | (refine decide_eq_false ?_; omega)) ?_ | (refine aops_guard_t rfl rfl rfl rfl (fun hg => ?_) (fun hg => ?_); case' _ => (refine aops_p (ap_move rfl) rfl rfl rfl ?_)))
    all_goals (first | (refine aops_yes rfl rfl rfl rfl (by first | with_reducible assumption | with_reducible exact rfl | decide | (refine decide_eq_true ?_; omega) | (refine decide_eq_false ?_; omega)) ?_; (refine aops_p (ap_cmp rfl rfl rfl) rfl rfl rfl ?_)) | refine aops_no_u rfl rfl rfl ?_ | refine aops_no_t rfl rfl rfl rfl (by first | with_reducible assumption | with_reducible exact rfl | decide | (refine decide_eq_true ?_; omega) | (refine decide_eq_false ?_; omega)) ?_ | (refine aops_guard_t rfl rfl rfl rfl (fun hg => ?_) (fun hg => ?_); case' _ => (refine aops_p (ap_cmp rfl rfl rfl) rfl rfl rfl ?_)))
    all_goals (first | refine aops_p (ap_pick_true rfl (by first | with_reducible assumption | with_reducible exact rfl | decide | (refine decide_eq_true ?_; omega) | (refine decide_eq_false ?_; omega)) rfl) rfl rfl rfl ?_ | refine aops_p (ap_pick_false rfl (by first | with_reducible assumption | with_reducible exact rfl | decide | (refine decide_eq_true ?_; omega) | (refine decide_eq_false ?_; omega)) rfl) rfl rfl rfl ?_)
    all_goals (
      refine aops_nil ?_
      refine seqQ_n ?_
      refine awp_cond rfl (fun hc => ?_) (fun hc => ?_)
      · first
        | (exact absurd hc (by decide))
        | (have hlt := of_decide_eq_true hg
           have hs4 := of_decide_eq_true hc
           obtain ⟨x, hx, hd⟩ := drop_cons (l := t.inner) (k := k) (by omega)
           have hx' := avs_get hx
           have hxm := List.mem_of_getElem? hx
           refine awp_skip ?_
           refine seqQ_n ?_
           refine awp_seq ?_
           refine awp_block ?_
           refine awp_region ?_
           first | refine aops_p (ap_fieldAddr (off := 2) (sz := 1) (g := false) rfl rfl) rfl rfl rfl ?_ | refine aops_p (ap_fieldAddr_el (off := 2) (sz := 1) (g := false) rfl rfl (by repeat constructor)) rfl rfl rfl ?_
           first | refine aops_q (aq_load1 rfl (by repeat (first | exact .here | apply UpdF.there)) List.not_mem_nil rfl (by repeat constructor)) rfl rfl rfl ?_ | refine aops_q (aq_load_el1 rfl rfl (by first | exact .sl | exact .v rfl | exact .v (by assumption)) (fun _ h => absurd h List.not_mem_nil)) rfl rfl rfl ?_ | refine aops_q (aq_load_el1' rfl rfl (by first | exact .sl | exact .v rfl | exact .v (by assumption)) (fun _ h => absurd h List.not_mem_nil)) rfl rfl rfl ?_ | refine aops_q (aq_load_own1 rfl (by repeat (first | exact .here | apply UpdF.there)) List.not_mem_nil rfl (by first | with_reducible assumption | assumption | rfl) (by first | exact .sl | exact .v rfl | exact .v (by assumption))) rfl rfl rfl ?_
           refine aops_p (ap_move rfl) rfl rfl rfl ?_
           first | refine aops_p (ap_index rfl rfl rfl rfl (by decide) rfl (by first | with_reducible assumption | assumption | rfl)) rfl rfl rfl ?_ | refine aops_p (ap_index rfl rfl rfl rfl (by decide) (by omega) (by first | with_reducible assumption | assumption | rfl)) rfl rfl rfl ?_ | refine aops_p (ap_index_own rfl rfl rfl rfl rfl (by first | omega | (simp only [List.length_map, List.length_set, avs_len]; omega))) rfl rfl rfl ?_
           first | refine aops_q (aq_load rfl (by repeat (first | exact .here | apply UpdF.there)) List.not_mem_nil rfl rfl (by repeat constructor)) rfl rfl rfl ?_ | refine aops_q (aq_load_el rfl rfl rfl rfl (fun _ h => absurd h List.not_mem_nil)) rfl rfl rfl ?_
           refine aops_p (ap_move rfl) rfl rfl rfl ?_
           (refine aops_call (by repeat constructor) (ih x hxm s (by omega)) (by repeat (first | exact .nil | exact Split.none _ | apply Split.left | apply Split.right)) rfl rfl ?_; rintro _ _ ⟨r, rfl, hr1, hr2, rfl⟩)
           refine aops_p (ap_assign rfl) rfl rfl rfl ?_
           refine aops_nil ?_
           refine blockQ_n ?_
           refine seqQ_n ?_
           refine awp_region ?_
           refine aops_p (ap_move rfl) rfl rfl rfl ?_
           refine aops_p (ap_arith rfl rfl rfl (by omega)) rfl rfl rfl ?_
           refine aops_p (ap_assign rfl) rfl rfl rfl ?_
           refine aops_nil ?_
           refine seqQ_n ?_
           have hI2 := hI (by omega)
           rw [sizeL_drop hx] at hI2
           refine ⟨k + 1, r, ⟨by omega, by omega, fun h => ?_⟩, by omega, wk (by repeat (first | exact .nil | refine .cons rfl ?_)) (by repeat (first | exact .nil | refine .cons (by first | exact .here | exact .there .here | exact .there (.there .here) | exact .there (.there (.there .here)) | exact .there (.there (.there (.there .here)))) ?_))⟩
           have := hr2 h
           omega
          )
      · first
        | (exact absurd hc (by decide))
        | (refine awp_exit ?_
           refine seqQ_x ?_
           refine seqQ_x ?_
           refine blockQ_x rfl ?_
           refine seqQ_n ?_
           refine awp_seq ?_
           refine awp_region ?_
           refine aops_p (ap_move rfl) rfl rfl rfl ?_
           refine aops_p (ap_assign rfl) rfl rfl rfl ?_
           refine aops_nil ?_
           refine seqQ_n ?_
           refine awp_ret ?_
           refine post_ret (.tmp rfl .nil) (by repeat (first | exact .nil | refine .cons (by first | exact .here | exact .there .here | exact .there (.there .here) | exact .there (.there (.there .here)) | exact .there (.there (.there (.there .here)))) ?_)) ⟨_, rfl, by omega, fun h => ?_, rfl⟩
           have hI2 := hI h
           rw [sizeT_eq]
           first | (have hge := of_decide_eq_false hg; rw [drop_nil (by omega)] at hI2; simp only [sizeL] at hI2; omega) | (have := of_decide_eq_false hc; omega)
          )
      )
end Go.Proofs.Yteogidjgmeemlaa
