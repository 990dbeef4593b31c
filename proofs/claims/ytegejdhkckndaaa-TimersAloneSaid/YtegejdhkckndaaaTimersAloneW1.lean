/- The walks of: below_con, valid_con, has_con, rvalid_con, rhas_con, sat_con, rsize_con, size_con, rdepth_con, depth_con, rof_con, rcheck_con, rvalidT_con, node_con. Each says what one function of the program answers, for the arguments that its statement names. No condition beyond what each theorem says. -/
import Derived.Test.YtegejdhkckndaaaTq
import Derived.Test.YtegejdhkckndaaaProg
import Derived.KernelRfl
import Derived.Tactics
import Derived.Tactics2
import Derived.StillTactics
set_option linter.unusedVariables false
set_option linter.unusedSimpArgs false
set_option linter.unnecessarySimpa false
set_option maxRecDepth 4000
namespace Go.Proofs.Ytegejdhkckndaaa
open Go Go.Av Go.Tq
theorem zDec {p : Prop} (h : p := by first | with_reducible assumption | with_reducible exact rfl | decide | (refine decide_eq_true ?_; omega) | (refine decide_eq_false ?_; omega)) : p := h
theorem zUpd {p : Prop} (h : p := by repeat (first | exact .here | apply UpdF.there)) : p := h
theorem zScal {p : Prop} (h : p := by first | exact .sl | exact .v rfl | exact .v (by assumption)) : p := h
theorem zFlat {p : Prop} (h : p := by first | exact .agg | exact .sl | exact .v rfl | exact .v (by assumption)) : p := h
theorem zRc {p : Prop} (h : p := by repeat constructor) : p := h
theorem zSplit {p : Prop} (h : p := by repeat (first | exact .nil | exact Split.none _ | apply Split.left | apply Split.right)) : p := h
theorem zAss {p : Prop} (h : p := by first | with_reducible assumption | assumption | rfl) : p := h
theorem zSub {p : Prop} (h : p := by repeat (first | exact .nil | refine .cons rfl ?_)) : p := h
theorem zKr {p : Prop} (h : p := by kernel_rfl) : p := h
theorem shl1 (k : Nat) (hk : k ≤ 62) : 2 ^ k < 9223372036854775808 := Nat.lt_of_le_of_lt (Nat.pow_le_pow_right (by omega) hk) (by omega)
theorem pow_lt10 {k : Nat} (hk : k < 10) : 2 ^ k < 1024 := by
  have : k = 0 ∨ k = 1 ∨ k = 2 ∨ k = 3 ∨ k = 4 ∨ k = 5 ∨ k = 6 ∨ k = 7 ∨ k = 8 ∨ k = 9 := by omega
  rcases this with h | h | h | h | h | h | h | h | h | h <;> subst h <;> decide
theorem valid_nat {s : Int} (h : valid s = true) : ∃ m : Nat, s = m ∧ m < 1024 := by
  have h5 : 0 ≤ s ∧ s < 1024 := by simpa [valid] using h
  obtain ⟨m, rfl⟩ := Int.eq_ofNat_of_zero_le h5.1
  exact ⟨m, rfl, by omega⟩
theorem has_bit {m q : Nat} (h1 : valid (m : Int) = true) (h3 : q < 10) : (!decide (((m &&& 1 * 2 ^ q : Nat) : Int) = 0)) = has m q := by
  have h2 : (0 : Int) ≤ (q : Int) := by omega
  have h4 : (q : Int) < 10 := by omega
  have e := and_pow_ne m q
  rw [Nat.one_mul]
  unfold has
  rw [h1, decide_eq_true h2, decide_eq_true h4]
  simp only [Bool.true_and, Int.toNat_natCast]
  cases hb : m.testBit q with
  | true =>
    have := e.2 hb
    simp; omega
  | false =>
    have : m &&& 2 ^ q = 0 := by
      rcases Nat.eq_zero_or_pos (m &&& 2 ^ q) with h | h
      · exact h
      · have := e.1 (by omega); rw [hb] at this; cases this
    simp [this]
theorem has_bit' {m q : Nat} (h1 : valid (m : Int) = true) (h3 : q < 10) : decide (((m / 2 ^ q &&& 1 : Nat) : Int) = 1) = has m q := by
  have h2 : (0 : Int) ≤ (q : Int) := by omega
  have h4 : (q : Int) < 10 := by omega
  unfold has
  rw [h1, decide_eq_true h2, decide_eq_true h4]
  simp only [Bool.true_and, Int.toNat_natCast, Nat.testBit, Nat.shiftRight_eq_div_pow, Nat.and_comm 1]
  rcases Nat.mod_two_eq_zero_or_one (m / 2 ^ q) with h | h <;> simp [Nat.and_one_is_mod, h]
theorem below_con (s : Int) (k : Nat) (hk : k ≤ 62) : Con Try.prog 51 [.i s, .i k] [] (Is (.b (decide (0 ≤ s) && decide (s < 2 ^ k))) []) := by
  have hcap : capB = 140737488355328 := rfl
  have h2 := shl1 k hk
  refine con_intro Try.func51 rfl Try.call51 rfl ?_
  refine awp_seq ?_
  refine awp_region ?_
  refine aops_p (ap_assign rfl) rfl rfl rfl ?_
  refine aops_nil ?_
  refine seqQ_n ?_
  refine awp_seq ?_
  refine awp_region ?_
  refine aops_p (ap_move rfl) rfl rfl rfl ?_
  refine aops_p (ap_cmp rfl rfl rfl) rfl rfl rfl ?_
  refine aops_p (ap_move rfl) rfl rfl rfl ?_
  all_goals (first | (refine aops_yes rfl rfl rfl rfl zDec ?_; (refine aops_p (ap_move rfl) rfl rfl rfl ?_)) | refine aops_no_u rfl rfl rfl ?_ | refine aops_no_t rfl rfl rfl rfl zDec ?_ | (refine aops_guard_t rfl rfl rfl rfl (fun hg => ?_) (fun hg => ?_); case' _ => (refine aops_p (ap_move rfl) rfl rfl rfl ?_)))
  all_goals (first | (refine aops_yes rfl rfl rfl rfl zDec ?_; (refine aops_p (ap_move rfl) rfl rfl rfl ?_)) | refine aops_no_u rfl rfl rfl ?_ | refine aops_no_t rfl rfl rfl rfl zDec ?_ | (refine aops_guard_t rfl rfl rfl rfl (fun hg => ?_) (fun hg => ?_); case' _ => (refine aops_p (ap_move rfl) rfl rfl rfl ?_)))
  all_goals (first | (refine aops_yes rfl rfl rfl rfl zDec ?_; (refine aops_p (ap_shl (p := 1) rfl rfl rfl (by omega) (by omega)) rfl rfl rfl ?_)) | refine aops_no_u rfl rfl rfl ?_ | refine aops_no_t rfl rfl rfl rfl zDec ?_ | (refine aops_guard_t rfl rfl rfl rfl (fun hg => ?_) (fun hg => ?_); case' _ => (refine aops_p (ap_shl (p := 1) rfl rfl rfl (by omega) (by omega)) rfl rfl rfl ?_)))
  all_goals (first | (refine aops_yes rfl rfl rfl rfl zDec ?_; (refine aops_p (ap_cmp rfl rfl rfl) rfl rfl rfl ?_)) | refine aops_no_u rfl rfl rfl ?_ | refine aops_no_t rfl rfl rfl rfl zDec ?_ | (refine aops_guard_t rfl rfl rfl rfl (fun hg => ?_) (fun hg => ?_); case' _ => (refine aops_p (ap_cmp rfl rfl rfl) rfl rfl rfl ?_)))
  all_goals (first | refine aops_p (ap_pick_true rfl zDec rfl) rfl rfl rfl ?_ | refine aops_p (ap_pick_false rfl zDec rfl) rfl rfl rfl ?_)
  all_goals (refine aops_p (ap_assign rfl) rfl rfl rfl ?_)
  all_goals (
    refine aops_nil ?_
    refine seqQ_n ?_
    refine awp_ret ?_
    refine post_is (.tmp rfl .nil) .nil ?_
    first | (simp_all [resD]; done) | (simp_all [resD]; omega)
    )
theorem valid_con (s : Int) : Con Try.prog 28 [.i s] [] (Is (.b (valid s)) []) := by
  have hcap : capB = 140737488355328 := rfl
  refine con_intro Try.func28 rfl Try.call28 rfl ?_
  refine awp_seq ?_
  refine awp_region ?_
  refine aops_p (ap_assign rfl) rfl rfl rfl ?_
  refine aops_nil ?_
  refine seqQ_n ?_
  refine awp_seq ?_
  refine awp_region ?_
  refine aops_p (ap_move rfl) rfl rfl rfl ?_
  refine aops_call_v zRc (below_con _ 10 (by omega)) rfl rfl ?_
  refine aops_p (ap_assign rfl) rfl rfl rfl ?_
  refine aops_nil ?_
  refine seqQ_n ?_
  refine awp_ret ?_
  refine post_is (.tmp rfl .nil) .nil ?_
  simp [resD, valid]
theorem has_con (s k : Int) : Con Try.prog 30 [.i s, .i k] [] (Is (.b (has s k)) []) := by
  have hcap : capB = 140737488355328 := rfl
  by_cases h1 : valid s = true
  · by_cases h2 : 0 ≤ k
    · by_cases h3 : k < 10
      · obtain ⟨q, rfl⟩ := Int.eq_ofNat_of_zero_le h2
        obtain ⟨m, rfl, hm⟩ := valid_nat h1
        have hq := pow_lt10 (k := q) (by omega)
        have hdiv : m / 2 ^ q ≤ m := Nat.div_le_self _ _
        refine con_intro Try.func30 rfl Try.call30 rfl ?_
        refine awp_seq ?_
        refine awp_region ?_
        refine aops_p (ap_assign rfl) rfl rfl rfl ?_
        refine aops_nil ?_
        refine seqQ_n ?_
        refine awp_seq ?_
        refine awp_region ?_
        refine aops_p (ap_move rfl) rfl rfl rfl ?_
        refine aops_call_v zRc (valid_con _) rfl rfl ?_
        refine aops_p (ap_move rfl) rfl rfl rfl ?_
        all_goals (first | (refine aops_yes rfl rfl rfl rfl zDec ?_; (refine aops_p (ap_move rfl) rfl rfl rfl ?_)) | refine aops_no_u rfl rfl rfl ?_ | refine aops_no_t rfl rfl rfl rfl zDec ?_ | (refine aops_guard_t rfl rfl rfl rfl (fun hg => ?_) (fun hg => ?_); case' _ => (refine aops_p (ap_move rfl) rfl rfl rfl ?_)))
        all_goals (first | (refine aops_yes rfl rfl rfl rfl zDec ?_; (refine aops_p (ap_cmp rfl rfl rfl) rfl rfl rfl ?_)) | refine aops_no_u rfl rfl rfl ?_ | refine aops_no_t rfl rfl rfl rfl zDec ?_ | (refine aops_guard_t rfl rfl rfl rfl (fun hg => ?_) (fun hg => ?_); case' _ => (refine aops_p (ap_cmp rfl rfl rfl) rfl rfl rfl ?_)))
        all_goals (first | refine aops_p (ap_pick_true rfl zDec rfl) rfl rfl rfl ?_ | refine aops_p (ap_pick_false rfl zDec rfl) rfl rfl rfl ?_)
        all_goals (refine aops_p (ap_move rfl) rfl rfl rfl ?_)
        all_goals (first | (refine aops_yes rfl rfl rfl rfl zDec ?_; (refine aops_p (ap_move rfl) rfl rfl rfl ?_)) | refine aops_no_u rfl rfl rfl ?_ | refine aops_no_t rfl rfl rfl rfl zDec ?_ | (refine aops_guard_t rfl rfl rfl rfl (fun hg => ?_) (fun hg => ?_); case' _ => (refine aops_p (ap_move rfl) rfl rfl rfl ?_)))
        all_goals (first | (refine aops_yes rfl rfl rfl rfl zDec ?_; (refine aops_p (ap_cmp rfl rfl rfl) rfl rfl rfl ?_)) | refine aops_no_u rfl rfl rfl ?_ | refine aops_no_t rfl rfl rfl rfl zDec ?_ | (refine aops_guard_t rfl rfl rfl rfl (fun hg => ?_) (fun hg => ?_); case' _ => (refine aops_p (ap_cmp rfl rfl rfl) rfl rfl rfl ?_)))
        all_goals (first | refine aops_p (ap_pick_true rfl zDec rfl) rfl rfl rfl ?_ | refine aops_p (ap_pick_false rfl zDec rfl) rfl rfl rfl ?_)
        all_goals (refine aops_p (ap_move rfl) rfl rfl rfl ?_)
        all_goals (first | (refine aops_yes rfl rfl rfl rfl zDec ?_; (refine aops_p (ap_move rfl) rfl rfl rfl ?_)) | refine aops_no_u rfl rfl rfl ?_ | refine aops_no_t rfl rfl rfl rfl zDec ?_ | (refine aops_guard_t rfl rfl rfl rfl (fun hg => ?_) (fun hg => ?_); case' _ => (refine aops_p (ap_move rfl) rfl rfl rfl ?_)))
        all_goals (first | (refine aops_yes rfl rfl rfl rfl zDec ?_; (refine aops_p (ap_move rfl) rfl rfl rfl ?_)) | refine aops_no_u rfl rfl rfl ?_ | refine aops_no_t rfl rfl rfl rfl zDec ?_ | (refine aops_guard_t rfl rfl rfl rfl (fun hg => ?_) (fun hg => ?_); case' _ => (refine aops_p (ap_move rfl) rfl rfl rfl ?_)))
        all_goals (first | (refine aops_yes rfl rfl rfl rfl zDec ?_; (refine aops_p (ap_shl (p := 1) rfl rfl rfl (by omega) (by omega)) rfl rfl rfl ?_)) | refine aops_no_u rfl rfl rfl ?_ | refine aops_no_t rfl rfl rfl rfl zDec ?_ | (refine aops_guard_t rfl rfl rfl rfl (fun hg => ?_) (fun hg => ?_); case' _ => (refine aops_p (ap_shl (p := 1) rfl rfl rfl (by omega) (by omega)) rfl rfl rfl ?_)))
        all_goals (first | (refine aops_yes rfl rfl rfl rfl zDec ?_; (refine aops_p (ap_bits rfl rfl rfl (by omega) (by omega)) rfl rfl rfl ?_)) | refine aops_no_u rfl rfl rfl ?_ | refine aops_no_t rfl rfl rfl rfl zDec ?_ | (refine aops_guard_t rfl rfl rfl rfl (fun hg => ?_) (fun hg => ?_); case' _ => (refine aops_p (ap_bits rfl rfl rfl (by omega) (by omega)) rfl rfl rfl ?_)))
        all_goals (first | (refine aops_yes rfl rfl rfl rfl zDec ?_; (refine aops_p (ap_cmp rfl rfl rfl) rfl rfl rfl ?_)) | refine aops_no_u rfl rfl rfl ?_ | refine aops_no_t rfl rfl rfl rfl zDec ?_ | (refine aops_guard_t rfl rfl rfl rfl (fun hg => ?_) (fun hg => ?_); case' _ => (refine aops_p (ap_cmp rfl rfl rfl) rfl rfl rfl ?_)))
        all_goals (first | refine aops_p (ap_pick_true rfl zDec rfl) rfl rfl rfl ?_ | refine aops_p (ap_pick_false rfl zDec rfl) rfl rfl rfl ?_)
        all_goals (refine aops_p (ap_assign rfl) rfl rfl rfl ?_)
        all_goals (
          refine aops_nil ?_
          refine seqQ_n ?_
          refine awp_ret ?_
          refine post_is (.tmp rfl .nil) .nil ?_
          first | (simp [resD, has, h1]; done) | (simp [resD, has, h1, h2]; done) | (simp [resD, has, h1, h2, h3]; done) | exact congrArg D.b (has_bit h1 (by omega))
          )
      · refine con_intro Try.func30 rfl Try.call30 rfl ?_
        refine awp_seq ?_
        refine awp_region ?_
        refine aops_p (ap_assign rfl) rfl rfl rfl ?_
        refine aops_nil ?_
        refine seqQ_n ?_
        refine awp_seq ?_
        refine awp_region ?_
        refine aops_p (ap_move rfl) rfl rfl rfl ?_
        refine aops_call_v zRc (valid_con _) rfl rfl ?_
        refine aops_p (ap_move rfl) rfl rfl rfl ?_
        all_goals (first | (refine aops_yes rfl rfl rfl rfl zDec ?_; (refine aops_p (ap_move rfl) rfl rfl rfl ?_)) | refine aops_no_u rfl rfl rfl ?_ | refine aops_no_t rfl rfl rfl rfl zDec ?_ | (refine aops_guard_t rfl rfl rfl rfl (fun hg => ?_) (fun hg => ?_); case' _ => (refine aops_p (ap_move rfl) rfl rfl rfl ?_)))
        all_goals (first | (refine aops_yes rfl rfl rfl rfl zDec ?_; (refine aops_p (ap_cmp rfl rfl rfl) rfl rfl rfl ?_)) | refine aops_no_u rfl rfl rfl ?_ | refine aops_no_t rfl rfl rfl rfl zDec ?_ | (refine aops_guard_t rfl rfl rfl rfl (fun hg => ?_) (fun hg => ?_); case' _ => (refine aops_p (ap_cmp rfl rfl rfl) rfl rfl rfl ?_)))
        all_goals (first | refine aops_p (ap_pick_true rfl zDec rfl) rfl rfl rfl ?_ | refine aops_p (ap_pick_false rfl zDec rfl) rfl rfl rfl ?_)
        all_goals (refine aops_p (ap_move rfl) rfl rfl rfl ?_)
        all_goals (first | (refine aops_yes rfl rfl rfl rfl zDec ?_; (refine aops_p (ap_move rfl) rfl rfl rfl ?_)) | refine aops_no_u rfl rfl rfl ?_ | refine aops_no_t rfl rfl rfl rfl zDec ?_ | (refine aops_guard_t rfl rfl rfl rfl (fun hg => ?_) (fun hg => ?_); case' _ => (refine aops_p (ap_move rfl) rfl rfl rfl ?_)))
        all_goals (first | (refine aops_yes rfl rfl rfl rfl zDec ?_; (refine aops_p (ap_cmp rfl rfl rfl) rfl rfl rfl ?_)) | refine aops_no_u rfl rfl rfl ?_ | refine aops_no_t rfl rfl rfl rfl zDec ?_ | (refine aops_guard_t rfl rfl rfl rfl (fun hg => ?_) (fun hg => ?_); case' _ => (refine aops_p (ap_cmp rfl rfl rfl) rfl rfl rfl ?_)))
        all_goals (first | refine aops_p (ap_pick_true rfl zDec rfl) rfl rfl rfl ?_ | refine aops_p (ap_pick_false rfl zDec rfl) rfl rfl rfl ?_)
        all_goals (refine aops_p (ap_move rfl) rfl rfl rfl ?_)
        all_goals (first | (refine aops_yes rfl rfl rfl rfl zDec ?_; (refine aops_p (ap_move rfl) rfl rfl rfl ?_)) | refine aops_no_u rfl rfl rfl ?_ | refine aops_no_t rfl rfl rfl rfl zDec ?_ | (refine aops_guard_t rfl rfl rfl rfl (fun hg => ?_) (fun hg => ?_); case' _ => (refine aops_p (ap_move rfl) rfl rfl rfl ?_)))
        all_goals (first | (refine aops_yes rfl rfl rfl rfl zDec ?_; (refine aops_p (ap_move rfl) rfl rfl rfl ?_)) | refine aops_no_u rfl rfl rfl ?_ | refine aops_no_t rfl rfl rfl rfl zDec ?_ | (refine aops_guard_t rfl rfl rfl rfl (fun hg => ?_) (fun hg => ?_); case' _ => (refine aops_p (ap_move rfl) rfl rfl rfl ?_)))
        all_goals (first | (refine aops_yes rfl rfl rfl rfl zDec ?_; (refine aops_p (ap_shl (p := 1) rfl rfl rfl (by omega) (by omega)) rfl rfl rfl ?_)) | refine aops_no_u rfl rfl rfl ?_ | refine aops_no_t rfl rfl rfl rfl zDec ?_ | (refine aops_guard_t rfl rfl rfl rfl (fun hg => ?_) (fun hg => ?_); case' _ => (refine aops_p (ap_shl (p := 1) rfl rfl rfl (by omega) (by omega)) rfl rfl rfl ?_)))
        all_goals (first | (refine aops_yes rfl rfl rfl rfl zDec ?_; (refine aops_p (ap_bits rfl rfl rfl (by omega) (by omega)) rfl rfl rfl ?_)) | refine aops_no_u rfl rfl rfl ?_ | refine aops_no_t rfl rfl rfl rfl zDec ?_ | (refine aops_guard_t rfl rfl rfl rfl (fun hg => ?_) (fun hg => ?_); case' _ => (refine aops_p (ap_bits rfl rfl rfl (by omega) (by omega)) rfl rfl rfl ?_)))
        all_goals (first | (refine aops_yes rfl rfl rfl rfl zDec ?_; (refine aops_p (ap_cmp rfl rfl rfl) rfl rfl rfl ?_)) | refine aops_no_u rfl rfl rfl ?_ | refine aops_no_t rfl rfl rfl rfl zDec ?_ | (refine aops_guard_t rfl rfl rfl rfl (fun hg => ?_) (fun hg => ?_); case' _ => (refine aops_p (ap_cmp rfl rfl rfl) rfl rfl rfl ?_)))
        all_goals (first | refine aops_p (ap_pick_true rfl zDec rfl) rfl rfl rfl ?_ | refine aops_p (ap_pick_false rfl zDec rfl) rfl rfl rfl ?_)
        all_goals (refine aops_p (ap_assign rfl) rfl rfl rfl ?_)
        all_goals (
          refine aops_nil ?_
          refine seqQ_n ?_
          refine awp_ret ?_
          refine post_is (.tmp rfl .nil) .nil ?_
          first | (simp [resD, has, h1]; done) | (simp [resD, has, h1, h2]; done) | (simp [resD, has, h1, h2, h3]; done) | exact congrArg D.b (has_bit h1 (by omega))
          )
    · refine con_intro Try.func30 rfl Try.call30 rfl ?_
      refine awp_seq ?_
      refine awp_region ?_
      refine aops_p (ap_assign rfl) rfl rfl rfl ?_
      refine aops_nil ?_
      refine seqQ_n ?_
      refine awp_seq ?_
      refine awp_region ?_
      refine aops_p (ap_move rfl) rfl rfl rfl ?_
      refine aops_call_v zRc (valid_con _) rfl rfl ?_
      refine aops_p (ap_move rfl) rfl rfl rfl ?_
      all_goals (first | (refine aops_yes rfl rfl rfl rfl zDec ?_; (refine aops_p (ap_move rfl) rfl rfl rfl ?_)) | refine aops_no_u rfl rfl rfl ?_ | refine aops_no_t rfl rfl rfl rfl zDec ?_ | (refine aops_guard_t rfl rfl rfl rfl (fun hg => ?_) (fun hg => ?_); case' _ => (refine aops_p (ap_move rfl) rfl rfl rfl ?_)))
      all_goals (first | (refine aops_yes rfl rfl rfl rfl zDec ?_; (refine aops_p (ap_cmp rfl rfl rfl) rfl rfl rfl ?_)) | refine aops_no_u rfl rfl rfl ?_ | refine aops_no_t rfl rfl rfl rfl zDec ?_ | (refine aops_guard_t rfl rfl rfl rfl (fun hg => ?_) (fun hg => ?_); case' _ => (refine aops_p (ap_cmp rfl rfl rfl) rfl rfl rfl ?_)))
      all_goals (first | refine aops_p (ap_pick_true rfl zDec rfl) rfl rfl rfl ?_ | refine aops_p (ap_pick_false rfl zDec rfl) rfl rfl rfl ?_)
      all_goals (refine aops_p (ap_move rfl) rfl rfl rfl ?_)
      all_goals (first | (refine aops_yes rfl rfl rfl rfl zDec ?_; (refine aops_p (ap_move rfl) rfl rfl rfl ?_)) | refine aops_no_u rfl rfl rfl ?_ | refine aops_no_t rfl rfl rfl rfl zDec ?_ | (refine aops_guard_t rfl rfl rfl rfl (fun hg => ?_) (fun hg => ?_); case' _ => (refine aops_p (ap_move rfl) rfl rfl rfl ?_)))
      all_goals (first | (refine aops_yes rfl rfl rfl rfl zDec ?_; (refine aops_p (ap_cmp rfl rfl rfl) rfl rfl rfl ?_)) | refine aops_no_u rfl rfl rfl ?_ | refine aops_no_t rfl rfl rfl rfl zDec ?_ | (refine aops_guard_t rfl rfl rfl rfl (fun hg => ?_) (fun hg => ?_); case' _ => (refine aops_p (ap_cmp rfl rfl rfl) rfl rfl rfl ?_)))
      all_goals (first | refine aops_p (ap_pick_true rfl zDec rfl) rfl rfl rfl ?_ | refine aops_p (ap_pick_false rfl zDec rfl) rfl rfl rfl ?_)
      all_goals (refine aops_p (ap_move rfl) rfl rfl rfl ?_)
      all_goals (first | (refine aops_yes rfl rfl rfl rfl zDec ?_; (refine aops_p (ap_move rfl) rfl rfl rfl ?_)) | refine aops_no_u rfl rfl rfl ?_ | refine aops_no_t rfl rfl rfl rfl zDec ?_ | (refine aops_guard_t rfl rfl rfl rfl (fun hg => ?_) (fun hg => ?_); case' _ => (refine aops_p (ap_move rfl) rfl rfl rfl ?_)))
      all_goals (first | (refine aops_yes rfl rfl rfl rfl zDec ?_; (refine aops_p (ap_move rfl) rfl rfl rfl ?_)) | refine aops_no_u rfl rfl rfl ?_ | refine aops_no_t rfl rfl rfl rfl zDec ?_ | (refine aops_guard_t rfl rfl rfl rfl (fun hg => ?_) (fun hg => ?_); case' _ => (refine aops_p (ap_move rfl) rfl rfl rfl ?_)))
      all_goals (first | (refine aops_yes rfl rfl rfl rfl zDec ?_; (refine aops_p (ap_shl (p := 1) rfl rfl rfl (by omega) (by omega)) rfl rfl rfl ?_)) | refine aops_no_u rfl rfl rfl ?_ | refine aops_no_t rfl rfl rfl rfl zDec ?_ | (refine aops_guard_t rfl rfl rfl rfl (fun hg => ?_) (fun hg => ?_); case' _ => (refine aops_p (ap_shl (p := 1) rfl rfl rfl (by omega) (by omega)) rfl rfl rfl ?_)))
      all_goals (first | (refine aops_yes rfl rfl rfl rfl zDec ?_; (refine aops_p (ap_bits rfl rfl rfl (by omega) (by omega)) rfl rfl rfl ?_)) | refine aops_no_u rfl rfl rfl ?_ | refine aops_no_t rfl rfl rfl rfl zDec ?_ | (refine aops_guard_t rfl rfl rfl rfl (fun hg => ?_) (fun hg => ?_); case' _ => (refine aops_p (ap_bits rfl rfl rfl (by omega) (by omega)) rfl rfl rfl ?_)))
      all_goals (first | (refine aops_yes rfl rfl rfl rfl zDec ?_; (refine aops_p (ap_cmp rfl rfl rfl) rfl rfl rfl ?_)) | refine aops_no_u rfl rfl rfl ?_ | refine aops_no_t rfl rfl rfl rfl zDec ?_ | (refine aops_guard_t rfl rfl rfl rfl (fun hg => ?_) (fun hg => ?_); case' _ => (refine aops_p (ap_cmp rfl rfl rfl) rfl rfl rfl ?_)))
      all_goals (first | refine aops_p (ap_pick_true rfl zDec rfl) rfl rfl rfl ?_ | refine aops_p (ap_pick_false rfl zDec rfl) rfl rfl rfl ?_)
      all_goals (refine aops_p (ap_assign rfl) rfl rfl rfl ?_)
      all_goals (
        refine aops_nil ?_
        refine seqQ_n ?_
        refine awp_ret ?_
        refine post_is (.tmp rfl .nil) .nil ?_
        first | (simp [resD, has, h1]; done) | (simp [resD, has, h1, h2]; done) | (simp [resD, has, h1, h2, h3]; done) | exact congrArg D.b (has_bit h1 (by omega))
        )
  · have h1 : valid s = false := by simpa using h1
    refine con_intro Try.func30 rfl Try.call30 rfl ?_
    refine awp_seq ?_
    refine awp_region ?_
    refine aops_p (ap_assign rfl) rfl rfl rfl ?_
    refine aops_nil ?_
    refine seqQ_n ?_
    refine awp_seq ?_
    refine awp_region ?_
    refine aops_p (ap_move rfl) rfl rfl rfl ?_
    refine aops_call_v zRc (valid_con _) rfl rfl ?_
    refine aops_p (ap_move rfl) rfl rfl rfl ?_
    all_goals (first | (refine aops_yes rfl rfl rfl rfl zDec ?_; (refine aops_p (ap_move rfl) rfl rfl rfl ?_)) | refine aops_no_u rfl rfl rfl ?_ | refine aops_no_t rfl rfl rfl rfl zDec ?_ | (refine aops_guard_t rfl rfl rfl rfl (fun hg => ?_) (fun hg => ?_); case' _ => (refine aops_p (ap_move rfl) rfl rfl rfl ?_)))
    all_goals (first | (refine aops_yes rfl rfl rfl rfl zDec ?_; (refine aops_p (ap_cmp rfl rfl rfl) rfl rfl rfl ?_)) | refine aops_no_u rfl rfl rfl ?_ | refine aops_no_t rfl rfl rfl rfl zDec ?_ | (refine aops_guard_t rfl rfl rfl rfl (fun hg => ?_) (fun hg => ?_); case' _ => (refine aops_p (ap_cmp rfl rfl rfl) rfl rfl rfl ?_)))
    all_goals (first | refine aops_p (ap_pick_true rfl zDec rfl) rfl rfl rfl ?_ | refine aops_p (ap_pick_false rfl zDec rfl) rfl rfl rfl ?_)
    all_goals (refine aops_p (ap_move rfl) rfl rfl rfl ?_)
    all_goals (first | (refine aops_yes rfl rfl rfl rfl zDec ?_; (refine aops_p (ap_move rfl) rfl rfl rfl ?_)) | refine aops_no_u rfl rfl rfl ?_ | refine aops_no_t rfl rfl rfl rfl zDec ?_ | (refine aops_guard_t rfl rfl rfl rfl (fun hg => ?_) (fun hg => ?_); case' _ => (refine aops_p (ap_move rfl) rfl rfl rfl ?_)))
    all_goals (first | (refine aops_yes rfl rfl rfl rfl zDec ?_; (refine aops_p (ap_cmp rfl rfl rfl) rfl rfl rfl ?_)) | refine aops_no_u rfl rfl rfl ?_ | refine aops_no_t rfl rfl rfl rfl zDec ?_ | (refine aops_guard_t rfl rfl rfl rfl (fun hg => ?_) (fun hg => ?_); case' _ => (refine aops_p (ap_cmp rfl rfl rfl) rfl rfl rfl ?_)))
    all_goals (first | refine aops_p (ap_pick_true rfl zDec rfl) rfl rfl rfl ?_ | refine aops_p (ap_pick_false rfl zDec rfl) rfl rfl rfl ?_)
    all_goals (refine aops_p (ap_move rfl) rfl rfl rfl ?_)
    all_goals (first | (refine aops_yes rfl rfl rfl rfl zDec ?_; (refine aops_p (ap_move rfl) rfl rfl rfl ?_)) | refine aops_no_u rfl rfl rfl ?_ | refine aops_no_t rfl rfl rfl rfl zDec ?_ | (refine aops_guard_t rfl rfl rfl rfl (fun hg => ?_) (fun hg => ?_); case' _ => (refine aops_p (ap_move rfl) rfl rfl rfl ?_)))
    all_goals (first | (refine aops_yes rfl rfl rfl rfl zDec ?_; (refine aops_p (ap_move rfl) rfl rfl rfl ?_)) | refine aops_no_u rfl rfl rfl ?_ | refine aops_no_t rfl rfl rfl rfl zDec ?_ | (refine aops_guard_t rfl rfl rfl rfl (fun hg => ?_) (fun hg => ?_); case' _ => (refine aops_p (ap_move rfl) rfl rfl rfl ?_)))
    all_goals (first | (refine aops_yes rfl rfl rfl rfl zDec ?_; (refine aops_p (ap_shl (p := 1) rfl rfl rfl (by omega) (by omega)) rfl rfl rfl ?_)) | refine aops_no_u rfl rfl rfl ?_ | refine aops_no_t rfl rfl rfl rfl zDec ?_ | (refine aops_guard_t rfl rfl rfl rfl (fun hg => ?_) (fun hg => ?_); case' _ => (refine aops_p (ap_shl (p := 1) rfl rfl rfl (by omega) (by omega)) rfl rfl rfl ?_)))
    all_goals (first | (refine aops_yes rfl rfl rfl rfl zDec ?_; (refine aops_p (ap_bits rfl rfl rfl (by omega) (by omega)) rfl rfl rfl ?_)) | refine aops_no_u rfl rfl rfl ?_ | refine aops_no_t rfl rfl rfl rfl zDec ?_ | (refine aops_guard_t rfl rfl rfl rfl (fun hg => ?_) (fun hg => ?_); case' _ => (refine aops_p (ap_bits rfl rfl rfl (by omega) (by omega)) rfl rfl rfl ?_)))
    all_goals (first | (refine aops_yes rfl rfl rfl rfl zDec ?_; (refine aops_p (ap_cmp rfl rfl rfl) rfl rfl rfl ?_)) | refine aops_no_u rfl rfl rfl ?_ | refine aops_no_t rfl rfl rfl rfl zDec ?_ | (refine aops_guard_t rfl rfl rfl rfl (fun hg => ?_) (fun hg => ?_); case' _ => (refine aops_p (ap_cmp rfl rfl rfl) rfl rfl rfl ?_)))
    all_goals (first | refine aops_p (ap_pick_true rfl zDec rfl) rfl rfl rfl ?_ | refine aops_p (ap_pick_false rfl zDec rfl) rfl rfl rfl ?_)
    all_goals (refine aops_p (ap_assign rfl) rfl rfl rfl ?_)
    all_goals (
      refine aops_nil ?_
      refine seqQ_n ?_
      refine awp_ret ?_
      refine post_is (.tmp rfl .nil) .nil ?_
      first | (simp [resD, has, h1]; done) | (simp [resD, has, h1, h2]; done) | (simp [resD, has, h1, h2, h3]; done) | exact congrArg D.b (has_bit h1 (by omega))
      )
theorem rvalid_con (s : Int) : Con Try.prog 50 [.i s] [] (Is (.b (valid s)) []) := by
  have hcap : capB = 140737488355328 := rfl
  refine con_intro Try.func50 rfl Try.call50 rfl ?_
  refine awp_seq ?_
  refine awp_region ?_
  refine aops_p (ap_assign rfl) rfl rfl rfl ?_
  refine aops_nil ?_
  refine seqQ_n ?_
  refine awp_seq ?_
  refine awp_region ?_
  refine aops_p (ap_move rfl) rfl rfl rfl ?_
  refine aops_p (ap_cmp rfl rfl rfl) rfl rfl rfl ?_
  refine aops_p (ap_move rfl) rfl rfl rfl ?_
  all_goals (first | (refine aops_yes rfl rfl rfl rfl zDec ?_; (refine aops_p (ap_move rfl) rfl rfl rfl ?_)) | refine aops_no_u rfl rfl rfl ?_ | refine aops_no_t rfl rfl rfl rfl zDec ?_ | (refine aops_guard_t rfl rfl rfl rfl (fun hg => ?_) (fun hg => ?_); case' _ => (refine aops_p (ap_move rfl) rfl rfl rfl ?_)))
  all_goals (first | (refine aops_yes rfl rfl rfl rfl zDec ?_; (refine aops_p (ap_cmp rfl rfl rfl) rfl rfl rfl ?_)) | refine aops_no_u rfl rfl rfl ?_ | refine aops_no_t rfl rfl rfl rfl zDec ?_ | (refine aops_guard_t rfl rfl rfl rfl (fun hg => ?_) (fun hg => ?_); case' _ => (refine aops_p (ap_cmp rfl rfl rfl) rfl rfl rfl ?_)))
  all_goals (first | refine aops_p (ap_pick_true rfl zDec rfl) rfl rfl rfl ?_ | refine aops_p (ap_pick_false rfl zDec rfl) rfl rfl rfl ?_)
  all_goals (refine aops_p (ap_assign rfl) rfl rfl rfl ?_)
  all_goals (
    refine aops_nil ?_
    refine seqQ_n ?_
    refine awp_ret ?_
    refine post_is (.tmp rfl .nil) .nil ?_
    first | (simp_all [resD, valid]; done) | (simp_all [resD, valid]; omega)
    )
theorem rhas_con (s k : Int) : Con Try.prog 27 [.i s, .i k] [] (Is (.b (has s k)) []) := by
  have hcap : capB = 140737488355328 := rfl
  by_cases h1 : valid s = true
  · by_cases h2 : 0 ≤ k
    · by_cases h3 : k < 10
      · obtain ⟨q, rfl⟩ := Int.eq_ofNat_of_zero_le h2
        obtain ⟨m, rfl, hm⟩ := valid_nat h1
        have hq := pow_lt10 (k := q) (by omega)
        have hdiv : m / 2 ^ q ≤ m := Nat.div_le_self _ _
        refine con_intro Try.func27 rfl Try.call27 rfl ?_
        refine awp_seq ?_
        refine awp_region ?_
        refine aops_p (ap_assign rfl) rfl rfl rfl ?_
        refine aops_nil ?_
        refine seqQ_n ?_
        refine awp_seq ?_
        refine awp_region ?_
        refine aops_p (ap_move rfl) rfl rfl rfl ?_
        refine aops_call_v zRc (rvalid_con _) rfl rfl ?_
        refine aops_p (ap_move rfl) rfl rfl rfl ?_
        all_goals (first | (refine aops_yes rfl rfl rfl rfl zDec ?_; (refine aops_p (ap_move rfl) rfl rfl rfl ?_)) | refine aops_no_u rfl rfl rfl ?_ | refine aops_no_t rfl rfl rfl rfl zDec ?_ | (refine aops_guard_t rfl rfl rfl rfl (fun hg => ?_) (fun hg => ?_); case' _ => (refine aops_p (ap_move rfl) rfl rfl rfl ?_)))
        all_goals (first | (refine aops_yes rfl rfl rfl rfl zDec ?_; (refine aops_p (ap_cmp rfl rfl rfl) rfl rfl rfl ?_)) | refine aops_no_u rfl rfl rfl ?_ | refine aops_no_t rfl rfl rfl rfl zDec ?_ | (refine aops_guard_t rfl rfl rfl rfl (fun hg => ?_) (fun hg => ?_); case' _ => (refine aops_p (ap_cmp rfl rfl rfl) rfl rfl rfl ?_)))
        all_goals (first | refine aops_p (ap_pick_true rfl zDec rfl) rfl rfl rfl ?_ | refine aops_p (ap_pick_false rfl zDec rfl) rfl rfl rfl ?_)
        all_goals (refine aops_p (ap_move rfl) rfl rfl rfl ?_)
        all_goals (first | (refine aops_yes rfl rfl rfl rfl zDec ?_; (refine aops_p (ap_move rfl) rfl rfl rfl ?_)) | refine aops_no_u rfl rfl rfl ?_ | refine aops_no_t rfl rfl rfl rfl zDec ?_ | (refine aops_guard_t rfl rfl rfl rfl (fun hg => ?_) (fun hg => ?_); case' _ => (refine aops_p (ap_move rfl) rfl rfl rfl ?_)))
        all_goals (first | (refine aops_yes rfl rfl rfl rfl zDec ?_; (refine aops_p (ap_cmp rfl rfl rfl) rfl rfl rfl ?_)) | refine aops_no_u rfl rfl rfl ?_ | refine aops_no_t rfl rfl rfl rfl zDec ?_ | (refine aops_guard_t rfl rfl rfl rfl (fun hg => ?_) (fun hg => ?_); case' _ => (refine aops_p (ap_cmp rfl rfl rfl) rfl rfl rfl ?_)))
        all_goals (first | refine aops_p (ap_pick_true rfl zDec rfl) rfl rfl rfl ?_ | refine aops_p (ap_pick_false rfl zDec rfl) rfl rfl rfl ?_)
        all_goals (refine aops_p (ap_move rfl) rfl rfl rfl ?_)
        all_goals (first | (refine aops_yes rfl rfl rfl rfl zDec ?_; (refine aops_p (ap_move rfl) rfl rfl rfl ?_)) | refine aops_no_u rfl rfl rfl ?_ | refine aops_no_t rfl rfl rfl rfl zDec ?_ | (refine aops_guard_t rfl rfl rfl rfl (fun hg => ?_) (fun hg => ?_); case' _ => (refine aops_p (ap_move rfl) rfl rfl rfl ?_)))
        all_goals (first | (refine aops_yes rfl rfl rfl rfl zDec ?_; (refine aops_p (ap_move rfl) rfl rfl rfl ?_)) | refine aops_no_u rfl rfl rfl ?_ | refine aops_no_t rfl rfl rfl rfl zDec ?_ | (refine aops_guard_t rfl rfl rfl rfl (fun hg => ?_) (fun hg => ?_); case' _ => (refine aops_p (ap_move rfl) rfl rfl rfl ?_)))
        all_goals (first | (refine aops_yes rfl rfl rfl rfl zDec ?_; (refine aops_p (ap_shr rfl rfl (by omega)) rfl rfl rfl ?_)) | refine aops_no_u rfl rfl rfl ?_ | refine aops_no_t rfl rfl rfl rfl zDec ?_ | (refine aops_guard_t rfl rfl rfl rfl (fun hg => ?_) (fun hg => ?_); case' _ => (refine aops_p (ap_shr rfl rfl (by omega)) rfl rfl rfl ?_)))
        all_goals (first | (refine aops_yes rfl rfl rfl rfl zDec ?_; (refine aops_p (ap_bits (q := 1) rfl rfl rfl (by omega) (by omega)) rfl rfl rfl ?_)) | refine aops_no_u rfl rfl rfl ?_ | refine aops_no_t rfl rfl rfl rfl zDec ?_ | (refine aops_guard_t rfl rfl rfl rfl (fun hg => ?_) (fun hg => ?_); case' _ => (refine aops_p (ap_bits (q := 1) rfl rfl rfl (by omega) (by omega)) rfl rfl rfl ?_)))
        all_goals (first | (refine aops_yes rfl rfl rfl rfl zDec ?_; (refine aops_p (ap_cmp rfl rfl rfl) rfl rfl rfl ?_)) | refine aops_no_u rfl rfl rfl ?_ | refine aops_no_t rfl rfl rfl rfl zDec ?_ | (refine aops_guard_t rfl rfl rfl rfl (fun hg => ?_) (fun hg => ?_); case' _ => (refine aops_p (ap_cmp rfl rfl rfl) rfl rfl rfl ?_)))
        all_goals (first | refine aops_p (ap_pick_true rfl zDec rfl) rfl rfl rfl ?_ | refine aops_p (ap_pick_false rfl zDec rfl) rfl rfl rfl ?_)
        all_goals (refine aops_p (ap_assign rfl) rfl rfl rfl ?_)
        all_goals (
          refine aops_nil ?_
          refine seqQ_n ?_
          refine awp_ret ?_
          refine post_is (.tmp rfl .nil) .nil ?_
          first | (simp [resD, has, h1]; done) | (simp [resD, has, h1, h2]; done) | (simp [resD, has, h1, h2, h3]; done) | exact congrArg D.b (has_bit' h1 (by omega))
          )
      · refine con_intro Try.func27 rfl Try.call27 rfl ?_
        refine awp_seq ?_
        refine awp_region ?_
        refine aops_p (ap_assign rfl) rfl rfl rfl ?_
        refine aops_nil ?_
        refine seqQ_n ?_
        refine awp_seq ?_
        refine awp_region ?_
        refine aops_p (ap_move rfl) rfl rfl rfl ?_
        refine aops_call_v zRc (rvalid_con _) rfl rfl ?_
        refine aops_p (ap_move rfl) rfl rfl rfl ?_
        all_goals (first | (refine aops_yes rfl rfl rfl rfl zDec ?_; (refine aops_p (ap_move rfl) rfl rfl rfl ?_)) | refine aops_no_u rfl rfl rfl ?_ | refine aops_no_t rfl rfl rfl rfl zDec ?_ | (refine aops_guard_t rfl rfl rfl rfl (fun hg => ?_) (fun hg => ?_); case' _ => (refine aops_p (ap_move rfl) rfl rfl rfl ?_)))
        all_goals (first | (refine aops_yes rfl rfl rfl rfl zDec ?_; (refine aops_p (ap_cmp rfl rfl rfl) rfl rfl rfl ?_)) | refine aops_no_u rfl rfl rfl ?_ | refine aops_no_t rfl rfl rfl rfl zDec ?_ | (refine aops_guard_t rfl rfl rfl rfl (fun hg => ?_) (fun hg => ?_); case' _ => (refine aops_p (ap_cmp rfl rfl rfl) rfl rfl rfl ?_)))
        all_goals (first | refine aops_p (ap_pick_true rfl zDec rfl) rfl rfl rfl ?_ | refine aops_p (ap_pick_false rfl zDec rfl) rfl rfl rfl ?_)
        all_goals (refine aops_p (ap_move rfl) rfl rfl rfl ?_)
        all_goals (first | (refine aops_yes rfl rfl rfl rfl zDec ?_; (refine aops_p (ap_move rfl) rfl rfl rfl ?_)) | refine aops_no_u rfl rfl rfl ?_ | refine aops_no_t rfl rfl rfl rfl zDec ?_ | (refine aops_guard_t rfl rfl rfl rfl (fun hg => ?_) (fun hg => ?_); case' _ => (refine aops_p (ap_move rfl) rfl rfl rfl ?_)))
        all_goals (first | (refine aops_yes rfl rfl rfl rfl zDec ?_; (refine aops_p (ap_cmp rfl rfl rfl) rfl rfl rfl ?_)) | refine aops_no_u rfl rfl rfl ?_ | refine aops_no_t rfl rfl rfl rfl zDec ?_ | (refine aops_guard_t rfl rfl rfl rfl (fun hg => ?_) (fun hg => ?_); case' _ => (refine aops_p (ap_cmp rfl rfl rfl) rfl rfl rfl ?_)))
        all_goals (first | refine aops_p (ap_pick_true rfl zDec rfl) rfl rfl rfl ?_ | refine aops_p (ap_pick_false rfl zDec rfl) rfl rfl rfl ?_)
        all_goals (refine aops_p (ap_move rfl) rfl rfl rfl ?_)
        all_goals (first | (refine aops_yes rfl rfl rfl rfl zDec ?_; (refine aops_p (ap_move rfl) rfl rfl rfl ?_)) | refine aops_no_u rfl rfl rfl ?_ | refine aops_no_t rfl rfl rfl rfl zDec ?_ | (refine aops_guard_t rfl rfl rfl rfl (fun hg => ?_) (fun hg => ?_); case' _ => (refine aops_p (ap_move rfl) rfl rfl rfl ?_)))
        all_goals (first | (refine aops_yes rfl rfl rfl rfl zDec ?_; (refine aops_p (ap_move rfl) rfl rfl rfl ?_)) | refine aops_no_u rfl rfl rfl ?_ | refine aops_no_t rfl rfl rfl rfl zDec ?_ | (refine aops_guard_t rfl rfl rfl rfl (fun hg => ?_) (fun hg => ?_); case' _ => (refine aops_p (ap_move rfl) rfl rfl rfl ?_)))
        all_goals (first | (refine aops_yes rfl rfl rfl rfl zDec ?_; (refine aops_p (ap_shr rfl rfl (by omega)) rfl rfl rfl ?_)) | refine aops_no_u rfl rfl rfl ?_ | refine aops_no_t rfl rfl rfl rfl zDec ?_ | (refine aops_guard_t rfl rfl rfl rfl (fun hg => ?_) (fun hg => ?_); case' _ => (refine aops_p (ap_shr rfl rfl (by omega)) rfl rfl rfl ?_)))
        all_goals (first | (refine aops_yes rfl rfl rfl rfl zDec ?_; (refine aops_p (ap_bits (q := 1) rfl rfl rfl (by omega) (by omega)) rfl rfl rfl ?_)) | refine aops_no_u rfl rfl rfl ?_ | refine aops_no_t rfl rfl rfl rfl zDec ?_ | (refine aops_guard_t rfl rfl rfl rfl (fun hg => ?_) (fun hg => ?_); case' _ => (refine aops_p (ap_bits (q := 1) rfl rfl rfl (by omega) (by omega)) rfl rfl rfl ?_)))
        all_goals (first | (refine aops_yes rfl rfl rfl rfl zDec ?_; (refine aops_p (ap_cmp rfl rfl rfl) rfl rfl rfl ?_)) | refine aops_no_u rfl rfl rfl ?_ | refine aops_no_t rfl rfl rfl rfl zDec ?_ | (refine aops_guard_t rfl rfl rfl rfl (fun hg => ?_) (fun hg => ?_); case' _ => (refine aops_p (ap_cmp rfl rfl rfl) rfl rfl rfl ?_)))
        all_goals (first | refine aops_p (ap_pick_true rfl zDec rfl) rfl rfl rfl ?_ | refine aops_p (ap_pick_false rfl zDec rfl) rfl rfl rfl ?_)
        all_goals (refine aops_p (ap_assign rfl) rfl rfl rfl ?_)
        all_goals (
          refine aops_nil ?_
          refine seqQ_n ?_
          refine awp_ret ?_
          refine post_is (.tmp rfl .nil) .nil ?_
          first | (simp [resD, has, h1]; done) | (simp [resD, has, h1, h2]; done) | (simp [resD, has, h1, h2, h3]; done) | exact congrArg D.b (has_bit' h1 (by omega))
          )
    · refine con_intro Try.func27 rfl Try.call27 rfl ?_
      refine awp_seq ?_
      refine awp_region ?_
      refine aops_p (ap_assign rfl) rfl rfl rfl ?_
      refine aops_nil ?_
      refine seqQ_n ?_
      refine awp_seq ?_
      refine awp_region ?_
      refine aops_p (ap_move rfl) rfl rfl rfl ?_
      refine aops_call_v zRc (rvalid_con _) rfl rfl ?_
      refine aops_p (ap_move rfl) rfl rfl rfl ?_
      all_goals (first | (refine aops_yes rfl rfl rfl rfl zDec ?_; (refine aops_p (ap_move rfl) rfl rfl rfl ?_)) | refine aops_no_u rfl rfl rfl ?_ | refine aops_no_t rfl rfl rfl rfl zDec ?_ | (refine aops_guard_t rfl rfl rfl rfl (fun hg => ?_) (fun hg => ?_); case' _ => (refine aops_p (ap_move rfl) rfl rfl rfl ?_)))
      all_goals (first | (refine aops_yes rfl rfl rfl rfl zDec ?_; (refine aops_p (ap_cmp rfl rfl rfl) rfl rfl rfl ?_)) | refine aops_no_u rfl rfl rfl ?_ | refine aops_no_t rfl rfl rfl rfl zDec ?_ | (refine aops_guard_t rfl rfl rfl rfl (fun hg => ?_) (fun hg => ?_); case' _ => (refine aops_p (ap_cmp rfl rfl rfl) rfl rfl rfl ?_)))
      all_goals (first | refine aops_p (ap_pick_true rfl zDec rfl) rfl rfl rfl ?_ | refine aops_p (ap_pick_false rfl zDec rfl) rfl rfl rfl ?_)
      all_goals (refine aops_p (ap_move rfl) rfl rfl rfl ?_)
      all_goals (first | (refine aops_yes rfl rfl rfl rfl zDec ?_; (refine aops_p (ap_move rfl) rfl rfl rfl ?_)) | refine aops_no_u rfl rfl rfl ?_ | refine aops_no_t rfl rfl rfl rfl zDec ?_ | (refine aops_guard_t rfl rfl rfl rfl (fun hg => ?_) (fun hg => ?_); case' _ => (refine aops_p (ap_move rfl) rfl rfl rfl ?_)))
      all_goals (first | (refine aops_yes rfl rfl rfl rfl zDec ?_; (refine aops_p (ap_cmp rfl rfl rfl) rfl rfl rfl ?_)) | refine aops_no_u rfl rfl rfl ?_ | refine aops_no_t rfl rfl rfl rfl zDec ?_ | (refine aops_guard_t rfl rfl rfl rfl (fun hg => ?_) (fun hg => ?_); case' _ => (refine aops_p (ap_cmp rfl rfl rfl) rfl rfl rfl ?_)))
      all_goals (first | refine aops_p (ap_pick_true rfl zDec rfl) rfl rfl rfl ?_ | refine aops_p (ap_pick_false rfl zDec rfl) rfl rfl rfl ?_)
      all_goals (refine aops_p (ap_move rfl) rfl rfl rfl ?_)
      all_goals (first | (refine aops_yes rfl rfl rfl rfl zDec ?_; (refine aops_p (ap_move rfl) rfl rfl rfl ?_)) | refine aops_no_u rfl rfl rfl ?_ | refine aops_no_t rfl rfl rfl rfl zDec ?_ | (refine aops_guard_t rfl rfl rfl rfl (fun hg => ?_) (fun hg => ?_); case' _ => (refine aops_p (ap_move rfl) rfl rfl rfl ?_)))
      all_goals (first | (refine aops_yes rfl rfl rfl rfl zDec ?_; (refine aops_p (ap_move rfl) rfl rfl rfl ?_)) | refine aops_no_u rfl rfl rfl ?_ | refine aops_no_t rfl rfl rfl rfl zDec ?_ | (refine aops_guard_t rfl rfl rfl rfl (fun hg => ?_) (fun hg => ?_); case' _ => (refine aops_p (ap_move rfl) rfl rfl rfl ?_)))
      all_goals (first | (refine aops_yes rfl rfl rfl rfl zDec ?_; (refine aops_p (ap_shr rfl rfl (by omega)) rfl rfl rfl ?_)) | refine aops_no_u rfl rfl rfl ?_ | refine aops_no_t rfl rfl rfl rfl zDec ?_ | (refine aops_guard_t rfl rfl rfl rfl (fun hg => ?_) (fun hg => ?_); case' _ => (refine aops_p (ap_shr rfl rfl (by omega)) rfl rfl rfl ?_)))
      all_goals (first | (refine aops_yes rfl rfl rfl rfl zDec ?_; (refine aops_p (ap_bits (q := 1) rfl rfl rfl (by omega) (by omega)) rfl rfl rfl ?_)) | refine aops_no_u rfl rfl rfl ?_ | refine aops_no_t rfl rfl rfl rfl zDec ?_ | (refine aops_guard_t rfl rfl rfl rfl (fun hg => ?_) (fun hg => ?_); case' _ => (refine aops_p (ap_bits (q := 1) rfl rfl rfl (by omega) (by omega)) rfl rfl rfl ?_)))
      all_goals (first | (refine aops_yes rfl rfl rfl rfl zDec ?_; (refine aops_p (ap_cmp rfl rfl rfl) rfl rfl rfl ?_)) | refine aops_no_u rfl rfl rfl ?_ | refine aops_no_t rfl rfl rfl rfl zDec ?_ | (refine aops_guard_t rfl rfl rfl rfl (fun hg => ?_) (fun hg => ?_); case' _ => (refine aops_p (ap_cmp rfl rfl rfl) rfl rfl rfl ?_)))
      all_goals (first | refine aops_p (ap_pick_true rfl zDec rfl) rfl rfl rfl ?_ | refine aops_p (ap_pick_false rfl zDec rfl) rfl rfl rfl ?_)
      all_goals (refine aops_p (ap_assign rfl) rfl rfl rfl ?_)
      all_goals (
        refine aops_nil ?_
        refine seqQ_n ?_
        refine awp_ret ?_
        refine post_is (.tmp rfl .nil) .nil ?_
        first | (simp [resD, has, h1]; done) | (simp [resD, has, h1, h2]; done) | (simp [resD, has, h1, h2, h3]; done) | exact congrArg D.b (has_bit' h1 (by omega))
        )
  · have h1 : valid s = false := by simpa using h1
    refine con_intro Try.func27 rfl Try.call27 rfl ?_
    refine awp_seq ?_
    refine awp_region ?_
    refine aops_p (ap_assign rfl) rfl rfl rfl ?_
    refine aops_nil ?_
    refine seqQ_n ?_
    refine awp_seq ?_
    refine awp_region ?_
    refine aops_p (ap_move rfl) rfl rfl rfl ?_
    refine aops_call_v zRc (rvalid_con _) rfl rfl ?_
    refine aops_p (ap_move rfl) rfl rfl rfl ?_
    all_goals (first | (refine aops_yes rfl rfl rfl rfl zDec ?_; (refine aops_p (ap_move rfl) rfl rfl rfl ?_)) | refine aops_no_u rfl rfl rfl ?_ | refine aops_no_t rfl rfl rfl rfl zDec ?_ | (refine aops_guard_t rfl rfl rfl rfl (fun hg => ?_) (fun hg => ?_); case' _ => (refine aops_p (ap_move rfl) rfl rfl rfl ?_)))
    all_goals (first | (refine aops_yes rfl rfl rfl rfl zDec ?_; (refine aops_p (ap_cmp rfl rfl rfl) rfl rfl rfl ?_)) | refine aops_no_u rfl rfl rfl ?_ | refine aops_no_t rfl rfl rfl rfl zDec ?_ | (refine aops_guard_t rfl rfl rfl rfl (fun hg => ?_) (fun hg => ?_); case' _ => (refine aops_p (ap_cmp rfl rfl rfl) rfl rfl rfl ?_)))
    all_goals (first | refine aops_p (ap_pick_true rfl zDec rfl) rfl rfl rfl ?_ | refine aops_p (ap_pick_false rfl zDec rfl) rfl rfl rfl ?_)
    all_goals (refine aops_p (ap_move rfl) rfl rfl rfl ?_)
    all_goals (first | (refine aops_yes rfl rfl rfl rfl zDec ?_; (refine aops_p (ap_move rfl) rfl rfl rfl ?_)) | refine aops_no_u rfl rfl rfl ?_ | refine aops_no_t rfl rfl rfl rfl zDec ?_ | (refine aops_guard_t rfl rfl rfl rfl (fun hg => ?_) (fun hg => ?_); case' _ => (refine aops_p (ap_move rfl) rfl rfl rfl ?_)))
    all_goals (first | (refine aops_yes rfl rfl rfl rfl zDec ?_; (refine aops_p (ap_cmp rfl rfl rfl) rfl rfl rfl ?_)) | refine aops_no_u rfl rfl rfl ?_ | refine aops_no_t rfl rfl rfl rfl zDec ?_ | (refine aops_guard_t rfl rfl rfl rfl (fun hg => ?_) (fun hg => ?_); case' _ => (refine aops_p (ap_cmp rfl rfl rfl) rfl rfl rfl ?_)))
    all_goals (first | refine aops_p (ap_pick_true rfl zDec rfl) rfl rfl rfl ?_ | refine aops_p (ap_pick_false rfl zDec rfl) rfl rfl rfl ?_)
    all_goals (refine aops_p (ap_move rfl) rfl rfl rfl ?_)
    all_goals (first | (refine aops_yes rfl rfl rfl rfl zDec ?_; (refine aops_p (ap_move rfl) rfl rfl rfl ?_)) | refine aops_no_u rfl rfl rfl ?_ | refine aops_no_t rfl rfl rfl rfl zDec ?_ | (refine aops_guard_t rfl rfl rfl rfl (fun hg => ?_) (fun hg => ?_); case' _ => (refine aops_p (ap_move rfl) rfl rfl rfl ?_)))
    all_goals (first | (refine aops_yes rfl rfl rfl rfl zDec ?_; (refine aops_p (ap_move rfl) rfl rfl rfl ?_)) | refine aops_no_u rfl rfl rfl ?_ | refine aops_no_t rfl rfl rfl rfl zDec ?_ | (refine aops_guard_t rfl rfl rfl rfl (fun hg => ?_) (fun hg => ?_); case' _ => (refine aops_p (ap_move rfl) rfl rfl rfl ?_)))
    all_goals (first | (refine aops_yes rfl rfl rfl rfl zDec ?_; (refine aops_p (ap_shr rfl rfl (by omega)) rfl rfl rfl ?_)) | refine aops_no_u rfl rfl rfl ?_ | refine aops_no_t rfl rfl rfl rfl zDec ?_ | (refine aops_guard_t rfl rfl rfl rfl (fun hg => ?_) (fun hg => ?_); case' _ => (refine aops_p (ap_shr rfl rfl (by omega)) rfl rfl rfl ?_)))
    all_goals (first | (refine aops_yes rfl rfl rfl rfl zDec ?_; (refine aops_p (ap_bits (q := 1) rfl rfl rfl (by omega) (by omega)) rfl rfl rfl ?_)) | refine aops_no_u rfl rfl rfl ?_ | refine aops_no_t rfl rfl rfl rfl zDec ?_ | (refine aops_guard_t rfl rfl rfl rfl (fun hg => ?_) (fun hg => ?_); case' _ => (refine aops_p (ap_bits (q := 1) rfl rfl rfl (by omega) (by omega)) rfl rfl rfl ?_)))
    all_goals (first | (refine aops_yes rfl rfl rfl rfl zDec ?_; (refine aops_p (ap_cmp rfl rfl rfl) rfl rfl rfl ?_)) | refine aops_no_u rfl rfl rfl ?_ | refine aops_no_t rfl rfl rfl rfl zDec ?_ | (refine aops_guard_t rfl rfl rfl rfl (fun hg => ?_) (fun hg => ?_); case' _ => (refine aops_p (ap_cmp rfl rfl rfl) rfl rfl rfl ?_)))
    all_goals (first | refine aops_p (ap_pick_true rfl zDec rfl) rfl rfl rfl ?_ | refine aops_p (ap_pick_false rfl zDec rfl) rfl rfl rfl ?_)
    all_goals (refine aops_p (ap_assign rfl) rfl rfl rfl ?_)
    all_goals (
      refine aops_nil ?_
      refine seqQ_n ?_
      refine awp_ret ?_
      refine post_is (.tmp rfl .nil) .nil ?_
      first | (simp [resD, has, h1]; done) | (simp [resD, has, h1, h2]; done) | (simp [resD, has, h1, h2, h3]; done) | exact congrArg D.b (has_bit' h1 (by omega))
      )
theorem sat_con (s : Int) : ∀ (t : Trust), Con Try.prog 53 [av t, .i s] [] (Is (.b (sat s t)) []) := by
  have hcap : capB = 140737488355328 := rfl
  intro t
  induction t using Trust.ind with
  | _ t ih =>
    have hl1 : (t.nodes.map D.i).length = t.nodes.length := by simp
    have hl2 := avs_len t.inner
    refine con_intro Try.func53 rfl Try.call53 rfl ?_
    refine awp_seq ?_
    refine awp_region ?_
    refine aops_box rfl zFlat rfl rfl (fun b2 => ?_)
    refine aops_p (ap_assign rfl) rfl rfl rfl ?_
    refine aops_nil ?_
    refine seqQ_n ?_
    refine awp_seq ?_
    refine awp_seq ?_
    refine awp_region ?_
    refine aops_p (ap_move rfl) rfl rfl rfl ?_
    refine aops_call_v zRc (valid_con _) rfl rfl ?_
    refine aops_p (ap_not rfl) rfl rfl rfl ?_
    refine aops_nil ?_
    refine seqQ_n ?_
    refine awp_cond rfl (fun hc => ?_) (fun hc => ?_)
    · refine awp_seq ?_
      refine awp_region ?_
      refine aops_p (ap_assign rfl) rfl rfl rfl ?_
      refine aops_nil ?_
      refine seqQ_n ?_
      refine awp_ret ?_
      refine seqQ_r ?_
      refine post_is (.tmp rfl .nil) .nil ?_
      first | (simp_all [resD, sat]; done)
    · have h1 : valid s = true := by simpa using hc
      refine awp_skip ?_
      refine seqQ_n ?_
      refine awp_seq ?_
      refine awp_region ?_
      refine aops_p (ap_assign rfl) rfl rfl rfl ?_
      refine aops_nil ?_
      refine seqQ_n ?_
      refine awp_seq ?_
      refine awp_seq ?_
      refine awp_region ?_
      first | refine aops_p (ap_fieldAddr (off := 1) (sz := 1) (g := false) rfl rfl) rfl rfl rfl ?_ | refine aops_p (ap_fieldAddr_el (off := 1) (sz := 1) (g := false) rfl rfl zRc) rfl rfl rfl ?_
      first | refine aops_q (aq_load1 rfl zUpd List.not_mem_nil rfl zRc) rfl rfl rfl ?_ | refine aops_q (aq_load_el1 rfl rfl zScal (fun _ h => absurd h List.not_mem_nil)) rfl rfl rfl ?_ | refine aops_q (aq_load_el1' rfl rfl zScal (fun _ h => absurd h List.not_mem_nil)) rfl rfl rfl ?_ | refine aops_q (aq_load_own1 rfl zUpd List.not_mem_nil rfl zAss zScal) rfl rfl rfl ?_
      first | refine aops_len rfl rfl rfl rfl (fun _ => ?_) | refine aops_p (ap_len_arr rfl zUpd rfl) rfl rfl rfl ?_ | refine aops_p (ap_len_nil rfl rfl) rfl rfl rfl ?_
      refine aops_p (ap_move rfl) rfl rfl rfl ?_
      refine aops_nil ?_
      refine seqQ_n ?_
      refine awp_block ?_
      refine awp_loop2 [1, 2, 14, 15] [.box b2 _ _] (fun (k : Nat) (n : Int) r => (5, .i n) :: (16, .i (k : Int)) :: r) (fun (k : Nat) (n : Int) r => r) (fun (k : Nat) (n : Int) => k ≤ t.nodes.length ∧ (0 ≤ n ∧ n ≤ k) ∧ n + cnt (has s) (t.nodes.drop k) = cnt (has s) t.nodes) (fun (k : Nat) (n : Int) => t.nodes.length - k) (0) (0) zRc ⟨by omega, by omega, by simp⟩ (wk zSub (by repeat (first | exact .nil | refine .cons (by first | exact .here | exact .there .here | exact .there (.there .here) | exact .there (.there (.there .here)) | exact .there (.there (.there (.there .here)))) ?_))) ?_
      intro k n ⟨hk, hn, hI⟩
      refine awp_seq ?_
      refine awp_region ?_
      refine aops_p (ap_cmp rfl rfl rfl) rfl rfl rfl ?_
      refine aops_nil ?_
      refine seqQ_n ?_
      refine awp_seq ?_
      refine awp_cond rfl (fun hc => ?_) (fun hc => ?_)
      · have hlt : k < t.nodes.length := by have := of_decide_eq_true hc; omega
        obtain ⟨x, hx, hd⟩ := drop_cons hlt
        have hx' := getMap D.i hx
        refine awp_skip ?_
        refine seqQ_n ?_
        refine awp_seq ?_
        refine awp_block ?_
        refine awp_seq ?_
        refine awp_region ?_
        first | refine aops_p (ap_index rfl rfl rfl rfl (by decide) rfl zAss) rfl rfl rfl ?_ | refine aops_p (ap_index rfl rfl rfl rfl (by decide) (by omega) zAss) rfl rfl rfl ?_ | refine aops_p (ap_index_own rfl rfl rfl rfl rfl (by first | omega | (simp only [List.length_map, List.length_set, avs_len]; omega))) rfl rfl rfl ?_
        first | refine aops_q (aq_load1 rfl zUpd List.not_mem_nil rfl zRc) rfl rfl rfl ?_ | refine aops_q (aq_load_el1 rfl rfl zScal (fun _ h => absurd h List.not_mem_nil)) rfl rfl rfl ?_ | refine aops_q (aq_load_el1' rfl rfl zScal (fun _ h => absurd h List.not_mem_nil)) rfl rfl rfl ?_ | refine aops_q (aq_load_own1 rfl zUpd List.not_mem_nil rfl zAss zScal) rfl rfl rfl ?_
        refine aops_p (ap_assign rfl) rfl rfl rfl ?_
        refine aops_nil ?_
        refine seqQ_n ?_
        refine awp_seq ?_
        refine awp_region ?_
        refine aops_p (ap_move rfl) rfl rfl rfl ?_
        refine aops_p (ap_move rfl) rfl rfl rfl ?_
        refine aops_call_v zRc (has_con _ _) rfl rfl ?_
        refine aops_nil ?_
        refine seqQ_n ?_
        refine awp_cond rfl (fun hc => ?_) (fun hc => ?_)
        · refine awp_region ?_
          refine aops_p (ap_move rfl) rfl rfl rfl ?_
          refine aops_p (ap_arith rfl rfl rfl (by omega)) rfl rfl rfl ?_
          refine aops_p (ap_assign rfl) rfl rfl rfl ?_
          refine aops_nil ?_
          refine blockQ_n ?_
          refine seqQ_n ?_
          refine awp_region ?_
          refine aops_p (ap_arith rfl rfl rfl (by omega)) rfl rfl rfl ?_
          refine aops_p (ap_move rfl) rfl rfl rfl ?_
          refine aops_nil ?_
          refine seqQ_n ?_
          refine ⟨k + 1, _, ⟨by omega, ?_, ?_⟩, by omega, wk zSub (by repeat (first | exact .nil | refine .cons (by first | exact .here | exact .there .here | exact .there (.there .here) | exact .there (.there (.there .here)) | exact .there (.there (.there (.there .here)))) ?_))⟩
          · omega
          · rw [hd, cnt_cons] at hI; simp [hc] at hI; omega
        · refine awp_skip ?_
          refine blockQ_n ?_
          refine seqQ_n ?_
          refine awp_region ?_
          refine aops_p (ap_arith rfl rfl rfl (by omega)) rfl rfl rfl ?_
          refine aops_p (ap_move rfl) rfl rfl rfl ?_
          refine aops_nil ?_
          refine seqQ_n ?_
          refine ⟨k + 1, _, ⟨by omega, ?_, ?_⟩, by omega, wk zSub (by repeat (first | exact .nil | refine .cons (by first | exact .here | exact .there .here | exact .there (.there .here) | exact .there (.there (.there .here)) | exact .there (.there (.there (.there .here)))) ?_))⟩
          · omega
          · rw [hd, cnt_cons] at hI; simp [hc] at hI; omega
      · have hge : t.nodes.length ≤ k := by have := of_decide_eq_false hc; omega
        rw [drop_nil hge] at hI; simp only [cnt] at hI
        refine awp_exit ?_
        refine seqQ_x ?_
        refine seqQ_x ?_
        refine blockQ_x rfl ?_
        refine seqQ_n ?_
        refine awp_seq ?_
        refine awp_seq ?_
        refine awp_region ?_
        first | refine aops_p (ap_fieldAddr (off := 2) (sz := 1) (g := false) rfl rfl) rfl rfl rfl ?_ | refine aops_p (ap_fieldAddr_el (off := 2) (sz := 1) (g := false) rfl rfl zRc) rfl rfl rfl ?_
        first | refine aops_q (aq_load1 rfl zUpd List.not_mem_nil rfl zRc) rfl rfl rfl ?_ | refine aops_q (aq_load_el1 rfl rfl zScal (fun _ h => absurd h List.not_mem_nil)) rfl rfl rfl ?_ | refine aops_q (aq_load_el1' rfl rfl zScal (fun _ h => absurd h List.not_mem_nil)) rfl rfl rfl ?_ | refine aops_q (aq_load_own1 rfl zUpd List.not_mem_nil rfl zAss zScal) rfl rfl rfl ?_
        first | refine aops_len rfl rfl rfl rfl (fun _ => ?_) | refine aops_p (ap_len_arr rfl zUpd rfl) rfl rfl rfl ?_ | refine aops_p (ap_len_nil rfl rfl) rfl rfl rfl ?_
        refine aops_p (ap_move rfl) rfl rfl rfl ?_
        refine aops_nil ?_
        refine seqQ_n ?_
        refine awp_block ?_
        refine awp_loop2 [1, 2, 27, 28] [.box b2 _ _] (fun (k : Nat) (n : Int) r => (5, .i n) :: (29, .i (k : Int)) :: r) (fun (k : Nat) (n : Int) r => r) (fun (k : Nat) (n : Int) => k ≤ t.inner.length ∧ (0 ≤ n ∧ n ≤ t.nodes.length + k) ∧ n + cntI s (t.inner.drop k) = cnt (has s) t.nodes + cntI s t.inner) (fun (k : Nat) (n : Int) => t.inner.length - k) (0) (n) zRc ⟨by omega, by omega, by simpa using hI⟩ (wk zSub (by repeat (first | exact .nil | refine .cons (by first | exact .here | exact .there .here | exact .there (.there .here) | exact .there (.there (.there .here)) | exact .there (.there (.there (.there .here)))) ?_))) ?_
        intro k n ⟨hk, hn, hI⟩
        refine awp_seq ?_
        refine awp_region ?_
        refine aops_p (ap_cmp rfl rfl rfl) rfl rfl rfl ?_
        refine aops_nil ?_
        refine seqQ_n ?_
        refine awp_seq ?_
        refine awp_cond rfl (fun hc => ?_) (fun hc => ?_)
        · have hlt : k < t.inner.length := by have := of_decide_eq_true hc; omega
          obtain ⟨x, hx, hd⟩ := drop_cons hlt
          have hx' := avs_get hx
          refine awp_skip ?_
          refine seqQ_n ?_
          refine awp_seq ?_
          refine awp_block ?_
          refine awp_seq ?_
          refine awp_region ?_
          first | refine aops_p (ap_index rfl rfl rfl rfl (by decide) rfl zAss) rfl rfl rfl ?_ | refine aops_p (ap_index rfl rfl rfl rfl (by decide) (by omega) zAss) rfl rfl rfl ?_ | refine aops_p (ap_index_own rfl rfl rfl rfl rfl (by first | omega | (simp only [List.length_map, List.length_set, avs_len]; omega))) rfl rfl rfl ?_
          first | refine aops_q (aq_load rfl zUpd List.not_mem_nil rfl rfl zRc) rfl rfl rfl ?_ | refine aops_q (aq_load_el rfl rfl rfl rfl (fun _ h => absurd h List.not_mem_nil)) rfl rfl rfl ?_
          refine aops_alloc rfl zRc rfl rfl (fun b9 => ?_)
          first | refine aops_store rfl rfl zFlat zUpd rfl zRc ?_ | refine aops_store_own1 rfl rfl zScal zUpd rfl (by simp only [List.length_set, List.length_map]; omega) ?_
          refine aops_nil ?_
          refine seqQ_n ?_
          refine awp_seq ?_
          refine awp_region ?_
          first | refine aops_q (aq_load rfl zUpd List.not_mem_nil rfl rfl zRc) rfl rfl rfl ?_ | refine aops_q (aq_load_el rfl rfl rfl rfl (fun _ h => absurd h List.not_mem_nil)) rfl rfl rfl ?_
          refine aops_p (ap_move rfl) rfl rfl rfl ?_
          refine aops_call_v zRc (ih _ (List.mem_of_getElem? hx)) rfl rfl ?_
          refine aops_nil ?_
          refine seqQ_n ?_
          refine awp_cond rfl (fun hc => ?_) (fun hc => ?_)
          · refine awp_region ?_
            refine aops_p (ap_move rfl) rfl rfl rfl ?_
            refine aops_p (ap_arith rfl rfl rfl (by omega)) rfl rfl rfl ?_
            refine aops_p (ap_assign rfl) rfl rfl rfl ?_
            refine aops_nil ?_
            refine blockQ_n ?_
            refine seqQ_n ?_
            refine awp_region ?_
            refine aops_p (ap_arith rfl rfl rfl (by omega)) rfl rfl rfl ?_
            refine aops_p (ap_move rfl) rfl rfl rfl ?_
            refine aops_nil ?_
            refine seqQ_n ?_
            refine ⟨k + 1, _, ⟨by omega, ?_, ?_⟩, by omega, wk zSub (by repeat (first | exact .nil | refine .cons (by first | exact .here | exact .there .here | exact .there (.there .here) | exact .there (.there (.there .here)) | exact .there (.there (.there (.there .here)))) ?_))⟩
            · omega
            · rw [hd, cntI_cons] at hI; simp [hc] at hI; omega
          · refine awp_skip ?_
            refine blockQ_n ?_
            refine seqQ_n ?_
            refine awp_region ?_
            refine aops_p (ap_arith rfl rfl rfl (by omega)) rfl rfl rfl ?_
            refine aops_p (ap_move rfl) rfl rfl rfl ?_
            refine aops_nil ?_
            refine seqQ_n ?_
            refine ⟨k + 1, _, ⟨by omega, ?_, ?_⟩, by omega, wk zSub (by repeat (first | exact .nil | refine .cons (by first | exact .here | exact .there .here | exact .there (.there .here) | exact .there (.there (.there .here)) | exact .there (.there (.there (.there .here)))) ?_))⟩
            · omega
            · rw [hd, cntI_cons] at hI; simp [hc] at hI; omega
        · have hge : t.inner.length ≤ k := by have := of_decide_eq_false hc; omega
          rw [drop_nil hge] at hI; simp only [cntI] at hI
          refine awp_exit ?_
          refine seqQ_x ?_
          refine seqQ_x ?_
          refine blockQ_x rfl ?_
          refine seqQ_n ?_
          refine awp_seq ?_
          refine awp_region ?_
          refine aops_p (ap_move rfl) rfl rfl rfl ?_
          first | refine aops_p (ap_fieldAddr (off := 0) (sz := 1) (g := false) rfl rfl) rfl rfl rfl ?_ | refine aops_p (ap_fieldAddr_el (off := 0) (sz := 1) (g := false) rfl rfl zRc) rfl rfl rfl ?_
          first | refine aops_q (aq_load1 rfl zUpd List.not_mem_nil rfl zRc) rfl rfl rfl ?_ | refine aops_q (aq_load_el1 rfl rfl zScal (fun _ h => absurd h List.not_mem_nil)) rfl rfl rfl ?_ | refine aops_q (aq_load_el1' rfl rfl zScal (fun _ h => absurd h List.not_mem_nil)) rfl rfl rfl ?_ | refine aops_q (aq_load_own1 rfl zUpd List.not_mem_nil rfl zAss zScal) rfl rfl rfl ?_
          refine aops_p (ap_cmp rfl rfl rfl) rfl rfl rfl ?_
          refine aops_p (ap_assign rfl) rfl rfl rfl ?_
          refine aops_nil ?_
          refine seqQ_n ?_
          refine awp_ret ?_
          refine post_is (.tmp rfl .nil) .nil ?_
          simp [resD, sat, h1, ← hI]
theorem rsize_con (m : Nat) (hm : m ≤ 1000000000) : ∀ (t : Trust), sizeT t ≤ m → Con Try.prog 56 [av t] [] (Is (.i (sizeT t)) []) := by
  have hcap : capB = 140737488355328 := rfl
  intro t
  induction t using Trust.ind with
  | _ t ih =>
    intro hsz
    have hl1 : (t.nodes.map D.i).length = t.nodes.length := by simp
    have hl2 := avs_len t.inner
    have hs0 : sizeT t = t.nodes.length + t.inner.length + sizeL t.inner := rfl
    refine con_intro Try.func56 rfl Try.call56 rfl ?_
    refine awp_seq ?_
    refine awp_region ?_
    refine aops_box rfl zFlat rfl rfl (fun b1 => ?_)
    refine aops_p (ap_assign rfl) rfl rfl rfl ?_
    refine aops_nil ?_
    refine seqQ_n ?_
    refine awp_seq ?_
    refine awp_region ?_
    first | refine aops_p (ap_fieldAddr (off := 1) (sz := 1) (g := false) rfl rfl) rfl rfl rfl ?_ | refine aops_p (ap_fieldAddr_el (off := 1) (sz := 1) (g := false) rfl rfl zRc) rfl rfl rfl ?_
    first | refine aops_q (aq_load1 rfl zUpd List.not_mem_nil rfl zRc) rfl rfl rfl ?_ | refine aops_q (aq_load_el1 rfl rfl zScal (fun _ h => absurd h List.not_mem_nil)) rfl rfl rfl ?_ | refine aops_q (aq_load_el1' rfl rfl zScal (fun _ h => absurd h List.not_mem_nil)) rfl rfl rfl ?_ | refine aops_q (aq_load_own1 rfl zUpd List.not_mem_nil rfl zAss zScal) rfl rfl rfl ?_
    first | refine aops_len rfl rfl rfl rfl (fun _ => ?_) | refine aops_p (ap_len_arr rfl zUpd rfl) rfl rfl rfl ?_ | refine aops_p (ap_len_nil rfl rfl) rfl rfl rfl ?_
    first | refine aops_p (ap_fieldAddr (off := 2) (sz := 1) (g := false) rfl rfl) rfl rfl rfl ?_ | refine aops_p (ap_fieldAddr_el (off := 2) (sz := 1) (g := false) rfl rfl zRc) rfl rfl rfl ?_
    first | refine aops_q (aq_load1 rfl zUpd List.not_mem_nil rfl zRc) rfl rfl rfl ?_ | refine aops_q (aq_load_el1 rfl rfl zScal (fun _ h => absurd h List.not_mem_nil)) rfl rfl rfl ?_ | refine aops_q (aq_load_el1' rfl rfl zScal (fun _ h => absurd h List.not_mem_nil)) rfl rfl rfl ?_ | refine aops_q (aq_load_own1 rfl zUpd List.not_mem_nil rfl zAss zScal) rfl rfl rfl ?_
    first | refine aops_len rfl rfl rfl rfl (fun _ => ?_) | refine aops_p (ap_len_arr rfl zUpd rfl) rfl rfl rfl ?_ | refine aops_p (ap_len_nil rfl rfl) rfl rfl rfl ?_
    refine aops_p (ap_arith rfl rfl rfl (by omega)) rfl rfl rfl ?_
    refine aops_p (ap_assign rfl) rfl rfl rfl ?_
    refine aops_nil ?_
    refine seqQ_n ?_
    refine awp_seq ?_
    refine awp_seq ?_
    refine awp_region ?_
    first | refine aops_p (ap_fieldAddr (off := 2) (sz := 1) (g := false) rfl rfl) rfl rfl rfl ?_ | refine aops_p (ap_fieldAddr_el (off := 2) (sz := 1) (g := false) rfl rfl zRc) rfl rfl rfl ?_
    first | refine aops_q (aq_load1 rfl zUpd List.not_mem_nil rfl zRc) rfl rfl rfl ?_ | refine aops_q (aq_load_el1 rfl rfl zScal (fun _ h => absurd h List.not_mem_nil)) rfl rfl rfl ?_ | refine aops_q (aq_load_el1' rfl rfl zScal (fun _ h => absurd h List.not_mem_nil)) rfl rfl rfl ?_ | refine aops_q (aq_load_own1 rfl zUpd List.not_mem_nil rfl zAss zScal) rfl rfl rfl ?_
    first | refine aops_len rfl rfl rfl rfl (fun _ => ?_) | refine aops_p (ap_len_arr rfl zUpd rfl) rfl rfl rfl ?_ | refine aops_p (ap_len_nil rfl rfl) rfl rfl rfl ?_
    refine aops_p (ap_move rfl) rfl rfl rfl ?_
    refine aops_nil ?_
    refine seqQ_n ?_
    refine awp_block ?_
    refine awp_loop2 [14, 15] [] (fun (k : Nat) (n : Nat) r => (3, .i (n : Int)) :: (16, .i (k : Int)) :: r) (fun (k : Nat) (n : Nat) r => r) (fun (k : Nat) (n : Nat) => k ≤ t.inner.length ∧ n + sizeL (t.inner.drop k) = sizeT t) (fun (k : Nat) (n : Nat) => t.inner.length - k) (0) (t.nodes.length + t.inner.length) zRc ⟨by omega, by simp; omega⟩ (by rw [← hl1, ← hl2]; exact wk zSub (by repeat (first | exact .nil | refine .cons (by first | exact .here | exact .there .here | exact .there (.there .here) | exact .there (.there (.there .here)) | exact .there (.there (.there (.there .here)))) ?_))) ?_
    intro k n ⟨hk, hI⟩
    refine awp_seq ?_
    refine awp_region ?_
    refine aops_p (ap_cmp rfl rfl rfl) rfl rfl rfl ?_
    refine aops_nil ?_
    refine seqQ_n ?_
    refine awp_seq ?_
    refine awp_cond rfl (fun hc => ?_) (fun hc => ?_)
    · have hlt : k < t.inner.length := by have := of_decide_eq_true hc; omega
      obtain ⟨x, hx, hd⟩ := drop_cons hlt
      have hx' := avs_get hx
      have hxm := List.mem_of_getElem? hx
      refine awp_skip ?_
      refine seqQ_n ?_
      refine awp_seq ?_
      refine awp_block ?_
      refine awp_seq ?_
      refine awp_region ?_
      first | refine aops_p (ap_index rfl rfl rfl rfl (by decide) rfl zAss) rfl rfl rfl ?_ | refine aops_p (ap_index rfl rfl rfl rfl (by decide) (by omega) zAss) rfl rfl rfl ?_ | refine aops_p (ap_index_own rfl rfl rfl rfl rfl (by first | omega | (simp only [List.length_map, List.length_set, avs_len]; omega))) rfl rfl rfl ?_
      first | refine aops_q (aq_load rfl zUpd List.not_mem_nil rfl rfl zRc) rfl rfl rfl ?_ | refine aops_q (aq_load_el rfl rfl rfl rfl (fun _ h => absurd h List.not_mem_nil)) rfl rfl rfl ?_
      refine aops_alloc rfl zRc rfl rfl (fun b5 => ?_)
      first | refine aops_store rfl rfl zFlat zUpd rfl zRc ?_ | refine aops_store_own1 rfl rfl zScal zUpd rfl (by simp only [List.length_set, List.length_map]; omega) ?_
      refine aops_nil ?_
      refine seqQ_n ?_
      refine awp_region ?_
      refine aops_p (ap_move rfl) rfl rfl rfl ?_
      first | refine aops_q (aq_load rfl zUpd List.not_mem_nil rfl rfl zRc) rfl rfl rfl ?_ | refine aops_q (aq_load_el rfl rfl rfl rfl (fun _ h => absurd h List.not_mem_nil)) rfl rfl rfl ?_
      refine aops_call_v zRc (ih _ hxm (by have := sizeL_mem hxm; omega)) rfl rfl ?_
      (have hq := hI; rw [hd, sizeL_cons] at hq; refine aops_p (ap_arith rfl rfl rfl (by omega)) rfl rfl rfl ?_)
      refine aops_p (ap_assign rfl) rfl rfl rfl ?_
      refine aops_nil ?_
      refine blockQ_n ?_
      refine seqQ_n ?_
      refine awp_region ?_
      refine aops_p (ap_arith rfl rfl rfl (by omega)) rfl rfl rfl ?_
      refine aops_p (ap_move rfl) rfl rfl rfl ?_
      refine aops_nil ?_
      refine seqQ_n ?_
      rw [hd, sizeL_cons] at hI
      refine ⟨k + 1, n + sizeT x, ⟨by omega, by omega⟩, by omega, wk zSub (by repeat (first | exact .nil | refine .cons (by first | exact .here | exact .there .here | exact .there (.there .here) | exact .there (.there (.there .here)) | exact .there (.there (.there (.there .here)))) ?_))⟩
    · have hge : t.inner.length ≤ k := by have := of_decide_eq_false hc; omega
      rw [drop_nil hge] at hI; simp only [sizeL] at hI
      refine awp_exit ?_
      refine seqQ_x ?_
      refine seqQ_x ?_
      refine blockQ_x rfl ?_
      refine seqQ_n ?_
      refine awp_seq ?_
      refine awp_region ?_
      refine aops_p (ap_move rfl) rfl rfl rfl ?_
      refine aops_p (ap_assign rfl) rfl rfl rfl ?_
      refine aops_nil ?_
      refine seqQ_n ?_
      refine awp_ret ?_
      refine post_is (.tmp rfl .nil) .nil ?_
      simp only [resD]; rw [← hI]; rfl
theorem size_con (m : Nat) (hm : m ≤ 1000000000) : ∀ (t : Trust), sizeT t ≤ m → Con Try.prog 99 [av t] [] (Is (.i (sizeT t)) []) := by
  have hcap : capB = 140737488355328 := rfl
  intro t
  induction t using Trust.ind with
  | _ t ih =>
    intro hsz
    have hl1 : (t.nodes.map D.i).length = t.nodes.length := by simp
    have hl2 := avs_len t.inner
    have hs0 : sizeT t = t.nodes.length + t.inner.length + sizeL t.inner := rfl
    refine con_intro Try.func99 rfl Try.call99 rfl ?_
    refine awp_seq ?_
    refine awp_region ?_
    refine aops_box rfl zFlat rfl rfl (fun b1 => ?_)
    refine aops_p (ap_assign rfl) rfl rfl rfl ?_
    refine aops_nil ?_
    refine seqQ_n ?_
    refine awp_seq ?_
    refine awp_region ?_
    first | refine aops_p (ap_fieldAddr (off := 1) (sz := 1) (g := false) rfl rfl) rfl rfl rfl ?_ | refine aops_p (ap_fieldAddr_el (off := 1) (sz := 1) (g := false) rfl rfl zRc) rfl rfl rfl ?_
    first | refine aops_q (aq_load1 rfl zUpd List.not_mem_nil rfl zRc) rfl rfl rfl ?_ | refine aops_q (aq_load_el1 rfl rfl zScal (fun _ h => absurd h List.not_mem_nil)) rfl rfl rfl ?_ | refine aops_q (aq_load_el1' rfl rfl zScal (fun _ h => absurd h List.not_mem_nil)) rfl rfl rfl ?_ | refine aops_q (aq_load_own1 rfl zUpd List.not_mem_nil rfl zAss zScal) rfl rfl rfl ?_
    first | refine aops_len rfl rfl rfl rfl (fun _ => ?_) | refine aops_p (ap_len_arr rfl zUpd rfl) rfl rfl rfl ?_ | refine aops_p (ap_len_nil rfl rfl) rfl rfl rfl ?_
    first | refine aops_p (ap_fieldAddr (off := 2) (sz := 1) (g := false) rfl rfl) rfl rfl rfl ?_ | refine aops_p (ap_fieldAddr_el (off := 2) (sz := 1) (g := false) rfl rfl zRc) rfl rfl rfl ?_
    first | refine aops_q (aq_load1 rfl zUpd List.not_mem_nil rfl zRc) rfl rfl rfl ?_ | refine aops_q (aq_load_el1 rfl rfl zScal (fun _ h => absurd h List.not_mem_nil)) rfl rfl rfl ?_ | refine aops_q (aq_load_el1' rfl rfl zScal (fun _ h => absurd h List.not_mem_nil)) rfl rfl rfl ?_ | refine aops_q (aq_load_own1 rfl zUpd List.not_mem_nil rfl zAss zScal) rfl rfl rfl ?_
    first | refine aops_len rfl rfl rfl rfl (fun _ => ?_) | refine aops_p (ap_len_arr rfl zUpd rfl) rfl rfl rfl ?_ | refine aops_p (ap_len_nil rfl rfl) rfl rfl rfl ?_
    refine aops_p (ap_arith rfl rfl rfl (by omega)) rfl rfl rfl ?_
    refine aops_p (ap_assign rfl) rfl rfl rfl ?_
    refine aops_nil ?_
    refine seqQ_n ?_
    refine awp_seq ?_
    refine awp_seq ?_
    refine awp_region ?_
    first | refine aops_p (ap_fieldAddr (off := 2) (sz := 1) (g := false) rfl rfl) rfl rfl rfl ?_ | refine aops_p (ap_fieldAddr_el (off := 2) (sz := 1) (g := false) rfl rfl zRc) rfl rfl rfl ?_
    first | refine aops_q (aq_load1 rfl zUpd List.not_mem_nil rfl zRc) rfl rfl rfl ?_ | refine aops_q (aq_load_el1 rfl rfl zScal (fun _ h => absurd h List.not_mem_nil)) rfl rfl rfl ?_ | refine aops_q (aq_load_el1' rfl rfl zScal (fun _ h => absurd h List.not_mem_nil)) rfl rfl rfl ?_ | refine aops_q (aq_load_own1 rfl zUpd List.not_mem_nil rfl zAss zScal) rfl rfl rfl ?_
    first | refine aops_len rfl rfl rfl rfl (fun _ => ?_) | refine aops_p (ap_len_arr rfl zUpd rfl) rfl rfl rfl ?_ | refine aops_p (ap_len_nil rfl rfl) rfl rfl rfl ?_
    refine aops_p (ap_move rfl) rfl rfl rfl ?_
    refine aops_nil ?_
    refine seqQ_n ?_
    refine awp_block ?_
    refine awp_loop2 [14, 15] [] (fun (k : Nat) (n : Nat) r => (3, .i (n : Int)) :: (16, .i (k : Int)) :: r) (fun (k : Nat) (n : Nat) r => r) (fun (k : Nat) (n : Nat) => k ≤ t.inner.length ∧ n + sizeL (t.inner.drop k) = sizeT t) (fun (k : Nat) (n : Nat) => t.inner.length - k) (0) (t.nodes.length + t.inner.length) zRc ⟨by omega, by simp; omega⟩ (by rw [← hl1, ← hl2]; exact wk zSub (by repeat (first | exact .nil | refine .cons (by first | exact .here | exact .there .here | exact .there (.there .here) | exact .there (.there (.there .here)) | exact .there (.there (.there (.there .here)))) ?_))) ?_
    intro k n ⟨hk, hI⟩
    refine awp_seq ?_
    refine awp_region ?_
    refine aops_p (ap_cmp rfl rfl rfl) rfl rfl rfl ?_
    refine aops_nil ?_
    refine seqQ_n ?_
    refine awp_seq ?_
    refine awp_cond rfl (fun hc => ?_) (fun hc => ?_)
    · have hlt : k < t.inner.length := by have := of_decide_eq_true hc; omega
      obtain ⟨x, hx, hd⟩ := drop_cons hlt
      have hx' := avs_get hx
      have hxm := List.mem_of_getElem? hx
      refine awp_skip ?_
      refine seqQ_n ?_
      refine awp_seq ?_
      refine awp_block ?_
      refine awp_seq ?_
      refine awp_region ?_
      first | refine aops_p (ap_index rfl rfl rfl rfl (by decide) rfl zAss) rfl rfl rfl ?_ | refine aops_p (ap_index rfl rfl rfl rfl (by decide) (by omega) zAss) rfl rfl rfl ?_ | refine aops_p (ap_index_own rfl rfl rfl rfl rfl (by first | omega | (simp only [List.length_map, List.length_set, avs_len]; omega))) rfl rfl rfl ?_
      first | refine aops_q (aq_load rfl zUpd List.not_mem_nil rfl rfl zRc) rfl rfl rfl ?_ | refine aops_q (aq_load_el rfl rfl rfl rfl (fun _ h => absurd h List.not_mem_nil)) rfl rfl rfl ?_
      refine aops_alloc rfl zRc rfl rfl (fun b5 => ?_)
      first | refine aops_store rfl rfl zFlat zUpd rfl zRc ?_ | refine aops_store_own1 rfl rfl zScal zUpd rfl (by simp only [List.length_set, List.length_map]; omega) ?_
      refine aops_nil ?_
      refine seqQ_n ?_
      refine awp_region ?_
      refine aops_p (ap_move rfl) rfl rfl rfl ?_
      first | refine aops_q (aq_load rfl zUpd List.not_mem_nil rfl rfl zRc) rfl rfl rfl ?_ | refine aops_q (aq_load_el rfl rfl rfl rfl (fun _ h => absurd h List.not_mem_nil)) rfl rfl rfl ?_
      refine aops_call_v zRc (ih _ hxm (by have := sizeL_mem hxm; omega)) rfl rfl ?_
      (have hq := hI; rw [hd, sizeL_cons] at hq; refine aops_p (ap_arith rfl rfl rfl (by omega)) rfl rfl rfl ?_)
      refine aops_p (ap_assign rfl) rfl rfl rfl ?_
      refine aops_nil ?_
      refine blockQ_n ?_
      refine seqQ_n ?_
      refine awp_region ?_
      refine aops_p (ap_arith rfl rfl rfl (by omega)) rfl rfl rfl ?_
      refine aops_p (ap_move rfl) rfl rfl rfl ?_
      refine aops_nil ?_
      refine seqQ_n ?_
      rw [hd, sizeL_cons] at hI
      refine ⟨k + 1, n + sizeT x, ⟨by omega, by omega⟩, by omega, wk zSub (by repeat (first | exact .nil | refine .cons (by first | exact .here | exact .there .here | exact .there (.there .here) | exact .there (.there (.there .here)) | exact .there (.there (.there (.there .here)))) ?_))⟩
    · have hge : t.inner.length ≤ k := by have := of_decide_eq_false hc; omega
      rw [drop_nil hge] at hI; simp only [sizeL] at hI
      refine awp_exit ?_
      refine seqQ_x ?_
      refine seqQ_x ?_
      refine blockQ_x rfl ?_
      refine seqQ_n ?_
      refine awp_seq ?_
      refine awp_region ?_
      refine aops_p (ap_move rfl) rfl rfl rfl ?_
      refine aops_p (ap_assign rfl) rfl rfl rfl ?_
      refine aops_nil ?_
      refine seqQ_n ?_
      refine awp_ret ?_
      refine post_is (.tmp rfl .nil) .nil ?_
      simp only [resD]; rw [← hI]; rfl
theorem rdepth_con (m : Nat) (hm : m ≤ 1000000000) : ∀ (t : Trust), sizeT t ≤ m → Con Try.prog 55 [av t] [] (Is (.i (depthT t)) []) := by
  have hcap : capB = 140737488355328 := rfl
  intro t
  induction t using Trust.ind with
  | _ t ih =>
    intro hsz
    have hl2 := avs_len t.inner
    have hs0 : sizeT t = t.nodes.length + t.inner.length + sizeL t.inner := rfl
    have hdd := depth_le_size t
    have hd0 : depthT t = depthL t.inner + 1 := rfl
    refine con_intro Try.func55 rfl Try.call55 rfl ?_
    refine awp_seq ?_
    refine awp_region ?_
    refine aops_box rfl zFlat rfl rfl (fun b1 => ?_)
    refine aops_p (ap_assign rfl) rfl rfl rfl ?_
    refine aops_nil ?_
    refine seqQ_n ?_
    refine awp_seq ?_
    refine awp_region ?_
    refine aops_p (ap_assign rfl) rfl rfl rfl ?_
    refine aops_nil ?_
    refine seqQ_n ?_
    refine awp_seq ?_
    refine awp_seq ?_
    refine awp_region ?_
    first | refine aops_p (ap_fieldAddr (off := 2) (sz := 1) (g := false) rfl rfl) rfl rfl rfl ?_ | refine aops_p (ap_fieldAddr_el (off := 2) (sz := 1) (g := false) rfl rfl zRc) rfl rfl rfl ?_
    first | refine aops_q (aq_load1 rfl zUpd List.not_mem_nil rfl zRc) rfl rfl rfl ?_ | refine aops_q (aq_load_el1 rfl rfl zScal (fun _ h => absurd h List.not_mem_nil)) rfl rfl rfl ?_ | refine aops_q (aq_load_el1' rfl rfl zScal (fun _ h => absurd h List.not_mem_nil)) rfl rfl rfl ?_ | refine aops_q (aq_load_own1 rfl zUpd List.not_mem_nil rfl zAss zScal) rfl rfl rfl ?_
    first | refine aops_len rfl rfl rfl rfl (fun _ => ?_) | refine aops_p (ap_len_arr rfl zUpd rfl) rfl rfl rfl ?_ | refine aops_p (ap_len_nil rfl rfl) rfl rfl rfl ?_
    refine aops_p (ap_move rfl) rfl rfl rfl ?_
    refine aops_nil ?_
    refine seqQ_n ?_
    refine awp_block ?_
    refine awp_loop2 [7, 8] [] (fun (k : Nat) (n : Nat) r => (3, .i (n : Int)) :: (9, .i (k : Int)) :: r) (fun (k : Nat) (n : Nat) r => r) (fun (k : Nat) (n : Nat) => k ≤ t.inner.length ∧ max n (depthL (t.inner.drop k)) = depthL t.inner) (fun (k : Nat) (n : Nat) => t.inner.length - k) (0) (0) zRc ⟨by omega, by simp⟩ (wk zSub (by repeat (first | exact .nil | refine .cons (by first | exact .here | exact .there .here | exact .there (.there .here) | exact .there (.there (.there .here)) | exact .there (.there (.there (.there .here)))) ?_))) ?_
    intro k n ⟨hk, hI⟩
    refine awp_seq ?_
    refine awp_region ?_
    refine aops_p (ap_cmp rfl rfl rfl) rfl rfl rfl ?_
    refine aops_nil ?_
    refine seqQ_n ?_
    refine awp_seq ?_
    refine awp_cond rfl (fun hc => ?_) (fun hc => ?_)
    · have hlt : k < t.inner.length := by have := of_decide_eq_true hc; omega
      obtain ⟨x, hx, hd⟩ := drop_cons hlt
      have hx' := avs_get hx
      have hxm := List.mem_of_getElem? hx
      refine awp_skip ?_
      refine seqQ_n ?_
      refine awp_seq ?_
      refine awp_block ?_
      refine awp_seq ?_
      refine awp_region ?_
      first | refine aops_p (ap_index rfl rfl rfl rfl (by decide) rfl zAss) rfl rfl rfl ?_ | refine aops_p (ap_index rfl rfl rfl rfl (by decide) (by omega) zAss) rfl rfl rfl ?_ | refine aops_p (ap_index_own rfl rfl rfl rfl rfl (by first | omega | (simp only [List.length_map, List.length_set, avs_len]; omega))) rfl rfl rfl ?_
      first | refine aops_q (aq_load rfl zUpd List.not_mem_nil rfl rfl zRc) rfl rfl rfl ?_ | refine aops_q (aq_load_el rfl rfl rfl rfl (fun _ h => absurd h List.not_mem_nil)) rfl rfl rfl ?_
      refine aops_alloc rfl zRc rfl rfl (fun b5 => ?_)
      first | refine aops_store rfl rfl zFlat zUpd rfl zRc ?_ | refine aops_store_own1 rfl rfl zScal zUpd rfl (by simp only [List.length_set, List.length_map]; omega) ?_
      refine aops_nil ?_
      refine seqQ_n ?_
      refine awp_region ?_
      refine aops_p (ap_move rfl) rfl rfl rfl ?_
      first | refine aops_q (aq_load rfl zUpd List.not_mem_nil rfl rfl zRc) rfl rfl rfl ?_ | refine aops_q (aq_load_el rfl rfl rfl rfl (fun _ h => absurd h List.not_mem_nil)) rfl rfl rfl ?_
      refine aops_call_v zRc (ih _ hxm (by have := sizeL_mem hxm; omega)) rfl rfl ?_
      refine aops_p (ap_max rfl rfl) rfl rfl rfl ?_
      refine aops_p (ap_assign rfl) rfl rfl rfl ?_
      refine aops_nil ?_
      refine blockQ_n ?_
      refine seqQ_n ?_
      refine awp_region ?_
      refine aops_p (ap_arith rfl rfl rfl (by omega)) rfl rfl rfl ?_
      refine aops_p (ap_move rfl) rfl rfl rfl ?_
      refine aops_nil ?_
      refine seqQ_n ?_
      rw [hd, depthL_cons] at hI
      have hmx : max (n : Int) (depthT x) = ((max n (depthT x) : Nat) : Int) := by omega
      rw [hmx]
      refine ⟨k + 1, max n (depthT x), ⟨by omega, by omega⟩, by omega, wk zSub (by repeat (first | exact .nil | refine .cons (by first | exact .here | exact .there .here | exact .there (.there .here) | exact .there (.there (.there .here)) | exact .there (.there (.there (.there .here)))) ?_))⟩
    · have hge : t.inner.length ≤ k := by have := of_decide_eq_false hc; omega
      rw [drop_nil hge] at hI; simp only [depthL] at hI
      refine awp_exit ?_
      refine seqQ_x ?_
      refine seqQ_x ?_
      refine blockQ_x rfl ?_
      refine seqQ_n ?_
      refine awp_seq ?_
      refine awp_region ?_
      refine aops_p (ap_move rfl) rfl rfl rfl ?_
      refine aops_p (ap_arith rfl rfl rfl (by omega)) rfl rfl rfl ?_
      refine aops_p (ap_assign rfl) rfl rfl rfl ?_
      refine aops_nil ?_
      refine seqQ_n ?_
      refine awp_ret ?_
      refine post_is (.tmp rfl .nil) .nil ?_
      simp only [resD]; rw [hd0, ← hI]; simp
theorem depth_con (m : Nat) (hm : m ≤ 1000000000) : ∀ (t : Trust), sizeT t ≤ m → Con Try.prog 98 [av t] [] (Is (.i (depthT t)) []) := by
  have hcap : capB = 140737488355328 := rfl
  intro t
  induction t using Trust.ind with
  | _ t ih =>
    intro hsz
    have hl2 := avs_len t.inner
    have hs0 : sizeT t = t.nodes.length + t.inner.length + sizeL t.inner := rfl
    have hdd := depth_le_size t
    have hd0 : depthT t = depthL t.inner + 1 := rfl
    refine con_intro Try.func98 rfl Try.call98 rfl ?_
    refine awp_seq ?_
    refine awp_region ?_
    refine aops_box rfl zFlat rfl rfl (fun b1 => ?_)
    refine aops_p (ap_assign rfl) rfl rfl rfl ?_
    refine aops_nil ?_
    refine seqQ_n ?_
    refine awp_seq ?_
    refine awp_region ?_
    refine aops_p (ap_assign rfl) rfl rfl rfl ?_
    refine aops_nil ?_
    refine seqQ_n ?_
    refine awp_seq ?_
    refine awp_seq ?_
    refine awp_region ?_
    first | refine aops_p (ap_fieldAddr (off := 2) (sz := 1) (g := false) rfl rfl) rfl rfl rfl ?_ | refine aops_p (ap_fieldAddr_el (off := 2) (sz := 1) (g := false) rfl rfl zRc) rfl rfl rfl ?_
    first | refine aops_q (aq_load1 rfl zUpd List.not_mem_nil rfl zRc) rfl rfl rfl ?_ | refine aops_q (aq_load_el1 rfl rfl zScal (fun _ h => absurd h List.not_mem_nil)) rfl rfl rfl ?_ | refine aops_q (aq_load_el1' rfl rfl zScal (fun _ h => absurd h List.not_mem_nil)) rfl rfl rfl ?_ | refine aops_q (aq_load_own1 rfl zUpd List.not_mem_nil rfl zAss zScal) rfl rfl rfl ?_
    first | refine aops_len rfl rfl rfl rfl (fun _ => ?_) | refine aops_p (ap_len_arr rfl zUpd rfl) rfl rfl rfl ?_ | refine aops_p (ap_len_nil rfl rfl) rfl rfl rfl ?_
    refine aops_p (ap_move rfl) rfl rfl rfl ?_
    refine aops_nil ?_
    refine seqQ_n ?_
    refine awp_block ?_
    refine awp_loop2 [7, 8] [] (fun (k : Nat) (n : Nat) r => (3, .i (n : Int)) :: (9, .i (k : Int)) :: r) (fun (k : Nat) (n : Nat) r => r) (fun (k : Nat) (n : Nat) => k ≤ t.inner.length ∧ max n (depthL (t.inner.drop k)) = depthL t.inner) (fun (k : Nat) (n : Nat) => t.inner.length - k) (0) (0) zRc ⟨by omega, by simp⟩ (wk zSub (by repeat (first | exact .nil | refine .cons (by first | exact .here | exact .there .here | exact .there (.there .here) | exact .there (.there (.there .here)) | exact .there (.there (.there (.there .here)))) ?_))) ?_
    intro k n ⟨hk, hI⟩
    refine awp_seq ?_
    refine awp_region ?_
    refine aops_p (ap_cmp rfl rfl rfl) rfl rfl rfl ?_
    refine aops_nil ?_
    refine seqQ_n ?_
    refine awp_seq ?_
    refine awp_cond rfl (fun hc => ?_) (fun hc => ?_)
    · have hlt : k < t.inner.length := by have := of_decide_eq_true hc; omega
      obtain ⟨x, hx, hd⟩ := drop_cons hlt
      have hx' := avs_get hx
      have hxm := List.mem_of_getElem? hx
      refine awp_skip ?_
      refine seqQ_n ?_
      refine awp_seq ?_
      refine awp_block ?_
      refine awp_seq ?_
      refine awp_region ?_
      first | refine aops_p (ap_index rfl rfl rfl rfl (by decide) rfl zAss) rfl rfl rfl ?_ | refine aops_p (ap_index rfl rfl rfl rfl (by decide) (by omega) zAss) rfl rfl rfl ?_ | refine aops_p (ap_index_own rfl rfl rfl rfl rfl (by first | omega | (simp only [List.length_map, List.length_set, avs_len]; omega))) rfl rfl rfl ?_
      first | refine aops_q (aq_load rfl zUpd List.not_mem_nil rfl rfl zRc) rfl rfl rfl ?_ | refine aops_q (aq_load_el rfl rfl rfl rfl (fun _ h => absurd h List.not_mem_nil)) rfl rfl rfl ?_
      refine aops_alloc rfl zRc rfl rfl (fun b5 => ?_)
      first | refine aops_store rfl rfl zFlat zUpd rfl zRc ?_ | refine aops_store_own1 rfl rfl zScal zUpd rfl (by simp only [List.length_set, List.length_map]; omega) ?_
      refine aops_nil ?_
      refine seqQ_n ?_
      refine awp_region ?_
      refine aops_p (ap_move rfl) rfl rfl rfl ?_
      first | refine aops_q (aq_load rfl zUpd List.not_mem_nil rfl rfl zRc) rfl rfl rfl ?_ | refine aops_q (aq_load_el rfl rfl rfl rfl (fun _ h => absurd h List.not_mem_nil)) rfl rfl rfl ?_
      refine aops_call_v zRc (ih _ hxm (by have := sizeL_mem hxm; omega)) rfl rfl ?_
      refine aops_p (ap_max rfl rfl) rfl rfl rfl ?_
      refine aops_p (ap_assign rfl) rfl rfl rfl ?_
      refine aops_nil ?_
      refine blockQ_n ?_
      refine seqQ_n ?_
      refine awp_region ?_
      refine aops_p (ap_arith rfl rfl rfl (by omega)) rfl rfl rfl ?_
      refine aops_p (ap_move rfl) rfl rfl rfl ?_
      refine aops_nil ?_
      refine seqQ_n ?_
      rw [hd, depthL_cons] at hI
      have hmx : max (n : Int) (depthT x) = ((max n (depthT x) : Nat) : Int) := by omega
      rw [hmx]
      refine ⟨k + 1, max n (depthT x), ⟨by omega, by omega⟩, by omega, wk zSub (by repeat (first | exact .nil | refine .cons (by first | exact .here | exact .there .here | exact .there (.there .here) | exact .there (.there (.there .here)) | exact .there (.there (.there (.there .here)))) ?_))⟩
    · have hge : t.inner.length ≤ k := by have := of_decide_eq_false hc; omega
      rw [drop_nil hge] at hI; simp only [depthL] at hI
      refine awp_exit ?_
      refine seqQ_x ?_
      refine seqQ_x ?_
      refine blockQ_x rfl ?_
      refine seqQ_n ?_
      refine awp_seq ?_
      refine awp_region ?_
      refine aops_p (ap_move rfl) rfl rfl rfl ?_
      refine aops_p (ap_arith rfl rfl rfl (by omega)) rfl rfl rfl ?_
      refine aops_p (ap_assign rfl) rfl rfl rfl ?_
      refine aops_nil ?_
      refine seqQ_n ?_
      refine awp_ret ?_
      refine post_is (.tmp rfl .nil) .nil ?_
      simp only [resD]; rw [hd0, ← hI]; simp
theorem badN_f {x : Int} (h1 : decide (x < 0) = false) (h2 : decide (10 ≤ x) = false) : ∃ q : Nat, x = q ∧ q < 10 := by
  have h3 := of_decide_eq_false h1
  have h4 := of_decide_eq_false h2
  obtain ⟨q, rfl⟩ := Int.eq_ofNat_of_zero_le (show 0 ≤ x by omega)
  exact ⟨q, rfl, by omega⟩
theorem or_lt10 {s q : Nat} (h : s < 1024) (hq : q < 10) : s ||| 1 * 2 ^ q < 1024 := by
  rw [Nat.one_mul]
  exact Nat.or_lt_two_pow (n := 10) h (Nat.pow_lt_pow_right (by omega) hq)
theorem rof_con (l : List Int) : Con Try.prog 77 [.sl 1 (l.map .i)] [] (Is (.tup [.i (ofGo 0 l).1, .i (ofGo 0 l).2]) []) := by
  have hcap : capB = 140737488355328 := rfl
  have hl1 : (l.map D.i).length = l.length := by simp
  refine con_intro Try.func77 rfl Try.call77 rfl ?_
  refine awp_seq ?_
  refine awp_region ?_
  refine aops_p (ap_assign rfl) rfl rfl rfl ?_
  refine aops_p (ap_assign rfl) rfl rfl rfl ?_
  refine aops_nil ?_
  refine seqQ_n ?_
  refine awp_seq ?_
  refine awp_region ?_
  refine aops_p (ap_assign rfl) rfl rfl rfl ?_
  refine aops_nil ?_
  refine seqQ_n ?_
  refine awp_seq ?_
  refine awp_seq ?_
  refine awp_region ?_
  refine aops_p (ap_move rfl) rfl rfl rfl ?_
  first | refine aops_len rfl rfl rfl rfl (fun _ => ?_) | refine aops_p (ap_len_arr rfl zUpd rfl) rfl rfl rfl ?_ | refine aops_p (ap_len_nil rfl rfl) rfl rfl rfl ?_
  refine aops_p (ap_move rfl) rfl rfl rfl ?_
  refine aops_nil ?_
  refine seqQ_n ?_
  refine awp_block ?_
  refine awp_loop2 [7, 8] [] (fun (k : Nat) (s : Nat) r => (4, .i (s : Int)) :: (9, .i (k : Int)) :: r) (fun (k : Nat) (s : Nat) r => r) (fun (k : Nat) (s : Nat) => k ≤ l.length ∧ s < 1024 ∧ ofGo s (l.drop k) = ofGo 0 l) (fun (k : Nat) (s : Nat) => l.length - k) (0) (0) zRc ⟨by omega, by omega, by simp⟩ (wk zSub (by repeat (first | exact .nil | refine .cons (by first | exact .here | exact .there .here | exact .there (.there .here) | exact .there (.there (.there .here)) | exact .there (.there (.there (.there .here)))) ?_))) ?_
  intro k s ⟨hk, hs, hI⟩
  refine awp_seq ?_
  refine awp_region ?_
  refine aops_p (ap_cmp rfl rfl rfl) rfl rfl rfl ?_
  refine aops_nil ?_
  refine seqQ_n ?_
  refine awp_seq ?_
  refine awp_cond rfl (fun hc => ?_) (fun hc => ?_)
  · have hlt : k < l.length := by have := of_decide_eq_true hc; omega
    obtain ⟨x, hx, hd⟩ := drop_cons hlt
    have hx' := getMap D.i hx
    refine awp_skip ?_
    refine seqQ_n ?_
    refine awp_seq ?_
    refine awp_block ?_
    refine awp_seq ?_
    refine awp_region ?_
    first | refine aops_p (ap_index rfl rfl rfl rfl (by decide) rfl zAss) rfl rfl rfl ?_ | refine aops_p (ap_index rfl rfl rfl rfl (by decide) (by omega) zAss) rfl rfl rfl ?_ | refine aops_p (ap_index_own rfl rfl rfl rfl rfl (by first | omega | (simp only [List.length_map, List.length_set, avs_len]; omega))) rfl rfl rfl ?_
    first | refine aops_q (aq_load1 rfl zUpd List.not_mem_nil rfl zRc) rfl rfl rfl ?_ | refine aops_q (aq_load_el1 rfl rfl zScal (fun _ h => absurd h List.not_mem_nil)) rfl rfl rfl ?_ | refine aops_q (aq_load_el1' rfl rfl zScal (fun _ h => absurd h List.not_mem_nil)) rfl rfl rfl ?_ | refine aops_q (aq_load_own1 rfl zUpd List.not_mem_nil rfl zAss zScal) rfl rfl rfl ?_
    refine aops_p (ap_assign rfl) rfl rfl rfl ?_
    refine aops_nil ?_
    refine seqQ_n ?_
    refine awp_seq ?_
    refine awp_seq ?_
    refine awp_region ?_
    refine aops_p (ap_move rfl) rfl rfl rfl ?_
    refine aops_p (ap_cmp rfl rfl rfl) rfl rfl rfl ?_
    refine aops_p (ap_move rfl) rfl rfl rfl ?_
    all_goals (first | (refine aops_yes rfl rfl rfl rfl zDec ?_; (refine aops_p (ap_move rfl) rfl rfl rfl ?_)) | refine aops_no_u rfl rfl rfl ?_ | refine aops_no_f rfl rfl rfl rfl zDec ?_ | (refine aops_guard_f rfl rfl rfl rfl (fun hg => ?_) (fun hg => ?_); case' _ => (refine aops_p (ap_move rfl) rfl rfl rfl ?_)))
    all_goals (first | (refine aops_yes rfl rfl rfl rfl zDec ?_; (refine aops_p (ap_cmp rfl rfl rfl) rfl rfl rfl ?_)) | refine aops_no_u rfl rfl rfl ?_ | refine aops_no_f rfl rfl rfl rfl zDec ?_ | (refine aops_guard_f rfl rfl rfl rfl (fun hg => ?_) (fun hg => ?_); case' _ => (refine aops_p (ap_cmp rfl rfl rfl) rfl rfl rfl ?_)))
    all_goals (first | refine aops_p (ap_pick_true rfl zDec rfl) rfl rfl rfl ?_ | refine aops_p (ap_pick_false rfl zDec rfl) rfl rfl rfl ?_)
    all_goals (
      refine aops_nil ?_
      refine seqQ_n ?_
      refine awp_cond rfl (fun hc => ?_) (fun hc => ?_)
      · first
        | (exact absurd hc (by decide))
        | (refine awp_seq ?_
           refine awp_region ?_
           refine aops_p (ap_assign rfl) rfl rfl rfl ?_
           refine aops_p (ap_assign rfl) rfl rfl rfl ?_
           refine aops_nil ?_
           refine seqQ_n ?_
           refine awp_ret ?_
           refine seqQ_r ?_
           refine blockQ_r ?_
           refine seqQ_r ?_
           refine seqQ_r ?_
           refine blockQ_r ?_
           refine seqQ_r ?_
           refine post_is (.tmp rfl (.tmp rfl .nil)) .nil ?_
           rw [hd, ofGo, if_pos (by first | (have := of_decide_eq_true hg; omega) | (have := of_decide_eq_true hc; omega))] at hI
           rw [← hI]; rfl
          )
      · first
        | (exact absurd hc (by decide))
        | (have hc2 := hc
           refine awp_skip ?_
           refine seqQ_n ?_
           refine awp_seq ?_
           refine awp_seq ?_
           refine awp_region ?_
           refine aops_p (ap_move rfl) rfl rfl rfl ?_
           refine aops_p (ap_move rfl) rfl rfl rfl ?_
           refine aops_call_v zRc (rhas_con _ _) rfl rfl ?_
           refine aops_nil ?_
           refine seqQ_n ?_
           refine awp_cond rfl (fun hc => ?_) (fun hc => ?_)
           · refine awp_seq ?_
             refine awp_region ?_
             refine aops_p (ap_assign rfl) rfl rfl rfl ?_
             refine aops_p (ap_assign rfl) rfl rfl rfl ?_
             refine aops_nil ?_
             refine seqQ_n ?_
             refine awp_ret ?_
             refine seqQ_r ?_
             refine blockQ_r ?_
             refine seqQ_r ?_
             refine seqQ_r ?_
             refine blockQ_r ?_
             refine seqQ_r ?_
             refine post_is (.tmp rfl (.tmp rfl .nil)) .nil ?_
             have h3 := of_decide_eq_false hg
             have h4 := of_decide_eq_false hc2
             rw [hd, ofGo, if_neg (by omega), if_pos hc] at hI
             rw [← hI]; rfl
           · refine awp_skip ?_
             refine seqQ_n ?_
             obtain ⟨q, rfl, hq⟩ := badN_f hg hc2
             have hp2 := pow_lt10 hq
             refine awp_region ?_
             refine aops_p (ap_move rfl) rfl rfl rfl ?_
             refine aops_p (ap_move rfl) rfl rfl rfl ?_
             refine aops_p (ap_shl (p := 1) rfl rfl rfl (by omega) (by omega)) rfl rfl rfl ?_
             refine aops_p (ap_bits rfl rfl rfl (by omega) (by omega)) rfl rfl rfl ?_
             refine aops_p (ap_assign rfl) rfl rfl rfl ?_
             refine aops_nil ?_
             refine blockQ_n ?_
             refine seqQ_n ?_
             refine awp_region ?_
             refine aops_p (ap_arith rfl rfl rfl (by omega)) rfl rfl rfl ?_
             refine aops_p (ap_move rfl) rfl rfl rfl ?_
             refine aops_nil ?_
             refine seqQ_n ?_
             rw [hd, ofGo, if_neg (by omega), if_neg (by simp [hc])] at hI
             refine ⟨k + 1, s ||| 1 * 2 ^ q, ⟨by omega, or_lt10 hs hq, ?_⟩, by omega, wk zSub (by repeat (first | exact .nil | refine .cons (by first | exact .here | exact .there .here | exact .there (.there .here) | exact .there (.there (.there .here)) | exact .there (.there (.there (.there .here)))) ?_))⟩
             simpa using hI
          )
      )
  · have hge : l.length ≤ k := by have := of_decide_eq_false hc; omega
    rw [drop_nil hge] at hI; simp only [ofGo] at hI
    refine awp_exit ?_
    refine seqQ_x ?_
    refine seqQ_x ?_
    refine blockQ_x rfl ?_
    refine seqQ_n ?_
    refine awp_seq ?_
    refine awp_region ?_
    refine aops_p (ap_move rfl) rfl rfl rfl ?_
    refine aops_p (ap_assign rfl) rfl rfl rfl ?_
    refine aops_p (ap_assign rfl) rfl rfl rfl ?_
    refine aops_nil ?_
    refine seqQ_n ?_
    refine awp_ret ?_
    refine post_is (.tmp rfl (.tmp rfl .nil)) .nil ?_
    rw [← hI]; rfl
theorem any_of_get {l : List Int} {k : Nat} {x : Int} (h : l[k]? = some x) (hx : badN x = true) : l.any badN = true :=
  List.any_eq_true.2 ⟨x, List.mem_of_getElem? h, hx⟩
theorem any_drop_f {x : Int} {r : List Int} (h1 : decide (x < 0) = false) (h2 : decide (10 ≤ x) = false) : (x :: r).any badN = r.any badN := by
  simp [badN, h1, h2]
theorem rcheck_con : ∀ (t : Trust), Con Try.prog 57 [av t] [] (Is (.i (checkT t)) []) := by
  have hcap : capB = 140737488355328 := rfl
  intro t
  induction t using Trust.ind with
  | _ t ih =>
    have hl1 : (t.nodes.map D.i).length = t.nodes.length := by simp
    have hl2 := avs_len t.inner
    refine con_intro Try.func57 rfl Try.call57 rfl ?_
    refine awp_seq ?_
    refine awp_region ?_
    refine aops_box rfl zFlat rfl rfl (fun b1 => ?_)
    refine aops_p (ap_assign rfl) rfl rfl rfl ?_
    refine aops_nil ?_
    refine seqQ_n ?_
    refine awp_seq ?_
    refine awp_seq ?_
    refine awp_region ?_
    first | refine aops_p (ap_fieldAddr (off := 0) (sz := 1) (g := false) rfl rfl) rfl rfl rfl ?_ | refine aops_p (ap_fieldAddr_el (off := 0) (sz := 1) (g := false) rfl rfl zRc) rfl rfl rfl ?_
    first | refine aops_q (aq_load1 rfl zUpd List.not_mem_nil rfl zRc) rfl rfl rfl ?_ | refine aops_q (aq_load_el1 rfl rfl zScal (fun _ h => absurd h List.not_mem_nil)) rfl rfl rfl ?_ | refine aops_q (aq_load_el1' rfl rfl zScal (fun _ h => absurd h List.not_mem_nil)) rfl rfl rfl ?_ | refine aops_q (aq_load_own1 rfl zUpd List.not_mem_nil rfl zAss zScal) rfl rfl rfl ?_
    refine aops_p (ap_cmp rfl rfl rfl) rfl rfl rfl ?_
    refine aops_p (ap_move rfl) rfl rfl rfl ?_
    all_goals (first | (refine aops_yes rfl rfl rfl rfl zDec ?_; (first | refine aops_p (ap_fieldAddr (off := 0) (sz := 1) (g := false) rfl rfl) rfl rfl rfl ?_ | refine aops_p (ap_fieldAddr_el (off := 0) (sz := 1) (g := false) rfl rfl zRc) rfl rfl rfl ?_)) | refine aops_no_u rfl rfl rfl ?_ | refine aops_no_f rfl rfl rfl rfl zDec ?_ | (refine aops_guard_f rfl rfl rfl rfl (fun hg => ?_) (fun hg => ?_); case' _ => (first | refine aops_p (ap_fieldAddr (off := 0) (sz := 1) (g := false) rfl rfl) rfl rfl rfl ?_ | refine aops_p (ap_fieldAddr_el (off := 0) (sz := 1) (g := false) rfl rfl zRc) rfl rfl rfl ?_)))
    all_goals (first | (refine aops_yes rfl rfl rfl rfl zDec ?_; (first | refine aops_q (aq_load1 rfl zUpd List.not_mem_nil rfl zRc) rfl rfl rfl ?_ | refine aops_q (aq_load_el1 rfl rfl zScal (fun _ h => absurd h List.not_mem_nil)) rfl rfl rfl ?_ | refine aops_q (aq_load_el1' rfl rfl zScal (fun _ h => absurd h List.not_mem_nil)) rfl rfl rfl ?_ | refine aops_q (aq_load_own1 rfl zUpd List.not_mem_nil rfl zAss zScal) rfl rfl rfl ?_)) | refine aops_no_u rfl rfl rfl ?_ | refine aops_no_f rfl rfl rfl rfl zDec ?_ | (refine aops_guard_f rfl rfl rfl rfl (fun hg => ?_) (fun hg => ?_); case' _ => (first | refine aops_q (aq_load1 rfl zUpd List.not_mem_nil rfl zRc) rfl rfl rfl ?_ | refine aops_q (aq_load_el1 rfl rfl zScal (fun _ h => absurd h List.not_mem_nil)) rfl rfl rfl ?_ | refine aops_q (aq_load_el1' rfl rfl zScal (fun _ h => absurd h List.not_mem_nil)) rfl rfl rfl ?_ | refine aops_q (aq_load_own1 rfl zUpd List.not_mem_nil rfl zAss zScal) rfl rfl rfl ?_)))
    all_goals (first | (refine aops_yes rfl rfl rfl rfl zDec ?_; (first | refine aops_p (ap_fieldAddr (off := 1) (sz := 1) (g := false) rfl rfl) rfl rfl rfl ?_ | refine aops_p (ap_fieldAddr_el (off := 1) (sz := 1) (g := false) rfl rfl zRc) rfl rfl rfl ?_)) | refine aops_no_u rfl rfl rfl ?_ | refine aops_no_f rfl rfl rfl rfl zDec ?_ | (refine aops_guard_f rfl rfl rfl rfl (fun hg => ?_) (fun hg => ?_); case' _ => (first | refine aops_p (ap_fieldAddr (off := 1) (sz := 1) (g := false) rfl rfl) rfl rfl rfl ?_ | refine aops_p (ap_fieldAddr_el (off := 1) (sz := 1) (g := false) rfl rfl zRc) rfl rfl rfl ?_)))
    all_goals (first | (refine aops_yes rfl rfl rfl rfl zDec ?_; (first | refine aops_q (aq_load1 rfl zUpd List.not_mem_nil rfl zRc) rfl rfl rfl ?_ | refine aops_q (aq_load_el1 rfl rfl zScal (fun _ h => absurd h List.not_mem_nil)) rfl rfl rfl ?_ | refine aops_q (aq_load_el1' rfl rfl zScal (fun _ h => absurd h List.not_mem_nil)) rfl rfl rfl ?_ | refine aops_q (aq_load_own1 rfl zUpd List.not_mem_nil rfl zAss zScal) rfl rfl rfl ?_)) | refine aops_no_u rfl rfl rfl ?_ | refine aops_no_f rfl rfl rfl rfl zDec ?_ | (refine aops_guard_f rfl rfl rfl rfl (fun hg => ?_) (fun hg => ?_); case' _ => (first | refine aops_q (aq_load1 rfl zUpd List.not_mem_nil rfl zRc) rfl rfl rfl ?_ | refine aops_q (aq_load_el1 rfl rfl zScal (fun _ h => absurd h List.not_mem_nil)) rfl rfl rfl ?_ | refine aops_q (aq_load_el1' rfl rfl zScal (fun _ h => absurd h List.not_mem_nil)) rfl rfl rfl ?_ | refine aops_q (aq_load_own1 rfl zUpd List.not_mem_nil rfl zAss zScal) rfl rfl rfl ?_)))
    all_goals (first | (refine aops_yes rfl rfl rfl rfl zDec ?_; (first | refine aops_len rfl rfl rfl rfl (fun _ => ?_) | refine aops_p (ap_len_arr rfl zUpd rfl) rfl rfl rfl ?_ | refine aops_p (ap_len_nil rfl rfl) rfl rfl rfl ?_)) | refine aops_no_u rfl rfl rfl ?_ | refine aops_no_f rfl rfl rfl rfl zDec ?_ | (refine aops_guard_f rfl rfl rfl rfl (fun hg => ?_) (fun hg => ?_); case' _ => (first | refine aops_len rfl rfl rfl rfl (fun _ => ?_) | refine aops_p (ap_len_arr rfl zUpd rfl) rfl rfl rfl ?_ | refine aops_p (ap_len_nil rfl rfl) rfl rfl rfl ?_)))
    all_goals (first | (refine aops_yes rfl rfl rfl rfl zDec ?_; (first | refine aops_p (ap_fieldAddr (off := 2) (sz := 1) (g := false) rfl rfl) rfl rfl rfl ?_ | refine aops_p (ap_fieldAddr_el (off := 2) (sz := 1) (g := false) rfl rfl zRc) rfl rfl rfl ?_)) | refine aops_no_u rfl rfl rfl ?_ | refine aops_no_f rfl rfl rfl rfl zDec ?_ | (refine aops_guard_f rfl rfl rfl rfl (fun hg => ?_) (fun hg => ?_); case' _ => (first | refine aops_p (ap_fieldAddr (off := 2) (sz := 1) (g := false) rfl rfl) rfl rfl rfl ?_ | refine aops_p (ap_fieldAddr_el (off := 2) (sz := 1) (g := false) rfl rfl zRc) rfl rfl rfl ?_)))
    all_goals (first | (refine aops_yes rfl rfl rfl rfl zDec ?_; (first | refine aops_q (aq_load1 rfl zUpd List.not_mem_nil rfl zRc) rfl rfl rfl ?_ | refine aops_q (aq_load_el1 rfl rfl zScal (fun _ h => absurd h List.not_mem_nil)) rfl rfl rfl ?_ | refine aops_q (aq_load_el1' rfl rfl zScal (fun _ h => absurd h List.not_mem_nil)) rfl rfl rfl ?_ | refine aops_q (aq_load_own1 rfl zUpd List.not_mem_nil rfl zAss zScal) rfl rfl rfl ?_)) | refine aops_no_u rfl rfl rfl ?_ | refine aops_no_f rfl rfl rfl rfl zDec ?_ | (refine aops_guard_f rfl rfl rfl rfl (fun hg => ?_) (fun hg => ?_); case' _ => (first | refine aops_q (aq_load1 rfl zUpd List.not_mem_nil rfl zRc) rfl rfl rfl ?_ | refine aops_q (aq_load_el1 rfl rfl zScal (fun _ h => absurd h List.not_mem_nil)) rfl rfl rfl ?_ | refine aops_q (aq_load_el1' rfl rfl zScal (fun _ h => absurd h List.not_mem_nil)) rfl rfl rfl ?_ | refine aops_q (aq_load_own1 rfl zUpd List.not_mem_nil rfl zAss zScal) rfl rfl rfl ?_)))
    all_goals (first | (refine aops_yes rfl rfl rfl rfl zDec ?_; (first | refine aops_len rfl rfl rfl rfl (fun _ => ?_) | refine aops_p (ap_len_arr rfl zUpd rfl) rfl rfl rfl ?_ | refine aops_p (ap_len_nil rfl rfl) rfl rfl rfl ?_)) | refine aops_no_u rfl rfl rfl ?_ | refine aops_no_f rfl rfl rfl rfl zDec ?_ | (refine aops_guard_f rfl rfl rfl rfl (fun hg => ?_) (fun hg => ?_); case' _ => (first | refine aops_len rfl rfl rfl rfl (fun _ => ?_) | refine aops_p (ap_len_arr rfl zUpd rfl) rfl rfl rfl ?_ | refine aops_p (ap_len_nil rfl rfl) rfl rfl rfl ?_)))
    all_goals (first | (refine aops_yes rfl rfl rfl rfl zDec ?_; (refine aops_p (ap_arith rfl rfl rfl (by omega)) rfl rfl rfl ?_)) | refine aops_no_u rfl rfl rfl ?_ | refine aops_no_f rfl rfl rfl rfl zDec ?_ | (refine aops_guard_f rfl rfl rfl rfl (fun hg => ?_) (fun hg => ?_); case' _ => (refine aops_p (ap_arith rfl rfl rfl (by omega)) rfl rfl rfl ?_)))
    all_goals (first | (refine aops_yes rfl rfl rfl rfl zDec ?_; (refine aops_p (ap_cmp rfl rfl rfl) rfl rfl rfl ?_)) | refine aops_no_u rfl rfl rfl ?_ | refine aops_no_f rfl rfl rfl rfl zDec ?_ | (refine aops_guard_f rfl rfl rfl rfl (fun hg => ?_) (fun hg => ?_); case' _ => (refine aops_p (ap_cmp rfl rfl rfl) rfl rfl rfl ?_)))
    all_goals (first | refine aops_p (ap_pick_true rfl zDec rfl) rfl rfl rfl ?_ | refine aops_p (ap_pick_false rfl zDec rfl) rfl rfl rfl ?_)
    all_goals (
      refine aops_nil ?_
      refine seqQ_n ?_
      refine awp_cond rfl (fun hc => ?_) (fun hc => ?_)
      · first
        | (exact absurd hc (by decide))
        | (refine awp_seq ?_
           refine awp_region ?_
           refine aops_p (ap_assign rfl) rfl rfl rfl ?_
           refine aops_nil ?_
           refine seqQ_n ?_
           refine awp_ret ?_
           refine seqQ_r ?_
           refine post_is (.tmp rfl .nil) .nil ?_
           simp only [resD, checkT]; rw [if_pos (by first | (have := of_decide_eq_true hg; omega) | (have := of_decide_eq_true hc; omega))]
          )
      · first
        | (exact absurd hc (by decide))
        | (have hth : ¬ (t.th < 1 ∨ (t.nodes.length + t.inner.length : Int) < t.th) := by have h1 := of_decide_eq_false hg; have h2 := of_decide_eq_false hc; omega
           refine awp_skip ?_
           refine seqQ_n ?_
           refine awp_seq ?_
           refine awp_seq ?_
           refine awp_region ?_
           first | refine aops_p (ap_fieldAddr (off := 1) (sz := 1) (g := false) rfl rfl) rfl rfl rfl ?_ | refine aops_p (ap_fieldAddr_el (off := 1) (sz := 1) (g := false) rfl rfl zRc) rfl rfl rfl ?_
           first | refine aops_q (aq_load1 rfl zUpd List.not_mem_nil rfl zRc) rfl rfl rfl ?_ | refine aops_q (aq_load_el1 rfl rfl zScal (fun _ h => absurd h List.not_mem_nil)) rfl rfl rfl ?_ | refine aops_q (aq_load_el1' rfl rfl zScal (fun _ h => absurd h List.not_mem_nil)) rfl rfl rfl ?_ | refine aops_q (aq_load_own1 rfl zUpd List.not_mem_nil rfl zAss zScal) rfl rfl rfl ?_
           first | refine aops_len rfl rfl rfl rfl (fun _ => ?_) | refine aops_p (ap_len_arr rfl zUpd rfl) rfl rfl rfl ?_ | refine aops_p (ap_len_nil rfl rfl) rfl rfl rfl ?_
           refine aops_p (ap_move rfl) rfl rfl rfl ?_
           refine aops_nil ?_
           refine seqQ_n ?_
           refine awp_block ?_
           refine awp_loop1 [1, 26, 27] [.box b1 _ _] (fun (k : Nat) r => (28, .i (k : Int)) :: r) (fun (k : Nat) r => r) (fun (k : Nat) => k ≤ t.nodes.length ∧ (t.nodes.drop k).any badN = t.nodes.any badN) (fun (k : Nat) => t.nodes.length - k) (0) zRc ⟨by omega, by simp⟩ (wk zSub (by repeat (first | exact .nil | refine .cons (by first | exact .here | exact .there .here | exact .there (.there .here) | exact .there (.there (.there .here)) | exact .there (.there (.there (.there .here)))) ?_))) ?_
           intro k ⟨hk, hI⟩
           refine awp_seq ?_
           refine awp_region ?_
           refine aops_p (ap_cmp rfl rfl rfl) rfl rfl rfl ?_
           refine aops_nil ?_
           refine seqQ_n ?_
           refine awp_seq ?_
           refine awp_cond rfl (fun hc => ?_) (fun hc => ?_)
           · have hlt : k < t.nodes.length := by have := of_decide_eq_true hc; omega
             obtain ⟨x, hx, hd⟩ := drop_cons hlt
             have hx' := getMap D.i hx
             refine awp_skip ?_
             refine seqQ_n ?_
             refine awp_seq ?_
             refine awp_block ?_
             refine awp_seq ?_
             refine awp_region ?_
             first | refine aops_p (ap_index rfl rfl rfl rfl (by decide) rfl zAss) rfl rfl rfl ?_ | refine aops_p (ap_index rfl rfl rfl rfl (by decide) (by omega) zAss) rfl rfl rfl ?_ | refine aops_p (ap_index_own rfl rfl rfl rfl rfl (by first | omega | (simp only [List.length_map, List.length_set, avs_len]; omega))) rfl rfl rfl ?_
             first | refine aops_q (aq_load1 rfl zUpd List.not_mem_nil rfl zRc) rfl rfl rfl ?_ | refine aops_q (aq_load_el1 rfl rfl zScal (fun _ h => absurd h List.not_mem_nil)) rfl rfl rfl ?_ | refine aops_q (aq_load_el1' rfl rfl zScal (fun _ h => absurd h List.not_mem_nil)) rfl rfl rfl ?_ | refine aops_q (aq_load_own1 rfl zUpd List.not_mem_nil rfl zAss zScal) rfl rfl rfl ?_
             refine aops_p (ap_assign rfl) rfl rfl rfl ?_
             refine aops_nil ?_
             refine seqQ_n ?_
             refine awp_seq ?_
             refine awp_region ?_
             refine aops_p (ap_move rfl) rfl rfl rfl ?_
             refine aops_p (ap_cmp rfl rfl rfl) rfl rfl rfl ?_
             refine aops_p (ap_move rfl) rfl rfl rfl ?_
             all_goals (first | (refine aops_yes rfl rfl rfl rfl zDec ?_; (refine aops_p (ap_move rfl) rfl rfl rfl ?_)) | refine aops_no_u rfl rfl rfl ?_ | refine aops_no_f rfl rfl rfl rfl zDec ?_ | (refine aops_guard_f rfl rfl rfl rfl (fun hg => ?_) (fun hg => ?_); case' _ => (refine aops_p (ap_move rfl) rfl rfl rfl ?_)))
             all_goals (first | (refine aops_yes rfl rfl rfl rfl zDec ?_; (refine aops_p (ap_cmp rfl rfl rfl) rfl rfl rfl ?_)) | refine aops_no_u rfl rfl rfl ?_ | refine aops_no_f rfl rfl rfl rfl zDec ?_ | (refine aops_guard_f rfl rfl rfl rfl (fun hg => ?_) (fun hg => ?_); case' _ => (refine aops_p (ap_cmp rfl rfl rfl) rfl rfl rfl ?_)))
             all_goals (first | refine aops_p (ap_pick_true rfl zDec rfl) rfl rfl rfl ?_ | refine aops_p (ap_pick_false rfl zDec rfl) rfl rfl rfl ?_)
             all_goals (
               refine aops_nil ?_
               refine seqQ_n ?_
               refine awp_cond rfl (fun hc => ?_) (fun hc => ?_)
               · first
                 | (exact absurd hc (by decide))
                 | (refine awp_seq ?_
                    refine awp_region ?_
                    refine aops_p (ap_assign rfl) rfl rfl rfl ?_
                    refine aops_nil ?_
                    refine seqQ_n ?_
                    refine awp_ret ?_
                    refine blockQ_r ?_
                    refine seqQ_r ?_
                    refine seqQ_r ?_
                    refine blockQ_r ?_
                    refine seqQ_r ?_
                    refine post_is (.tmp rfl .nil) .nil ?_
                    simp only [resD, checkT]; rw [if_neg hth, if_pos (any_of_get hx (by first | (simp only [badN, hg]; rfl) | (simp only [badN, hc, Bool.or_true])))]
                   )
               · first
                 | (exact absurd hc (by decide))
                 | (have hc2 := hc
                    refine awp_skip ?_
                    refine blockQ_n ?_
                    refine seqQ_n ?_
                    refine awp_region ?_
                    refine aops_p (ap_arith rfl rfl rfl (by omega)) rfl rfl rfl ?_
                    refine aops_p (ap_move rfl) rfl rfl rfl ?_
                    refine aops_nil ?_
                    refine seqQ_n ?_
                    rw [hd, any_drop_f hg hc2] at hI
                    refine ⟨k + 1, ⟨by omega, hI⟩, by omega, wk zSub (by repeat (first | exact .nil | refine .cons (by first | exact .here | exact .there .here | exact .there (.there .here) | exact .there (.there (.there .here)) | exact .there (.there (.there (.there .here)))) ?_))⟩
                   )
               )
           · have hge : t.nodes.length ≤ k := by have := of_decide_eq_false hc; omega
             rw [drop_nil hge] at hI; simp only [List.any_nil] at hI
             have hany : t.nodes.any badN = false := hI.symm
             refine awp_exit ?_
             refine seqQ_x ?_
             refine seqQ_x ?_
             refine blockQ_x rfl ?_
             refine seqQ_n ?_
             refine awp_seq ?_
             refine awp_seq ?_
             refine awp_region ?_
             first | refine aops_p (ap_fieldAddr (off := 1) (sz := 1) (g := false) rfl rfl) rfl rfl rfl ?_ | refine aops_p (ap_fieldAddr_el (off := 1) (sz := 1) (g := false) rfl rfl zRc) rfl rfl rfl ?_
             first | refine aops_q (aq_load1 rfl zUpd List.not_mem_nil rfl zRc) rfl rfl rfl ?_ | refine aops_q (aq_load_el1 rfl rfl zScal (fun _ h => absurd h List.not_mem_nil)) rfl rfl rfl ?_ | refine aops_q (aq_load_el1' rfl rfl zScal (fun _ h => absurd h List.not_mem_nil)) rfl rfl rfl ?_ | refine aops_q (aq_load_own1 rfl zUpd List.not_mem_nil rfl zAss zScal) rfl rfl rfl ?_
             refine aops_call_v zRc (rof_con _) rfl rfl ?_
             refine aops_p (ap_move rfl) rfl rfl rfl ?_
             refine aops_p (ap_extract rfl rfl) rfl rfl rfl ?_
             refine aops_p (ap_extract rfl rfl) rfl rfl rfl ?_
             refine aops_p (ap_assign rfl) rfl rfl rfl ?_
             refine aops_p (ap_assign rfl) rfl rfl rfl ?_
             refine aops_nil ?_
             refine seqQ_n ?_
             refine awp_seq ?_
             refine awp_region ?_
             refine aops_p (ap_move rfl) rfl rfl rfl ?_
             refine aops_p (ap_cmp rfl rfl rfl) rfl rfl rfl ?_
             refine aops_nil ?_
             refine seqQ_n ?_
             refine awp_cond rfl (fun hc => ?_) (fun hc => ?_)
             · have he := hc
               refine awp_seq ?_
               refine awp_region ?_
               refine aops_p (ap_move rfl) rfl rfl rfl ?_
               refine aops_p (ap_assign rfl) rfl rfl rfl ?_
               refine aops_nil ?_
               refine seqQ_n ?_
               refine awp_ret ?_
               refine seqQ_r ?_
               refine post_is (.tmp rfl .nil) .nil ?_
               simp only [resD, checkT]; rw [if_neg hth, if_neg (by rw [hany]; simp), if_pos (by simpa using he)]
             · have he := hc
               refine awp_skip ?_
               refine seqQ_n ?_
               refine awp_seq ?_
               refine awp_seq ?_
               refine awp_region ?_
               first | refine aops_p (ap_fieldAddr (off := 2) (sz := 1) (g := false) rfl rfl) rfl rfl rfl ?_ | refine aops_p (ap_fieldAddr_el (off := 2) (sz := 1) (g := false) rfl rfl zRc) rfl rfl rfl ?_
               first | refine aops_q (aq_load1 rfl zUpd List.not_mem_nil rfl zRc) rfl rfl rfl ?_ | refine aops_q (aq_load_el1 rfl rfl zScal (fun _ h => absurd h List.not_mem_nil)) rfl rfl rfl ?_ | refine aops_q (aq_load_el1' rfl rfl zScal (fun _ h => absurd h List.not_mem_nil)) rfl rfl rfl ?_ | refine aops_q (aq_load_own1 rfl zUpd List.not_mem_nil rfl zAss zScal) rfl rfl rfl ?_
               first | refine aops_len rfl rfl rfl rfl (fun _ => ?_) | refine aops_p (ap_len_arr rfl zUpd rfl) rfl rfl rfl ?_ | refine aops_p (ap_len_nil rfl rfl) rfl rfl rfl ?_
               refine aops_p (ap_move rfl) rfl rfl rfl ?_
               refine aops_nil ?_
               refine seqQ_n ?_
               refine awp_block ?_
               refine awp_loop1 [49, 50] [] (fun (k : Nat) r => (51, .i (k : Int)) :: r) (fun (k : Nat) r => r) (fun (k : Nat) => k ≤ t.inner.length ∧ checkL (t.inner.drop k) = checkL t.inner) (fun (k : Nat) => t.inner.length - k) (0) zRc ⟨by omega, by simp⟩ (wk zSub (by repeat (first | exact .nil | refine .cons (by first | exact .here | exact .there .here | exact .there (.there .here) | exact .there (.there (.there .here)) | exact .there (.there (.there (.there .here)))) ?_))) ?_
               intro k ⟨hk, hI⟩
               refine awp_seq ?_
               refine awp_region ?_
               refine aops_p (ap_cmp rfl rfl rfl) rfl rfl rfl ?_
               refine aops_nil ?_
               refine seqQ_n ?_
               refine awp_seq ?_
               refine awp_cond rfl (fun hc => ?_) (fun hc => ?_)
               · have hlt : k < t.inner.length := by have := of_decide_eq_true hc; omega
                 obtain ⟨x, hx, hd⟩ := drop_cons hlt
                 have hx' := avs_get hx
                 have hxm := List.mem_of_getElem? hx
                 refine awp_skip ?_
                 refine seqQ_n ?_
                 refine awp_seq ?_
                 refine awp_block ?_
                 refine awp_seq ?_
                 refine awp_region ?_
                 first | refine aops_p (ap_index rfl rfl rfl rfl (by decide) rfl zAss) rfl rfl rfl ?_ | refine aops_p (ap_index rfl rfl rfl rfl (by decide) (by omega) zAss) rfl rfl rfl ?_ | refine aops_p (ap_index_own rfl rfl rfl rfl rfl (by first | omega | (simp only [List.length_map, List.length_set, avs_len]; omega))) rfl rfl rfl ?_
                 first | refine aops_q (aq_load rfl zUpd List.not_mem_nil rfl rfl zRc) rfl rfl rfl ?_ | refine aops_q (aq_load_el rfl rfl rfl rfl (fun _ h => absurd h List.not_mem_nil)) rfl rfl rfl ?_
                 refine aops_alloc rfl zRc rfl rfl (fun b8 => ?_)
                 first | refine aops_store rfl rfl zFlat zUpd rfl zRc ?_ | refine aops_store_own1 rfl rfl zScal zUpd rfl (by simp only [List.length_set, List.length_map]; omega) ?_
                 refine aops_nil ?_
                 refine seqQ_n ?_
                 refine awp_seq ?_
                 refine awp_region ?_
                 first | refine aops_q (aq_load rfl zUpd List.not_mem_nil rfl rfl zRc) rfl rfl rfl ?_ | refine aops_q (aq_load_el rfl rfl rfl rfl (fun _ h => absurd h List.not_mem_nil)) rfl rfl rfl ?_
                 refine aops_call_v zRc (ih _ hxm) rfl rfl ?_
                 refine aops_p (ap_assign rfl) rfl rfl rfl ?_
                 refine aops_nil ?_
                 refine seqQ_n ?_
                 refine awp_seq ?_
                 refine awp_region ?_
                 refine aops_p (ap_move rfl) rfl rfl rfl ?_
                 refine aops_p (ap_cmp rfl rfl rfl) rfl rfl rfl ?_
                 refine aops_nil ?_
                 refine seqQ_n ?_
                 refine awp_cond rfl (fun hc => ?_) (fun hc => ?_)
                 · refine awp_seq ?_
                   refine awp_region ?_
                   refine aops_p (ap_move rfl) rfl rfl rfl ?_
                   refine aops_p (ap_assign rfl) rfl rfl rfl ?_
                   refine aops_nil ?_
                   refine seqQ_n ?_
                   refine awp_ret ?_
                   refine blockQ_r ?_
                   refine seqQ_r ?_
                   refine seqQ_r ?_
                   refine blockQ_r ?_
                   refine seqQ_r ?_
                   refine post_is (.tmp rfl .nil) .nil ?_
                   rw [hd, checkL_cons, if_pos (by simpa using hc)] at hI
                   have e : checkT t = checkL t.inner := by unfold checkT; rw [if_neg hth, if_neg (by rw [hany]; simp), if_neg (by simpa using he)]
                   simp only [resD]; rw [e, ← hI]
                 · refine awp_skip ?_
                   refine blockQ_n ?_
                   refine seqQ_n ?_
                   refine awp_region ?_
                   refine aops_p (ap_arith rfl rfl rfl (by omega)) rfl rfl rfl ?_
                   refine aops_p (ap_move rfl) rfl rfl rfl ?_
                   refine aops_nil ?_
                   refine seqQ_n ?_
                   have hz := of_decide_eq_true (Bool.not_eq_false' .. ▸ hc)
                   rw [hd, checkL_cons, if_neg (by simpa using hz)] at hI
                   refine ⟨k + 1, ⟨by omega, hI⟩, by omega, wk zSub (by repeat (first | exact .nil | refine .cons (by first | exact .here | exact .there .here | exact .there (.there .here) | exact .there (.there (.there .here)) | exact .there (.there (.there (.there .here)))) ?_))⟩
               · have hge : t.inner.length ≤ k := by have := of_decide_eq_false hc; omega
                 rw [drop_nil hge] at hI; simp only [checkL] at hI
                 refine awp_exit ?_
                 refine seqQ_x ?_
                 refine seqQ_x ?_
                 refine blockQ_x rfl ?_
                 refine seqQ_n ?_
                 refine awp_seq ?_
                 refine awp_region ?_
                 refine aops_p (ap_assign rfl) rfl rfl rfl ?_
                 refine aops_nil ?_
                 refine seqQ_n ?_
                 refine awp_ret ?_
                 refine post_is (.tmp rfl .nil) .nil ?_
                 have e : checkT t = checkL t.inner := by unfold checkT; rw [if_neg hth, if_neg (by rw [hany]; simp), if_neg (by simpa using he)]
                 simp only [resD]; rw [e, ← hI]
          )
      )
theorem rvalidT_con (t : Trust) (ht : sizeT t ≤ 1000000000) : Con Try.prog 33 [av t] [] (Is (.i (validT t)) []) := by
  have hcap : capB = 140737488355328 := rfl
  refine con_intro Try.func33 rfl Try.call33 rfl ?_
  refine awp_seq ?_
  refine awp_region ?_
  refine aops_box rfl zFlat rfl rfl (fun b1 => ?_)
  refine aops_p (ap_assign rfl) rfl rfl rfl ?_
  refine aops_nil ?_
  refine seqQ_n ?_
  refine awp_seq ?_
  refine awp_seq ?_
  refine awp_region ?_
  first | refine aops_q (aq_load rfl zUpd List.not_mem_nil rfl rfl zRc) rfl rfl rfl ?_ | refine aops_q (aq_load_el rfl rfl rfl rfl (fun _ h => absurd h List.not_mem_nil)) rfl rfl rfl ?_
  refine aops_call_v zRc (rdepth_con 1000000000 (by omega) t ht) rfl rfl ?_
  refine aops_p (ap_cmp rfl rfl rfl) rfl rfl rfl ?_
  refine aops_p (ap_move rfl) rfl rfl rfl ?_
  all_goals (first | (refine aops_yes rfl rfl rfl rfl zDec ?_; (first | refine aops_q (aq_load rfl zUpd List.not_mem_nil rfl rfl zRc) rfl rfl rfl ?_ | refine aops_q (aq_load_el rfl rfl rfl rfl (fun _ h => absurd h List.not_mem_nil)) rfl rfl rfl ?_)) | refine aops_no_u rfl rfl rfl ?_ | refine aops_no_f rfl rfl rfl rfl zDec ?_ | (refine aops_guard_f rfl rfl rfl rfl (fun hg => ?_) (fun hg => ?_); case' _ => (first | refine aops_q (aq_load rfl zUpd List.not_mem_nil rfl rfl zRc) rfl rfl rfl ?_ | refine aops_q (aq_load_el rfl rfl rfl rfl (fun _ h => absurd h List.not_mem_nil)) rfl rfl rfl ?_)))
  all_goals (first | (refine aops_yes rfl rfl rfl rfl zDec ?_; (refine aops_call_v zRc (rsize_con 1000000000 (by omega) t ht) rfl rfl ?_)) | refine aops_no_u rfl rfl rfl ?_ | refine aops_no_f rfl rfl rfl rfl zDec ?_ | (refine aops_guard_f rfl rfl rfl rfl (fun hg => ?_) (fun hg => ?_); case' _ => (refine aops_call_v zRc (rsize_con 1000000000 (by omega) t ht) rfl rfl ?_)))
  all_goals (first | (refine aops_yes rfl rfl rfl rfl zDec ?_; (refine aops_p (ap_cmp rfl rfl rfl) rfl rfl rfl ?_)) | refine aops_no_u rfl rfl rfl ?_ | refine aops_no_f rfl rfl rfl rfl zDec ?_ | (refine aops_guard_f rfl rfl rfl rfl (fun hg => ?_) (fun hg => ?_); case' _ => (refine aops_p (ap_cmp rfl rfl rfl) rfl rfl rfl ?_)))
  all_goals (first | refine aops_p (ap_pick_true rfl zDec rfl) rfl rfl rfl ?_ | refine aops_p (ap_pick_false rfl zDec rfl) rfl rfl rfl ?_)
  all_goals (
    refine aops_nil ?_
    refine seqQ_n ?_
    refine awp_cond rfl (fun hc => ?_) (fun hc => ?_)
    · first
      | (exact absurd hc (by decide))
      | (refine awp_seq ?_
         refine awp_region ?_
         refine aops_p (ap_assign rfl) rfl rfl rfl ?_
         refine aops_nil ?_
         refine seqQ_n ?_
         refine awp_ret ?_
         refine seqQ_r ?_
         refine post_is (.tmp rfl .nil) .nil ?_
         simp only [resD, validT]; rw [if_pos (by first | (have := of_decide_eq_true hg; omega) | (have := of_decide_eq_true hc; omega))]
        )
    · first
      | (exact absurd hc (by decide))
      | (refine awp_skip ?_
         refine seqQ_n ?_
         refine awp_seq ?_
         refine awp_region ?_
         first | refine aops_q (aq_load rfl zUpd List.not_mem_nil rfl rfl zRc) rfl rfl rfl ?_ | refine aops_q (aq_load_el rfl rfl rfl rfl (fun _ h => absurd h List.not_mem_nil)) rfl rfl rfl ?_
         refine aops_call_v zRc (rcheck_con t) rfl rfl ?_
         refine aops_p (ap_assign rfl) rfl rfl rfl ?_
         refine aops_nil ?_
         refine seqQ_n ?_
         refine awp_ret ?_
         refine post_is (.tmp rfl .nil) .nil ?_
         simp only [resD, validT]; rw [if_neg (by have h1 := of_decide_eq_false hg; have h2 := of_decide_eq_false hc; omega)]
        )
    )
theorem node_con (k : Int) : Con Try.prog 114 [.i k] [] (Is (.b (nd k)) []) := by
  have hcap : capB = 140737488355328 := rfl
  refine con_intro Try.func114 rfl Try.call114 rfl ?_
  refine awp_seq ?_
  refine awp_region ?_
  refine aops_p (ap_assign rfl) rfl rfl rfl ?_
  refine aops_nil ?_
  refine seqQ_n ?_
  refine awp_seq ?_
  refine awp_region ?_
  refine aops_p (ap_move rfl) rfl rfl rfl ?_
  refine aops_p (ap_cmp rfl rfl rfl) rfl rfl rfl ?_
  refine aops_p (ap_move rfl) rfl rfl rfl ?_
  all_goals (first | (refine aops_yes rfl rfl rfl rfl zDec ?_; (refine aops_p (ap_move rfl) rfl rfl rfl ?_)) | refine aops_no_u rfl rfl rfl ?_ | refine aops_no_t rfl rfl rfl rfl zDec ?_ | (refine aops_guard_t rfl rfl rfl rfl (fun hg => ?_) (fun hg => ?_); case' _ => (refine aops_p (ap_move rfl) rfl rfl rfl ?_)))
  all_goals (first | (refine aops_yes rfl rfl rfl rfl zDec ?_; (refine aops_p (ap_cmp rfl rfl rfl) rfl rfl rfl ?_)) | refine aops_no_u rfl rfl rfl ?_ | refine aops_no_t rfl rfl rfl rfl zDec ?_ | (refine aops_guard_t rfl rfl rfl rfl (fun hg => ?_) (fun hg => ?_); case' _ => (refine aops_p (ap_cmp rfl rfl rfl) rfl rfl rfl ?_)))
  all_goals (first | refine aops_p (ap_pick_true rfl zDec rfl) rfl rfl rfl ?_ | refine aops_p (ap_pick_false rfl zDec rfl) rfl rfl rfl ?_)
  all_goals (refine aops_p (ap_assign rfl) rfl rfl rfl ?_)
  all_goals (
    refine aops_nil ?_
    refine seqQ_n ?_
    refine awp_ret ?_
    refine post_is (.tmp rfl .nil) .nil ?_
    first | (simp_all [resD, nd]; done) | (simp_all [resD, nd]; omega)
    )
end Go.Proofs.Ytegejdhkckndaaa
