/- The law FederatedAnswers: for every input the call returns true, and the input reads as it did.
   Conditions: those of the given row; none of its own. -/
import Derived.Test.YtanlbfnlnfkcjaaFederatedAnswersW9
import Derived.Test.YtanlbfnlnfkcjaaRows
import Derived.WalkKit
import Derived.ProofKit
import Derived.OpenShut
import Derived.ChangeOld
import Derived.Below
import Derived.SizedLaws
namespace Go.Proofs.Ytanlbfnlnfkcjaa.federatedAnswers
open Go.ChangeShapes Go.WideShapes Go.ChangeAt Go.RowKit
set_option linter.unusedVariables false

theorem own : ownKnob Try.prog.godebug = none := by kernel_rfl
theorem laidOut : laidOutB Try.prog = true := by kernel_rfl
set_option maxRecDepth 100000 in
theorem lifted (os : Os) (started : os.Started) (H : Type) (enc : TypeId × Value → H) :
    ReturnsInHanded {} Try.checked os 6 .any (Rows.federatedAnswersSpec.pre6 enc Try.prog Try.f6 Rows.federatedAnswersRow.domain false) (Rows.federatedAnswersSpec.post enc Try.prog Try.f6 false true false false) := by
  refine returnsInHanded_of_change_sized (C := Try.checked) own started (by kernel_rfl) Try.func6
    (ChangeSpec.witness6 (enc := enc) (C := Try.checked) false ⟨#[], #[.slice none 0 0, .agg #[.slice none 0 0], .int .i64 0, .int .i64 0, .int .i64 0, .slice none 0 0, .agg #[.int .i64 0, .int .i64 0], .agg #[.int .i64 0, .slice none 0 0, .slice none 0 0]], []⟩ 8 (by kernel_rfl) (by kernel_rfl) (by kernel_rfl) (by kernel_rfl)) ?_
  intro W base args ds gs before hval0 hW hcnd hsz0 _
  have hval : ∀ (j : Nat) t v, Try.f6.params[j]? = some t → args[j]? = some v → Value.okWide Try.prog W .any base t v := hval0
  have hsz : (DataW.weightsEach Try.prog (Try.f6.params.toList ++ Rows.federatedAnswersSpec.plain.varTypes Try.prog) (ds ++ gs)).all (· ≤ reachBytes) = true := hsz0
  clear hsz0
  have hW' := hW
  obtain ⟨p, q, hA0, hV, rfl, hfz, hnd⟩ := hW
  have hA : DataW.TrodAll enc Try.prog W 0 (fun _ => true) true Try.f6.params.toList args.toList ds p := hA0
  rw [Try.params6] at hA hval hsz
  obtain ⟨v0, vs0, d0, ds0, p0, q0, hargs, rfl, rfl, h0, r0⟩ := trodAll_cons hA
  obtain ⟨v1, vs1, d1, ds1, p1, q1, rfl, rfl, rfl, h1, r1⟩ := trodAll_cons r0
  obtain ⟨v2, vs2, d2, ds2, p2, q2, rfl, rfl, rfl, h2, r2⟩ := trodAll_cons r1
  obtain ⟨v3, vs3, d3, ds3, p3, q3, rfl, rfl, rfl, h3, r3⟩ := trodAll_cons r2
  obtain ⟨v4, vs4, d4, ds4, p4, q4, rfl, rfl, rfl, h4, r4⟩ := trodAll_cons r3
  obtain ⟨v5, vs5, d5, ds5, p5, q5, rfl, rfl, rfl, h5, r5⟩ := trodAll_cons r4
  obtain ⟨v6, vs6, d6, ds6, p6, q6, rfl, rfl, rfl, h6, r6⟩ := trodAll_cons r5
  obtain ⟨v7, vs7, d7, ds7, p7, q7, rfl, rfl, rfl, h7, r7⟩ := trodAll_cons r6
  obtain ⟨rfl, rfl, rfl⟩ := trodAll_nil r7
  obtain rfl : args = #[v0, v1, v2, v3, v4, v5, v6, v7] := by cases args; simp_all
  obtain ⟨rfl, rfl⟩ := trodVars_none hV
  have k0 := h0
  have lt0 : ∀ x ∈ p0, x.block < W.heap.size := by obtain ⟨m, hm⟩ := k0; exact DataW.trod_lt m _ _ _ hm
  obtain ⟨a0, len0, cap0, rfl⟩ := okWide_slice Try.underlying22 (hval 0 22 v0 rfl rfl)
  obtain ⟨x0, e0⟩ : ∃ x : List Int, Go.Av.Rep W Go.Av.Nob (.sl 1 (x.map .i)) (.slice a0 len0 cap0) := by obtain ⟨m, hm⟩ := h0; obtain ⟨x, hx⟩ := (op_ints m).out enc _ _ hm (fun k hk => by have h9 := List.all_eq_true.1 hsz k (DataW.weights_mem_each (j := 0) (t := 22) rfl rfl k hk); simpa using h9); exact ⟨x, Go.Av.rep_one (by simp [Value.cells]) hx⟩
  have k1 := h1
  have lt1 : ∀ x ∈ p1, x.block < W.heap.size := by obtain ⟨m, hm⟩ := k1; exact DataW.trod_lt m _ _ _ hm
  obtain ⟨cs1, rfl, _⟩ := okWide_struct Try.underlying38 (hval 1 38 v1 rfl rfl)
  obtain ⟨x1, e1⟩ : ∃ x : List Go.Tq.Mem, Go.Av.Rep W Go.Av.Nob (Go.Tq.cv x) (.agg cs1) := by obtain ⟨m, hm⟩ := h1; obtain ⟨x, hx⟩ := (op_config m).out enc _ _ hm (fun k hk => by have h9 := List.all_eq_true.1 hsz k (DataW.weights_mem_each (j := 1) (t := 38) rfl rfl k hk); simpa using h9); exact ⟨x, Go.Av.rep_aggC hx⟩
  have k2 := h2
  have lt2 : ∀ x ∈ p2, x.block < W.heap.size := by obtain ⟨m, hm⟩ := k2; exact DataW.trod_lt m _ _ _ hm
  obtain ⟨z2, rfl⟩ := okWide_int Try.underlying3 (hval 2 3 v2 rfl rfl)
  have e2 : Go.Av.Rep W Go.Av.Nob (.i z2) (.int .i64 z2) := by simp [Go.Av.Rep]
  have k3 := h3
  have lt3 : ∀ x ∈ p3, x.block < W.heap.size := by obtain ⟨m, hm⟩ := k3; exact DataW.trod_lt m _ _ _ hm
  obtain ⟨z3, rfl⟩ := okWide_int Try.underlying3 (hval 3 3 v3 rfl rfl)
  have e3 : Go.Av.Rep W Go.Av.Nob (.i z3) (.int .i64 z3) := by simp [Go.Av.Rep]
  have k4 := h4
  have lt4 : ∀ x ∈ p4, x.block < W.heap.size := by obtain ⟨m, hm⟩ := k4; exact DataW.trod_lt m _ _ _ hm
  obtain ⟨z4, rfl⟩ := okWide_int Try.underlying3 (hval 4 3 v4 rfl rfl)
  have e4 : Go.Av.Rep W Go.Av.Nob (.i z4) (.int .i64 z4) := by simp [Go.Av.Rep]
  have k5 := h5
  have lt5 : ∀ x ∈ p5, x.block < W.heap.size := by obtain ⟨m, hm⟩ := k5; exact DataW.trod_lt m _ _ _ hm
  obtain ⟨a5, len5, cap5, rfl⟩ := okWide_slice Try.underlying59 (hval 5 59 v5 rfl rfl)
  obtain ⟨x5, e5⟩ : ∃ x : List Go.Tq.Msg, Go.Av.Rep W Go.Av.Nob (.sl 7 (x.map Go.Tq.msv)) (.slice a5 len5 cap5) := by obtain ⟨m, hm⟩ := h5; obtain ⟨x, hx⟩ := (op_msgs m).out enc _ _ hm (fun k hk => by have h9 := List.all_eq_true.1 hsz k (DataW.weights_mem_each (j := 5) (t := 59) rfl rfl k hk); simpa using h9); exact ⟨x, Go.Av.rep_one (by simp [Value.cells]) hx⟩
  have k6 := h6
  have lt6 : ∀ x ∈ p6, x.block < W.heap.size := by obtain ⟨m, hm⟩ := k6; exact DataW.trod_lt m _ _ _ hm
  obtain ⟨cs6, rfl, _⟩ := okWide_struct Try.underlying69 (hval 6 69 v6 rfl rfl)
  obtain ⟨x6, e6⟩ : ∃ x : Go.Tq.Cl, Go.Av.Rep W Go.Av.Nob (Go.Tq.clv x) (.agg cs6) := by obtain ⟨m, hm⟩ := h6; obtain ⟨x, hx⟩ := (op_claim m).out enc _ _ hm (fun k hk => by have h9 := List.all_eq_true.1 hsz k (DataW.weights_mem_each (j := 6) (t := 69) rfl rfl k hk); simpa using h9); exact ⟨x, Go.Av.rep_aggC hx⟩
  have k7 := h7
  have lt7 : ∀ x ∈ p7, x.block < W.heap.size := by obtain ⟨m, hm⟩ := k7; exact DataW.trod_lt m _ _ _ hm
  obtain ⟨cs7, rfl, _⟩ := okWide_struct Try.underlying27 (hval 7 27 v7 rfl rfl)
  obtain ⟨x7, e7⟩ : ∃ x : Go.Tq.Trust, Go.Av.Rep W Go.Av.Nob (Go.Tq.av x) (.agg cs7) := by obtain ⟨m, hm⟩ := h7; obtain ⟨x, hx⟩ := (op_trust m).out enc _ _ hm (fun k hk => by have h9 := List.all_eq_true.1 hsz k (DataW.weights_mem_each (j := 7) (t := 27) rfl rfl k hk); simpa using h9); exact ⟨x, Go.Av.rep_aggC hx⟩
  clear hA0 hval0
  refine (Go.Av.law_args (f := 6) (fanswers_con x0 x1 z2 z3 z4 x5 x6 x7) (w := W) (by simp only [Go.Av.RepT]; exact ⟨_, _, rfl, e0, ⟨_, _, rfl, e1, ⟨_, _, rfl, e2, ⟨_, _, rfl, e3, ⟨_, _, rfl, e4, ⟨_, _, rfl, e5, ⟨_, _, rfl, e6, ⟨_, _, rfl, e7, rfl⟩⟩⟩⟩⟩⟩⟩⟩)).mono fun e W' ⟨he, bel⟩ => ?_
  subst he
  exact ⟨_, rfl, _, _, _, [], _, [], hW', trodAll_mk1 (shut_bool Try.underlying4 _), (trodAll_cons_mk (Below.trod laidOut (by kernel_rfl) (of_decide_eq_true (by kernel_rfl)) k0 bel lt0) (trodAll_cons_mk (Below.trod laidOut (by kernel_rfl) (of_decide_eq_true (by kernel_rfl)) k1 bel lt1) (trodAll_cons_mk (Below.trod laidOut (by kernel_rfl) (of_decide_eq_true (by kernel_rfl)) k2 bel lt2) (trodAll_cons_mk (Below.trod laidOut (by kernel_rfl) (of_decide_eq_true (by kernel_rfl)) k3 bel lt3) (trodAll_cons_mk (Below.trod laidOut (by kernel_rfl) (of_decide_eq_true (by kernel_rfl)) k4 bel lt4) (trodAll_cons_mk (Below.trod laidOut (by kernel_rfl) (of_decide_eq_true (by kernel_rfl)) k5 bel lt5) (trodAll_cons_mk (Below.trod laidOut (by kernel_rfl) (of_decide_eq_true (by kernel_rfl)) k6 bel lt6) (trodAll_cons_mk (Below.trod laidOut (by kernel_rfl) (of_decide_eq_true (by kernel_rfl)) k7 bel lt7) trodAll_mk0)))))))), rfl, bel.frame _, fun h => by cases h⟩

theorem over : Rows.federatedAnswersRow.holds Try.pinned (OpenSpec.ofChange Rows.federatedAnswersSpec) :=
  OpenClaim.holds_of_wide 6 Try.f6 rfl rfl rfl rfl rfl rfl rfl ⟨rfl, rfl, rfl, rfl, rfl⟩ rfl rfl rfl rfl rfl (by kernel_rfl) Try.func6 (by kernel_rfl)
    (of_decide_eq_true (by kernel_rfl)) (by unfold Func.isWrapper; first | (rw [if_pos (by decide +kernel)]; kernel_rfl) | (rw [if_neg (by decide +kernel)]; exact ⟨rfl, rfl⟩))
    (fun os started H enc _ => lifted os started H enc)

/-- The given statement. -/
theorem proved : Rows.FederatedAnswersSaid := over
end Go.Proofs.Ytanlbfnlnfkcjaa.federatedAnswers
