/- The law TimersExact: for every input the call returns true, and the input reads as it did.
   Conditions: those of the given row; none of its own. -/
import Derived.Test.YtegejdhkckndaaaGreatTimersExactW10
import Derived.Test.YtegejdhkckndaaaGreatRows
import Derived.WalkKit
import Derived.ProofKit
import Derived.OpenShut
import Derived.ChangeOld
import Derived.Below
import Derived.SizedLaws
namespace Go.Proofs.YtegejdhkckndaaaGreat.timersExact
open Go.ChangeShapes Go.WideShapes Go.ChangeAt Go.RowKit
set_option linter.unusedVariables false

theorem own : ownKnob Tryz.prog.godebug = none := by kernel_rfl
theorem laidOut : laidOutB Tryz.prog = true := by kernel_rfl
set_option maxRecDepth 100000 in
theorem lifted (os : Os) (started : os.Started) (H : Type) (enc : TypeId × Value → H) :
    ReturnsInHanded {} Tryz.checked os 3 .any (Rows.timersExactSpec.pre6 enc Tryz.prog Tryz.f3 Rows.timersExactRow.domain false) (Rows.timersExactSpec.post enc Tryz.prog Tryz.f3 false true false false) := by
  refine returnsInHanded_of_change_sized (C := Tryz.checked) own started (by kernel_rfl) Tryz.func3
    (ChangeSpec.witness6 (enc := enc) (C := Tryz.checked) false ⟨#[], #[.slice none 0 0, .agg #[.int .i64 0, .int .i64 0], .agg #[.int .i64 0, .int .i64 0, .int .i64 0, .int .i64 0, .slice none 0 0, .slice none 0 0, .int .i64 0, .int .i64 0, .string ⟨#[]⟩, .int .i64 0, .string ⟨#[]⟩, .int .i64 0, .string ⟨#[]⟩, .int .i64 0, .string ⟨#[]⟩, .int .i64 0, .int .i64 0, .string ⟨#[]⟩, .slice none 0 0], .int .i64 0, .int .i64 0], []⟩ 8 (by kernel_rfl) (by kernel_rfl) (by kernel_rfl) (by kernel_rfl)) ?_
  intro W base args ds gs before hval0 hW hcnd hsz0 _
  have hval : ∀ (j : Nat) t v, Tryz.f3.params[j]? = some t → args[j]? = some v → Value.okWide Tryz.prog W .any base t v := hval0
  have hsz : (DataW.weightsEach Tryz.prog (Tryz.f3.params.toList ++ Rows.timersExactSpec.plain.varTypes Tryz.prog) (ds ++ gs)).all (· ≤ reachBytes) = true := hsz0
  clear hsz0
  have hW' := hW
  obtain ⟨p, q, hA0, hV, rfl, hfz, hnd⟩ := hW
  have hA : DataW.TrodAll enc Tryz.prog W 0 (fun _ => true) true Tryz.f3.params.toList args.toList ds p := hA0
  rw [Tryz.params3] at hA hval hsz
  obtain ⟨v0, vs0, d0, ds0, p0, q0, hargs, rfl, rfl, h0, r0⟩ := trodAll_cons hA
  obtain ⟨v1, vs1, d1, ds1, p1, q1, rfl, rfl, rfl, h1, r1⟩ := trodAll_cons r0
  obtain ⟨v2, vs2, d2, ds2, p2, q2, rfl, rfl, rfl, h2, r2⟩ := trodAll_cons r1
  obtain ⟨v3, vs3, d3, ds3, p3, q3, rfl, rfl, rfl, h3, r3⟩ := trodAll_cons r2
  obtain ⟨v4, vs4, d4, ds4, p4, q4, rfl, rfl, rfl, h4, r4⟩ := trodAll_cons r3
  obtain ⟨rfl, rfl, rfl⟩ := trodAll_nil r4
  obtain rfl : args = #[v0, v1, v2, v3, v4] := by cases args; simp_all
  obtain ⟨rfl, rfl⟩ := trodVars_none hV
  have k0 := h0
  have lt0 : ∀ x ∈ p0, x.block < W.heap.size := by obtain ⟨m, hm⟩ := k0; exact DataW.trod_lt m _ _ _ hm
  obtain ⟨a0, len0, cap0, rfl⟩ := okWide_slice Tryz.underlying22 (hval 0 22 v0 rfl rfl)
  obtain ⟨x0, e0⟩ : ∃ x : List Int, Go.Av.Rep W Go.Av.Nob (.sl 1 (x.map .i)) (.slice a0 len0 cap0) := by obtain ⟨m, hm⟩ := h0; obtain ⟨x, hx⟩ := (op_ints m).out enc _ _ hm (fun k hk => by have h9 := List.all_eq_true.1 hsz k (DataW.weights_mem_each (j := 0) (t := 22) rfl rfl k hk); simpa using h9); exact ⟨x, Go.Av.rep_one (by simp [Value.cells]) hx⟩
  have k1 := h1
  have lt1 : ∀ x ∈ p1, x.block < W.heap.size := by obtain ⟨m, hm⟩ := k1; exact DataW.trod_lt m _ _ _ hm
  obtain ⟨cs1, rfl, _⟩ := okWide_struct Tryz.underlying24 (hval 1 24 v1 rfl rfl)
  obtain ⟨x1, e1⟩ : ∃ x : Go.Tq.Tm, Go.Av.Rep W Go.Av.Nob (Go.Tq.tmv x) (.agg cs1) := by obtain ⟨m, hm⟩ := h1; obtain ⟨x, hx⟩ := (op_timer m).out enc _ _ hm (fun k hk => by have h9 := List.all_eq_true.1 hsz k (DataW.weights_mem_each (j := 1) (t := 24) rfl rfl k hk); simpa using h9); exact ⟨x, Go.Av.rep_aggC hx⟩
  have k2 := h2
  have lt2 : ∀ x ∈ p2, x.block < W.heap.size := by obtain ⟨m, hm⟩ := k2; exact DataW.trod_lt m _ _ _ hm
  obtain ⟨cs2, rfl, _⟩ := okWide_struct Tryz.underlying32 (hval 2 32 v2 rfl rfl)
  obtain ⟨x2, e2⟩ : ∃ x : Go.Tq.Mach, Go.Av.Rep W Go.Av.Nob (Go.Tq.mcv x) (.agg cs2) := by obtain ⟨m, hm⟩ := h2; obtain ⟨x, hx⟩ := (op_mach m).out enc _ _ hm (fun k hk => by have h9 := List.all_eq_true.1 hsz k (DataW.weights_mem_each (j := 2) (t := 32) rfl rfl k hk); simpa using h9); exact ⟨x, Go.Av.rep_aggC hx⟩
  have k3 := h3
  have lt3 : ∀ x ∈ p3, x.block < W.heap.size := by obtain ⟨m, hm⟩ := k3; exact DataW.trod_lt m _ _ _ hm
  obtain ⟨z3, rfl⟩ := okWide_int Tryz.underlying3 (hval 3 3 v3 rfl rfl)
  have e3 : Go.Av.Rep W Go.Av.Nob (.i z3) (.int .i64 z3) := by simp [Go.Av.Rep]
  have b3 : -9223372036854775808 ≤ z3 ∧ z3 ≤ 9223372036854775807 := by
    obtain ⟨m, hm⟩ := h3
    obtain ⟨n', hc, _, hw⟩ := DataW.trod_int Tryz.underlying3 hm
    obtain rfl : z3 = n' := by simpa [Value.cells] using hc
    have h9 := hw; simp only [Lit.wf, Bool.and_eq_true, decide_eq_true_eq] at h9; exact h9
  have k4 := h4
  have lt4 : ∀ x ∈ p4, x.block < W.heap.size := by obtain ⟨m, hm⟩ := k4; exact DataW.trod_lt m _ _ _ hm
  obtain ⟨z4, rfl⟩ := okWide_int Tryz.underlying3 (hval 4 3 v4 rfl rfl)
  have e4 : Go.Av.Rep W Go.Av.Nob (.i z4) (.int .i64 z4) := by simp [Go.Av.Rep]
  have b4 : -9223372036854775808 ≤ z4 ∧ z4 ≤ 9223372036854775807 := by
    obtain ⟨m, hm⟩ := h4
    obtain ⟨n', hc, _, hw⟩ := DataW.trod_int Tryz.underlying3 hm
    obtain rfl : z4 = n' := by simpa [Value.cells] using hc
    have h9 := hw; simp only [Lit.wf, Bool.and_eq_true, decide_eq_true_eq] at h9; exact h9
  clear hA0 hval0
  refine (Go.Av.law_args (f := 3) (texact_con x0 x1 x2 z3 z4 b3 b4) (w := W) (by simp only [Go.Av.RepT]; exact ⟨_, _, rfl, e0, ⟨_, _, rfl, e1, ⟨_, _, rfl, e2, ⟨_, _, rfl, e3, ⟨_, _, rfl, e4, rfl⟩⟩⟩⟩⟩)).mono fun e W' ⟨he, bel⟩ => ?_
  subst he
  exact ⟨_, rfl, _, _, _, [], _, [], hW', trodAll_mk1 (shut_bool Tryz.underlying4 _), (trodAll_cons_mk (Below.trod laidOut (by kernel_rfl) (of_decide_eq_true (by kernel_rfl)) k0 bel lt0) (trodAll_cons_mk (Below.trod laidOut (by kernel_rfl) (of_decide_eq_true (by kernel_rfl)) k1 bel lt1) (trodAll_cons_mk (Below.trod laidOut (by kernel_rfl) (of_decide_eq_true (by kernel_rfl)) k2 bel lt2) (trodAll_cons_mk (Below.trod laidOut (by kernel_rfl) (of_decide_eq_true (by kernel_rfl)) k3 bel lt3) (trodAll_cons_mk (Below.trod laidOut (by kernel_rfl) (of_decide_eq_true (by kernel_rfl)) k4 bel lt4) trodAll_mk0))))), rfl, bel.frame _, fun h => by cases h⟩

theorem over : Rows.timersExactRow.holds Tryz.pinned (OpenSpec.ofChange Rows.timersExactSpec) :=
  OpenClaim.holds_of_wide 3 Tryz.f3 rfl rfl rfl rfl rfl rfl rfl ⟨rfl, rfl, rfl, rfl, rfl⟩ rfl rfl rfl rfl rfl (by kernel_rfl) Tryz.func3 (by kernel_rfl)
    (of_decide_eq_true (by kernel_rfl)) (by unfold Func.isWrapper; first | (rw [if_pos (by decide +kernel)]; kernel_rfl) | (rw [if_neg (by decide +kernel)]; exact ⟨rfl, rfl⟩))
    (fun os started H enc _ => lifted os started H enc)

/-- The given statement. -/
theorem proved : Rows.TimersExactSaid := over
end Go.Proofs.YtegejdhkckndaaaGreat.timersExact
