/- The law AnalyserExact: for every input the call returns true, and the input reads as it did.
   Conditions: those of the given row; none of its own. -/
import Derived.Test.YtgmpjpaekpefdaaGreatAnalyserExactW5
import Derived.Test.YtgmpjpaekpefdaaGreatRows
import Derived.WalkKit
import Derived.ProofKit
import Derived.OpenShut
import Derived.ChangeOld
import Derived.Below
import Derived.SizedLaws
import Derived.Conc.LeavingOf
namespace Go.Proofs.YtgmpjpaekpefdaaGreat.analyserExact
open Go.ChangeShapes Go.WideShapes Go.ChangeAt Go.RowKit Go.Conc
set_option linter.unusedVariables false

theorem own : ownKnob Tryz.prog.godebug = none := by kernel_rfl
theorem laidOut : laidOutB Tryz.prog = true := by kernel_rfl
set_option maxRecDepth 100000 in
theorem lifted (os : Os) (started : os.Started) (H : Type) (enc : TypeId × Value → H) :
    ReturnsInLeavingWide {} Tryz.checked os 7 .any (Rows.analyserExactSpec.pre6 enc Tryz.prog Tryz.f7 Rows.analyserExactRow.domain false) (Rows.analyserExactSpec.post enc Tryz.prog Tryz.f7 false true false false) := by
  refine returnsInLeavingWide_of_change_sized (C := Tryz.checked) own started Tryz.func7
    (ChangeSpec.witness6 (enc := enc) (C := Tryz.checked) false ⟨#[], #[.slice none 0 0, .agg #[.slice none 0 0], .int .i64 0, .agg #[.int .i64 0, .bool false, .bool false, .int .i64 0, .int .i64 0], .string ⟨#[]⟩], []⟩ 8 (by kernel_rfl) (by kernel_rfl) (by kernel_rfl) (by kernel_rfl)) ?_
  intro W base args ds gs before hval0 hW hcnd hsz0 _
  have hval : ∀ (j : Nat) t v, Tryz.f7.params[j]? = some t → args[j]? = some v → Value.okWide Tryz.prog W .any base t v := hval0
  have hsz : (DataW.weightsEach Tryz.prog (Tryz.f7.params.toList ++ Rows.analyserExactSpec.plain.varTypes Tryz.prog) (ds ++ gs)).all (· ≤ reachBytes) = true := hsz0
  clear hsz0
  have hW' := hW
  obtain ⟨p, q, hA0, hV, rfl, hfz, hnd⟩ := hW
  have hA : DataW.TrodAll enc Tryz.prog W 0 (fun _ => true) true Tryz.f7.params.toList args.toList ds p := hA0
  rw [Tryz.params7] at hA hval hsz
  obtain ⟨v0, vs0, d0, ds0, p0, q0, hargs, rfl, rfl, h0, r0⟩ := trodAll_cons hA
  obtain ⟨v1, vs1, d1, ds1, p1, q1, rfl, rfl, rfl, h1, r1⟩ := trodAll_cons r0
  obtain ⟨v2, vs2, d2, ds2, p2, q2, rfl, rfl, rfl, h2, r2⟩ := trodAll_cons r1
  obtain ⟨v3, vs3, d3, ds3, p3, q3, rfl, rfl, rfl, h3, r3⟩ := trodAll_cons r2
  obtain ⟨v4, vs4, d4, ds4, p4, q4, rfl, rfl, rfl, h4, r4⟩ := trodAll_cons r3
  obtain ⟨rfl, rfl, rfl⟩ := trodAll_nil r4
  obtain rfl : args = #[v0, v1, v2, v3, v4] := by cases args; simp_all
  obtain ⟨rfl, rfl⟩ := trodVars_none hV
  have k0 := h0
  have lt0 : ∀ x ∈ p0, x.block < W.heap.size := by obtain ⟨m, hm⟩ := k0; exact DataW.trod_lt m _ _ _ hm
  obtain ⟨a0, len0, cap0, rfl⟩ := okWide_slice Tryz.underlying22 (hval 0 22 v0 rfl rfl)
  obtain ⟨x0, e0⟩ : ∃ x : List Int, Go.Av.Rep W Go.Av.Nob (.sl 1 (x.map .i)) (.slice a0 len0 cap0) := by obtain ⟨m, hm⟩ := h0; obtain ⟨x, hx⟩ := (op_ints m).out enc _ _ hm (fun k hk => by have h9 := List.all_eq_true.1 hsz k (DataW.weights_mem_each (j := 0) (t := 22) rfl rfl k hk); simpa using h9); exact ⟨x, Go.Av.rep_one (by simp [Value.cells]) hx⟩
  have k1 := h1
  have lt1 : ∀ x ∈ p1, x.block < W.heap.size := by obtain ⟨m, hm⟩ := k1; exact DataW.trod_lt m _ _ _ hm
  obtain ⟨cs1, rfl, _⟩ := okWide_struct Tryz.underlying28 (hval 1 28 v1 rfl rfl)
  obtain ⟨x1, e1⟩ : ∃ x : List Go.Tq.Mem, Go.Av.Rep W Go.Av.Nob (Go.Tq.cv x) (.agg cs1) := by obtain ⟨m, hm⟩ := h1; obtain ⟨x, hx⟩ := (op_config m).out enc _ _ hm (fun k hk => by have h9 := List.all_eq_true.1 hsz k (DataW.weights_mem_each (j := 1) (t := 28) rfl rfl k hk); simpa using h9); exact ⟨x, Go.Av.rep_aggC hx⟩
  have k2 := h2
  have lt2 : ∀ x ∈ p2, x.block < W.heap.size := by obtain ⟨m, hm⟩ := k2; exact DataW.trod_lt m _ _ _ hm
  obtain ⟨z2, rfl⟩ := okWide_int Tryz.underlying3 (hval 2 3 v2 rfl rfl)
  have e2 : Go.Av.Rep W Go.Av.Nob (.i z2) (.int .i64 z2) := by simp [Go.Av.Rep]
  have k3 := h3
  have lt3 : ∀ x ∈ p3, x.block < W.heap.size := by obtain ⟨m, hm⟩ := k3; exact DataW.trod_lt m _ _ _ hm
  obtain ⟨cs3, rfl, _⟩ := okWide_struct Tryz.underlying78 (hval 3 78 v3 rfl rfl)
  obtain ⟨x3, e3⟩ : ∃ x : VdI, Go.Av.Rep W Go.Av.Nob (viv x) (.agg cs3) := by obtain ⟨m, hm⟩ := h3; obtain ⟨x, hx⟩ := (op_verdict m).out enc _ _ hm (fun k hk => by have h9 := List.all_eq_true.1 hsz k (DataW.weights_mem_each (j := 3) (t := 78) rfl rfl k hk); simpa using h9); exact ⟨x, Go.Av.rep_aggC hx⟩
  have k4 := h4
  have lt4 : ∀ x ∈ p4, x.block < W.heap.size := by obtain ⟨m, hm⟩ := k4; exact DataW.trod_lt m _ _ _ hm
  obtain ⟨z4, rfl⟩ := okWide_string Tryz.underlying9 (hval 4 9 v4 rfl rfl)
  have e4 : Go.Av.Rep W Go.Av.Nob (.v (.string z4)) (.string z4) := by simp [Go.Av.Rep]
  clear hA0 hval0
  obtain ⟨N, last, o, w', t', g1, g2, g3, g4⟩ := Go.Av.law_argsM (P := Tryz.prog) (f := 7) (fun Ps => exact43_con (Ps := Ps) x0 x1 z2 x3 z4) (by kernel_rfl) (w := W) (by simp only [Go.Av.RepT]; exact ⟨_, _, rfl, e0, ⟨_, _, rfl, e1, ⟨_, _, rfl, e2, ⟨_, _, rfl, e3, ⟨_, _, rfl, e4, rfl⟩⟩⟩⟩⟩)
  refine ⟨N, last, o, w', t', g1, g2, g3, g4.mono fun e ⟨he, bel⟩ => ?_⟩
  subst he
  exact ⟨_, _, _, [], _, [], hW', trodAll_mk1 (shut_bool Tryz.underlying4 _), (trodAll_cons_mk (Below.trod laidOut (by kernel_rfl) (of_decide_eq_true (by kernel_rfl)) k0 bel lt0) (trodAll_cons_mk (Below.trod laidOut (by kernel_rfl) (of_decide_eq_true (by kernel_rfl)) k1 bel lt1) (trodAll_cons_mk (Below.trod laidOut (by kernel_rfl) (of_decide_eq_true (by kernel_rfl)) k2 bel lt2) (trodAll_cons_mk (Below.trod laidOut (by kernel_rfl) (of_decide_eq_true (by kernel_rfl)) k3 bel lt3) (trodAll_cons_mk (Below.trod laidOut (by kernel_rfl) (of_decide_eq_true (by kernel_rfl)) k4 bel lt4) trodAll_mk0))))), rfl, bel.frame _, fun h => by cases h⟩

theorem over : Rows.analyserExactRow.holds Tryz.pinned (OpenSpec.ofChange Rows.analyserExactSpec) :=
  OpenClaim.holds_of_wide_leaving 7 Tryz.f7 rfl rfl rfl rfl rfl rfl rfl ⟨rfl, rfl, rfl, rfl, rfl⟩ rfl rfl rfl rfl rfl (by kernel_rfl) Tryz.func7 (by kernel_rfl)
    (of_decide_eq_true (by kernel_rfl)) (by unfold Func.isWrapper; first | (rw [if_pos (by decide +kernel)]; kernel_rfl) | (rw [if_neg (by decide +kernel)]; exact ⟨rfl, rfl⟩))
    (fun os started H enc _ => lifted os started H enc)

/-- The given statement. -/
theorem proved : Rows.AnalyserExactSaid := over
end Go.Proofs.YtgmpjpaekpefdaaGreat.analyserExact
