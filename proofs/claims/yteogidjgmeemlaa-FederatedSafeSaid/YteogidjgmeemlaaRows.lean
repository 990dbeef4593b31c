/-
  NARROWER THAN 'FOR EVERY INPUT', by the rows' own cells (each row's printed sentence says how): ClosureAnswers: loops · ThresholdAnswers: loops.
  DERIVED. THE GIVEN ROWS OF THIS SEAT. 12 by the template 'for every input the law returns true; each argument reads behind the call as it read before'; 0 by the template 'total and deterministic' (their statements: YteogidjgmeemlaaTotals.lean).
  GIVEN WITH THE SEED: the statements are not yours to turn. If you find one false, say at which input.
  Laid BY PROGRAM, IN A SANDBOX (cutbox-rows.mjs): the forced cells as the released guide's own fill.sh prints them over the translation 9378ad34745f665e… (all of the seat's roots in one cut). By AI agents, Wed Nov 11 2026. No macro, syntax, notation, axiom, sorry.
-/
import Derived.Test.YteogidjgmeemlaaChecked
import GoSem.Claim
import GoSem.ClaimJoined
import GoSem.ClaimMapViews
import Derived.JoinedTies
import Derived.KernelRfl
namespace Go.Proofs.Yteogidjgmeemlaa
/- THE CELL 'sum', in the pinned program and in every row, IS THE sha256 OF THE DUMP (.gsa) THAT YteogidjgmeemlaaProg.lean LOADS. Nothing in Lean hashes anything: it is a label: what it is worth is what the hold of that sum in a sandbox is worth. -/
noncomputable def Try.pinned : Pinned := { name := "yteogidjgmeemlaa", sum := "9378ad34745f665e70e5e98e9329dc882f79cbc948ef92abc9445bc8a0b4ecd9", checked := Try.checked }
namespace Rows
def none {H : Type} : Left H := { results := [], args := [] }

/-- 'trustquorumlaw18.FederatedSafe': WHATEVER THE INPUT: true; the input reads as it did. -/
def federatedSafeSpec : ChangeSpec := { name := "federatedSafe", fn := fun _ => fun
  | [d] => { results := [.lit (.bool true)], args := [d] }
  | _ => none }
def federatedSafeRow : OpenClaim := { program := "yteogidjgmeemlaa", sum := "9378ad34745f665e70e5e98e9329dc882f79cbc948ef92abc9445bc8a0b4ecd9", func := "trustquorum/trustquorumlaw18.FederatedSafe", spec := "federatedSafe", recurses := true, apart := false }
def FederatedSafeSaid : Prop := federatedSafeRow.holds Try.pinned (OpenSpec.ofChange federatedSafeSpec)

/-- ITS FALSE NEIGHBOUR: 'it returns false'. Refute it at one input. -/
def federatedSafeWrong : ChangeSpec := { name := "federatedSafe", fn := fun _ => fun
  | [d] => { results := [.lit (.bool false)], args := [d] }
  | _ => none }
def FederatedSafeWrongFalsely : Prop := federatedSafeRow.holds Try.pinned (OpenSpec.ofChange federatedSafeWrong)

/-- 'trustquorumlaw18.FederatedBelieves': WHATEVER THE INPUT: true; the input reads as it did. -/
def federatedBelievesSpec : ChangeSpec := { name := "federatedBelieves", fn := fun _ => fun
  | [d] => { results := [.lit (.bool true)], args := [d] }
  | _ => none }
def federatedBelievesRow : OpenClaim := { program := "yteogidjgmeemlaa", sum := "9378ad34745f665e70e5e98e9329dc882f79cbc948ef92abc9445bc8a0b4ecd9", func := "trustquorum/trustquorumlaw18.FederatedBelieves", spec := "federatedBelieves", recurses := true, apart := false }
def FederatedBelievesSaid : Prop := federatedBelievesRow.holds Try.pinned (OpenSpec.ofChange federatedBelievesSpec)

/-- ITS FALSE NEIGHBOUR: 'it returns false'. Refute it at one input. -/
def federatedBelievesWrong : ChangeSpec := { name := "federatedBelieves", fn := fun _ => fun
  | [d] => { results := [.lit (.bool false)], args := [d] }
  | _ => none }
def FederatedBelievesWrongFalsely : Prop := federatedBelievesRow.holds Try.pinned (OpenSpec.ofChange federatedBelievesWrong)

/-- 'trustquorumlaw21.LeadersWeights': WHATEVER THE INPUT: true; the input reads as it did. -/
def leadersWeightsSpec : ChangeSpec := { name := "leadersWeights", fn := fun _ => fun
  | [d] => { results := [.lit (.bool true)], args := [d] }
  | _ => none }
def leadersWeightsRow : OpenClaim := { program := "yteogidjgmeemlaa", sum := "9378ad34745f665e70e5e98e9329dc882f79cbc948ef92abc9445bc8a0b4ecd9", func := "trustquorum/trustquorumlaw21.LeadersWeights", spec := "leadersWeights", unfollowed := true, recurses := true, apart := false }
def LeadersWeightsSaid : Prop := leadersWeightsRow.holds Try.pinned (OpenSpec.ofChange leadersWeightsSpec)

/-- ITS FALSE NEIGHBOUR: 'it returns false'. Refute it at one input. -/
def leadersWeightsWrong : ChangeSpec := { name := "leadersWeights", fn := fun _ => fun
  | [d] => { results := [.lit (.bool false)], args := [d] }
  | _ => none }
def LeadersWeightsWrongFalsely : Prop := leadersWeightsRow.holds Try.pinned (OpenSpec.ofChange leadersWeightsWrong)

/-- 'trustquorumlaw09.ClosureAnswers': WHATEVER THE INPUT: true; the input reads as it did. -/
def closureAnswersSpec : ChangeSpec := { name := "closureAnswers", fn := fun _ => fun
  | [d1, d2, d3, d4] => { results := [.lit (.bool true)], args := [d1, d2, d3, d4] }
  | _ => none }
def closureAnswersRow : OpenClaim := { program := "yteogidjgmeemlaa", sum := "9378ad34745f665e70e5e98e9329dc882f79cbc948ef92abc9445bc8a0b4ecd9", func := "trustquorum/trustquorumlaw09.ClosureAnswers", spec := "closureAnswers", recurses := true, loops := true, apart := false }
def ClosureAnswersSaid : Prop := closureAnswersRow.holds Try.pinned (OpenSpec.ofChange closureAnswersSpec)

/-- ITS FALSE NEIGHBOUR: 'it returns false'. Refute it at one input. -/
def closureAnswersWrong : ChangeSpec := { name := "closureAnswers", fn := fun _ => fun
  | [d1, d2, d3, d4] => { results := [.lit (.bool false)], args := [d1, d2, d3, d4] }
  | _ => none }
def ClosureAnswersWrongFalsely : Prop := closureAnswersRow.holds Try.pinned (OpenSpec.ofChange closureAnswersWrong)

/-- 'trustquorumlaw09.ClosureUnion': WHATEVER THE INPUT: true; the input reads as it did. -/
def closureUnionSpec : ChangeSpec := { name := "closureUnion", fn := fun _ => fun
  | [d] => { results := [.lit (.bool true)], args := [d] }
  | _ => none }
def closureUnionRow : OpenClaim := { program := "yteogidjgmeemlaa", sum := "9378ad34745f665e70e5e98e9329dc882f79cbc948ef92abc9445bc8a0b4ecd9", func := "trustquorum/trustquorumlaw09.ClosureUnion", spec := "closureUnion", recurses := true, apart := false }
def ClosureUnionSaid : Prop := closureUnionRow.holds Try.pinned (OpenSpec.ofChange closureUnionSpec)

/-- ITS FALSE NEIGHBOUR: 'it returns false'. Refute it at one input. -/
def closureUnionWrong : ChangeSpec := { name := "closureUnion", fn := fun _ => fun
  | [d] => { results := [.lit (.bool false)], args := [d] }
  | _ => none }
def ClosureUnionWrongFalsely : Prop := closureUnionRow.holds Try.pinned (OpenSpec.ofChange closureUnionWrong)

/-- 'trustquorumlaw09.ClosureOrders': WHATEVER THE INPUT: true; the input reads as it did. -/
def closureOrdersSpec : ChangeSpec := { name := "closureOrders", fn := fun _ => fun
  | [d] => { results := [.lit (.bool true)], args := [d] }
  | _ => none }
def closureOrdersRow : OpenClaim := { program := "yteogidjgmeemlaa", sum := "9378ad34745f665e70e5e98e9329dc882f79cbc948ef92abc9445bc8a0b4ecd9", func := "trustquorum/trustquorumlaw09.ClosureOrders", spec := "closureOrders", recurses := true, apart := false }
def ClosureOrdersSaid : Prop := closureOrdersRow.holds Try.pinned (OpenSpec.ofChange closureOrdersSpec)

/-- ITS FALSE NEIGHBOUR: 'it returns false'. Refute it at one input. -/
def closureOrdersWrong : ChangeSpec := { name := "closureOrders", fn := fun _ => fun
  | [d] => { results := [.lit (.bool false)], args := [d] }
  | _ => none }
def ClosureOrdersWrongFalsely : Prop := closureOrdersRow.holds Try.pinned (OpenSpec.ofChange closureOrdersWrong)

/-- 'trustquorumlaw09.ClosureRestricts': WHATEVER THE INPUT: true; the input reads as it did. -/
def closureRestrictsSpec : ChangeSpec := { name := "closureRestricts", fn := fun _ => fun
  | [d] => { results := [.lit (.bool true)], args := [d] }
  | _ => none }
def closureRestrictsRow : OpenClaim := { program := "yteogidjgmeemlaa", sum := "9378ad34745f665e70e5e98e9329dc882f79cbc948ef92abc9445bc8a0b4ecd9", func := "trustquorum/trustquorumlaw09.ClosureRestricts", spec := "closureRestricts", recurses := true, apart := false }
def ClosureRestrictsSaid : Prop := closureRestrictsRow.holds Try.pinned (OpenSpec.ofChange closureRestrictsSpec)

/-- ITS FALSE NEIGHBOUR: 'it returns false'. Refute it at one input. -/
def closureRestrictsWrong : ChangeSpec := { name := "closureRestricts", fn := fun _ => fun
  | [d] => { results := [.lit (.bool false)], args := [d] }
  | _ => none }
def ClosureRestrictsWrongFalsely : Prop := closureRestrictsRow.holds Try.pinned (OpenSpec.ofChange closureRestrictsWrong)

/-- 'trustquorumlaw02.ThresholdOrder': WHATEVER THE INPUT: true; the input reads as it did. -/
def thresholdOrderSpec : ChangeSpec := { name := "thresholdOrder", fn := fun _ => fun
  | [d] => { results := [.lit (.bool true)], args := [d] }
  | _ => none }
def thresholdOrderRow : OpenClaim := { program := "yteogidjgmeemlaa", sum := "9378ad34745f665e70e5e98e9329dc882f79cbc948ef92abc9445bc8a0b4ecd9", func := "trustquorum/trustquorumlaw02.ThresholdOrder", spec := "thresholdOrder", unfollowed := true, recurses := true, apart := false }
def ThresholdOrderSaid : Prop := thresholdOrderRow.holds Try.pinned (OpenSpec.ofChange thresholdOrderSpec)

/-- ITS FALSE NEIGHBOUR: 'it returns false'. Refute it at one input. -/
def thresholdOrderWrong : ChangeSpec := { name := "thresholdOrder", fn := fun _ => fun
  | [d] => { results := [.lit (.bool false)], args := [d] }
  | _ => none }
def ThresholdOrderWrongFalsely : Prop := thresholdOrderRow.holds Try.pinned (OpenSpec.ofChange thresholdOrderWrong)

/-- 'trustquorumlaw02.ThresholdDual': WHATEVER THE INPUT: true; the input reads as it did. -/
def thresholdDualSpec : ChangeSpec := { name := "thresholdDual", fn := fun _ => fun
  | [d] => { results := [.lit (.bool true)], args := [d] }
  | _ => none }
def thresholdDualRow : OpenClaim := { program := "yteogidjgmeemlaa", sum := "9378ad34745f665e70e5e98e9329dc882f79cbc948ef92abc9445bc8a0b4ecd9", func := "trustquorum/trustquorumlaw02.ThresholdDual", spec := "thresholdDual", unfollowed := true, recurses := true, apart := false }
def ThresholdDualSaid : Prop := thresholdDualRow.holds Try.pinned (OpenSpec.ofChange thresholdDualSpec)

/-- ITS FALSE NEIGHBOUR: 'it returns false'. Refute it at one input. -/
def thresholdDualWrong : ChangeSpec := { name := "thresholdDual", fn := fun _ => fun
  | [d] => { results := [.lit (.bool false)], args := [d] }
  | _ => none }
def ThresholdDualWrongFalsely : Prop := thresholdDualRow.holds Try.pinned (OpenSpec.ofChange thresholdDualWrong)

/-- 'trustquorumlaw21.LeadersShare': WHATEVER THE INPUT: true; the input reads as it did. -/
def leadersShareSpec : ChangeSpec := { name := "leadersShare", fn := fun _ => fun
  | [d] => { results := [.lit (.bool true)], args := [d] }
  | _ => none }
def leadersShareRow : OpenClaim := { program := "yteogidjgmeemlaa", sum := "9378ad34745f665e70e5e98e9329dc882f79cbc948ef92abc9445bc8a0b4ecd9", func := "trustquorum/trustquorumlaw21.LeadersShare", spec := "leadersShare", unfollowed := true, recurses := true, apart := false }
def LeadersShareSaid : Prop := leadersShareRow.holds Try.pinned (OpenSpec.ofChange leadersShareSpec)

/-- ITS FALSE NEIGHBOUR: 'it returns false'. Refute it at one input. -/
def leadersShareWrong : ChangeSpec := { name := "leadersShare", fn := fun _ => fun
  | [d] => { results := [.lit (.bool false)], args := [d] }
  | _ => none }
def LeadersShareWrongFalsely : Prop := leadersShareRow.holds Try.pinned (OpenSpec.ofChange leadersShareWrong)

/-- 'trustquorumlaw02.ThresholdAnswers': WHATEVER THE INPUT: true; the input reads as it did. -/
def thresholdAnswersSpec : ChangeSpec := { name := "thresholdAnswers", fn := fun _ => fun
  | [d1, d2, d3, d4] => { results := [.lit (.bool true)], args := [d1, d2, d3, d4] }
  | _ => none }
def thresholdAnswersRow : OpenClaim := { program := "yteogidjgmeemlaa", sum := "9378ad34745f665e70e5e98e9329dc882f79cbc948ef92abc9445bc8a0b4ecd9", func := "trustquorum/trustquorumlaw02.ThresholdAnswers", spec := "thresholdAnswers", unfollowed := true, recurses := true, loops := true, apart := false }
def ThresholdAnswersSaid : Prop := thresholdAnswersRow.holds Try.pinned (OpenSpec.ofChange thresholdAnswersSpec)

/-- ITS FALSE NEIGHBOUR: 'it returns false'. Refute it at one input. -/
def thresholdAnswersWrong : ChangeSpec := { name := "thresholdAnswers", fn := fun _ => fun
  | [d1, d2, d3, d4] => { results := [.lit (.bool false)], args := [d1, d2, d3, d4] }
  | _ => none }
def ThresholdAnswersWrongFalsely : Prop := thresholdAnswersRow.holds Try.pinned (OpenSpec.ofChange thresholdAnswersWrong)

/-- 'trustquorumlaw21.LeadersChosen': WHATEVER THE INPUT: true; the input reads as it did. -/
def leadersChosenSpec : ChangeSpec := { name := "leadersChosen", fn := fun _ => fun
  | [d] => { results := [.lit (.bool true)], args := [d] }
  | _ => none }
def leadersChosenRow : OpenClaim := { program := "yteogidjgmeemlaa", sum := "9378ad34745f665e70e5e98e9329dc882f79cbc948ef92abc9445bc8a0b4ecd9", func := "trustquorum/trustquorumlaw21.LeadersChosen", spec := "leadersChosen", unfollowed := true, recurses := true, apart := false }
def LeadersChosenSaid : Prop := leadersChosenRow.holds Try.pinned (OpenSpec.ofChange leadersChosenSpec)

/-- ITS FALSE NEIGHBOUR: 'it returns false'. Refute it at one input. -/
def leadersChosenWrong : ChangeSpec := { name := "leadersChosen", fn := fun _ => fun
  | [d] => { results := [.lit (.bool false)], args := [d] }
  | _ => none }
def LeadersChosenWrongFalsely : Prop := leadersChosenRow.holds Try.pinned (OpenSpec.ofChange leadersChosenWrong)

/- THE SECOND FORM. 'bulk': how many values and letters a reading holds, each counted each time it is reached (what is shared counts as often as it is met; a slice's spare places count too). A statement '..UptoSaid' is the law's where the arguments, and the package variables that the reading takes, are together of bulk at most 1048576: NARROWER than '..Said'. Prove '..Said' where nothing that the law and all that it calls make is longer than what came in: it says more and counts as full. Else prove '..UptoSaid'. A law counts once. -/
mutual
def uptoBulk {H : Type} : DataW H → Nat
  | .lit (.string bytes) => bytes.length + 1
  | .lit _ => 1
  | .nil => 1
  | .ptr d => uptoBulk d + 1
  | .slice elems spare => uptoBulkAll elems + uptoBulkAll spare + 1
  | .agg parts => uptoBulkAll parts + 1
  | .iface _ d => uptoBulk d + 1
  | .map entries => uptoBulkEntries entries + 1
  | .held _ => 1
def uptoBulkAll {H : Type} : List (DataW H) → Nat
  | [] => 0
  | d :: r => uptoBulk d + uptoBulkAll r
def uptoBulkEntries {H : Type} : List (Lit × DataW H) → Nat
  | [] => 0
  | x :: r => uptoBulkEntry x + uptoBulkEntries r
def uptoBulkEntry {H : Type} : Lit × DataW H → Nat
  | (.string bytes, d) => bytes.length + uptoBulk d + 1
  | (_, d) => uptoBulk d + 1
 end
def uptoSmall : (H : Type) → List (DataW H) → Bool := fun _ ds => decide (uptoBulkAll ds ≤ 1048576)
def OpenSpec.upto (s : _root_.Go.ChangeSpec) : _root_.Go.OpenSpec := { _root_.Go.OpenSpec.ofChange s with cond := some uptoSmall }

/-- 'trustquorumlaw18.FederatedSafe', WHERE WHAT IT READS IS OF BULK AT MOST 1048576: true; the input reads as it did. -/
def federatedSafeUptoRow : OpenClaim := { program := "yteogidjgmeemlaa", sum := "9378ad34745f665e70e5e98e9329dc882f79cbc948ef92abc9445bc8a0b4ecd9", func := "trustquorum/trustquorumlaw18.FederatedSafe", spec := "federatedSafe", recurses := true, apart := false, narrowed := true }
def FederatedSafeUptoSaid : Prop := federatedSafeUptoRow.holds Try.pinned (OpenSpec.upto federatedSafeSpec)

/-- 'trustquorumlaw18.FederatedBelieves', WHERE WHAT IT READS IS OF BULK AT MOST 1048576: true; the input reads as it did. -/
def federatedBelievesUptoRow : OpenClaim := { program := "yteogidjgmeemlaa", sum := "9378ad34745f665e70e5e98e9329dc882f79cbc948ef92abc9445bc8a0b4ecd9", func := "trustquorum/trustquorumlaw18.FederatedBelieves", spec := "federatedBelieves", recurses := true, apart := false, narrowed := true }
def FederatedBelievesUptoSaid : Prop := federatedBelievesUptoRow.holds Try.pinned (OpenSpec.upto federatedBelievesSpec)

/-- 'trustquorumlaw21.LeadersWeights', WHERE WHAT IT READS IS OF BULK AT MOST 1048576: true; the input reads as it did. -/
def leadersWeightsUptoRow : OpenClaim := { program := "yteogidjgmeemlaa", sum := "9378ad34745f665e70e5e98e9329dc882f79cbc948ef92abc9445bc8a0b4ecd9", func := "trustquorum/trustquorumlaw21.LeadersWeights", spec := "leadersWeights", unfollowed := true, recurses := true, apart := false, narrowed := true }
def LeadersWeightsUptoSaid : Prop := leadersWeightsUptoRow.holds Try.pinned (OpenSpec.upto leadersWeightsSpec)

/-- 'trustquorumlaw09.ClosureAnswers', WHERE WHAT IT READS IS OF BULK AT MOST 1048576: true; the input reads as it did. -/
def closureAnswersUptoRow : OpenClaim := { program := "yteogidjgmeemlaa", sum := "9378ad34745f665e70e5e98e9329dc882f79cbc948ef92abc9445bc8a0b4ecd9", func := "trustquorum/trustquorumlaw09.ClosureAnswers", spec := "closureAnswers", recurses := true, loops := true, apart := false, narrowed := true }
def ClosureAnswersUptoSaid : Prop := closureAnswersUptoRow.holds Try.pinned (OpenSpec.upto closureAnswersSpec)

/-- 'trustquorumlaw09.ClosureUnion', WHERE WHAT IT READS IS OF BULK AT MOST 1048576: true; the input reads as it did. -/
def closureUnionUptoRow : OpenClaim := { program := "yteogidjgmeemlaa", sum := "9378ad34745f665e70e5e98e9329dc882f79cbc948ef92abc9445bc8a0b4ecd9", func := "trustquorum/trustquorumlaw09.ClosureUnion", spec := "closureUnion", recurses := true, apart := false, narrowed := true }
def ClosureUnionUptoSaid : Prop := closureUnionUptoRow.holds Try.pinned (OpenSpec.upto closureUnionSpec)

/-- 'trustquorumlaw09.ClosureOrders', WHERE WHAT IT READS IS OF BULK AT MOST 1048576: true; the input reads as it did. -/
def closureOrdersUptoRow : OpenClaim := { program := "yteogidjgmeemlaa", sum := "9378ad34745f665e70e5e98e9329dc882f79cbc948ef92abc9445bc8a0b4ecd9", func := "trustquorum/trustquorumlaw09.ClosureOrders", spec := "closureOrders", recurses := true, apart := false, narrowed := true }
def ClosureOrdersUptoSaid : Prop := closureOrdersUptoRow.holds Try.pinned (OpenSpec.upto closureOrdersSpec)

/-- 'trustquorumlaw09.ClosureRestricts', WHERE WHAT IT READS IS OF BULK AT MOST 1048576: true; the input reads as it did. -/
def closureRestrictsUptoRow : OpenClaim := { program := "yteogidjgmeemlaa", sum := "9378ad34745f665e70e5e98e9329dc882f79cbc948ef92abc9445bc8a0b4ecd9", func := "trustquorum/trustquorumlaw09.ClosureRestricts", spec := "closureRestricts", recurses := true, apart := false, narrowed := true }
def ClosureRestrictsUptoSaid : Prop := closureRestrictsUptoRow.holds Try.pinned (OpenSpec.upto closureRestrictsSpec)

/-- 'trustquorumlaw02.ThresholdOrder', WHERE WHAT IT READS IS OF BULK AT MOST 1048576: true; the input reads as it did. -/
def thresholdOrderUptoRow : OpenClaim := { program := "yteogidjgmeemlaa", sum := "9378ad34745f665e70e5e98e9329dc882f79cbc948ef92abc9445bc8a0b4ecd9", func := "trustquorum/trustquorumlaw02.ThresholdOrder", spec := "thresholdOrder", unfollowed := true, recurses := true, apart := false, narrowed := true }
def ThresholdOrderUptoSaid : Prop := thresholdOrderUptoRow.holds Try.pinned (OpenSpec.upto thresholdOrderSpec)

/-- 'trustquorumlaw02.ThresholdDual', WHERE WHAT IT READS IS OF BULK AT MOST 1048576: true; the input reads as it did. -/
def thresholdDualUptoRow : OpenClaim := { program := "yteogidjgmeemlaa", sum := "9378ad34745f665e70e5e98e9329dc882f79cbc948ef92abc9445bc8a0b4ecd9", func := "trustquorum/trustquorumlaw02.ThresholdDual", spec := "thresholdDual", unfollowed := true, recurses := true, apart := false, narrowed := true }
def ThresholdDualUptoSaid : Prop := thresholdDualUptoRow.holds Try.pinned (OpenSpec.upto thresholdDualSpec)

/-- 'trustquorumlaw21.LeadersShare', WHERE WHAT IT READS IS OF BULK AT MOST 1048576: true; the input reads as it did. -/
def leadersShareUptoRow : OpenClaim := { program := "yteogidjgmeemlaa", sum := "9378ad34745f665e70e5e98e9329dc882f79cbc948ef92abc9445bc8a0b4ecd9", func := "trustquorum/trustquorumlaw21.LeadersShare", spec := "leadersShare", unfollowed := true, recurses := true, apart := false, narrowed := true }
def LeadersShareUptoSaid : Prop := leadersShareUptoRow.holds Try.pinned (OpenSpec.upto leadersShareSpec)

/-- 'trustquorumlaw02.ThresholdAnswers', WHERE WHAT IT READS IS OF BULK AT MOST 1048576: true; the input reads as it did. -/
def thresholdAnswersUptoRow : OpenClaim := { program := "yteogidjgmeemlaa", sum := "9378ad34745f665e70e5e98e9329dc882f79cbc948ef92abc9445bc8a0b4ecd9", func := "trustquorum/trustquorumlaw02.ThresholdAnswers", spec := "thresholdAnswers", unfollowed := true, recurses := true, loops := true, apart := false, narrowed := true }
def ThresholdAnswersUptoSaid : Prop := thresholdAnswersUptoRow.holds Try.pinned (OpenSpec.upto thresholdAnswersSpec)

/-- 'trustquorumlaw21.LeadersChosen', WHERE WHAT IT READS IS OF BULK AT MOST 1048576: true; the input reads as it did. -/
def leadersChosenUptoRow : OpenClaim := { program := "yteogidjgmeemlaa", sum := "9378ad34745f665e70e5e98e9329dc882f79cbc948ef92abc9445bc8a0b4ecd9", func := "trustquorum/trustquorumlaw21.LeadersChosen", spec := "leadersChosen", unfollowed := true, recurses := true, apart := false, narrowed := true }
def LeadersChosenUptoSaid : Prop := leadersChosenUptoRow.holds Try.pinned (OpenSpec.upto leadersChosenSpec)

end Rows
end Go.Proofs.Yteogidjgmeemlaa
