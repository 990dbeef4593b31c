/-
  NARROWER THAN 'FOR EVERY INPUT', by the rows' own cells (each row's printed sentence says how): LeadersAnswers: loops · FederatedAnswers: loops · IntersectionAnswers: loops · IntersectionSound: loops.
  DERIVED. THE GIVEN ROWS OF THIS SEAT. 9 by the template 'for every input the law returns true; each argument reads behind the call as it read before'; 0 by the template 'total and deterministic' (their statements: YtanlbfnlnfkcjaaTotals.lean).
  GIVEN WITH THE SEED: the statements are not yours to turn. If you find one false, say at which input.
  Laid BY PROGRAM, IN A SANDBOX (cutbox-rows.mjs): the forced cells as the released guide's own fill.sh prints them over the translation 9a62d300cc784b56… (all of the seat's roots in one cut). By AI agents, Wed Nov 11 2026. No macro, syntax, notation, axiom, sorry.
-/
import Derived.Test.YtanlbfnlnfkcjaaChecked
import GoSem.Claim
import GoSem.ClaimJoined
import GoSem.ClaimMapViews
import Derived.JoinedTies
import Derived.KernelRfl
namespace Go.Proofs.Ytanlbfnlnfkcjaa
/- THE CELL 'sum', in the pinned program and in every row, IS THE sha256 OF THE DUMP (.gsa) THAT YtanlbfnlnfkcjaaProg.lean LOADS. Nothing in Lean hashes anything: it is a label: what it is worth is what the hold of that sum in a sandbox is worth. -/
noncomputable def Try.pinned : Pinned := { name := "ytanlbfnlnfkcjaa", sum := "9a62d300cc784b56394d1a03e749b1d241331dc9ed4ce8af8475d2a4f6a871ce", checked := Try.checked }
namespace Rows
def none {H : Type} : Left H := { results := [], args := [] }

/-- 'trustquorumlaw21.LeadersGrow': WHATEVER THE INPUT: true; the input reads as it did. -/
def leadersGrowSpec : ChangeSpec := { name := "leadersGrow", fn := fun _ => fun
  | [d] => { results := [.lit (.bool true)], args := [d] }
  | _ => none }
def leadersGrowRow : OpenClaim := { program := "ytanlbfnlnfkcjaa", sum := "9a62d300cc784b56394d1a03e749b1d241331dc9ed4ce8af8475d2a4f6a871ce", func := "trustquorum/trustquorumlaw21.LeadersGrow", spec := "leadersGrow", unfollowed := true, recurses := true, apart := false }
def LeadersGrowSaid : Prop := leadersGrowRow.holds Try.pinned (OpenSpec.ofChange leadersGrowSpec)

/-- ITS FALSE NEIGHBOUR: 'it returns false'. Refute it at one input. -/
def leadersGrowWrong : ChangeSpec := { name := "leadersGrow", fn := fun _ => fun
  | [d] => { results := [.lit (.bool false)], args := [d] }
  | _ => none }
def LeadersGrowWrongFalsely : Prop := leadersGrowRow.holds Try.pinned (OpenSpec.ofChange leadersGrowWrong)

/-- 'trustquorumlaw21.LeadersAnswers': WHATEVER THE INPUT: true; the input reads as it did. -/
def leadersAnswersSpec : ChangeSpec := { name := "leadersAnswers", fn := fun _ => fun
  | [d1, d2, d3, d4, d5, d6, d7, d8] => { results := [.lit (.bool true)], args := [d1, d2, d3, d4, d5, d6, d7, d8] }
  | _ => none }
def leadersAnswersRow : OpenClaim := { program := "ytanlbfnlnfkcjaa", sum := "9a62d300cc784b56394d1a03e749b1d241331dc9ed4ce8af8475d2a4f6a871ce", func := "trustquorum/trustquorumlaw21.LeadersAnswers", spec := "leadersAnswers", unfollowed := true, recurses := true, loops := true, apart := false }
def LeadersAnswersSaid : Prop := leadersAnswersRow.holds Try.pinned (OpenSpec.ofChange leadersAnswersSpec)

/-- ITS FALSE NEIGHBOUR: 'it returns false'. Refute it at one input. -/
def leadersAnswersWrong : ChangeSpec := { name := "leadersAnswers", fn := fun _ => fun
  | [d1, d2, d3, d4, d5, d6, d7, d8] => { results := [.lit (.bool false)], args := [d1, d2, d3, d4, d5, d6, d7, d8] }
  | _ => none }
def LeadersAnswersWrongFalsely : Prop := leadersAnswersRow.holds Try.pinned (OpenSpec.ofChange leadersAnswersWrong)

/-- 'trustquorumlaw18.FederatedView': WHATEVER THE INPUT: true; the input reads as it did. -/
def federatedViewSpec : ChangeSpec := { name := "federatedView", fn := fun _ => fun
  | [d] => { results := [.lit (.bool true)], args := [d] }
  | _ => none }
def federatedViewRow : OpenClaim := { program := "ytanlbfnlnfkcjaa", sum := "9a62d300cc784b56394d1a03e749b1d241331dc9ed4ce8af8475d2a4f6a871ce", func := "trustquorum/trustquorumlaw18.FederatedView", spec := "federatedView", unfollowed := true, recurses := true, apart := false }
def FederatedViewSaid : Prop := federatedViewRow.holds Try.pinned (OpenSpec.ofChange federatedViewSpec)

/-- ITS FALSE NEIGHBOUR: 'it returns false'. Refute it at one input. -/
def federatedViewWrong : ChangeSpec := { name := "federatedView", fn := fun _ => fun
  | [d] => { results := [.lit (.bool false)], args := [d] }
  | _ => none }
def FederatedViewWrongFalsely : Prop := federatedViewRow.holds Try.pinned (OpenSpec.ofChange federatedViewWrong)

/-- 'trustquorumlaw18.FederatedAnswers': WHATEVER THE INPUT: true; the input reads as it did. -/
def federatedAnswersSpec : ChangeSpec := { name := "federatedAnswers", fn := fun _ => fun
  | [d1, d2, d3, d4, d5, d6, d7, d8] => { results := [.lit (.bool true)], args := [d1, d2, d3, d4, d5, d6, d7, d8] }
  | _ => none }
def federatedAnswersRow : OpenClaim := { program := "ytanlbfnlnfkcjaa", sum := "9a62d300cc784b56394d1a03e749b1d241331dc9ed4ce8af8475d2a4f6a871ce", func := "trustquorum/trustquorumlaw18.FederatedAnswers", spec := "federatedAnswers", unfollowed := true, recurses := true, loops := true, apart := false }
def FederatedAnswersSaid : Prop := federatedAnswersRow.holds Try.pinned (OpenSpec.ofChange federatedAnswersSpec)

/-- ITS FALSE NEIGHBOUR: 'it returns false'. Refute it at one input. -/
def federatedAnswersWrong : ChangeSpec := { name := "federatedAnswers", fn := fun _ => fun
  | [d1, d2, d3, d4, d5, d6, d7, d8] => { results := [.lit (.bool false)], args := [d1, d2, d3, d4, d5, d6, d7, d8] }
  | _ => none }
def FederatedAnswersWrongFalsely : Prop := federatedAnswersRow.holds Try.pinned (OpenSpec.ofChange federatedAnswersWrong)

/-- 'trustquorumlaw12.IntersectionAnswers': WHATEVER THE INPUT: true; the input reads as it did. -/
def intersectionAnswersSpec : ChangeSpec := { name := "intersectionAnswers", fn := fun _ => fun
  | [d1, d2, d3] => { results := [.lit (.bool true)], args := [d1, d2, d3] }
  | _ => none }
def intersectionAnswersRow : OpenClaim := { program := "ytanlbfnlnfkcjaa", sum := "9a62d300cc784b56394d1a03e749b1d241331dc9ed4ce8af8475d2a4f6a871ce", func := "trustquorum/trustquorumlaw12.IntersectionAnswers", spec := "intersectionAnswers", unfollowed := true, recurses := true, loops := true, apart := false }
def IntersectionAnswersSaid : Prop := intersectionAnswersRow.holds Try.pinned (OpenSpec.ofChange intersectionAnswersSpec)

/-- ITS FALSE NEIGHBOUR: 'it returns false'. Refute it at one input. -/
def intersectionAnswersWrong : ChangeSpec := { name := "intersectionAnswers", fn := fun _ => fun
  | [d1, d2, d3] => { results := [.lit (.bool false)], args := [d1, d2, d3] }
  | _ => none }
def IntersectionAnswersWrongFalsely : Prop := intersectionAnswersRow.holds Try.pinned (OpenSpec.ofChange intersectionAnswersWrong)

/-- 'trustquorumlaw12.IntersectionDecides': WHATEVER THE INPUT: true; the input reads as it did. -/
def intersectionDecidesSpec : ChangeSpec := { name := "intersectionDecides", fn := fun _ => fun
  | [d] => { results := [.lit (.bool true)], args := [d] }
  | _ => none }
def intersectionDecidesRow : OpenClaim := { program := "ytanlbfnlnfkcjaa", sum := "9a62d300cc784b56394d1a03e749b1d241331dc9ed4ce8af8475d2a4f6a871ce", func := "trustquorum/trustquorumlaw12.IntersectionDecides", spec := "intersectionDecides", unfollowed := true, recurses := true, apart := false }
def IntersectionDecidesSaid : Prop := intersectionDecidesRow.holds Try.pinned (OpenSpec.ofChange intersectionDecidesSpec)

/-- ITS FALSE NEIGHBOUR: 'it returns false'. Refute it at one input. -/
def intersectionDecidesWrong : ChangeSpec := { name := "intersectionDecides", fn := fun _ => fun
  | [d] => { results := [.lit (.bool false)], args := [d] }
  | _ => none }
def IntersectionDecidesWrongFalsely : Prop := intersectionDecidesRow.holds Try.pinned (OpenSpec.ofChange intersectionDecidesWrong)

/-- 'trustquorumlaw12.IntersectionProves': WHATEVER THE INPUT: true; the input reads as it did. -/
def intersectionProvesSpec : ChangeSpec := { name := "intersectionProves", fn := fun _ => fun
  | [d] => { results := [.lit (.bool true)], args := [d] }
  | _ => none }
def intersectionProvesRow : OpenClaim := { program := "ytanlbfnlnfkcjaa", sum := "9a62d300cc784b56394d1a03e749b1d241331dc9ed4ce8af8475d2a4f6a871ce", func := "trustquorum/trustquorumlaw12.IntersectionProves", spec := "intersectionProves", unfollowed := true, recurses := true, apart := false }
def IntersectionProvesSaid : Prop := intersectionProvesRow.holds Try.pinned (OpenSpec.ofChange intersectionProvesSpec)

/-- ITS FALSE NEIGHBOUR: 'it returns false'. Refute it at one input. -/
def intersectionProvesWrong : ChangeSpec := { name := "intersectionProves", fn := fun _ => fun
  | [d] => { results := [.lit (.bool false)], args := [d] }
  | _ => none }
def IntersectionProvesWrongFalsely : Prop := intersectionProvesRow.holds Try.pinned (OpenSpec.ofChange intersectionProvesWrong)

/-- 'trustquorumlaw12.IntersectionSound': WHATEVER THE INPUT: true; the input reads as it did. -/
def intersectionSoundSpec : ChangeSpec := { name := "intersectionSound", fn := fun _ => fun
  | [d1, d2] => { results := [.lit (.bool true)], args := [d1, d2] }
  | _ => none }
def intersectionSoundRow : OpenClaim := { program := "ytanlbfnlnfkcjaa", sum := "9a62d300cc784b56394d1a03e749b1d241331dc9ed4ce8af8475d2a4f6a871ce", func := "trustquorum/trustquorumlaw12.IntersectionSound", spec := "intersectionSound", unfollowed := true, recurses := true, loops := true, apart := false }
def IntersectionSoundSaid : Prop := intersectionSoundRow.holds Try.pinned (OpenSpec.ofChange intersectionSoundSpec)

/-- ITS FALSE NEIGHBOUR: 'it returns false'. Refute it at one input. -/
def intersectionSoundWrong : ChangeSpec := { name := "intersectionSound", fn := fun _ => fun
  | [d1, d2] => { results := [.lit (.bool false)], args := [d1, d2] }
  | _ => none }
def IntersectionSoundWrongFalsely : Prop := intersectionSoundRow.holds Try.pinned (OpenSpec.ofChange intersectionSoundWrong)

/-- 'trustquorumlaw12.IntersectionUniform': WHATEVER THE INPUT: true; the input reads as it did. -/
def intersectionUniformSpec : ChangeSpec := { name := "intersectionUniform", fn := fun _ => fun
  | [d1, d2] => { results := [.lit (.bool true)], args := [d1, d2] }
  | _ => none }
def intersectionUniformRow : OpenClaim := { program := "ytanlbfnlnfkcjaa", sum := "9a62d300cc784b56394d1a03e749b1d241331dc9ed4ce8af8475d2a4f6a871ce", func := "trustquorum/trustquorumlaw12.IntersectionUniform", spec := "intersectionUniform", unfollowed := true, recurses := true, apart := false }
def IntersectionUniformSaid : Prop := intersectionUniformRow.holds Try.pinned (OpenSpec.ofChange intersectionUniformSpec)

/-- ITS FALSE NEIGHBOUR: 'it returns false'. Refute it at one input. -/
def intersectionUniformWrong : ChangeSpec := { name := "intersectionUniform", fn := fun _ => fun
  | [d1, d2] => { results := [.lit (.bool false)], args := [d1, d2] }
  | _ => none }
def IntersectionUniformWrongFalsely : Prop := intersectionUniformRow.holds Try.pinned (OpenSpec.ofChange intersectionUniformWrong)

/- THE SECOND FORM. 'bulk': how many values and letters a reading holds, each counted each time it is reached (what is shared counts as often as it is met; a slice's spare places count too). A statement '..UptoSaid' is the law's where the arguments, and the package variables that the reading takes, are together of bulk at most 1048576: NARROWER than '..Said'. Prove '..Said' where nothing that the law and all that it calls make is longer than what came in: it says more and counts as full. Else prove '..UptoSaid'. A law counts once. -/
mutual
def uptoBulk {H : Type} : DataW H → Nat
  | .lit (.string bytes) => bytes.length + 1
  | .lit _ => 1
  | .nil => 1
  | .ptr d => uptoBulk d + 1
  | .slice elems spare => uptoBulkAll elems + uptoBulkAll spare + 1
  | .agg parts => uptoBulkAll parts + 1
  | .iface _ d => uptoBulk d + 1
  | .map entries => uptoBulkEntries entries + 1
  | .held _ => 1
def uptoBulkAll {H : Type} : List (DataW H) → Nat
  | [] => 0
  | d :: r => uptoBulk d + uptoBulkAll r
def uptoBulkEntries {H : Type} : List (Lit × DataW H) → Nat
  | [] => 0
  | x :: r => uptoBulkEntry x + uptoBulkEntries r
def uptoBulkEntry {H : Type} : Lit × DataW H → Nat
  | (.string bytes, d) => bytes.length + uptoBulk d + 1
  | (_, d) => uptoBulk d + 1
 end
def uptoSmall : (H : Type) → List (DataW H) → Bool := fun _ ds => decide (uptoBulkAll ds ≤ 1048576)
def OpenSpec.upto (s : _root_.Go.ChangeSpec) : _root_.Go.OpenSpec := { _root_.Go.OpenSpec.ofChange s with cond := some uptoSmall }

/-- 'trustquorumlaw21.LeadersGrow', WHERE WHAT IT READS IS OF BULK AT MOST 1048576: true; the input reads as it did. -/
def leadersGrowUptoRow : OpenClaim := { program := "ytanlbfnlnfkcjaa", sum := "9a62d300cc784b56394d1a03e749b1d241331dc9ed4ce8af8475d2a4f6a871ce", func := "trustquorum/trustquorumlaw21.LeadersGrow", spec := "leadersGrow", unfollowed := true, recurses := true, apart := false, narrowed := true }
def LeadersGrowUptoSaid : Prop := leadersGrowUptoRow.holds Try.pinned (OpenSpec.upto leadersGrowSpec)

/-- 'trustquorumlaw21.LeadersAnswers', WHERE WHAT IT READS IS OF BULK AT MOST 1048576: true; the input reads as it did. -/
def leadersAnswersUptoRow : OpenClaim := { program := "ytanlbfnlnfkcjaa", sum := "9a62d300cc784b56394d1a03e749b1d241331dc9ed4ce8af8475d2a4f6a871ce", func := "trustquorum/trustquorumlaw21.LeadersAnswers", spec := "leadersAnswers", unfollowed := true, recurses := true, loops := true, apart := false, narrowed := true }
def LeadersAnswersUptoSaid : Prop := leadersAnswersUptoRow.holds Try.pinned (OpenSpec.upto leadersAnswersSpec)

/-- 'trustquorumlaw18.FederatedView', WHERE WHAT IT READS IS OF BULK AT MOST 1048576: true; the input reads as it did. -/
def federatedViewUptoRow : OpenClaim := { program := "ytanlbfnlnfkcjaa", sum := "9a62d300cc784b56394d1a03e749b1d241331dc9ed4ce8af8475d2a4f6a871ce", func := "trustquorum/trustquorumlaw18.FederatedView", spec := "federatedView", unfollowed := true, recurses := true, apart := false, narrowed := true }
def FederatedViewUptoSaid : Prop := federatedViewUptoRow.holds Try.pinned (OpenSpec.upto federatedViewSpec)

/-- 'trustquorumlaw18.FederatedAnswers', WHERE WHAT IT READS IS OF BULK AT MOST 1048576: true; the input reads as it did. -/
def federatedAnswersUptoRow : OpenClaim := { program := "ytanlbfnlnfkcjaa", sum := "9a62d300cc784b56394d1a03e749b1d241331dc9ed4ce8af8475d2a4f6a871ce", func := "trustquorum/trustquorumlaw18.FederatedAnswers", spec := "federatedAnswers", unfollowed := true, recurses := true, loops := true, apart := false, narrowed := true }
def FederatedAnswersUptoSaid : Prop := federatedAnswersUptoRow.holds Try.pinned (OpenSpec.upto federatedAnswersSpec)

/-- 'trustquorumlaw12.IntersectionAnswers', WHERE WHAT IT READS IS OF BULK AT MOST 1048576: true; the input reads as it did. -/
def intersectionAnswersUptoRow : OpenClaim := { program := "ytanlbfnlnfkcjaa", sum := "9a62d300cc784b56394d1a03e749b1d241331dc9ed4ce8af8475d2a4f6a871ce", func := "trustquorum/trustquorumlaw12.IntersectionAnswers", spec := "intersectionAnswers", unfollowed := true, recurses := true, loops := true, apart := false, narrowed := true }
def IntersectionAnswersUptoSaid : Prop := intersectionAnswersUptoRow.holds Try.pinned (OpenSpec.upto intersectionAnswersSpec)

/-- 'trustquorumlaw12.IntersectionDecides', WHERE WHAT IT READS IS OF BULK AT MOST 1048576: true; the input reads as it did. -/
def intersectionDecidesUptoRow : OpenClaim := { program := "ytanlbfnlnfkcjaa", sum := "9a62d300cc784b56394d1a03e749b1d241331dc9ed4ce8af8475d2a4f6a871ce", func := "trustquorum/trustquorumlaw12.IntersectionDecides", spec := "intersectionDecides", unfollowed := true, recurses := true, apart := false, narrowed := true }
def IntersectionDecidesUptoSaid : Prop := intersectionDecidesUptoRow.holds Try.pinned (OpenSpec.upto intersectionDecidesSpec)

/-- 'trustquorumlaw12.IntersectionProves', WHERE WHAT IT READS IS OF BULK AT MOST 1048576: true; the input reads as it did. -/
def intersectionProvesUptoRow : OpenClaim := { program := "ytanlbfnlnfkcjaa", sum := "9a62d300cc784b56394d1a03e749b1d241331dc9ed4ce8af8475d2a4f6a871ce", func := "trustquorum/trustquorumlaw12.IntersectionProves", spec := "intersectionProves", unfollowed := true, recurses := true, apart := false, narrowed := true }
def IntersectionProvesUptoSaid : Prop := intersectionProvesUptoRow.holds Try.pinned (OpenSpec.upto intersectionProvesSpec)

/-- 'trustquorumlaw12.IntersectionSound', WHERE WHAT IT READS IS OF BULK AT MOST 1048576: true; the input reads as it did. -/
def intersectionSoundUptoRow : OpenClaim := { program := "ytanlbfnlnfkcjaa", sum := "9a62d300cc784b56394d1a03e749b1d241331dc9ed4ce8af8475d2a4f6a871ce", func := "trustquorum/trustquorumlaw12.IntersectionSound", spec := "intersectionSound", unfollowed := true, recurses := true, loops := true, apart := false, narrowed := true }
def IntersectionSoundUptoSaid : Prop := intersectionSoundUptoRow.holds Try.pinned (OpenSpec.upto intersectionSoundSpec)

/-- 'trustquorumlaw12.IntersectionUniform', WHERE WHAT IT READS IS OF BULK AT MOST 1048576: true; the input reads as it did. -/
def intersectionUniformUptoRow : OpenClaim := { program := "ytanlbfnlnfkcjaa", sum := "9a62d300cc784b56394d1a03e749b1d241331dc9ed4ce8af8475d2a4f6a871ce", func := "trustquorum/trustquorumlaw12.IntersectionUniform", spec := "intersectionUniform", unfollowed := true, recurses := true, apart := false, narrowed := true }
def IntersectionUniformUptoSaid : Prop := intersectionUniformUptoRow.holds Try.pinned (OpenSpec.upto intersectionUniformSpec)

end Rows
end Go.Proofs.Ytanlbfnlnfkcjaa
