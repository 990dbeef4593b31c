/-
  NARROWER THAN 'FOR EVERY INPUT', by the rows' own cells (each row's printed sentence says how): TimersExact: loops.
  DERIVED. THE GIVEN ROWS OF THIS SEAT. 3 by the template 'for every input the law returns true; each argument reads behind the call as it read before'; 0 by the template 'total and deterministic' (their statements: YtegejdhkckndaaaGreatTotals.lean).
  GIVEN WITH THE SEED: the statements are not yours to turn. If you find one false, say at which input.
  Laid BY PROGRAM, IN A SANDBOX (cutbox-rows.mjs): the forced cells as the released guide's own fill.sh prints them over the translation b5474392f25706e8… (all of the seat's roots in one cut). By AI agents, Wed Nov 11 2026. No macro, syntax, notation, axiom, sorry.
-/
import Derived.Test.YtegejdhkckndaaaGreatChecked
import GoSem.Claim
import GoSem.ClaimJoined
import GoSem.ClaimMapViews
import Derived.JoinedTies
import Derived.KernelRfl
namespace Go.Proofs.YtegejdhkckndaaaGreat
/- THE CELL 'sum', in the pinned program and in every row, IS THE sha256 OF THE DUMP (.gsa) THAT YtegejdhkckndaaaGreatProg.lean LOADS. Nothing in Lean hashes anything: it is a label: what it is worth is what the hold of that sum in a sandbox is worth. -/
noncomputable def Tryz.pinned : Pinned := { name := "ytegejdhkckndaaagreat", sum := "b5474392f25706e866a3aacacd54e40d83a853a42442c01d7d7bfb15728afaaf", checked := Tryz.checked }
namespace Rows
def none {H : Type} : Left H := { results := [], args := [] }

/-- 'trustquorumlaw28.TimersExact': WHATEVER THE INPUT: true; the input reads as it did. -/
def timersExactSpec : ChangeSpec := { name := "timersExact", fn := fun _ => fun
  | [d1, d2, d3, d4, d5] => { results := [.lit (.bool true)], args := [d1, d2, d3, d4, d5] }
  | _ => none }
def timersExactRow : OpenClaim := { program := "ytegejdhkckndaaagreat", sum := "b5474392f25706e866a3aacacd54e40d83a853a42442c01d7d7bfb15728afaaf", func := "trustquorum/trustquorumlaw28.TimersExact", spec := "timersExact", unfollowed := true, recurses := true, loops := true, apart := false }
def TimersExactSaid : Prop := timersExactRow.holds Tryz.pinned (OpenSpec.ofChange timersExactSpec)

/-- ITS FALSE NEIGHBOUR: 'it returns false'. Refute it at one input. -/
def timersExactWrong : ChangeSpec := { name := "timersExact", fn := fun _ => fun
  | [d1, d2, d3, d4, d5] => { results := [.lit (.bool false)], args := [d1, d2, d3, d4, d5] }
  | _ => none }
def TimersExactWrongFalsely : Prop := timersExactRow.holds Tryz.pinned (OpenSpec.ofChange timersExactWrong)

/-- 'trustquorumlaw28.TimersWait': WHATEVER THE INPUT: true; the input reads as it did. -/
def timersWaitSpec : ChangeSpec := { name := "timersWait", fn := fun _ => fun
  | [d1, d2] => { results := [.lit (.bool true)], args := [d1, d2] }
  | _ => none }
def timersWaitRow : OpenClaim := { program := "ytegejdhkckndaaagreat", sum := "b5474392f25706e866a3aacacd54e40d83a853a42442c01d7d7bfb15728afaaf", func := "trustquorum/trustquorumlaw28.TimersWait", spec := "timersWait", unfollowed := true, recurses := true, apart := false }
def TimersWaitSaid : Prop := timersWaitRow.holds Tryz.pinned (OpenSpec.ofChange timersWaitSpec)

/-- ITS FALSE NEIGHBOUR: 'it returns false'. Refute it at one input. -/
def timersWaitWrong : ChangeSpec := { name := "timersWait", fn := fun _ => fun
  | [d1, d2] => { results := [.lit (.bool false)], args := [d1, d2] }
  | _ => none }
def TimersWaitWrongFalsely : Prop := timersWaitRow.holds Tryz.pinned (OpenSpec.ofChange timersWaitWrong)

/-- 'trustquorumlaw28.TimersStop': WHATEVER THE INPUT: true; the input reads as it did. -/
def timersStopSpec : ChangeSpec := { name := "timersStop", fn := fun _ => fun
  | [d1, d2] => { results := [.lit (.bool true)], args := [d1, d2] }
  | _ => none }
def timersStopRow : OpenClaim := { program := "ytegejdhkckndaaagreat", sum := "b5474392f25706e866a3aacacd54e40d83a853a42442c01d7d7bfb15728afaaf", func := "trustquorum/trustquorumlaw28.TimersStop", spec := "timersStop", unfollowed := true, recurses := true, apart := false }
def TimersStopSaid : Prop := timersStopRow.holds Tryz.pinned (OpenSpec.ofChange timersStopSpec)

/-- ITS FALSE NEIGHBOUR: 'it returns false'. Refute it at one input. -/
def timersStopWrong : ChangeSpec := { name := "timersStop", fn := fun _ => fun
  | [d1, d2] => { results := [.lit (.bool false)], args := [d1, d2] }
  | _ => none }
def TimersStopWrongFalsely : Prop := timersStopRow.holds Tryz.pinned (OpenSpec.ofChange timersStopWrong)

/- THE SECOND FORM. 'bulk': how many values and letters a reading holds, each counted each time it is reached (what is shared counts as often as it is met; a slice's spare places count too). A statement '..UptoSaid' is the law's where the arguments, and the package variables that the reading takes, are together of bulk at most 1048576: NARROWER than '..Said'. Prove '..Said' where nothing that the law and all that it calls make is longer than what came in: it says more and counts as full. Else prove '..UptoSaid'. A law counts once. -/
mutual
def uptoBulk {H : Type} : DataW H → Nat
  | .lit (.string bytes) => bytes.length + 1
  | .lit _ => 1
  | .nil => 1
  | .ptr d => uptoBulk d + 1
  | .slice elems spare => uptoBulkAll elems + uptoBulkAll spare + 1
  | .agg parts => uptoBulkAll parts + 1
  | .iface _ d => uptoBulk d + 1
  | .map entries => uptoBulkEntries entries + 1
  | .held _ => 1
def uptoBulkAll {H : Type} : List (DataW H) → Nat
  | [] => 0
  | d :: r => uptoBulk d + uptoBulkAll r
def uptoBulkEntries {H : Type} : List (Lit × DataW H) → Nat
  | [] => 0
  | x :: r => uptoBulkEntry x + uptoBulkEntries r
def uptoBulkEntry {H : Type} : Lit × DataW H → Nat
  | (.string bytes, d) => bytes.length + uptoBulk d + 1
  | (_, d) => uptoBulk d + 1
 end
def uptoSmall : (H : Type) → List (DataW H) → Bool := fun _ ds => decide (uptoBulkAll ds ≤ 1048576)
def OpenSpec.upto (s : _root_.Go.ChangeSpec) : _root_.Go.OpenSpec := { _root_.Go.OpenSpec.ofChange s with cond := some uptoSmall }

/-- 'trustquorumlaw28.TimersExact', WHERE WHAT IT READS IS OF BULK AT MOST 1048576: true; the input reads as it did. -/
def timersExactUptoRow : OpenClaim := { program := "ytegejdhkckndaaagreat", sum := "b5474392f25706e866a3aacacd54e40d83a853a42442c01d7d7bfb15728afaaf", func := "trustquorum/trustquorumlaw28.TimersExact", spec := "timersExact", unfollowed := true, recurses := true, loops := true, apart := false, narrowed := true }
def TimersExactUptoSaid : Prop := timersExactUptoRow.holds Tryz.pinned (OpenSpec.upto timersExactSpec)

/-- 'trustquorumlaw28.TimersWait', WHERE WHAT IT READS IS OF BULK AT MOST 1048576: true; the input reads as it did. -/
def timersWaitUptoRow : OpenClaim := { program := "ytegejdhkckndaaagreat", sum := "b5474392f25706e866a3aacacd54e40d83a853a42442c01d7d7bfb15728afaaf", func := "trustquorum/trustquorumlaw28.TimersWait", spec := "timersWait", unfollowed := true, recurses := true, apart := false, narrowed := true }
def TimersWaitUptoSaid : Prop := timersWaitUptoRow.holds Tryz.pinned (OpenSpec.upto timersWaitSpec)

/-- 'trustquorumlaw28.TimersStop', WHERE WHAT IT READS IS OF BULK AT MOST 1048576: true; the input reads as it did. -/
def timersStopUptoRow : OpenClaim := { program := "ytegejdhkckndaaagreat", sum := "b5474392f25706e866a3aacacd54e40d83a853a42442c01d7d7bfb15728afaaf", func := "trustquorum/trustquorumlaw28.TimersStop", spec := "timersStop", unfollowed := true, recurses := true, apart := false, narrowed := true }
def TimersStopUptoSaid : Prop := timersStopUptoRow.holds Tryz.pinned (OpenSpec.upto timersStopSpec)

end Rows
end Go.Proofs.YtegejdhkckndaaaGreat
