/-
  NARROWER THAN 'FOR EVERY INPUT', by the rows' own cells (each row's printed sentence says how): AnalyserExact: loops.
  DERIVED. THE GIVEN ROWS OF THIS SEAT. 5 by the template 'for every input the law returns true; each argument reads behind the call as it read before'; 0 by the template 'total and deterministic' (their statements: YtgmpjpaekpefdaaGreatTotals.lean).
  GIVEN WITH THE SEED: the statements are not yours to turn. If you find one false, say at which input.
  Laid BY PROGRAM, IN A SANDBOX (cutbox-rows.mjs): the forced cells as the released guide's own fill.sh prints them over the translation e512405306d505fe… (all of the seat's roots in one cut). By AI agents, Wed Nov 11 2026. No macro, syntax, notation, axiom, sorry.
-/
import Derived.Test.YtgmpjpaekpefdaaGreatChecked
import GoSem.Claim
import GoSem.ClaimJoined
import GoSem.ClaimMapViews
import Derived.JoinedTies
import Derived.KernelRfl
namespace Go.Proofs.YtgmpjpaekpefdaaGreat
/- THE CELL 'sum', in the pinned program and in every row, IS THE sha256 OF THE DUMP (.gsa) THAT YtgmpjpaekpefdaaGreatProg.lean LOADS. Nothing in Lean hashes anything: it is a label: what it is worth is what the hold of that sum in a sandbox is worth. -/
noncomputable def Tryz.pinned : Pinned := { name := "ytgmpjpaekpefdaagreat", sum := "e512405306d505fe7c9586ecefb23f29786525af2a7b66cfd8d4716d153f8548", checked := Tryz.checked }
namespace Rows
def none {H : Type} : Left H := { results := [], args := [] }

/-- 'trustquorumlaw43.AnalyserHarmless': WHATEVER THE INPUT: true; the input reads as it did. -/
def analyserHarmlessSpec : ChangeSpec := { name := "analyserHarmless", fn := fun _ => fun
  | [d1, d2] => { results := [.lit (.bool true)], args := [d1, d2] }
  | _ => none }
def analyserHarmlessRow : OpenClaim := { program := "ytgmpjpaekpefdaagreat", sum := "e512405306d505fe7c9586ecefb23f29786525af2a7b66cfd8d4716d153f8548", func := "trustquorum/trustquorumlaw43.AnalyserHarmless", spec := "analyserHarmless", unfollowed := true, recurses := true, leaving := true, apart := false }
def AnalyserHarmlessSaid : Prop := analyserHarmlessRow.holds Tryz.pinned (OpenSpec.ofChange analyserHarmlessSpec)

/-- ITS FALSE NEIGHBOUR: 'it returns false'. Refute it at one input. -/
def analyserHarmlessWrong : ChangeSpec := { name := "analyserHarmless", fn := fun _ => fun
  | [d1, d2] => { results := [.lit (.bool false)], args := [d1, d2] }
  | _ => none }
def AnalyserHarmlessWrongFalsely : Prop := analyserHarmlessRow.holds Tryz.pinned (OpenSpec.ofChange analyserHarmlessWrong)

/-- 'trustquorumlaw43.AnalyserHalts': WHATEVER THE INPUT: true; the input reads as it did. -/
def analyserHaltsSpec : ChangeSpec := { name := "analyserHalts", fn := fun _ => fun
  | [d1, d2, d3] => { results := [.lit (.bool true)], args := [d1, d2, d3] }
  | _ => none }
def analyserHaltsRow : OpenClaim := { program := "ytgmpjpaekpefdaagreat", sum := "e512405306d505fe7c9586ecefb23f29786525af2a7b66cfd8d4716d153f8548", func := "trustquorum/trustquorumlaw43.AnalyserHalts", spec := "analyserHalts", unfollowed := true, recurses := true, leaving := true, apart := false }
def AnalyserHaltsSaid : Prop := analyserHaltsRow.holds Tryz.pinned (OpenSpec.ofChange analyserHaltsSpec)

/-- ITS FALSE NEIGHBOUR: 'it returns false'. Refute it at one input. -/
def analyserHaltsWrong : ChangeSpec := { name := "analyserHalts", fn := fun _ => fun
  | [d1, d2, d3] => { results := [.lit (.bool false)], args := [d1, d2, d3] }
  | _ => none }
def AnalyserHaltsWrongFalsely : Prop := analyserHaltsRow.holds Tryz.pinned (OpenSpec.ofChange analyserHaltsWrong)

/-- 'trustquorumlaw43.AnalyserPlain': WHATEVER THE INPUT: true; the input reads as it did. -/
def analyserPlainSpec : ChangeSpec := { name := "analyserPlain", fn := fun _ => fun
  | [d] => { results := [.lit (.bool true)], args := [d] }
  | _ => none }
def analyserPlainRow : OpenClaim := { program := "ytgmpjpaekpefdaagreat", sum := "e512405306d505fe7c9586ecefb23f29786525af2a7b66cfd8d4716d153f8548", func := "trustquorum/trustquorumlaw43.AnalyserPlain", spec := "analyserPlain", unfollowed := true, recurses := true, leaving := true, apart := false }
def AnalyserPlainSaid : Prop := analyserPlainRow.holds Tryz.pinned (OpenSpec.ofChange analyserPlainSpec)

/-- ITS FALSE NEIGHBOUR: 'it returns false'. Refute it at one input. -/
def analyserPlainWrong : ChangeSpec := { name := "analyserPlain", fn := fun _ => fun
  | [d] => { results := [.lit (.bool false)], args := [d] }
  | _ => none }
def AnalyserPlainWrongFalsely : Prop := analyserPlainRow.holds Tryz.pinned (OpenSpec.ofChange analyserPlainWrong)

/-- 'trustquorumlaw43.AnalyserSplits': WHATEVER THE INPUT: true; the input reads as it did. -/
def analyserSplitsSpec : ChangeSpec := { name := "analyserSplits", fn := fun _ => fun
  | [d1, d2] => { results := [.lit (.bool true)], args := [d1, d2] }
  | _ => none }
def analyserSplitsRow : OpenClaim := { program := "ytgmpjpaekpefdaagreat", sum := "e512405306d505fe7c9586ecefb23f29786525af2a7b66cfd8d4716d153f8548", func := "trustquorum/trustquorumlaw43.AnalyserSplits", spec := "analyserSplits", unfollowed := true, recurses := true, leaving := true, apart := false }
def AnalyserSplitsSaid : Prop := analyserSplitsRow.holds Tryz.pinned (OpenSpec.ofChange analyserSplitsSpec)

/-- ITS FALSE NEIGHBOUR: 'it returns false'. Refute it at one input. -/
def analyserSplitsWrong : ChangeSpec := { name := "analyserSplits", fn := fun _ => fun
  | [d1, d2] => { results := [.lit (.bool false)], args := [d1, d2] }
  | _ => none }
def AnalyserSplitsWrongFalsely : Prop := analyserSplitsRow.holds Tryz.pinned (OpenSpec.ofChange analyserSplitsWrong)

/-- 'trustquorumlaw43.AnalyserExact': WHATEVER THE INPUT: true; the input reads as it did. -/
def analyserExactSpec : ChangeSpec := { name := "analyserExact", fn := fun _ => fun
  | [d1, d2, d3, d4, d5] => { results := [.lit (.bool true)], args := [d1, d2, d3, d4, d5] }
  | _ => none }
def analyserExactRow : OpenClaim := { program := "ytgmpjpaekpefdaagreat", sum := "e512405306d505fe7c9586ecefb23f29786525af2a7b66cfd8d4716d153f8548", func := "trustquorum/trustquorumlaw43.AnalyserExact", spec := "analyserExact", unfollowed := true, recurses := true, loops := true, leaving := true, apart := false }
def AnalyserExactSaid : Prop := analyserExactRow.holds Tryz.pinned (OpenSpec.ofChange analyserExactSpec)

/-- ITS FALSE NEIGHBOUR: 'it returns false'. Refute it at one input. -/
def analyserExactWrong : ChangeSpec := { name := "analyserExact", fn := fun _ => fun
  | [d1, d2, d3, d4, d5] => { results := [.lit (.bool false)], args := [d1, d2, d3, d4, d5] }
  | _ => none }
def AnalyserExactWrongFalsely : Prop := analyserExactRow.holds Tryz.pinned (OpenSpec.ofChange analyserExactWrong)

/- THE SECOND FORM. 'bulk': how many values and letters a reading holds, each counted each time it is reached (what is shared counts as often as it is met; a slice's spare places count too). A statement '..UptoSaid' is the law's where the arguments, and the package variables that the reading takes, are together of bulk at most 1048576: NARROWER than '..Said'. Prove '..Said' where nothing that the law and all that it calls make is longer than what came in: it says more and counts as full. Else prove '..UptoSaid'. A law counts once. -/
mutual
def uptoBulk {H : Type} : DataW H → Nat
  | .lit (.string bytes) => bytes.length + 1
  | .lit _ => 1
  | .nil => 1
  | .ptr d => uptoBulk d + 1
  | .slice elems spare => uptoBulkAll elems + uptoBulkAll spare + 1
  | .agg parts => uptoBulkAll parts + 1
  | .iface _ d => uptoBulk d + 1
  | .map entries => uptoBulkEntries entries + 1
  | .held _ => 1
def uptoBulkAll {H : Type} : List (DataW H) → Nat
  | [] => 0
  | d :: r => uptoBulk d + uptoBulkAll r
def uptoBulkEntries {H : Type} : List (Lit × DataW H) → Nat
  | [] => 0
  | x :: r => uptoBulkEntry x + uptoBulkEntries r
def uptoBulkEntry {H : Type} : Lit × DataW H → Nat
  | (.string bytes, d) => bytes.length + uptoBulk d + 1
  | (_, d) => uptoBulk d + 1
 end
def uptoSmall : (H : Type) → List (DataW H) → Bool := fun _ ds => decide (uptoBulkAll ds ≤ 1048576)
def OpenSpec.upto (s : _root_.Go.ChangeSpec) : _root_.Go.OpenSpec := { _root_.Go.OpenSpec.ofChange s with cond := some uptoSmall }

/-- 'trustquorumlaw43.AnalyserHarmless', WHERE WHAT IT READS IS OF BULK AT MOST 1048576: true; the input reads as it did. -/
def analyserHarmlessUptoRow : OpenClaim := { program := "ytgmpjpaekpefdaagreat", sum := "e512405306d505fe7c9586ecefb23f29786525af2a7b66cfd8d4716d153f8548", func := "trustquorum/trustquorumlaw43.AnalyserHarmless", spec := "analyserHarmless", unfollowed := true, recurses := true, leaving := true, apart := false, narrowed := true }
def AnalyserHarmlessUptoSaid : Prop := analyserHarmlessUptoRow.holds Tryz.pinned (OpenSpec.upto analyserHarmlessSpec)

/-- 'trustquorumlaw43.AnalyserHalts', WHERE WHAT IT READS IS OF BULK AT MOST 1048576: true; the input reads as it did. -/
def analyserHaltsUptoRow : OpenClaim := { program := "ytgmpjpaekpefdaagreat", sum := "e512405306d505fe7c9586ecefb23f29786525af2a7b66cfd8d4716d153f8548", func := "trustquorum/trustquorumlaw43.AnalyserHalts", spec := "analyserHalts", unfollowed := true, recurses := true, leaving := true, apart := false, narrowed := true }
def AnalyserHaltsUptoSaid : Prop := analyserHaltsUptoRow.holds Tryz.pinned (OpenSpec.upto analyserHaltsSpec)

/-- 'trustquorumlaw43.AnalyserPlain', WHERE WHAT IT READS IS OF BULK AT MOST 1048576: true; the input reads as it did. -/
def analyserPlainUptoRow : OpenClaim := { program := "ytgmpjpaekpefdaagreat", sum := "e512405306d505fe7c9586ecefb23f29786525af2a7b66cfd8d4716d153f8548", func := "trustquorum/trustquorumlaw43.AnalyserPlain", spec := "analyserPlain", unfollowed := true, recurses := true, leaving := true, apart := false, narrowed := true }
def AnalyserPlainUptoSaid : Prop := analyserPlainUptoRow.holds Tryz.pinned (OpenSpec.upto analyserPlainSpec)

/-- 'trustquorumlaw43.AnalyserSplits', WHERE WHAT IT READS IS OF BULK AT MOST 1048576: true; the input reads as it did. -/
def analyserSplitsUptoRow : OpenClaim := { program := "ytgmpjpaekpefdaagreat", sum := "e512405306d505fe7c9586ecefb23f29786525af2a7b66cfd8d4716d153f8548", func := "trustquorum/trustquorumlaw43.AnalyserSplits", spec := "analyserSplits", unfollowed := true, recurses := true, leaving := true, apart := false, narrowed := true }
def AnalyserSplitsUptoSaid : Prop := analyserSplitsUptoRow.holds Tryz.pinned (OpenSpec.upto analyserSplitsSpec)

/-- 'trustquorumlaw43.AnalyserExact', WHERE WHAT IT READS IS OF BULK AT MOST 1048576: true; the input reads as it did. -/
def analyserExactUptoRow : OpenClaim := { program := "ytgmpjpaekpefdaagreat", sum := "e512405306d505fe7c9586ecefb23f29786525af2a7b66cfd8d4716d153f8548", func := "trustquorum/trustquorumlaw43.AnalyserExact", spec := "analyserExact", unfollowed := true, recurses := true, loops := true, leaving := true, apart := false, narrowed := true }
def AnalyserExactUptoSaid : Prop := analyserExactUptoRow.holds Tryz.pinned (OpenSpec.upto analyserExactSpec)

end Rows
end Go.Proofs.YtgmpjpaekpefdaaGreat
