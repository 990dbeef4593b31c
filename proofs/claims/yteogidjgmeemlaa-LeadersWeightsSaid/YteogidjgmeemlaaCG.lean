/- The walks of: Trust4_con. Each says what one function of the program answers, for the arguments that its statement names. -/
import Derived.Test.YteogidjgmeemlaaCF
import Derived.Test.YteogidjgmeemlaaTq
import Derived.Test.YteogidjgmeemlaaProg
import Derived.KernelRfl
set_option linter.unusedVariables false
set_option linter.unusedSimpArgs false
set_option linter.unnecessarySimpa false
set_option maxRecDepth 4000
namespace Go.Proofs.Yteogidjgmeemlaa
open Go Go.Av Go.Tq


theorem Trust4_con (b n : Nat) (l : List Int) (hn : 1 ≤ n ∧ n ≤ 10) (a : Nat) : Con Try.prog 29 [.p b 0, .i n, .i 4] [.box b 81 [.sl 1 (l.map .i), .i ((a : Nat) : Int)]] (fun d H => ∃ (t : Trust) (a' : Nat), d = av t ∧ OKT n t ∧ H = [.box b 81 [.sl 1 (l.map .i), .i ((a' : Nat) : Int)]]) := Trust_con b n 3 l hn (by omega) a
theorem satc {s : Int} {t : Trust} {v : Bool} (h : sat s t = v) : Con Try.prog 51 [av t, .i s] [] (Is (.b v) []) := by rw [← h]; exact sat_con s t
theorem blkc {s : Int} {t : Trust} {v : Bool} (h : blk s t = v) : Con Try.prog 52 [av t, .i s] [] (Is (.b v) []) := by rw [← h]; exact blk_con s t
end Go.Proofs.Yteogidjgmeemlaa
