/- The walks of: . Each says what one function of the program answers, for the arguments that its statement names. -/
import Derived.Test.YteogidjgmeemlaaCG
import Derived.Test.YteogidjgmeemlaaTq
import Derived.Test.YteogidjgmeemlaaProg
import Derived.KernelRfl
set_option linter.unusedVariables false
set_option linter.unusedSimpArgs false
set_option linter.unnecessarySimpa false
set_option maxRecDepth 4000
namespace Go.Proofs.Yteogidjgmeemlaa
open Go Go.Av Go.Tq

theorem not_t {c : Bool} (h : (!c) = true) : c = false := by simpa using h
end Go.Proofs.Yteogidjgmeemlaa
