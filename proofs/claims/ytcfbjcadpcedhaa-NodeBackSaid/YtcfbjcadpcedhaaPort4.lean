/- Ports that ask memory at once: Reap. -/
import Derived.Test.YtcfbjcadpcedhaaPort0
namespace Go.Proofs.Ytcfbjcadpcedhaa.Mem
open Go.RowKit Go.Proofs.YtcfbjcadpcedhaaW.PrintWords Go.Proofs.YtcfbjcadpcedhaaW.PrintLast Go.Proofs.Ytcfbjcadpcedhaa.Tags
set_option linter.unusedVariables false
set_option linter.unusedSimpArgs false
section
variable {w w' : World} {pb mb cb : Nat} {m : M}
end
end Go.Proofs.Ytcfbjcadpcedhaa.Mem
