-- written by a program of this session (the print, turned)
import Derived.Test.YthgbgflpjggpmaaWInv
import Derived.Test.YthgbgflpjggpmaaWFootNe
namespace Go.Proofs.YthgbgflpjggpmaaW.PrintWords
open Go.RowKit
end Go.Proofs.YthgbgflpjggpmaaW.PrintWords
namespace Go.Proofs.YthgbgflpjggpmaaW.PrintLast
section
variable {ops : Array Oper} {a : Act} {o og : Oper} {g : Nat} {t : Tmp} {u : Bool}
end
end Go.Proofs.YthgbgflpjggpmaaW.PrintLast
