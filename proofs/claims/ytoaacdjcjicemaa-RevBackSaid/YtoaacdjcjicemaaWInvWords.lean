-- written by a program of this session (the print, turned)
import Derived.Test.YtoaacdjcjicemaaWInv
import Derived.Test.YtoaacdjcjicemaaWFootNe
namespace Go.Proofs.YtoaacdjcjicemaaW.PrintWords
open Go.RowKit
end Go.Proofs.YtoaacdjcjicemaaW.PrintWords
namespace Go.Proofs.YtoaacdjcjicemaaW.PrintLast
section
variable {ops : Array Oper} {a : Act} {o og : Oper} {g : Nat} {t : Tmp} {u : Bool}
end
end Go.Proofs.YtoaacdjcjicemaaW.PrintLast
