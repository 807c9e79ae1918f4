-- Of the print's words those that this claim needs: taken out by a program of this session (shake.py)
import Derived.Test.YtpndhkeoljoapaaWInv
import Derived.Test.YtpndhkeoljoapaaWFootNe
namespace Go.Proofs.YtpndhkeoljoapaaW.PrintWords
open Go.RowKit
end Go.Proofs.YtpndhkeoljoapaaW.PrintWords
namespace Go.Proofs.YtpndhkeoljoapaaW.PrintLast
section
variable {ops : Array Oper} {a : Act} {o og : Oper} {g : Nat} {t : Tmp} {u : Bool}
end
end Go.Proofs.YtpndhkeoljoapaaW.PrintLast
