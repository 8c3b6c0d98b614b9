-- PRINTED BY print.sh 35421559b90ae4d0a3588c463048766b98c2df88dd9212a6774a882060cdf62d: not written by this session
-- cut down by a program of this repo (prune.py): the theorems that nothing here names or uses are left out
import Derived.Test.YtdkapdgbfejgdaaWInv
import Derived.Test.YtdkapdgbfejgdaaWFootNe
namespace Go.Proofs.YtdkapdgbfejgdaaW.PrintWords
open Go.RowKit
end Go.Proofs.YtdkapdgbfejgdaaW.PrintWords
namespace Go.Proofs.YtdkapdgbfejgdaaW.PrintLast
section
variable {ops : Array Oper} {a : Act} {o og : Oper} {g : Nat} {t : Tmp} {u : Bool}
end
end Go.Proofs.YtdkapdgbfejgdaaW.PrintLast
