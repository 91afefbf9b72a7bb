-- The kit's printed words, less those that nothing in this claim names (left out by this session's own program).
-- PRINTED BY print.sh 35421559b90ae4d0a3588c463048766b98c2df88dd9212a6774a882060cdf62d: not written by this session
import Derived.Test.YtahopljippfadaaWInv
import Derived.Test.YtahopljippfadaaWFootNe
namespace Go.Proofs.YtahopljippfadaaW.PrintWords
open Go.RowKit
end Go.Proofs.YtahopljippfadaaW.PrintWords
namespace Go.Proofs.YtahopljippfadaaW.PrintLast
section
variable {ops : Array Oper} {a : Act} {o og : Oper} {g : Nat} {t : Tmp} {u : Bool}
end
end Go.Proofs.YtahopljippfadaaW.PrintLast
