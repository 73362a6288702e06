/- What route's small readers say, over lists of bytes: no program in sight. -/
import Derived.Test.YthoknobkkpefkaaDoorBase
import Derived.Lib.MapLaws
namespace Go.Proofs.YthoknobkkpefkaaDoor.Base
set_option linter.unusedVariables false
set_option linter.unusedSimpArgs false
open Go.RowKit Go.Proofs.YthoknobkkpefkaaDoorW.PrintWords

/-- a letter or a digit -/
def plainB (b : UInt8) : Bool := (decide (97 ≤ b.toNat) && decide (b.toNat ≤ 122)) || (decide (65 ≤ b.toNat) && decide (b.toNat ≤ 90)) || (decide (48 ≤ b.toNat) && decide (b.toNat ≤ 57))
def okL (more : List UInt8) (b : UInt8) : Bool := plainB b || more.contains b
/-- between 1 and 64 bytes, all of them right -/
def lettersB (ok : UInt8 → Bool) (l : List UInt8) : Bool := l.all ok && (decide (0 < l.length) && decide (l.length ≤ 64))
def pathOk (b : UInt8) : Bool := decide (33 ≤ b.toNat) && decide (b.toNat ≤ 126) && !(b.toNat == 35)
def pathB (l : List UInt8) : Bool := l.all pathOk && (l.head? == some 47)

def idMap (z : Int) : Int := if 127 < z then 120 else z
/-- an id's byte -/
def idOk (b : UInt8) : Bool := okL [95, 45, 46, 35] b || decide (128 ≤ b.toNat)
def idB (l : List UInt8) : Bool := lettersB idOk l
end Go.Proofs.YthoknobkkpefkaaDoor.Base
