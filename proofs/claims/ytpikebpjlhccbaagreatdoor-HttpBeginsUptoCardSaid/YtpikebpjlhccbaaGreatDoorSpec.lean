/- What http's small readers say, over lists of bytes: no program in sight. -/
import Derived.Test.YtpikebpjlhccbaaGreatDoorBase
import Derived.Lib.MapLaws
namespace Go.Proofs.YtpikebpjlhccbaaGreatDoor.Base
set_option linter.unusedVariables false
set_option linter.unusedSimpArgs false
open Go.RowKit Go.Proofs.YtpikebpjlhccbaaGreatDoorW.PrintWords

/-- a letter or a digit -/
def plainB (b : UInt8) : Bool := (decide (97 ≤ b.toNat) && decide (b.toNat ≤ 122)) || (decide (65 ≤ b.toNat) && decide (b.toNat ≤ 90)) || (decide (48 ≤ b.toNat) && decide (b.toNat ≤ 57))
def okL (more : List UInt8) (b : UInt8) : Bool := plainB b || more.contains b
def tokSet : List UInt8 := [33, 35, 36, 37, 38, 39, 42, 43, 45, 46, 94, 95, 96, 124, 126]
def tokOk (b : UInt8) : Bool := okL tokSet b
/-- between 1 and 64 bytes, all of them right -/
def tokenB (l : List UInt8) : Bool := l.all tokOk && (decide (0 < l.length) && decide (l.length ≤ 64))
def textOk (b : UInt8) : Bool := (decide (32 ≤ b.toNat) || b.toNat == 9) && !(b.toNat == 127)
def textB (l : List UInt8) : Bool := l.all textOk
def targOk (b : UInt8) : Bool := decide (33 ≤ b.toNat) && decide (b.toNat ≤ 126)
def targetB (l : List UInt8) : Bool := l.all targOk && (l.head? == some 47 && decide (l.length ≤ 256))
end Go.Proofs.YtpikebpjlhccbaaGreatDoor.Base
