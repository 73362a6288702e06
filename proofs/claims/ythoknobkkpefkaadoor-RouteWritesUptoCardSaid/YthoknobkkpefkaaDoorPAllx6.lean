/- The reference's Url, as the printed texts call it (it stands in the numbering's place of the printed one, whose own proof fell). -/
import Derived.Test.YthoknobkkpefkaaDoorPRefx1
import Derived.Test.YthoknobkkpefkaaDoorPAllx5
namespace Go.Proofs.YthoknobkkpefkaaDoor.PAll
set_option linter.unusedVariables false
set_option linter.unusedSimpArgs false
open Go.RowKit Go.Proofs.YthoknobkkpefkaaDoorW.PrintWords
def pennantref16_Url.f (k : Nat) (a0 : ByteArray) : Option (Int × ByteArray × ByteArray × Int × ByteArray × Int) := PRef.pennantref16_Url.f k a0
theorem pennantref16_Url.mono (a0 : ByteArray) (k : Nat) : LeO (pennantref16_Url.f k a0) (pennantref16_Url.f (k + 1) a0) := PRef.pennantref16_Url.mono a0 k
theorem pennantref16_Url.calls (k : Nat) (a0 : ByteArray) (r1 : Int) (r2 : ByteArray) (r3 : ByteArray) (r4 : Int) (r5 : ByteArray) (r6 : Int) (w : World) (h : pennantref16_Url.f k a0 = some (r1, r2, r3, r4, r5, r6)) :
    Calls Tryd.prog 19 #[.string a0] w fun e w' => e = .returned (.tuple #[.agg #[.int .i64 r1, .string r2, .string r3, .int .i64 r4, .string r5], .int .i64 r6]) ∧ Below w.heap.size w w' :=
  PRef.pennantref16_Url.calls k a0 r1 r2 r3 r4 r5 r6 w h
end Go.Proofs.YthoknobkkpefkaaDoor.PAll
