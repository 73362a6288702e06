/- route.url, as the printed texts call it. -/
import Derived.Test.YthoknobkkpefkaaDoorPUrlx1
namespace Go.Proofs.YthoknobkkpefkaaDoor.PAll
set_option linter.unusedVariables false
set_option linter.unusedSimpArgs false
open Go.RowKit Go.Proofs.YthoknobkkpefkaaDoorW.PrintWords
def route_url.f (a0 : ByteArray) : Option (Int × ByteArray × ByteArray × Int × ByteArray × Int) := PUrl.route_url.f 1000 a0
theorem route_url.calls (a0 : ByteArray) (r1 : Int) (r2 r3 : ByteArray) (r4 : Int) (r5 : ByteArray) (r6 : Int) (w : World) (hT : Aside0 (TabsOk w)) (h : route_url.f a0 = some (r1, r2, r3, r4, r5, r6)) :
    Calls Tryd.prog 18 #[.string a0] w fun e w' => e = .returned (.tuple #[.agg #[.int .i64 r1, .string r2, .string r3, .int .i64 r4, .string r5], .int .i64 r6]) ∧ Below w.heap.size w w' :=
  PUrl.route_url.calls 1000 a0 r1 r2 r3 r4 r5 r6 w hT h
end Go.Proofs.YthoknobkkpefkaaDoor.PAll
