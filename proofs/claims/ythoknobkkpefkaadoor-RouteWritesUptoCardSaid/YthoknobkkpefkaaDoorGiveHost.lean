/- The reference's Host, as its Url calls it. -/
import Derived.Test.YthoknobkkpefkaaDoorPAllx5
namespace Go.Proofs.YthoknobkkpefkaaDoor.PRef
set_option linter.unusedVariables false
set_option linter.unusedSimpArgs false
open Go.RowKit Go.Proofs.YthoknobkkpefkaaDoorW.PrintWords
def pennantref16_Host.f := PAll.pennantref16_Host.f
theorem pennantref16_Host.mono (a0 : ByteArray) (k : Nat) : LeO (pennantref16_Host.f k a0) (pennantref16_Host.f (k + 1) a0) := PAll.pennantref16_Host.mono a0 k
theorem pennantref16_Host.calls (k : Nat) (a0 : ByteArray) (r : Bool) (w : World) (h : pennantref16_Host.f k a0 = some r) :
    Calls Tryd.prog 31 #[.string a0] w fun e w' => e = .returned (.bool r) ∧ Below w.heap.size w w' :=
  (PAll.pennantref16_Host.calls k a0 r w h).mono fun e w' ⟨he, hw⟩ => ⟨he, hw.below⟩
end Go.Proofs.YthoknobkkpefkaaDoor.PRef
