/- The plain law of RouteWrites. -/
import Derived.Test.YthoknobkkpefkaaDoorPureRefFind
import Derived.Test.YthoknobkkpefkaaDoorPAllx11
namespace Go.Proofs.YthoknobkkpefkaaDoor.PAll
set_option linter.unusedVariables false
set_option linter.unusedSimpArgs false
open Go.RowKit Go.Proofs.YthoknobkkpefkaaDoorW.PrintWords Base

theorem checkW_some (r : Ans) (kind : Int) (id host : ByteArray) (port : Int) (path s : ByteArray) : ∃ q, checkW r kind id host port path s = some q := by
  unfold checkW
  repeat' split
  all_goals exact ⟨_, rfl⟩
theorem writes_f (kind : Int) (id host : List UInt8) (port : Int) (path : List UInt8) (hp : -9223372036854775808 ≤ port ∧ port ≤ 9223372036854775807)
    (hl : id.length + host.length + path.length ≤ 1048576) : ∃ k, pennantlaw16_RouteWrites.f k kind (bl id) (bl host) port (bl path) = some true := by
  refine ⟨id.length + host.length + path.length + 4000, ?_⟩
  obtain ⟨k, hk⟩ : ∃ k, id.length + host.length + path.length + 4000 = k + 1 := ⟨id.length + host.length + path.length + 3999, by omega⟩
  rw [hk]
  unfold pennantlaw16_RouteWrites.f
  rw [awake_f, Option.bind_some, if_pos rfl, write_f kind id host port path hp (by omega), ref_write_f kind id host port path hp (by omega) _ (by omega)]
  have hw : ∃ r, writeP kind id host port path = some r := by
    unfold writeP
    cases writeS kind id host port path with
    | none => exact ⟨_, rfl⟩
    | some s =>
      dsimp only
      exact checkW_some _ _ _ _ _ _ _
  obtain ⟨r, hr⟩ := hw
  rw [hr, Option.bind_some, Option.bind_some, if_pos rfl]
  simp
end Go.Proofs.YthoknobkkpefkaaDoor.PAll
