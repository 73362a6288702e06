/- The plain laws of RouteFinds and RouteWrites. -/
import Derived.Test.YthoknobkkpefkaaDoorPureRefFind
import Derived.Test.YthoknobkkpefkaaDoorPAllx10
namespace Go.Proofs.YthoknobkkpefkaaDoor.PAll
set_option linter.unusedVariables false
set_option linter.unusedSimpArgs false
open Go.RowKit Go.Proofs.YthoknobkkpefkaaDoorW.PrintWords Base

theorem finds_f (l t : List UInt8) (hl : l.length + t.length ≤ 1048576) : ∃ k, pennantlaw16_RouteFinds.f k (bl l) (bl t) = some true := by
  refine ⟨l.length + 3000, ?_⟩
  obtain ⟨k, hk⟩ : ∃ k, l.length + 3000 = k + 1 := ⟨l.length + 2999, by omega⟩
  rw [hk]
  unfold pennantlaw16_RouteFinds.f
  rw [awake_f, Option.bind_some, if_pos rfl, find_f _ _ (by omega), Option.bind_some, ref_find_f _ _ (by omega) _ (by omega), Option.bind_some, if_pos (by simp), if_pos rfl, processor_f, Option.bind_some, ref_processor_f, Option.bind_some, if_pos rfl]
  unfold route_Session.f route_Page.f
  rw [bl_size, if_pos (by omega), Option.bind_some, if_pos rfl, bl_size, if_pos (by omega), lit_http, show (⟨#[47]⟩ : ByteArray) = bl [47] from rfl, bl_append, bl_append, bl_append]
  have e7 : httpL.length = 7 := rfl
  simp only [bl_size, List.length_append, List.length_singleton]
  rw [if_pos (by omega), if_pos (by omega), if_pos (by omega), Option.bind_some]
  simp
  omega
end Go.Proofs.YthoknobkkpefkaaDoor.PAll
