/- http.number: the error's number. -/
import Derived.Test.YtpikebpjlhccbaaGreatDoorGive0
import Derived.Test.YtpikebpjlhccbaaGreatDoorGiveAs
namespace Go.Proofs.YtpikebpjlhccbaaGreatDoor.PAll
set_option linter.unusedVariables false
set_option linter.unusedSimpArgs false
open Go.RowKit Go.Proofs.YtpikebpjlhccbaaGreatDoorW.PrintWords

set_option maxHeartbeats 8000000 in
set_option maxRecDepth 100000 in
theorem http_number.calls (n : Int) (w : World) (hT : Aside0 (TabsOk w)) :
  Calls Tryz.prog 21 #[.iface 25 (.int .i64 n)] w fun e w' => e = .returned (.int .i64 n) ∧ Below w.heap.size w w' := by
 have hlt : 0 < w.heap.size := by
  have hg := hT.out.ety
  rcases Nat.eq_zero_or_pos w.heap.size with h0 | h
  ·
   simp [World.cell?, h0] at hg
  ·
   exact h
 have hC := As.as_hit n ⟨w.heap.size, 0, none⟩ (.int .i64 0) (w.alloc (.cells #[.int .i64 0] 25)) (by rw [World.cell?_alloc_lt _ _ ⟨0, 0, none⟩ hlt]; exact hT.out.ety) (by rw [World.cell?_alloc_at _ _ _ _ (by simp)]; rfl) (by simp)
 have HC := Aside0.mk hC
 clear hC
 go_enter Tryz.func21, Tryz.ntmps21
 go_wp2_with (first | (go_at_call 41; refine HC.out.mono ?_; rintro e w' ⟨rfl, rfl⟩))
 go_ret
 exact ⟨rfl, below_alloc (below_alloc (below_alloc (below_alloc (below_alloc (Below.refl _ _) _) _) _) _) _⟩
end Go.Proofs.YtpikebpjlhccbaaGreatDoor.PAll
