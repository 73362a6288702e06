/- http.read, its first ways out: too long, not whole. -/
import Derived.Test.YtpikebpjlhccbaaGreatDoorGive0
namespace Go.Proofs.YtpikebpjlhccbaaGreatDoor.PAll
set_option linter.unusedVariables false
set_option linter.unusedSimpArgs false
open Go.RowKit Go.Proofs.YtpikebpjlhccbaaGreatDoorW.PrintWords

/-- What read hands back where it finds an error. -/
def badV (n : Int) : Ending := .returned (.tuple #[.pointer none, .iface 25 (.int .i64 n)])

set_option maxHeartbeats 8000000 in
set_option maxRecDepth 100000 in
theorem read_long (b : ByteArray) (fv : Value) (hosts : Bool) (k : Int) (w : World) (hT : Aside0 (TabsOk w)) (hi : strings_Index.f b (⟨#[13, 10, 13, 10]⟩ : ByteArray) = some k) (hk : -1 ≤ k ∧ k ≤ 4611686018427387904)
  (hl : (k < 0 ∧ 4096 < (b.size : Int)) ∨ 4096 < k + 4) :
  Calls Tryz.prog 18 #[.string b, fv, .bool hosts] w fun e w' => e = badV 2 ∧ Below w.heap.size w w' := by
 have CI := Aside0.mk (strings_Index.calls b _ k w hT hi)
 have hw : wrap64 (k + 4) = k + 4 := by unfold wrap64; omega
 clear hi
 by_cases h1 : k < 0
 ·
  have h2 : 4096 < (b.size : Int) := by omega
  have b1 : decide (k < 0) = true := decide_eq_true h1
  have b2 : decide (4096 < (b.size : Int)) = true := decide_eq_true h2
  have b3 : decide (4096 < b.size) = true := decide_eq_true (by omega)
  clear h1 h2 hl hk
  go_enter Tryz.func18, Tryz.ntmps18
  go_wp2_with (first | (go_at_call 32; refine CI.out.mono ?_; rintro e w' ⟨rfl, rfl⟩))
  go_ret2
  exact ⟨rfl, Below.refl _ _⟩
 ·
  have h2 : 4096 < k + 4 := by omega
  have b1 : decide (k < 0) = false := decide_eq_false h1
  have b2 : decide (4096 < k + 4) = true := decide_eq_true h2
  clear h1 h2 hl hk
  go_enter Tryz.func18, Tryz.ntmps18
  go_wp2_with (first | (go_at_call 32; refine CI.out.mono ?_; rintro e w' ⟨rfl, rfl⟩))
  go_ret2
  exact ⟨rfl, Below.refl _ _⟩

set_option maxHeartbeats 8000000 in
set_option maxRecDepth 100000 in
theorem read_none (b : ByteArray) (fv : Value) (hosts : Bool) (k : Int) (w : World) (hT : Aside0 (TabsOk w)) (hi : strings_Index.f b (⟨#[13, 10, 13, 10]⟩ : ByteArray) = some k) (hk : -1 ≤ k)
  (hl : k < 0 ∧ (b.size : Int) ≤ 4096) :
  Calls Tryz.prog 18 #[.string b, fv, .bool hosts] w fun e w' => e = badV 3 ∧ Below w.heap.size w w' := by
 have CI := Aside0.mk (strings_Index.calls b _ k w hT hi)
 obtain rfl : k = -1 := by omega
 clear hi
 have b2 : decide (4096 < (b.size : Int)) = false := decide_eq_false (by omega)
 have b3 : decide (4096 < b.size) = false := decide_eq_false (by omega)
 clear hl hk
 go_enter Tryz.func18, Tryz.ntmps18
 go_wp2_with (first | (go_at_call 32; refine CI.out.mono ?_; rintro e w' ⟨rfl, rfl⟩))
 go_ret2
 exact ⟨rfl, Below.refl _ _⟩
end Go.Proofs.YtpikebpjlhccbaaGreatDoor.PAll
