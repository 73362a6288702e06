/- http.small by its contract: strings.Map is not walked. -/
import Derived.Test.YtpikebpjlhccbaaGreatDoorGive0
namespace Go.Proofs.YtpikebpjlhccbaaGreatDoor.PAll
set_option linter.unusedVariables false
set_option linter.unusedSimpArgs false
open Go.RowKit Go.Shelf Go.Lib Go.Proofs.YtpikebpjlhccbaaGreatDoorW.PrintWords

def lowMap (z : Int) : Int := if 65 ≤ z ∧ z ≤ 90 then z + 32 else z
set_option maxHeartbeats 1000000 in
set_option maxRecDepth 1000000 in
theorem low_closure (w : World) : MapGrows Tryz.prog 63 #[] lowMap w := by
 intro W x hx hb
 show Calls Tryz.prog 63 #[.int .i32 (x : Int)] W _
 unfold lowMap
 by_cases h1 : 65 ≤ (x : Int)
 ·
  have b1 : decide (65 ≤ (x : Int)) = true := decide_eq_true h1
  by_cases h2 : (x : Int) ≤ 90
  ·
   have b2 : decide ((x : Int) ≤ 90) = true := decide_eq_true h2
   have hw : IntKind.i32.wrap ((x : Int) + 32) = (x : Int) + 32 := by have e1 : IntKind.i32.bits = 32 := rfl; have e2 : IntKind.i32.signed = true := rfl; unfold IntKind.wrap; rw [e1]; simp; omega
   rw [if_pos ⟨h1, h2⟩]
   go_enter Tryz.func63, Tryz.ntmps63
   go_wp2
   go_ret
   exact ⟨by first | rfl | (simp [hw]; done) | (rw [hw]), Below.refl _ _⟩
  ·
   have b2 : decide ((x : Int) ≤ 90) = false := decide_eq_false h2
   rw [if_neg (fun h => h2 h.2)]
   go_enter Tryz.func63, Tryz.ntmps63
   go_wp2
   go_ret
   exact ⟨rfl, Below.refl _ _⟩
 ·
  have b1 : decide (65 ≤ (x : Int)) = false := decide_eq_false h1
  rw [if_neg (fun h => h1 h.1)]
  go_enter Tryz.func63, Tryz.ntmps63
  go_wp2
  go_ret
  exact ⟨rfl, Below.refl _ _⟩
theorem low_range (x : Nat) (hx : x ≤ 1114111) : -2147483648 ≤ lowMap x ∧ lowMap x ≤ 2147483647 := by
 unfold lowMap
 split <;> omega

/-- http.small -/
def http_small.f (a0 : ByteArray) : Option ByteArray := if a0.size < 35184372088832 then some ⟨(mapD lowMap a0.data.toList).toArray⟩ else none
set_option maxHeartbeats 1000000 in
set_option maxRecDepth 1000000 in
theorem http_small.calls (a0 r : ByteArray) (w : World) (hT : Aside0 (TabsOk w)) (h : http_small.f a0 = some r) :
  Calls Tryz.prog 38 #[.string a0] w fun e w' => e = .returned (.string r) ∧ Below w.heap.size w w' := by
 unfold http_small.f at h
 by_cases hs : a0.size < 35184372088832
 ·
  rw [if_pos hs] at h
  obtain rfl := Option.some.inj h
  clear h
  have cM : Calls Tryz.prog 62 #[.func (.func 63) #[] #[], .string a0] w _ := Tryz.strings_Map_grows 63 #[] (enters_of Tryz.func63 (by kernel_rfl) rfl) lowMap a0 w hs (low_closure w) low_range hT.out.u8
  generalize (⟨(mapD lowMap a0.data.toList).toArray⟩ : ByteArray) = pl at cM ⊢
  have CM := Aside0.mk cM
  clear cM
  go_enter Tryz.func38, Tryz.ntmps38
  go_wp2_with (first | (go_at_call 62; refine CM.out.mono ?_; rintro e W1 ⟨rfl, hb1⟩))
  go_ret
  exact ⟨rfl, hb1⟩
 ·
  rw [if_neg hs] at h; cases h
end Go.Proofs.YtpikebpjlhccbaaGreatDoor.PAll
