/- route.id by its contract: the library's strings.Map is not walked. -/
import Derived.Test.YthoknobkkpefkaaDoorPureL
import Derived.Test.YthoknobkkpefkaaDoorPureId
namespace Go.Proofs.YthoknobkkpefkaaDoor.PAll
set_option linter.unusedVariables false
set_option linter.unusedSimpArgs false
open Go.RowKit Go.Shelf Go.Lib Go.Proofs.YthoknobkkpefkaaDoorW.PrintWords Base

set_option maxHeartbeats 1000000 in
set_option maxRecDepth 1000000 in
theorem id_closure (w : World) : MapGrows Tryd.prog 36 #[] idMap w := by
  intro W x hx hb
  show Calls Tryd.prog 36 #[.int .i32 (x : Int)] W _
  unfold idMap
  by_cases h : 127 < (x : Int)
  · rw [if_pos h]
    go_enter Tryd.func36, Tryd.ntmps36
    go_wp2
    go_ret
    exact ⟨rfl, Below.refl _ _⟩
  · rw [if_neg h]
    go_enter Tryd.func36, Tryd.ntmps36
    go_wp2
    go_ret
    exact ⟨rfl, Below.refl _ _⟩
theorem id_range (x : Nat) (hx : x ≤ 1114111) : -2147483648 ≤ idMap x ∧ idMap x ≤ 2147483647 := by
  unfold idMap
  split <;> omega

def route_id.f (a0 : ByteArray) : Option Bool := if a0.size < 35184372088832 then some (idB a0.data.toList) else none

set_option maxHeartbeats 1000000 in
set_option maxRecDepth 1000000 in
theorem route_id.calls (a0 : ByteArray) (r : Bool) (w : World) (hT : Aside0 (TabsOk w)) (h : route_id.f a0 = some r) :
    Calls Tryd.prog 25 #[.string a0] w fun e w' => e = .returned (.bool r) ∧ Below w.heap.size w w' := by
  unfold route_id.f at h
  by_cases hs : a0.size < 35184372088832
  · rw [if_pos hs] at h
    have hr := Option.some.inj h
    clear h
    rw [← id_law] at hr
    have cM : Calls Tryd.prog 35 #[.func (.func 36) #[] #[], .string a0] w _ := Tryd.strings_Map_grows 36 #[] (enters_of Tryd.func36 (by kernel_rfl) rfl) idMap a0 w hs (id_closure w) id_range hT.out.u8
    have hlen := (id_all a0.data.toList.length a0.data.toList (Nat.le_refl _)).2.1
    have hsz := Base.size_eq a0
    rw [← hsz] at hr hlen
    obtain ⟨pl, hpl⟩ : ∃ pl : ByteArray, pl = ⟨(mapD idMap a0.data.toList).toArray⟩ := ⟨_, rfl⟩
    rw [← hpl] at cM
    have hd : mapD idMap a0.data.toList = pl.data.toList := by rw [hpl]
    rw [hd] at hr hlen
    have hps := Base.size_eq pl
    have hl := letters_f pl ⟨#[95, 45, 46, 35]⟩ (by omega) (pl.size + 3) (by omega)
    have e4 : (⟨#[95, 45, 46, 35]⟩ : ByteArray).data.toList = [95, 45, 46, 35] := rfl
    rw [e4] at hl
    have cL := fun (b : Bool) (hb : lettersB (okL [95, 45, 46, 35]) pl.data.toList = b) W => route_letters.calls (pl.size + 3) pl ⟨#[95, 45, 46, 35]⟩ b W (by rw [hl, hb])
    clear hpl hd hlen hl e4 hsz hps
    cases hB : lettersB (okL [95, 45, 46, 35]) pl.data.toList
    · rw [hB] at hr
      have CL := Aside0.mk (cL false hB)
      have CM := Aside0.mk cM
      clear cL cM hB
      obtain rfl : false = r := by simpa using hr
      clear hr
      go_enter Tryd.func25, Tryd.ntmps25
      go_wp2_with (first | (go_at_call 35; refine CM.out.mono ?_; rintro e W1 ⟨rfl, hb1⟩) | (go_at_call 29; refine (CL.out _).mono ?_; rintro e W2 ⟨rfl, ⟨n, rfl⟩⟩))
      go_ret
      exact ⟨rfl, pw_below_drewN hb1 _⟩
    · rw [hB, Bool.true_and] at hr
      have CL := Aside0.mk (cL true hB)
      have CM := Aside0.mk cM
      clear cL cM hB
      by_cases h64 : a0.size ≤ 64
      · obtain rfl : true = r := by rw [← hr]; simp [h64]
        clear hr
        go_enter Tryd.func25, Tryd.ntmps25
        go_wp2_with (first | (go_at_call 35; refine CM.out.mono ?_; rintro e W1 ⟨rfl, hb1⟩) | (go_at_call 29; refine (CL.out _).mono ?_; rintro e W2 ⟨rfl, ⟨n, rfl⟩⟩))
        go_ret
        exact ⟨by show Ending.returned (Value.bool (decide ((a0.size : Int) ≤ 64))) = _; rw [decide_eq_true (by omega)], pw_below_drewN hb1 _⟩
      · obtain rfl : false = r := by rw [← hr]; simp [h64]
        clear hr
        go_enter Tryd.func25, Tryd.ntmps25
        go_wp2_with (first | (go_at_call 35; refine CM.out.mono ?_; rintro e W1 ⟨rfl, hb1⟩) | (go_at_call 29; refine (CL.out _).mono ?_; rintro e W2 ⟨rfl, ⟨n, rfl⟩⟩))
        go_ret
        exact ⟨by show Ending.returned (Value.bool (decide ((a0.size : Int) ≤ 64))) = _; rw [decide_eq_false (by omega)], pw_below_drewN hb1 _⟩
  · rw [if_neg hs] at h; cases h
end Go.Proofs.YthoknobkkpefkaaDoor.PAll
