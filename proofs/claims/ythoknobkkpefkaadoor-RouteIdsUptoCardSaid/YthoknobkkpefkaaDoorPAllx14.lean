-- Laid by a program of this session (wip/pp in the repo) out of the translation. Lean checks it.
import Derived.Test.YthoknobkkpefkaaDoorPAllx0
import Derived.Test.YthoknobkkpefkaaDoorPAllx1
import Derived.Test.YthoknobkkpefkaaDoorPAllx4
import Derived.Test.YthoknobkkpefkaaDoorPAllx9
namespace Go.Proofs.YthoknobkkpefkaaDoor.PAll
open Go.RowKit Go.Proofs.YthoknobkkpefkaaDoorW.PrintWords Go.Proofs.YthoknobkkpefkaaDoorW.PrintLast Go.Proofs.YthoknobkkpefkaaDoorW.PrintMore
attribute [local go_sem] max2_int min2_int max_two min_two max_three min_three max_four min_four   -- for this text's walks alone
set_option linter.unusedVariables false
set_option linter.unusedSimpArgs false

attribute [local go_sem high] eqA24
/-! ### pennantlaw16_RouteIds: function 7 -/
mutual
def pennantlaw16_RouteIds.j0 : Nat → ByteArray → Int → Bool → Int → ByteArray → ByteArray → Int → ByteArray → Option (Bool)
  | 0, _, _, _, _, _, _, _, _ => none
  | k + 1, x0, x4, x5, x372000, x372001, x372002, x372003, x372004 => pennantlaw16_RouteIds.l0 k x0 x4 x5 (x0.size : Int) 0 x372000 x372001 x372002 x372003 x372004
def pennantlaw16_RouteIds.l0 : Nat → ByteArray → Int → Bool → Int → Int → Int → ByteArray → ByteArray → Int → ByteArray → Option (Bool)
  | 0, _, _, _, _, _, _, _, _, _, _ => none
  | k + 1, x0, x4, x5, x25, x26, x372000, x372001, x372002, x372003, x372004 => if x26 < x25 then (if 0 ≤ x26 then (if x26 < (x0.size : Int) then (if x5 = true then (if (bt x0 x26) ≥ 97 then (if (bt x0 x26) ≤ 122 then (pennantlaw16_RouteIds.l0 k x0 x4 true x25 (wrap64 (x26 + 1)) x372000 x372001 x372002 x372003 x372004) else (if (bt x0 x26) ≥ 65 then (if (bt x0 x26) ≤ 90 then (pennantlaw16_RouteIds.l0 k x0 x4 true x25 (wrap64 (x26 + 1)) x372000 x372001 x372002 x372003 x372004) else (if (bt x0 x26) ≥ 48 then (if (bt x0 x26) ≤ 57 then (pennantlaw16_RouteIds.l0 k x0 x4 true x25 (wrap64 (x26 + 1)) x372000 x372001 x372002 x372003 x372004) else (if (bt x0 x26) = 95 then (pennantlaw16_RouteIds.l0 k x0 x4 true x25 (wrap64 (x26 + 1)) x372000 x372001 x372002 x372003 x372004) else (if (bt x0 x26) = 45 then (pennantlaw16_RouteIds.l0 k x0 x4 true x25 (wrap64 (x26 + 1)) x372000 x372001 x372002 x372003 x372004) else (if (bt x0 x26) = 46 then (pennantlaw16_RouteIds.l0 k x0 x4 true x25 (wrap64 (x26 + 1)) x372000 x372001 x372002 x372003 x372004) else (if (bt x0 x26) = 35 then (pennantlaw16_RouteIds.l0 k x0 x4 true x25 (wrap64 (x26 + 1)) x372000 x372001 x372002 x372003 x372004) else (pennantlaw16_RouteIds.l0 k x0 x4 (decide ((bt x0 x26) > 127)) x25 (wrap64 (x26 + 1)) x372000 x372001 x372002 x372003 x372004)))))) else (if (bt x0 x26) = 95 then (pennantlaw16_RouteIds.l0 k x0 x4 true x25 (wrap64 (x26 + 1)) x372000 x372001 x372002 x372003 x372004) else (if (bt x0 x26) = 45 then (pennantlaw16_RouteIds.l0 k x0 x4 true x25 (wrap64 (x26 + 1)) x372000 x372001 x372002 x372003 x372004) else (if (bt x0 x26) = 46 then (pennantlaw16_RouteIds.l0 k x0 x4 true x25 (wrap64 (x26 + 1)) x372000 x372001 x372002 x372003 x372004) else (if (bt x0 x26) = 35 then (pennantlaw16_RouteIds.l0 k x0 x4 true x25 (wrap64 (x26 + 1)) x372000 x372001 x372002 x372003 x372004) else (pennantlaw16_RouteIds.l0 k x0 x4 (decide ((bt x0 x26) > 127)) x25 (wrap64 (x26 + 1)) x372000 x372001 x372002 x372003 x372004))))))) else (if (bt x0 x26) ≥ 48 then (if (bt x0 x26) ≤ 57 then (pennantlaw16_RouteIds.l0 k x0 x4 true x25 (wrap64 (x26 + 1)) x372000 x372001 x372002 x372003 x372004) else (if (bt x0 x26) = 95 then (pennantlaw16_RouteIds.l0 k x0 x4 true x25 (wrap64 (x26 + 1)) x372000 x372001 x372002 x372003 x372004) else (if (bt x0 x26) = 45 then (pennantlaw16_RouteIds.l0 k x0 x4 true x25 (wrap64 (x26 + 1)) x372000 x372001 x372002 x372003 x372004) else (if (bt x0 x26) = 46 then (pennantlaw16_RouteIds.l0 k x0 x4 true x25 (wrap64 (x26 + 1)) x372000 x372001 x372002 x372003 x372004) else (if (bt x0 x26) = 35 then (pennantlaw16_RouteIds.l0 k x0 x4 true x25 (wrap64 (x26 + 1)) x372000 x372001 x372002 x372003 x372004) else (pennantlaw16_RouteIds.l0 k x0 x4 (decide ((bt x0 x26) > 127)) x25 (wrap64 (x26 + 1)) x372000 x372001 x372002 x372003 x372004)))))) else (if (bt x0 x26) = 95 then (pennantlaw16_RouteIds.l0 k x0 x4 true x25 (wrap64 (x26 + 1)) x372000 x372001 x372002 x372003 x372004) else (if (bt x0 x26) = 45 then (pennantlaw16_RouteIds.l0 k x0 x4 true x25 (wrap64 (x26 + 1)) x372000 x372001 x372002 x372003 x372004) else (if (bt x0 x26) = 46 then (pennantlaw16_RouteIds.l0 k x0 x4 true x25 (wrap64 (x26 + 1)) x372000 x372001 x372002 x372003 x372004) else (if (bt x0 x26) = 35 then (pennantlaw16_RouteIds.l0 k x0 x4 true x25 (wrap64 (x26 + 1)) x372000 x372001 x372002 x372003 x372004) else (pennantlaw16_RouteIds.l0 k x0 x4 (decide ((bt x0 x26) > 127)) x25 (wrap64 (x26 + 1)) x372000 x372001 x372002 x372003 x372004)))))))) else (if (bt x0 x26) ≥ 65 then (if (bt x0 x26) ≤ 90 then (pennantlaw16_RouteIds.l0 k x0 x4 true x25 (wrap64 (x26 + 1)) x372000 x372001 x372002 x372003 x372004) else (if (bt x0 x26) ≥ 48 then (if (bt x0 x26) ≤ 57 then (pennantlaw16_RouteIds.l0 k x0 x4 true x25 (wrap64 (x26 + 1)) x372000 x372001 x372002 x372003 x372004) else (if (bt x0 x26) = 95 then (pennantlaw16_RouteIds.l0 k x0 x4 true x25 (wrap64 (x26 + 1)) x372000 x372001 x372002 x372003 x372004) else (if (bt x0 x26) = 45 then (pennantlaw16_RouteIds.l0 k x0 x4 true x25 (wrap64 (x26 + 1)) x372000 x372001 x372002 x372003 x372004) else (if (bt x0 x26) = 46 then (pennantlaw16_RouteIds.l0 k x0 x4 true x25 (wrap64 (x26 + 1)) x372000 x372001 x372002 x372003 x372004) else (if (bt x0 x26) = 35 then (pennantlaw16_RouteIds.l0 k x0 x4 true x25 (wrap64 (x26 + 1)) x372000 x372001 x372002 x372003 x372004) else (pennantlaw16_RouteIds.l0 k x0 x4 (decide ((bt x0 x26) > 127)) x25 (wrap64 (x26 + 1)) x372000 x372001 x372002 x372003 x372004)))))) else (if (bt x0 x26) = 95 then (pennantlaw16_RouteIds.l0 k x0 x4 true x25 (wrap64 (x26 + 1)) x372000 x372001 x372002 x372003 x372004) else (if (bt x0 x26) = 45 then (pennantlaw16_RouteIds.l0 k x0 x4 true x25 (wrap64 (x26 + 1)) x372000 x372001 x372002 x372003 x372004) else (if (bt x0 x26) = 46 then (pennantlaw16_RouteIds.l0 k x0 x4 true x25 (wrap64 (x26 + 1)) x372000 x372001 x372002 x372003 x372004) else (if (bt x0 x26) = 35 then (pennantlaw16_RouteIds.l0 k x0 x4 true x25 (wrap64 (x26 + 1)) x372000 x372001 x372002 x372003 x372004) else (pennantlaw16_RouteIds.l0 k x0 x4 (decide ((bt x0 x26) > 127)) x25 (wrap64 (x26 + 1)) x372000 x372001 x372002 x372003 x372004))))))) else (if (bt x0 x26) ≥ 48 then (if (bt x0 x26) ≤ 57 then (pennantlaw16_RouteIds.l0 k x0 x4 true x25 (wrap64 (x26 + 1)) x372000 x372001 x372002 x372003 x372004) else (if (bt x0 x26) = 95 then (pennantlaw16_RouteIds.l0 k x0 x4 true x25 (wrap64 (x26 + 1)) x372000 x372001 x372002 x372003 x372004) else (if (bt x0 x26) = 45 then (pennantlaw16_RouteIds.l0 k x0 x4 true x25 (wrap64 (x26 + 1)) x372000 x372001 x372002 x372003 x372004) else (if (bt x0 x26) = 46 then (pennantlaw16_RouteIds.l0 k x0 x4 true x25 (wrap64 (x26 + 1)) x372000 x372001 x372002 x372003 x372004) else (if (bt x0 x26) = 35 then (pennantlaw16_RouteIds.l0 k x0 x4 true x25 (wrap64 (x26 + 1)) x372000 x372001 x372002 x372003 x372004) else (pennantlaw16_RouteIds.l0 k x0 x4 (decide ((bt x0 x26) > 127)) x25 (wrap64 (x26 + 1)) x372000 x372001 x372002 x372003 x372004)))))) else (if (bt x0 x26) = 95 then (pennantlaw16_RouteIds.l0 k x0 x4 true x25 (wrap64 (x26 + 1)) x372000 x372001 x372002 x372003 x372004) else (if (bt x0 x26) = 45 then (pennantlaw16_RouteIds.l0 k x0 x4 true x25 (wrap64 (x26 + 1)) x372000 x372001 x372002 x372003 x372004) else (if (bt x0 x26) = 46 then (pennantlaw16_RouteIds.l0 k x0 x4 true x25 (wrap64 (x26 + 1)) x372000 x372001 x372002 x372003 x372004) else (if (bt x0 x26) = 35 then (pennantlaw16_RouteIds.l0 k x0 x4 true x25 (wrap64 (x26 + 1)) x372000 x372001 x372002 x372003 x372004) else (pennantlaw16_RouteIds.l0 k x0 x4 (decide ((bt x0 x26) > 127)) x25 (wrap64 (x26 + 1)) x372000 x372001 x372002 x372003 x372004)))))))) else (pennantlaw16_RouteIds.l0 k x0 x4 false x25 (wrap64 (x26 + 1)) x372000 x372001 x372002 x372003 x372004)) else (none)) else (none)) else (if x5 = true then (if x4 = 0 then (some (x372000 == 4 && (x372001.toList == x0.toList && (x372002.toList == ([] : List UInt8) && (x372003 == 0 && (x372004.toList == ([] : List UInt8))))))) else (some false)) else (if x4 = 0 then (if x372000 = 5 then (if 6 + x0.size ≤ 9223372036854775807 then (some (x372001.toList == ((⟨#[115, 99, 120, 109, 108, 95]⟩ : ByteArray) ++ x0).toList)) else (none)) else (some false)) else (some true)))
end
def pennantlaw16_RouteIds.f (k : Nat) (a0 : ByteArray) : Option (Bool) := (pennantlaw16_awake.f k).bind fun t363 => (if t363 = true then ((route_Session.f a0).bind fun t364 => ((route_Find.f k t364 (⟨#[115, 99, 120, 109, 108]⟩ : ByteArray)).bind fun bt365 => (if (a0.size : Int) > 0 then (pennantlaw16_RouteIds.j0 k a0 bt365.2.2.2.2.2 (decide ((a0.size : Int) ≤ 64)) bt365.1 bt365.2.1 bt365.2.2.1 bt365.2.2.2.1 bt365.2.2.2.2.1) else (pennantlaw16_RouteIds.j0 k a0 bt365.2.2.2.2.2 false bt365.1 bt365.2.1 bt365.2.2.1 bt365.2.2.2.1 bt365.2.2.2.2.1)))) else (some false))
theorem pennantlaw16_RouteIds.mono_l : ∀ k, (∀ y0 y1 y2 y3 y4 y5 y6 y7, LeO (pennantlaw16_RouteIds.j0 k y0 y1 y2 y3 y4 y5 y6 y7) (pennantlaw16_RouteIds.j0 (k + 1) y0 y1 y2 y3 y4 y5 y6 y7)) ∧ (∀ y0 y1 y2 y3 y4 y5 y6 y7 y8 y9, LeO (pennantlaw16_RouteIds.l0 k y0 y1 y2 y3 y4 y5 y6 y7 y8 y9) (pennantlaw16_RouteIds.l0 (k + 1) y0 y1 y2 y3 y4 y5 y6 y7 y8 y9))
  | 0 => ⟨fun _ _ _ _ _ _ _ _ r h => by simp [pennantlaw16_RouteIds.j0] at h, fun _ _ _ _ _ _ _ _ _ _ r h => by simp [pennantlaw16_RouteIds.l0] at h⟩
  | k + 1 => by
    obtain ⟨ih0, ih1⟩ := pennantlaw16_RouteIds.mono_l k
    refine ⟨?_, ?_⟩
    · intro y0 y1 y2 y3 y4 y5 y6 y7
      unfold pennantlaw16_RouteIds.j0
      repeat' first
      | (with_reducible exact ih0 _ _ _ _ _ _ _ _)
      | (with_reducible exact ih1 _ _ _ _ _ _ _ _ _ _)
      | (with_reducible exact pennantlaw16_awake.mono _)
      | (with_reducible exact route_Find.mono _ _ _)
      | (with_reducible exact LeO.refl _)
      | (with_reducible exact LeO.none _)
      | (with_reducible refine LeO.ite ?_ ?_)
      | (with_reducible refine LeO.bind ?_ (fun _ => ?_))
      | exact ih0 _ _ _ _ _ _ _ _
      | exact ih1 _ _ _ _ _ _ _ _ _ _
      | exact pennantlaw16_awake.mono _
      | exact route_Find.mono _ _ _
      | exact LeO.none _
      | refine LeO.ite ?_ ?_
      | refine LeO.bind ?_ (fun _ => ?_)
    · intro y0 y1 y2 y3 y4 y5 y6 y7 y8 y9
      unfold pennantlaw16_RouteIds.l0
      repeat' first
      | (with_reducible exact ih0 _ _ _ _ _ _ _ _)
      | (with_reducible exact ih1 _ _ _ _ _ _ _ _ _ _)
      | (with_reducible exact pennantlaw16_awake.mono _)
      | (with_reducible exact route_Find.mono _ _ _)
      | (with_reducible exact LeO.refl _)
      | (with_reducible exact LeO.none _)
      | (with_reducible refine LeO.ite ?_ ?_)
      | (with_reducible refine LeO.bind ?_ (fun _ => ?_))
      | exact ih0 _ _ _ _ _ _ _ _
      | exact ih1 _ _ _ _ _ _ _ _ _ _
      | exact pennantlaw16_awake.mono _
      | exact route_Find.mono _ _ _
      | exact LeO.none _
      | refine LeO.ite ?_ ?_
      | refine LeO.bind ?_ (fun _ => ?_)
theorem pennantlaw16_RouteIds.mono : ∀ a0 k, LeO (pennantlaw16_RouteIds.f k a0) (pennantlaw16_RouteIds.f (k + 1) a0) := by
  intro a0 k
  obtain ⟨ih0, ih1⟩ := pennantlaw16_RouteIds.mono_l k
  unfold pennantlaw16_RouteIds.f
  repeat' first
      | (with_reducible exact ih0 _ _ _ _ _ _ _ _)
      | (with_reducible exact ih1 _ _ _ _ _ _ _ _ _ _)
      | (with_reducible exact pennantlaw16_awake.mono _)
      | (with_reducible exact route_Find.mono _ _ _)
      | (with_reducible exact LeO.refl _)
      | (with_reducible exact LeO.none _)
      | (with_reducible refine LeO.ite ?_ ?_)
      | (with_reducible refine LeO.bind ?_ (fun _ => ?_))
      | exact ih0 _ _ _ _ _ _ _ _
      | exact ih1 _ _ _ _ _ _ _ _ _ _
      | exact pennantlaw16_awake.mono _
      | exact route_Find.mono _ _ _
      | exact LeO.none _
      | refine LeO.ite ?_ ?_
      | refine LeO.bind ?_ (fun _ => ?_)
set_option maxHeartbeats 8000000 in
set_option maxRecDepth 100000 in
theorem pennantlaw16_RouteIds.calls (k : Nat) (a0 : ByteArray) (r : Bool) (w : World) (hT : Aside0 (TabsOk w)) (h : pennantlaw16_RouteIds.f k a0 = some r) (hr_ : r = true := by rfl) :
    Calls Tryd.prog 7 #[.string a0] w fun e w' => e = .returned (.bool r) ∧ Below w.heap.size w w' := by
  have hu24 := Tryd.underlying24
  have HR_ := Aside0.mk hr_
  clear hr_
  have HB := Aside0.mk (Below.refl w.heap.size w)
  have H : ((pennantlaw16_awake.f k).bind fun t363 => (if t363 = true then ((route_Session.f a0).bind fun t364 => ((route_Find.f k t364 (⟨#[115, 99, 120, 109, 108]⟩ : ByteArray)).bind fun bt365 => (if (a0.size : Int) > 0 then (pennantlaw16_RouteIds.j0 k a0 bt365.2.2.2.2.2 (decide ((a0.size : Int) ≤ 64)) bt365.1 bt365.2.1 bt365.2.2.1 bt365.2.2.2.1 bt365.2.2.2.2.1) else (pennantlaw16_RouteIds.j0 k a0 bt365.2.2.2.2.2 false bt365.1 bt365.2.1 bt365.2.2.1 bt365.2.2.2.1 bt365.2.2.2.2.1)))) else (some false))) = some r := h
  clear h
  replace H := Option.bind_eq_some_iff.mp H
  obtain ⟨t363, A20, H⟩ := H
  replace H : (if t363 = true then ((route_Session.f a0).bind fun t364 => ((route_Find.f k t364 (⟨#[115, 99, 120, 109, 108]⟩ : ByteArray)).bind fun bt365 => (if (a0.size : Int) > 0 then (pennantlaw16_RouteIds.j0 k a0 bt365.2.2.2.2.2 (decide ((a0.size : Int) ≤ 64)) bt365.1 bt365.2.1 bt365.2.2.1 bt365.2.2.2.1 bt365.2.2.2.2.1) else (pennantlaw16_RouteIds.j0 k a0 bt365.2.2.2.2.2 false bt365.1 bt365.2.1 bt365.2.2.1 bt365.2.2.2.1 bt365.2.2.2.2.1)))) else (some false)) = some r := H
  have A2 := Aside0.mk A20
  clear A20
  by_cases c3 : t363 = true
  · subst c3
    have H1 : ((route_Session.f a0).bind fun t364 => ((route_Find.f k t364 (⟨#[115, 99, 120, 109, 108]⟩ : ByteArray)).bind fun bt365 => (if (a0.size : Int) > 0 then (pennantlaw16_RouteIds.j0 k a0 bt365.2.2.2.2.2 (decide ((a0.size : Int) ≤ 64)) bt365.1 bt365.2.1 bt365.2.2.1 bt365.2.2.2.1 bt365.2.2.2.2.1) else (pennantlaw16_RouteIds.j0 k a0 bt365.2.2.2.2.2 false bt365.1 bt365.2.1 bt365.2.2.1 bt365.2.2.2.1 bt365.2.2.2.2.1)))) = some r := by rw [if_pos rfl] at H; exact H
    clear H
    have H := H1
    clear H1
    replace H := Option.bind_eq_some_iff.mp H
    obtain ⟨t364, A40, H⟩ := H
    replace H : ((route_Find.f k t364 (⟨#[115, 99, 120, 109, 108]⟩ : ByteArray)).bind fun bt365 => (if (a0.size : Int) > 0 then (pennantlaw16_RouteIds.j0 k a0 bt365.2.2.2.2.2 (decide ((a0.size : Int) ≤ 64)) bt365.1 bt365.2.1 bt365.2.2.1 bt365.2.2.2.1 bt365.2.2.2.2.1) else (pennantlaw16_RouteIds.j0 k a0 bt365.2.2.2.2.2 false bt365.1 bt365.2.1 bt365.2.2.1 bt365.2.2.2.1 bt365.2.2.2.2.1))) = some r := H
    have A4 := Aside0.mk A40
    clear A40
    replace H := Option.bind_eq_some_iff.mp H
    obtain ⟨⟨t365, t366, t367, t368, t369, t370⟩, A50, H⟩ := H
    replace H : (if (a0.size : Int) > 0 then (pennantlaw16_RouteIds.j0 k a0 t370 (decide ((a0.size : Int) ≤ 64)) t365 t366 t367 t368 t369) else (pennantlaw16_RouteIds.j0 k a0 t370 false t365 t366 t367 t368 t369)) = some r := H
    have A5 := Aside0.mk A50
    clear A50
    have HC6 := Aside0.mk H
    clear H
    go_enter Tryd.func7, Tryd.ntmps7
    go_upto_region 4 with (first | ((with_reducible refine gate_callee (f := 8) rfl ?_); refine goesL_ (some 8) rfl rfl Tryd.func8 (by kernel_rfl) rfl #[] rfl (by (try simp only [List.map_toArray, List.map_cons, List.map_nil]); first | done | rfl | (simp only [List.length_drop, List.length_take]; rfl)) ?_; (with_reducible refine (pennantlaw16_awake.calls k  true _ ?side1 A2.out).mono ?_); (case side1 => exact ⟨TabsOk.below hT.out (by repeat (first | (with_reducible first | exact HB.out | apply below_alloc | apply pw_below_drewN | apply below_drew1) | exact HB.out))⟩); rintro e w7 ⟨rfl, hb⟩; refine ⟨_, rfl, ?_⟩; have n0_ := Aside0.mk (below_step (by repeat (first | (with_reducible first | exact HB.out | apply below_alloc | apply pw_below_drewN | apply below_drew1) | exact HB.out)) hb); clear HB; have HB := n0_; clear n0_; (try clear hb); (try clear hb2); (try clear hk); (try clear hi)) | ((with_reducible refine gate_callee (f := 13) rfl ?_); refine goesL_ (some 12) rfl rfl Tryd.func13 (by kernel_rfl) rfl #[.string a0] rfl (by (try simp only [List.map_toArray, List.map_cons, List.map_nil]); first | done | rfl | (simp only [List.length_drop, List.length_take]; rfl)) ?_; (with_reducible refine (route_Session.calls a0 t364 _ A4.out).mono ?_); rintro e w' ⟨rfl, ⟨nd, rfl⟩⟩; refine ⟨_, rfl, ?_⟩; (try (rw [drewN_self w7]; generalize hq_ : World.drewN w7 _ = w7; have n0_ : Aside0 (Below w.heap.size w w7) := ⟨by rw [← hq_]; exact (by repeat (first | (with_reducible first | exact HB.out | apply below_alloc | apply pw_below_drewN | apply below_drew1) | exact HB.out))⟩; clear HB hq_; have HB := n0_; clear n0_))) | ((with_reducible refine gate_callee (f := 9) rfl ?_); refine goesL_ (some 13) rfl rfl Tryd.func9 (by kernel_rfl) rfl #[.string t364, .string (⟨#[115, 99, 120, 109, 108]⟩ : ByteArray)] rfl (by (try simp only [List.map_toArray, List.map_cons, List.map_nil]); first | done | rfl | (simp only [List.length_drop, List.length_take]; rfl)) ?_; (with_reducible refine (route_Find.calls k t364 (⟨#[115, 99, 120, 109, 108]⟩ : ByteArray) t365 t366 t367 t368 t369 t370 _ ?side1 A5.out).mono ?_); (case side1 => exact ⟨TabsOk.below hT.out (by repeat (first | (with_reducible first | exact HB.out | apply below_alloc | apply pw_below_drewN | apply below_drew1) | exact HB.out))⟩); rintro e w8 ⟨rfl, hb⟩; refine ⟨_, rfl, ?_⟩; have n0_ := Aside0.mk (below_step (by repeat (first | (with_reducible first | exact HB.out | apply below_alloc | apply pw_below_drewN | apply below_drew1) | exact HB.out)) hb); clear HB; have HB := n0_; clear n0_; (try clear hb); (try clear hb2); (try clear hk); (try clear hi)) | ((with_reducible refine gate_dst (N := 3) rfl ?_); (try (refine gate_guard (by rfl) ?_; dsimp only)); refine box_event ?hg (N := 3) ?hd (cs := #[.int .i64 0, .string (⟨#[]⟩ : ByteArray), .string (⟨#[]⟩ : ByteArray), .int .i64 0, .string (⟨#[]⟩ : ByteArray)]) (t := 24) ?hr ?_; (case hd => rfl); (case hg => rfl); (case hr => first | (go_simp; done) | (go_simp; rfl)); intro gb371 hg w9 hbox hb; have n0_ := Aside0.mk (below_step (by repeat (first | (with_reducible first | exact HB.out | apply below_alloc | apply pw_below_drewN | apply below_drew1) | exact HB.out)) hb); have n1_ := Aside0.mk (hbox); have n2_ := Aside0.mk ((by rw [hg]; exact (below_size (by repeat (first | (with_reducible first | exact HB.out | apply below_alloc | apply pw_below_drewN | apply below_drew1) | exact HB.out))) : w.heap.size ≤ gb371)); have n3_ := Aside0.mk ((by rw [hg]; exact (below_size (by repeat (first | (with_reducible first | exact HB.out | apply below_alloc | apply pw_below_drewN | apply below_drew1) | exact HB.out))) : w.heap.size ≤ gb371)); clear HB; have HB := n0_; have BK371 := n1_; have GW371 := n2_; have GE371 := n3_; clear n0_ n1_ n2_ n3_; clear hb hbox hg; have hcz10_0 : w9.cell? ⟨gb371, 0, none⟩ = some (.int .i64 0) := (blk_cell BK371.out 0).trans rfl; have hcz10_1 : w9.cell? ⟨gb371, 1, none⟩ = some (.string (⟨#[]⟩ : ByteArray)) := (blk_cell BK371.out 1).trans rfl; have hcz10_2 : w9.cell? ⟨gb371, 2, none⟩ = some (.string (⟨#[]⟩ : ByteArray)) := (blk_cell BK371.out 2).trans rfl; have hcz10_3 : w9.cell? ⟨gb371, 3, none⟩ = some (.int .i64 0) := (blk_cell BK371.out 3).trans rfl; have hcz10_4 : w9.cell? ⟨gb371, 4, none⟩ = some (.string (⟨#[]⟩ : ByteArray)) := (blk_cell BK371.out 4).trans rfl; have hfz10_0 := blk_frozen BK371.out 0; have hfz10_1 := blk_frozen BK371.out 1; have hfz10_2 := blk_frozen BK371.out 2; have hfz10_3 := blk_frozen BK371.out 3; have hfz10_4 := blk_frozen BK371.out 4))
    (try simp only [Act.put, List.setIfInBounds_toArray, List.set_cons_zero, List.set_cons_succ])
    go_cut [5] (fun v5 wc => ∃ (kq : Nat) (x5_5 : Bool), v5 = .bool x5_5 ∧ Aside0 (pennantlaw16_RouteIds.j0 kq a0 t370 x5_5 t365 t366 t367 t368 t369 = some r) ∧ Aside0 (kq ≤ k) ∧ Aside0 (wc.heap[gb371]? = some (.cells #[.int .i64 t365, .string t366, .string t367, .int .i64 t368, .string t369] 24 (0, 0))) ∧ Aside0 (Below w.heap.size w wc))
    case first =>
      have H := HC6.out
      clear HC6
      by_cases c11 : (a0.size : Int) > 0
      · rw [if_pos c11] at H
        have c11b0 : decide (0 < (a0.size : Int)) = true := decide_eq_true c11
        have c11b1 : decide (0 < a0.size) = true := decide_eq_true (by omega)
        clear c11
        (first | rw [c11b0] | (simp only [i64_w, i32_w]; rw [c11b0]) | skip)
        have H' := Aside0.mk H
        clear H
        go_wp2
        go_meet
        case rel => exact ⟨_, (decide ((a0.size : Int) ≤ 64)), (by first | rfl | (simp; done) | (simp [*]; done)), H', ⟨by first | omega | exact Nat.le_refl _⟩, ⟨by (with_reducible repeat (first | refine blk_drewN ?_ _ | refine blk_drew ?_ | refine blk_alloc ?_ _)); refine blk_put (cs := #[.int .i64 t365, .string t366, .string t367, .int .i64 t368, .string (⟨#[]⟩ : ByteArray)]) ?_ 4 _ rfl; (with_reducible repeat (first | refine blk_drewN ?_ _ | refine blk_drew ?_ | refine blk_alloc ?_ _)); refine blk_put (cs := #[.int .i64 t365, .string t366, .string t367, .int .i64 0, .string (⟨#[]⟩ : ByteArray)]) ?_ 3 _ rfl; (with_reducible repeat (first | refine blk_drewN ?_ _ | refine blk_drew ?_ | refine blk_alloc ?_ _)); refine blk_put (cs := #[.int .i64 t365, .string t366, .string (⟨#[]⟩ : ByteArray), .int .i64 0, .string (⟨#[]⟩ : ByteArray)]) ?_ 2 _ rfl; (with_reducible repeat (first | refine blk_drewN ?_ _ | refine blk_drew ?_ | refine blk_alloc ?_ _)); refine blk_put (cs := #[.int .i64 t365, .string (⟨#[]⟩ : ByteArray), .string (⟨#[]⟩ : ByteArray), .int .i64 0, .string (⟨#[]⟩ : ByteArray)]) ?_ 1 _ rfl; (with_reducible repeat (first | refine blk_drewN ?_ _ | refine blk_drew ?_ | refine blk_alloc ?_ _)); refine blk_put (cs := #[.int .i64 0, .string (⟨#[]⟩ : ByteArray), .string (⟨#[]⟩ : ByteArray), .int .i64 0, .string (⟨#[]⟩ : ByteArray)]) ?_ 0 _ rfl; (with_reducible repeat (first | refine blk_drewN ?_ _ | refine blk_drew ?_ | refine blk_alloc ?_ _)); exact BK371.out⟩, ⟨by repeat (first | (with_reducible first | exact HB.out | apply below_alloc | apply pw_below_drewN | apply below_drew1 | refine below_set ?_ GE371.out) | exact HB.out)⟩⟩
      · rw [if_neg c11] at H
        have c11b0 : decide (0 < (a0.size : Int)) = false := decide_eq_false c11
        have c11b1 : decide (0 < a0.size) = false := decide_eq_false (by omega)
        clear c11
        (first | rw [c11b0] | (simp only [i64_w, i32_w]; rw [c11b0]) | skip)
        have H' := Aside0.mk H
        clear H
        go_wp2
        go_meet
        case rel => exact ⟨_, (false), (by first | rfl | (simp; done) | (simp [*]; done)), H', ⟨by first | omega | exact Nat.le_refl _⟩, ⟨by (with_reducible repeat (first | refine blk_drewN ?_ _ | refine blk_drew ?_ | refine blk_alloc ?_ _)); refine blk_put (cs := #[.int .i64 t365, .string t366, .string t367, .int .i64 t368, .string (⟨#[]⟩ : ByteArray)]) ?_ 4 _ rfl; (with_reducible repeat (first | refine blk_drewN ?_ _ | refine blk_drew ?_ | refine blk_alloc ?_ _)); refine blk_put (cs := #[.int .i64 t365, .string t366, .string t367, .int .i64 0, .string (⟨#[]⟩ : ByteArray)]) ?_ 3 _ rfl; (with_reducible repeat (first | refine blk_drewN ?_ _ | refine blk_drew ?_ | refine blk_alloc ?_ _)); refine blk_put (cs := #[.int .i64 t365, .string t366, .string (⟨#[]⟩ : ByteArray), .int .i64 0, .string (⟨#[]⟩ : ByteArray)]) ?_ 2 _ rfl; (with_reducible repeat (first | refine blk_drewN ?_ _ | refine blk_drew ?_ | refine blk_alloc ?_ _)); refine blk_put (cs := #[.int .i64 t365, .string (⟨#[]⟩ : ByteArray), .string (⟨#[]⟩ : ByteArray), .int .i64 0, .string (⟨#[]⟩ : ByteArray)]) ?_ 1 _ rfl; (with_reducible repeat (first | refine blk_drewN ?_ _ | refine blk_drew ?_ | refine blk_alloc ?_ _)); refine blk_put (cs := #[.int .i64 0, .string (⟨#[]⟩ : ByteArray), .string (⟨#[]⟩ : ByteArray), .int .i64 0, .string (⟨#[]⟩ : ByteArray)]) ?_ 0 _ rfl; (with_reducible repeat (first | refine blk_drewN ?_ _ | refine blk_drew ?_ | refine blk_alloc ?_ _)); exact BK371.out⟩, ⟨by repeat (first | (with_reducible first | exact HB.out | apply below_alloc | apply pw_below_drewN | apply below_drew1 | refine below_set ?_ GE371.out) | exact HB.out)⟩⟩
    case rest =>
      clear HC6
      try clear c1
      try clear p2
      try clear c3
      try clear c7
      try clear c8
      try clear c9
      try clear c11
      try clear c11b0
      try clear c11b1
      try clear hcz10_0
      try clear hcz10_1
      try clear hcz10_2
      try clear hcz10_3
      try clear hcz10_4
      try clear hfz10_0
      try clear hfz10_1
      try clear hfz10_2
      try clear hfz10_3
      try clear hfz10_4
      obtain ⟨kq, x5_5, rfl, HA, HJ5, BK371, HB⟩ := hcut
      cases kq with
      | zero => exact absurd HA.out (by simp [pennantlaw16_RouteIds.j0])
      | succ kj5 =>
        have H := HA.out
        clear HA
        simp only [pennantlaw16_RouteIds.j0] at H
        have H' := Aside0.mk H
        clear H
        go_wp2
        go_loopg [5, 26] kj5 (fun kq v5 v26 w' => ∃ (x5_2 : Bool) (x26_2 : Int), v5 = .bool x5_2 ∧ v26 = .int .i64 x26_2 ∧ Aside0 (pennantlaw16_RouteIds.l0 kq a0 t370 x5_2 (a0.size : Int) x26_2 t365 t366 t367 t368 t369 = some r) ∧ Aside0 (kq ≤ kj5) ∧ Aside0 (w'.heap[gb371]? = some (.cells #[.int .i64 t365, .string t366, .string t367, .int .i64 t368, .string t369] 24 (0, 0))) ∧ Aside0 (Below w.heap.size w w'))
        case atStart => exact ⟨(x5_5), (0), (by first | rfl | (simp; done) | (simp [*]; done)), (by first | rfl | (simp; done) | (simp [*]; done)), H', ⟨Nat.le_refl _⟩, ⟨by (with_reducible repeat (first | refine blk_drewN ?_ _ | refine blk_drew ?_ | refine blk_alloc ?_ _)); exact BK371.out⟩, ⟨by repeat (first | (with_reducible first | exact HB.out | apply below_alloc | apply pw_below_drewN | apply below_drew1 | refine below_set ?_ GE371.out) | exact HB.out)⟩⟩
        case round =>
          clear H'
          try clear c1
          try clear p2
          try clear c3
          try clear c7
          try clear c8
          try clear c9
          try clear c11
          try clear c11b0
          try clear c11b1
          try clear hcz10_0
          try clear hcz10_1
          try clear hcz10_2
          try clear hcz10_3
          try clear hcz10_4
          try clear hfz10_0
          try clear hfz10_1
          try clear hfz10_2
          try clear hfz10_3
          try clear hfz10_4
          try clear p2
          obtain ⟨x5_2, x26_2, rfl, rfl, HA, HK2, BK371, HB⟩ := hrel
          cases gk with
          | zero => exact absurd HA.out (by simp [pennantlaw16_RouteIds.l0])
          | succ k2 =>
            have H := HA.out
            clear HA
            simp only [pennantlaw16_RouteIds.l0] at H
            by_cases c12 : x26_2 < (a0.size : Int)
            · rw [if_pos c12] at H
              have c12b0 : decide (x26_2 < (a0.size : Int)) = true := decide_eq_true c12
              clear c12
              by_cases c13 : 0 ≤ x26_2
              · rw [if_pos c13] at H
                have c13b0 : decide (0 ≤ x26_2) = true := decide_eq_true c13
                clear c13
                by_cases c14 : x26_2 < (a0.size : Int)
                · rw [if_pos c14] at H
                  have c14b0 : decide (x26_2 < (a0.size : Int)) = true := decide_eq_true c14
                  clear c14
                  by_cases c16 : x5_2 = true
                  · subst c16
                    have H1 : (if (bt a0 x26_2) ≥ 97 then (if (bt a0 x26_2) ≤ 122 then (pennantlaw16_RouteIds.l0 k2 a0 t370 true (a0.size : Int) (wrap64 (x26_2 + 1)) t365 t366 t367 t368 t369) else (if (bt a0 x26_2) ≥ 65 then (if (bt a0 x26_2) ≤ 90 then (pennantlaw16_RouteIds.l0 k2 a0 t370 true (a0.size : Int) (wrap64 (x26_2 + 1)) t365 t366 t367 t368 t369) else (if (bt a0 x26_2) ≥ 48 then (if (bt a0 x26_2) ≤ 57 then (pennantlaw16_RouteIds.l0 k2 a0 t370 true (a0.size : Int) (wrap64 (x26_2 + 1)) t365 t366 t367 t368 t369) else (if (bt a0 x26_2) = 95 then (pennantlaw16_RouteIds.l0 k2 a0 t370 true (a0.size : Int) (wrap64 (x26_2 + 1)) t365 t366 t367 t368 t369) else (if (bt a0 x26_2) = 45 then (pennantlaw16_RouteIds.l0 k2 a0 t370 true (a0.size : Int) (wrap64 (x26_2 + 1)) t365 t366 t367 t368 t369) else (if (bt a0 x26_2) = 46 then (pennantlaw16_RouteIds.l0 k2 a0 t370 true (a0.size : Int) (wrap64 (x26_2 + 1)) t365 t366 t367 t368 t369) else (if (bt a0 x26_2) = 35 then (pennantlaw16_RouteIds.l0 k2 a0 t370 true (a0.size : Int) (wrap64 (x26_2 + 1)) t365 t366 t367 t368 t369) else (pennantlaw16_RouteIds.l0 k2 a0 t370 (decide ((bt a0 x26_2) > 127)) (a0.size : Int) (wrap64 (x26_2 + 1)) t365 t366 t367 t368 t369)))))) else (if (bt a0 x26_2) = 95 then (pennantlaw16_RouteIds.l0 k2 a0 t370 true (a0.size : Int) (wrap64 (x26_2 + 1)) t365 t366 t367 t368 t369) else (if (bt a0 x26_2) = 45 then (pennantlaw16_RouteIds.l0 k2 a0 t370 true (a0.size : Int) (wrap64 (x26_2 + 1)) t365 t366 t367 t368 t369) else (if (bt a0 x26_2) = 46 then (pennantlaw16_RouteIds.l0 k2 a0 t370 true (a0.size : Int) (wrap64 (x26_2 + 1)) t365 t366 t367 t368 t369) else (if (bt a0 x26_2) = 35 then (pennantlaw16_RouteIds.l0 k2 a0 t370 true (a0.size : Int) (wrap64 (x26_2 + 1)) t365 t366 t367 t368 t369) else (pennantlaw16_RouteIds.l0 k2 a0 t370 (decide ((bt a0 x26_2) > 127)) (a0.size : Int) (wrap64 (x26_2 + 1)) t365 t366 t367 t368 t369))))))) else (if (bt a0 x26_2) ≥ 48 then (if (bt a0 x26_2) ≤ 57 then (pennantlaw16_RouteIds.l0 k2 a0 t370 true (a0.size : Int) (wrap64 (x26_2 + 1)) t365 t366 t367 t368 t369) else (if (bt a0 x26_2) = 95 then (pennantlaw16_RouteIds.l0 k2 a0 t370 true (a0.size : Int) (wrap64 (x26_2 + 1)) t365 t366 t367 t368 t369) else (if (bt a0 x26_2) = 45 then (pennantlaw16_RouteIds.l0 k2 a0 t370 true (a0.size : Int) (wrap64 (x26_2 + 1)) t365 t366 t367 t368 t369) else (if (bt a0 x26_2) = 46 then (pennantlaw16_RouteIds.l0 k2 a0 t370 true (a0.size : Int) (wrap64 (x26_2 + 1)) t365 t366 t367 t368 t369) else (if (bt a0 x26_2) = 35 then (pennantlaw16_RouteIds.l0 k2 a0 t370 true (a0.size : Int) (wrap64 (x26_2 + 1)) t365 t366 t367 t368 t369) else (pennantlaw16_RouteIds.l0 k2 a0 t370 (decide ((bt a0 x26_2) > 127)) (a0.size : Int) (wrap64 (x26_2 + 1)) t365 t366 t367 t368 t369)))))) else (if (bt a0 x26_2) = 95 then (pennantlaw16_RouteIds.l0 k2 a0 t370 true (a0.size : Int) (wrap64 (x26_2 + 1)) t365 t366 t367 t368 t369) else (if (bt a0 x26_2) = 45 then (pennantlaw16_RouteIds.l0 k2 a0 t370 true (a0.size : Int) (wrap64 (x26_2 + 1)) t365 t366 t367 t368 t369) else (if (bt a0 x26_2) = 46 then (pennantlaw16_RouteIds.l0 k2 a0 t370 true (a0.size : Int) (wrap64 (x26_2 + 1)) t365 t366 t367 t368 t369) else (if (bt a0 x26_2) = 35 then (pennantlaw16_RouteIds.l0 k2 a0 t370 true (a0.size : Int) (wrap64 (x26_2 + 1)) t365 t366 t367 t368 t369) else (pennantlaw16_RouteIds.l0 k2 a0 t370 (decide ((bt a0 x26_2) > 127)) (a0.size : Int) (wrap64 (x26_2 + 1)) t365 t366 t367 t368 t369)))))))) else (if (bt a0 x26_2) ≥ 65 then (if (bt a0 x26_2) ≤ 90 then (pennantlaw16_RouteIds.l0 k2 a0 t370 true (a0.size : Int) (wrap64 (x26_2 + 1)) t365 t366 t367 t368 t369) else (if (bt a0 x26_2) ≥ 48 then (if (bt a0 x26_2) ≤ 57 then (pennantlaw16_RouteIds.l0 k2 a0 t370 true (a0.size : Int) (wrap64 (x26_2 + 1)) t365 t366 t367 t368 t369) else (if (bt a0 x26_2) = 95 then (pennantlaw16_RouteIds.l0 k2 a0 t370 true (a0.size : Int) (wrap64 (x26_2 + 1)) t365 t366 t367 t368 t369) else (if (bt a0 x26_2) = 45 then (pennantlaw16_RouteIds.l0 k2 a0 t370 true (a0.size : Int) (wrap64 (x26_2 + 1)) t365 t366 t367 t368 t369) else (if (bt a0 x26_2) = 46 then (pennantlaw16_RouteIds.l0 k2 a0 t370 true (a0.size : Int) (wrap64 (x26_2 + 1)) t365 t366 t367 t368 t369) else (if (bt a0 x26_2) = 35 then (pennantlaw16_RouteIds.l0 k2 a0 t370 true (a0.size : Int) (wrap64 (x26_2 + 1)) t365 t366 t367 t368 t369) else (pennantlaw16_RouteIds.l0 k2 a0 t370 (decide ((bt a0 x26_2) > 127)) (a0.size : Int) (wrap64 (x26_2 + 1)) t365 t366 t367 t368 t369)))))) else (if (bt a0 x26_2) = 95 then (pennantlaw16_RouteIds.l0 k2 a0 t370 true (a0.size : Int) (wrap64 (x26_2 + 1)) t365 t366 t367 t368 t369) else (if (bt a0 x26_2) = 45 then (pennantlaw16_RouteIds.l0 k2 a0 t370 true (a0.size : Int) (wrap64 (x26_2 + 1)) t365 t366 t367 t368 t369) else (if (bt a0 x26_2) = 46 then (pennantlaw16_RouteIds.l0 k2 a0 t370 true (a0.size : Int) (wrap64 (x26_2 + 1)) t365 t366 t367 t368 t369) else (if (bt a0 x26_2) = 35 then (pennantlaw16_RouteIds.l0 k2 a0 t370 true (a0.size : Int) (wrap64 (x26_2 + 1)) t365 t366 t367 t368 t369) else (pennantlaw16_RouteIds.l0 k2 a0 t370 (decide ((bt a0 x26_2) > 127)) (a0.size : Int) (wrap64 (x26_2 + 1)) t365 t366 t367 t368 t369))))))) else (if (bt a0 x26_2) ≥ 48 then (if (bt a0 x26_2) ≤ 57 then (pennantlaw16_RouteIds.l0 k2 a0 t370 true (a0.size : Int) (wrap64 (x26_2 + 1)) t365 t366 t367 t368 t369) else (if (bt a0 x26_2) = 95 then (pennantlaw16_RouteIds.l0 k2 a0 t370 true (a0.size : Int) (wrap64 (x26_2 + 1)) t365 t366 t367 t368 t369) else (if (bt a0 x26_2) = 45 then (pennantlaw16_RouteIds.l0 k2 a0 t370 true (a0.size : Int) (wrap64 (x26_2 + 1)) t365 t366 t367 t368 t369) else (if (bt a0 x26_2) = 46 then (pennantlaw16_RouteIds.l0 k2 a0 t370 true (a0.size : Int) (wrap64 (x26_2 + 1)) t365 t366 t367 t368 t369) else (if (bt a0 x26_2) = 35 then (pennantlaw16_RouteIds.l0 k2 a0 t370 true (a0.size : Int) (wrap64 (x26_2 + 1)) t365 t366 t367 t368 t369) else (pennantlaw16_RouteIds.l0 k2 a0 t370 (decide ((bt a0 x26_2) > 127)) (a0.size : Int) (wrap64 (x26_2 + 1)) t365 t366 t367 t368 t369)))))) else (if (bt a0 x26_2) = 95 then (pennantlaw16_RouteIds.l0 k2 a0 t370 true (a0.size : Int) (wrap64 (x26_2 + 1)) t365 t366 t367 t368 t369) else (if (bt a0 x26_2) = 45 then (pennantlaw16_RouteIds.l0 k2 a0 t370 true (a0.size : Int) (wrap64 (x26_2 + 1)) t365 t366 t367 t368 t369) else (if (bt a0 x26_2) = 46 then (pennantlaw16_RouteIds.l0 k2 a0 t370 true (a0.size : Int) (wrap64 (x26_2 + 1)) t365 t366 t367 t368 t369) else (if (bt a0 x26_2) = 35 then (pennantlaw16_RouteIds.l0 k2 a0 t370 true (a0.size : Int) (wrap64 (x26_2 + 1)) t365 t366 t367 t368 t369) else (pennantlaw16_RouteIds.l0 k2 a0 t370 (decide ((bt a0 x26_2) > 127)) (a0.size : Int) (wrap64 (x26_2 + 1)) t365 t366 t367 t368 t369)))))))) = some r := by rw [if_pos rfl] at H; exact H
                    clear H
                    have H := H1
                    clear H1
                    by_cases c17 : (bt a0 x26_2) ≥ 97
                    · rw [if_pos c17] at H
                      have c17b0 : decide (97 ≤ (bt a0 x26_2)) = true := decide_eq_true c17
                      clear c17
                      by_cases c18 : (bt a0 x26_2) ≤ 122
                      · rw [if_pos c18] at H
                        have c18b0 : decide ((bt a0 x26_2) ≤ 122) = true := decide_eq_true c18
                        clear c18
                        have H' := Aside0.mk H
                        clear H
                        have p15 : 0 ≤ (x26_2 : Int) := of_decide_eq_true (by first | (with_reducible assumption) | assumption)
                        have q15 : x26_2 < (a0.size : Int) := of_decide_eq_true (by first | (with_reducible assumption) | assumption)
                        have hx15 := bt_at a0 x26_2
                        replace p15 := eq_true p15
                        replace q15 := eq_true q15
                        go_wp2
                        go_roundg k2
                        case measure => have := HJ5.out; have := HK2.out; omega
                        case rel => exact ⟨(true), (wrap64 (x26_2 + 1)), (by first | rfl | (simp; done) | (simp [*]; done)), (by first | rfl | (simp; done) | (simp [*]; done)), H', ⟨by have := HJ5.out; have := HK2.out; omega⟩, ⟨by (with_reducible repeat (first | refine blk_drewN ?_ _ | refine blk_drew ?_ | refine blk_alloc ?_ _)); exact BK371.out⟩, ⟨by repeat (first | (with_reducible first | exact HB.out | apply below_alloc | apply pw_below_drewN | apply below_drew1 | refine below_set ?_ GE371.out) | exact HB.out)⟩⟩
                      · rw [if_neg c18] at H
                        have c18b0 : decide ((bt a0 x26_2) ≤ 122) = false := decide_eq_false c18
                        clear c18
                        by_cases c19 : (bt a0 x26_2) ≥ 65
                        · rw [if_pos c19] at H
                          have c19b0 : decide (65 ≤ (bt a0 x26_2)) = true := decide_eq_true c19
                          clear c19
                          by_cases c20 : (bt a0 x26_2) ≤ 90
                          · rw [if_pos c20] at H
                            have c20b0 : decide ((bt a0 x26_2) ≤ 90) = true := decide_eq_true c20
                            clear c20
                            have H' := Aside0.mk H
                            clear H
                            have p15 : 0 ≤ (x26_2 : Int) := of_decide_eq_true (by first | (with_reducible assumption) | assumption)
                            have q15 : x26_2 < (a0.size : Int) := of_decide_eq_true (by first | (with_reducible assumption) | assumption)
                            have hx15 := bt_at a0 x26_2
                            replace p15 := eq_true p15
                            replace q15 := eq_true q15
                            go_wp2
                            go_roundg k2
                            case measure => have := HJ5.out; have := HK2.out; omega
                            case rel => exact ⟨(true), (wrap64 (x26_2 + 1)), (by first | rfl | (simp; done) | (simp [*]; done)), (by first | rfl | (simp; done) | (simp [*]; done)), H', ⟨by have := HJ5.out; have := HK2.out; omega⟩, ⟨by (with_reducible repeat (first | refine blk_drewN ?_ _ | refine blk_drew ?_ | refine blk_alloc ?_ _)); exact BK371.out⟩, ⟨by repeat (first | (with_reducible first | exact HB.out | apply below_alloc | apply pw_below_drewN | apply below_drew1 | refine below_set ?_ GE371.out) | exact HB.out)⟩⟩
                          · rw [if_neg c20] at H
                            have c20b0 : decide ((bt a0 x26_2) ≤ 90) = false := decide_eq_false c20
                            clear c20
                            by_cases c21 : (bt a0 x26_2) ≥ 48
                            · rw [if_pos c21] at H
                              have c21b0 : decide (48 ≤ (bt a0 x26_2)) = true := decide_eq_true c21
                              clear c21
                              by_cases c22 : (bt a0 x26_2) ≤ 57
                              · rw [if_pos c22] at H
                                have c22b0 : decide ((bt a0 x26_2) ≤ 57) = true := decide_eq_true c22
                                clear c22
                                have H' := Aside0.mk H
                                clear H
                                have p15 : 0 ≤ (x26_2 : Int) := of_decide_eq_true (by first | (with_reducible assumption) | assumption)
                                have q15 : x26_2 < (a0.size : Int) := of_decide_eq_true (by first | (with_reducible assumption) | assumption)
                                have hx15 := bt_at a0 x26_2
                                replace p15 := eq_true p15
                                replace q15 := eq_true q15
                                go_wp2
                                go_roundg k2
                                case measure => have := HJ5.out; have := HK2.out; omega
                                case rel => exact ⟨(true), (wrap64 (x26_2 + 1)), (by first | rfl | (simp; done) | (simp [*]; done)), (by first | rfl | (simp; done) | (simp [*]; done)), H', ⟨by have := HJ5.out; have := HK2.out; omega⟩, ⟨by (with_reducible repeat (first | refine blk_drewN ?_ _ | refine blk_drew ?_ | refine blk_alloc ?_ _)); exact BK371.out⟩, ⟨by repeat (first | (with_reducible first | exact HB.out | apply below_alloc | apply pw_below_drewN | apply below_drew1 | refine below_set ?_ GE371.out) | exact HB.out)⟩⟩
                              · rw [if_neg c22] at H
                                have c22b0 : decide ((bt a0 x26_2) ≤ 57) = false := decide_eq_false c22
                                clear c22
                                by_cases c23 : (bt a0 x26_2) = 95
                                · rw [if_pos c23] at H
                                  have c23b0 : ((bt a0 x26_2) == 95) = true := beq_iff_eq.mpr c23
                                  have c23b1 : ((bt a0 x26_2) != 95) = false := bne_eq_false_iff_eq.mpr c23
                                  clear c23
                                  have H' := Aside0.mk H
                                  clear H
                                  have p15 : 0 ≤ (x26_2 : Int) := of_decide_eq_true (by first | (with_reducible assumption) | assumption)
                                  have q15 : x26_2 < (a0.size : Int) := of_decide_eq_true (by first | (with_reducible assumption) | assumption)
                                  have hx15 := bt_at a0 x26_2
                                  replace p15 := eq_true p15
                                  replace q15 := eq_true q15
                                  go_wp2
                                  go_roundg k2
                                  case measure => have := HJ5.out; have := HK2.out; omega
                                  case rel => exact ⟨(true), (wrap64 (x26_2 + 1)), (by first | rfl | (simp; done) | (simp [*]; done)), (by first | rfl | (simp; done) | (simp [*]; done)), H', ⟨by have := HJ5.out; have := HK2.out; omega⟩, ⟨by (with_reducible repeat (first | refine blk_drewN ?_ _ | refine blk_drew ?_ | refine blk_alloc ?_ _)); exact BK371.out⟩, ⟨by repeat (first | (with_reducible first | exact HB.out | apply below_alloc | apply pw_below_drewN | apply below_drew1 | refine below_set ?_ GE371.out) | exact HB.out)⟩⟩
                                · rw [if_neg c23] at H
                                  have c23b0 : ((bt a0 x26_2) == 95) = false := beq_eq_false_iff_ne.mpr c23
                                  have c23b1 : ((bt a0 x26_2) != 95) = true := bne_iff_ne.mpr c23
                                  by_cases c24 : (bt a0 x26_2) = 45
                                  · rw [if_pos c24] at H
                                    have c24b0 : ((bt a0 x26_2) == 45) = true := beq_iff_eq.mpr c24
                                    have c24b1 : ((bt a0 x26_2) != 45) = false := bne_eq_false_iff_eq.mpr c24
                                    clear c24
                                    have H' := Aside0.mk H
                                    clear H
                                    have p15 : 0 ≤ (x26_2 : Int) := of_decide_eq_true (by first | (with_reducible assumption) | assumption)
                                    have q15 : x26_2 < (a0.size : Int) := of_decide_eq_true (by first | (with_reducible assumption) | assumption)
                                    have hx15 := bt_at a0 x26_2
                                    replace p15 := eq_true p15
                                    replace q15 := eq_true q15
                                    go_wp2
                                    go_roundg k2
                                    case measure => have := HJ5.out; have := HK2.out; omega
                                    case rel => exact ⟨(true), (wrap64 (x26_2 + 1)), (by first | rfl | (simp; done) | (simp [*]; done)), (by first | rfl | (simp; done) | (simp [*]; done)), H', ⟨by have := HJ5.out; have := HK2.out; omega⟩, ⟨by (with_reducible repeat (first | refine blk_drewN ?_ _ | refine blk_drew ?_ | refine blk_alloc ?_ _)); exact BK371.out⟩, ⟨by repeat (first | (with_reducible first | exact HB.out | apply below_alloc | apply pw_below_drewN | apply below_drew1 | refine below_set ?_ GE371.out) | exact HB.out)⟩⟩
                                  · rw [if_neg c24] at H
                                    have c24b0 : ((bt a0 x26_2) == 45) = false := beq_eq_false_iff_ne.mpr c24
                                    have c24b1 : ((bt a0 x26_2) != 45) = true := bne_iff_ne.mpr c24
                                    by_cases c25 : (bt a0 x26_2) = 46
                                    · rw [if_pos c25] at H
                                      have c25b0 : ((bt a0 x26_2) == 46) = true := beq_iff_eq.mpr c25
                                      have c25b1 : ((bt a0 x26_2) != 46) = false := bne_eq_false_iff_eq.mpr c25
                                      clear c25
                                      have H' := Aside0.mk H
                                      clear H
                                      have p15 : 0 ≤ (x26_2 : Int) := of_decide_eq_true (by first | (with_reducible assumption) | assumption)
                                      have q15 : x26_2 < (a0.size : Int) := of_decide_eq_true (by first | (with_reducible assumption) | assumption)
                                      have hx15 := bt_at a0 x26_2
                                      replace p15 := eq_true p15
                                      replace q15 := eq_true q15
                                      go_wp2
                                      go_roundg k2
                                      case measure => have := HJ5.out; have := HK2.out; omega
                                      case rel => exact ⟨(true), (wrap64 (x26_2 + 1)), (by first | rfl | (simp; done) | (simp [*]; done)), (by first | rfl | (simp; done) | (simp [*]; done)), H', ⟨by have := HJ5.out; have := HK2.out; omega⟩, ⟨by (with_reducible repeat (first | refine blk_drewN ?_ _ | refine blk_drew ?_ | refine blk_alloc ?_ _)); exact BK371.out⟩, ⟨by repeat (first | (with_reducible first | exact HB.out | apply below_alloc | apply pw_below_drewN | apply below_drew1 | refine below_set ?_ GE371.out) | exact HB.out)⟩⟩
                                    · rw [if_neg c25] at H
                                      have c25b0 : ((bt a0 x26_2) == 46) = false := beq_eq_false_iff_ne.mpr c25
                                      have c25b1 : ((bt a0 x26_2) != 46) = true := bne_iff_ne.mpr c25
                                      by_cases c26 : (bt a0 x26_2) = 35
                                      · rw [if_pos c26] at H
                                        have c26b0 : ((bt a0 x26_2) == 35) = true := beq_iff_eq.mpr c26
                                        have c26b1 : ((bt a0 x26_2) != 35) = false := bne_eq_false_iff_eq.mpr c26
                                        clear c26
                                        have H' := Aside0.mk H
                                        clear H
                                        have p15 : 0 ≤ (x26_2 : Int) := of_decide_eq_true (by first | (with_reducible assumption) | assumption)
                                        have q15 : x26_2 < (a0.size : Int) := of_decide_eq_true (by first | (with_reducible assumption) | assumption)
                                        have hx15 := bt_at a0 x26_2
                                        replace p15 := eq_true p15
                                        replace q15 := eq_true q15
                                        go_wp2
                                        go_roundg k2
                                        case measure => have := HJ5.out; have := HK2.out; omega
                                        case rel => exact ⟨(true), (wrap64 (x26_2 + 1)), (by first | rfl | (simp; done) | (simp [*]; done)), (by first | rfl | (simp; done) | (simp [*]; done)), H', ⟨by have := HJ5.out; have := HK2.out; omega⟩, ⟨by (with_reducible repeat (first | refine blk_drewN ?_ _ | refine blk_drew ?_ | refine blk_alloc ?_ _)); exact BK371.out⟩, ⟨by repeat (first | (with_reducible first | exact HB.out | apply below_alloc | apply pw_below_drewN | apply below_drew1 | refine below_set ?_ GE371.out) | exact HB.out)⟩⟩
                                      · rw [if_neg c26] at H
                                        have c26b0 : ((bt a0 x26_2) == 35) = false := beq_eq_false_iff_ne.mpr c26
                                        have c26b1 : ((bt a0 x26_2) != 35) = true := bne_iff_ne.mpr c26
                                        have H' := Aside0.mk H
                                        clear H
                                        have p15 : 0 ≤ (x26_2 : Int) := of_decide_eq_true (by first | (with_reducible assumption) | assumption)
                                        have q15 : x26_2 < (a0.size : Int) := of_decide_eq_true (by first | (with_reducible assumption) | assumption)
                                        have hx15 := bt_at a0 x26_2
                                        replace p15 := eq_true p15
                                        replace q15 := eq_true q15
                                        go_wp2
                                        go_roundg k2
                                        case measure => have := HJ5.out; have := HK2.out; omega
                                        case rel => exact ⟨(decide ((bt a0 x26_2) > 127)), (wrap64 (x26_2 + 1)), (by first | rfl | (simp; done) | (simp [*]; done)), (by first | rfl | (simp; done) | (simp [*]; done)), H', ⟨by have := HJ5.out; have := HK2.out; omega⟩, ⟨by (with_reducible repeat (first | refine blk_drewN ?_ _ | refine blk_drew ?_ | refine blk_alloc ?_ _)); exact BK371.out⟩, ⟨by repeat (first | (with_reducible first | exact HB.out | apply below_alloc | apply pw_below_drewN | apply below_drew1 | refine below_set ?_ GE371.out) | exact HB.out)⟩⟩
                            · rw [if_neg c21] at H
                              have c21b0 : decide (48 ≤ (bt a0 x26_2)) = false := decide_eq_false c21
                              clear c21
                              by_cases c27 : (bt a0 x26_2) = 95
                              · rw [if_pos c27] at H
                                have c27b0 : ((bt a0 x26_2) == 95) = true := beq_iff_eq.mpr c27
                                have c27b1 : ((bt a0 x26_2) != 95) = false := bne_eq_false_iff_eq.mpr c27
                                clear c27
                                have H' := Aside0.mk H
                                clear H
                                have p15 : 0 ≤ (x26_2 : Int) := of_decide_eq_true (by first | (with_reducible assumption) | assumption)
                                have q15 : x26_2 < (a0.size : Int) := of_decide_eq_true (by first | (with_reducible assumption) | assumption)
                                have hx15 := bt_at a0 x26_2
                                replace p15 := eq_true p15
                                replace q15 := eq_true q15
                                go_wp2
                                go_roundg k2
                                case measure => have := HJ5.out; have := HK2.out; omega
                                case rel => exact ⟨(true), (wrap64 (x26_2 + 1)), (by first | rfl | (simp; done) | (simp [*]; done)), (by first | rfl | (simp; done) | (simp [*]; done)), H', ⟨by have := HJ5.out; have := HK2.out; omega⟩, ⟨by (with_reducible repeat (first | refine blk_drewN ?_ _ | refine blk_drew ?_ | refine blk_alloc ?_ _)); exact BK371.out⟩, ⟨by repeat (first | (with_reducible first | exact HB.out | apply below_alloc | apply pw_below_drewN | apply below_drew1 | refine below_set ?_ GE371.out) | exact HB.out)⟩⟩
                              · rw [if_neg c27] at H
                                have c27b0 : ((bt a0 x26_2) == 95) = false := beq_eq_false_iff_ne.mpr c27
                                have c27b1 : ((bt a0 x26_2) != 95) = true := bne_iff_ne.mpr c27
                                by_cases c28 : (bt a0 x26_2) = 45
                                · rw [if_pos c28] at H
                                  have c28b0 : ((bt a0 x26_2) == 45) = true := beq_iff_eq.mpr c28
                                  have c28b1 : ((bt a0 x26_2) != 45) = false := bne_eq_false_iff_eq.mpr c28
                                  clear c28
                                  have H' := Aside0.mk H
                                  clear H
                                  have p15 : 0 ≤ (x26_2 : Int) := of_decide_eq_true (by first | (with_reducible assumption) | assumption)
                                  have q15 : x26_2 < (a0.size : Int) := of_decide_eq_true (by first | (with_reducible assumption) | assumption)
                                  have hx15 := bt_at a0 x26_2
                                  replace p15 := eq_true p15
                                  replace q15 := eq_true q15
                                  go_wp2
                                  go_roundg k2
                                  case measure => have := HJ5.out; have := HK2.out; omega
                                  case rel => exact ⟨(true), (wrap64 (x26_2 + 1)), (by first | rfl | (simp; done) | (simp [*]; done)), (by first | rfl | (simp; done) | (simp [*]; done)), H', ⟨by have := HJ5.out; have := HK2.out; omega⟩, ⟨by (with_reducible repeat (first | refine blk_drewN ?_ _ | refine blk_drew ?_ | refine blk_alloc ?_ _)); exact BK371.out⟩, ⟨by repeat (first | (with_reducible first | exact HB.out | apply below_alloc | apply pw_below_drewN | apply below_drew1 | refine below_set ?_ GE371.out) | exact HB.out)⟩⟩
                                · rw [if_neg c28] at H
                                  have c28b0 : ((bt a0 x26_2) == 45) = false := beq_eq_false_iff_ne.mpr c28
                                  have c28b1 : ((bt a0 x26_2) != 45) = true := bne_iff_ne.mpr c28
                                  by_cases c29 : (bt a0 x26_2) = 46
                                  · rw [if_pos c29] at H
                                    have c29b0 : ((bt a0 x26_2) == 46) = true := beq_iff_eq.mpr c29
                                    have c29b1 : ((bt a0 x26_2) != 46) = false := bne_eq_false_iff_eq.mpr c29
                                    clear c29
                                    have H' := Aside0.mk H
                                    clear H
                                    have p15 : 0 ≤ (x26_2 : Int) := of_decide_eq_true (by first | (with_reducible assumption) | assumption)
                                    have q15 : x26_2 < (a0.size : Int) := of_decide_eq_true (by first | (with_reducible assumption) | assumption)
                                    have hx15 := bt_at a0 x26_2
                                    replace p15 := eq_true p15
                                    replace q15 := eq_true q15
                                    go_wp2
                                    go_roundg k2
                                    case measure => have := HJ5.out; have := HK2.out; omega
                                    case rel => exact ⟨(true), (wrap64 (x26_2 + 1)), (by first | rfl | (simp; done) | (simp [*]; done)), (by first | rfl | (simp; done) | (simp [*]; done)), H', ⟨by have := HJ5.out; have := HK2.out; omega⟩, ⟨by (with_reducible repeat (first | refine blk_drewN ?_ _ | refine blk_drew ?_ | refine blk_alloc ?_ _)); exact BK371.out⟩, ⟨by repeat (first | (with_reducible first | exact HB.out | apply below_alloc | apply pw_below_drewN | apply below_drew1 | refine below_set ?_ GE371.out) | exact HB.out)⟩⟩
                                  · rw [if_neg c29] at H
                                    have c29b0 : ((bt a0 x26_2) == 46) = false := beq_eq_false_iff_ne.mpr c29
                                    have c29b1 : ((bt a0 x26_2) != 46) = true := bne_iff_ne.mpr c29
                                    by_cases c30 : (bt a0 x26_2) = 35
                                    · rw [if_pos c30] at H
                                      have c30b0 : ((bt a0 x26_2) == 35) = true := beq_iff_eq.mpr c30
                                      have c30b1 : ((bt a0 x26_2) != 35) = false := bne_eq_false_iff_eq.mpr c30
                                      clear c30
                                      have H' := Aside0.mk H
                                      clear H
                                      have p15 : 0 ≤ (x26_2 : Int) := of_decide_eq_true (by first | (with_reducible assumption) | assumption)
                                      have q15 : x26_2 < (a0.size : Int) := of_decide_eq_true (by first | (with_reducible assumption) | assumption)
                                      have hx15 := bt_at a0 x26_2
                                      replace p15 := eq_true p15
                                      replace q15 := eq_true q15
                                      go_wp2
                                      go_roundg k2
                                      case measure => have := HJ5.out; have := HK2.out; omega
                                      case rel => exact ⟨(true), (wrap64 (x26_2 + 1)), (by first | rfl | (simp; done) | (simp [*]; done)), (by first | rfl | (simp; done) | (simp [*]; done)), H', ⟨by have := HJ5.out; have := HK2.out; omega⟩, ⟨by (with_reducible repeat (first | refine blk_drewN ?_ _ | refine blk_drew ?_ | refine blk_alloc ?_ _)); exact BK371.out⟩, ⟨by repeat (first | (with_reducible first | exact HB.out | apply below_alloc | apply pw_below_drewN | apply below_drew1 | refine below_set ?_ GE371.out) | exact HB.out)⟩⟩
                                    · rw [if_neg c30] at H
                                      have c30b0 : ((bt a0 x26_2) == 35) = false := beq_eq_false_iff_ne.mpr c30
                                      have c30b1 : ((bt a0 x26_2) != 35) = true := bne_iff_ne.mpr c30
                                      have H' := Aside0.mk H
                                      clear H
                                      have p15 : 0 ≤ (x26_2 : Int) := of_decide_eq_true (by first | (with_reducible assumption) | assumption)
                                      have q15 : x26_2 < (a0.size : Int) := of_decide_eq_true (by first | (with_reducible assumption) | assumption)
                                      have hx15 := bt_at a0 x26_2
                                      replace p15 := eq_true p15
                                      replace q15 := eq_true q15
                                      go_wp2
                                      go_roundg k2
                                      case measure => have := HJ5.out; have := HK2.out; omega
                                      case rel => exact ⟨(decide ((bt a0 x26_2) > 127)), (wrap64 (x26_2 + 1)), (by first | rfl | (simp; done) | (simp [*]; done)), (by first | rfl | (simp; done) | (simp [*]; done)), H', ⟨by have := HJ5.out; have := HK2.out; omega⟩, ⟨by (with_reducible repeat (first | refine blk_drewN ?_ _ | refine blk_drew ?_ | refine blk_alloc ?_ _)); exact BK371.out⟩, ⟨by repeat (first | (with_reducible first | exact HB.out | apply below_alloc | apply pw_below_drewN | apply below_drew1 | refine below_set ?_ GE371.out) | exact HB.out)⟩⟩
                        · rw [if_neg c19] at H
                          have c19b0 : decide (65 ≤ (bt a0 x26_2)) = false := decide_eq_false c19
                          clear c19
                          by_cases c31 : (bt a0 x26_2) ≥ 48
                          · rw [if_pos c31] at H
                            have c31b0 : decide (48 ≤ (bt a0 x26_2)) = true := decide_eq_true c31
                            clear c31
                            by_cases c32 : (bt a0 x26_2) ≤ 57
                            · rw [if_pos c32] at H
                              have c32b0 : decide ((bt a0 x26_2) ≤ 57) = true := decide_eq_true c32
                              clear c32
                              have H' := Aside0.mk H
                              clear H
                              have p15 : 0 ≤ (x26_2 : Int) := of_decide_eq_true (by first | (with_reducible assumption) | assumption)
                              have q15 : x26_2 < (a0.size : Int) := of_decide_eq_true (by first | (with_reducible assumption) | assumption)
                              have hx15 := bt_at a0 x26_2
                              replace p15 := eq_true p15
                              replace q15 := eq_true q15
                              go_wp2
                              go_roundg k2
                              case measure => have := HJ5.out; have := HK2.out; omega
                              case rel => exact ⟨(true), (wrap64 (x26_2 + 1)), (by first | rfl | (simp; done) | (simp [*]; done)), (by first | rfl | (simp; done) | (simp [*]; done)), H', ⟨by have := HJ5.out; have := HK2.out; omega⟩, ⟨by (with_reducible repeat (first | refine blk_drewN ?_ _ | refine blk_drew ?_ | refine blk_alloc ?_ _)); exact BK371.out⟩, ⟨by repeat (first | (with_reducible first | exact HB.out | apply below_alloc | apply pw_below_drewN | apply below_drew1 | refine below_set ?_ GE371.out) | exact HB.out)⟩⟩
                            · rw [if_neg c32] at H
                              have c32b0 : decide ((bt a0 x26_2) ≤ 57) = false := decide_eq_false c32
                              clear c32
                              by_cases c33 : (bt a0 x26_2) = 95
                              · rw [if_pos c33] at H
                                have c33b0 : ((bt a0 x26_2) == 95) = true := beq_iff_eq.mpr c33
                                have c33b1 : ((bt a0 x26_2) != 95) = false := bne_eq_false_iff_eq.mpr c33
                                clear c33
                                have H' := Aside0.mk H
                                clear H
                                have p15 : 0 ≤ (x26_2 : Int) := of_decide_eq_true (by first | (with_reducible assumption) | assumption)
                                have q15 : x26_2 < (a0.size : Int) := of_decide_eq_true (by first | (with_reducible assumption) | assumption)
                                have hx15 := bt_at a0 x26_2
                                replace p15 := eq_true p15
                                replace q15 := eq_true q15
                                go_wp2
                                go_roundg k2
                                case measure => have := HJ5.out; have := HK2.out; omega
                                case rel => exact ⟨(true), (wrap64 (x26_2 + 1)), (by first | rfl | (simp; done) | (simp [*]; done)), (by first | rfl | (simp; done) | (simp [*]; done)), H', ⟨by have := HJ5.out; have := HK2.out; omega⟩, ⟨by (with_reducible repeat (first | refine blk_drewN ?_ _ | refine blk_drew ?_ | refine blk_alloc ?_ _)); exact BK371.out⟩, ⟨by repeat (first | (with_reducible first | exact HB.out | apply below_alloc | apply pw_below_drewN | apply below_drew1 | refine below_set ?_ GE371.out) | exact HB.out)⟩⟩
                              · rw [if_neg c33] at H
                                have c33b0 : ((bt a0 x26_2) == 95) = false := beq_eq_false_iff_ne.mpr c33
                                have c33b1 : ((bt a0 x26_2) != 95) = true := bne_iff_ne.mpr c33
                                by_cases c34 : (bt a0 x26_2) = 45
                                · rw [if_pos c34] at H
                                  have c34b0 : ((bt a0 x26_2) == 45) = true := beq_iff_eq.mpr c34
                                  have c34b1 : ((bt a0 x26_2) != 45) = false := bne_eq_false_iff_eq.mpr c34
                                  clear c34
                                  have H' := Aside0.mk H
                                  clear H
                                  have p15 : 0 ≤ (x26_2 : Int) := of_decide_eq_true (by first | (with_reducible assumption) | assumption)
                                  have q15 : x26_2 < (a0.size : Int) := of_decide_eq_true (by first | (with_reducible assumption) | assumption)
                                  have hx15 := bt_at a0 x26_2
                                  replace p15 := eq_true p15
                                  replace q15 := eq_true q15
                                  go_wp2
                                  go_roundg k2
                                  case measure => have := HJ5.out; have := HK2.out; omega
                                  case rel => exact ⟨(true), (wrap64 (x26_2 + 1)), (by first | rfl | (simp; done) | (simp [*]; done)), (by first | rfl | (simp; done) | (simp [*]; done)), H', ⟨by have := HJ5.out; have := HK2.out; omega⟩, ⟨by (with_reducible repeat (first | refine blk_drewN ?_ _ | refine blk_drew ?_ | refine blk_alloc ?_ _)); exact BK371.out⟩, ⟨by repeat (first | (with_reducible first | exact HB.out | apply below_alloc | apply pw_below_drewN | apply below_drew1 | refine below_set ?_ GE371.out) | exact HB.out)⟩⟩
                                · rw [if_neg c34] at H
                                  have c34b0 : ((bt a0 x26_2) == 45) = false := beq_eq_false_iff_ne.mpr c34
                                  have c34b1 : ((bt a0 x26_2) != 45) = true := bne_iff_ne.mpr c34
                                  by_cases c35 : (bt a0 x26_2) = 46
                                  · rw [if_pos c35] at H
                                    have c35b0 : ((bt a0 x26_2) == 46) = true := beq_iff_eq.mpr c35
                                    have c35b1 : ((bt a0 x26_2) != 46) = false := bne_eq_false_iff_eq.mpr c35
                                    clear c35
                                    have H' := Aside0.mk H
                                    clear H
                                    have p15 : 0 ≤ (x26_2 : Int) := of_decide_eq_true (by first | (with_reducible assumption) | assumption)
                                    have q15 : x26_2 < (a0.size : Int) := of_decide_eq_true (by first | (with_reducible assumption) | assumption)
                                    have hx15 := bt_at a0 x26_2
                                    replace p15 := eq_true p15
                                    replace q15 := eq_true q15
                                    go_wp2
                                    go_roundg k2
                                    case measure => have := HJ5.out; have := HK2.out; omega
                                    case rel => exact ⟨(true), (wrap64 (x26_2 + 1)), (by first | rfl | (simp; done) | (simp [*]; done)), (by first | rfl | (simp; done) | (simp [*]; done)), H', ⟨by have := HJ5.out; have := HK2.out; omega⟩, ⟨by (with_reducible repeat (first | refine blk_drewN ?_ _ | refine blk_drew ?_ | refine blk_alloc ?_ _)); exact BK371.out⟩, ⟨by repeat (first | (with_reducible first | exact HB.out | apply below_alloc | apply pw_below_drewN | apply below_drew1 | refine below_set ?_ GE371.out) | exact HB.out)⟩⟩
                                  · rw [if_neg c35] at H
                                    have c35b0 : ((bt a0 x26_2) == 46) = false := beq_eq_false_iff_ne.mpr c35
                                    have c35b1 : ((bt a0 x26_2) != 46) = true := bne_iff_ne.mpr c35
                                    by_cases c36 : (bt a0 x26_2) = 35
                                    · rw [if_pos c36] at H
                                      have c36b0 : ((bt a0 x26_2) == 35) = true := beq_iff_eq.mpr c36
                                      have c36b1 : ((bt a0 x26_2) != 35) = false := bne_eq_false_iff_eq.mpr c36
                                      clear c36
                                      have H' := Aside0.mk H
                                      clear H
                                      have p15 : 0 ≤ (x26_2 : Int) := of_decide_eq_true (by first | (with_reducible assumption) | assumption)
                                      have q15 : x26_2 < (a0.size : Int) := of_decide_eq_true (by first | (with_reducible assumption) | assumption)
                                      have hx15 := bt_at a0 x26_2
                                      replace p15 := eq_true p15
                                      replace q15 := eq_true q15
                                      go_wp2
                                      go_roundg k2
                                      case measure => have := HJ5.out; have := HK2.out; omega
                                      case rel => exact ⟨(true), (wrap64 (x26_2 + 1)), (by first | rfl | (simp; done) | (simp [*]; done)), (by first | rfl | (simp; done) | (simp [*]; done)), H', ⟨by have := HJ5.out; have := HK2.out; omega⟩, ⟨by (with_reducible repeat (first | refine blk_drewN ?_ _ | refine blk_drew ?_ | refine blk_alloc ?_ _)); exact BK371.out⟩, ⟨by repeat (first | (with_reducible first | exact HB.out | apply below_alloc | apply pw_below_drewN | apply below_drew1 | refine below_set ?_ GE371.out) | exact HB.out)⟩⟩
                                    · rw [if_neg c36] at H
                                      have c36b0 : ((bt a0 x26_2) == 35) = false := beq_eq_false_iff_ne.mpr c36
                                      have c36b1 : ((bt a0 x26_2) != 35) = true := bne_iff_ne.mpr c36
                                      have H' := Aside0.mk H
                                      clear H
                                      have p15 : 0 ≤ (x26_2 : Int) := of_decide_eq_true (by first | (with_reducible assumption) | assumption)
                                      have q15 : x26_2 < (a0.size : Int) := of_decide_eq_true (by first | (with_reducible assumption) | assumption)
                                      have hx15 := bt_at a0 x26_2
                                      replace p15 := eq_true p15
                                      replace q15 := eq_true q15
                                      go_wp2
                                      go_roundg k2
                                      case measure => have := HJ5.out; have := HK2.out; omega
                                      case rel => exact ⟨(decide ((bt a0 x26_2) > 127)), (wrap64 (x26_2 + 1)), (by first | rfl | (simp; done) | (simp [*]; done)), (by first | rfl | (simp; done) | (simp [*]; done)), H', ⟨by have := HJ5.out; have := HK2.out; omega⟩, ⟨by (with_reducible repeat (first | refine blk_drewN ?_ _ | refine blk_drew ?_ | refine blk_alloc ?_ _)); exact BK371.out⟩, ⟨by repeat (first | (with_reducible first | exact HB.out | apply below_alloc | apply pw_below_drewN | apply below_drew1 | refine below_set ?_ GE371.out) | exact HB.out)⟩⟩
                          · rw [if_neg c31] at H
                            have c31b0 : decide (48 ≤ (bt a0 x26_2)) = false := decide_eq_false c31
                            clear c31
                            by_cases c37 : (bt a0 x26_2) = 95
                            · rw [if_pos c37] at H
                              have c37b0 : ((bt a0 x26_2) == 95) = true := beq_iff_eq.mpr c37
                              have c37b1 : ((bt a0 x26_2) != 95) = false := bne_eq_false_iff_eq.mpr c37
                              clear c37
                              have H' := Aside0.mk H
                              clear H
                              have p15 : 0 ≤ (x26_2 : Int) := of_decide_eq_true (by first | (with_reducible assumption) | assumption)
                              have q15 : x26_2 < (a0.size : Int) := of_decide_eq_true (by first | (with_reducible assumption) | assumption)
                              have hx15 := bt_at a0 x26_2
                              replace p15 := eq_true p15
                              replace q15 := eq_true q15
                              go_wp2
                              go_roundg k2
                              case measure => have := HJ5.out; have := HK2.out; omega
                              case rel => exact ⟨(true), (wrap64 (x26_2 + 1)), (by first | rfl | (simp; done) | (simp [*]; done)), (by first | rfl | (simp; done) | (simp [*]; done)), H', ⟨by have := HJ5.out; have := HK2.out; omega⟩, ⟨by (with_reducible repeat (first | refine blk_drewN ?_ _ | refine blk_drew ?_ | refine blk_alloc ?_ _)); exact BK371.out⟩, ⟨by repeat (first | (with_reducible first | exact HB.out | apply below_alloc | apply pw_below_drewN | apply below_drew1 | refine below_set ?_ GE371.out) | exact HB.out)⟩⟩
                            · rw [if_neg c37] at H
                              have c37b0 : ((bt a0 x26_2) == 95) = false := beq_eq_false_iff_ne.mpr c37
                              have c37b1 : ((bt a0 x26_2) != 95) = true := bne_iff_ne.mpr c37
                              by_cases c38 : (bt a0 x26_2) = 45
                              · rw [if_pos c38] at H
                                have c38b0 : ((bt a0 x26_2) == 45) = true := beq_iff_eq.mpr c38
                                have c38b1 : ((bt a0 x26_2) != 45) = false := bne_eq_false_iff_eq.mpr c38
                                clear c38
                                have H' := Aside0.mk H
                                clear H
                                have p15 : 0 ≤ (x26_2 : Int) := of_decide_eq_true (by first | (with_reducible assumption) | assumption)
                                have q15 : x26_2 < (a0.size : Int) := of_decide_eq_true (by first | (with_reducible assumption) | assumption)
                                have hx15 := bt_at a0 x26_2
                                replace p15 := eq_true p15
                                replace q15 := eq_true q15
                                go_wp2
                                go_roundg k2
                                case measure => have := HJ5.out; have := HK2.out; omega
                                case rel => exact ⟨(true), (wrap64 (x26_2 + 1)), (by first | rfl | (simp; done) | (simp [*]; done)), (by first | rfl | (simp; done) | (simp [*]; done)), H', ⟨by have := HJ5.out; have := HK2.out; omega⟩, ⟨by (with_reducible repeat (first | refine blk_drewN ?_ _ | refine blk_drew ?_ | refine blk_alloc ?_ _)); exact BK371.out⟩, ⟨by repeat (first | (with_reducible first | exact HB.out | apply below_alloc | apply pw_below_drewN | apply below_drew1 | refine below_set ?_ GE371.out) | exact HB.out)⟩⟩
                              · rw [if_neg c38] at H
                                have c38b0 : ((bt a0 x26_2) == 45) = false := beq_eq_false_iff_ne.mpr c38
                                have c38b1 : ((bt a0 x26_2) != 45) = true := bne_iff_ne.mpr c38
                                by_cases c39 : (bt a0 x26_2) = 46
                                · rw [if_pos c39] at H
                                  have c39b0 : ((bt a0 x26_2) == 46) = true := beq_iff_eq.mpr c39
                                  have c39b1 : ((bt a0 x26_2) != 46) = false := bne_eq_false_iff_eq.mpr c39
                                  clear c39
                                  have H' := Aside0.mk H
                                  clear H
                                  have p15 : 0 ≤ (x26_2 : Int) := of_decide_eq_true (by first | (with_reducible assumption) | assumption)
                                  have q15 : x26_2 < (a0.size : Int) := of_decide_eq_true (by first | (with_reducible assumption) | assumption)
                                  have hx15 := bt_at a0 x26_2
                                  replace p15 := eq_true p15
                                  replace q15 := eq_true q15
                                  go_wp2
                                  go_roundg k2
                                  case measure => have := HJ5.out; have := HK2.out; omega
                                  case rel => exact ⟨(true), (wrap64 (x26_2 + 1)), (by first | rfl | (simp; done) | (simp [*]; done)), (by first | rfl | (simp; done) | (simp [*]; done)), H', ⟨by have := HJ5.out; have := HK2.out; omega⟩, ⟨by (with_reducible repeat (first | refine blk_drewN ?_ _ | refine blk_drew ?_ | refine blk_alloc ?_ _)); exact BK371.out⟩, ⟨by repeat (first | (with_reducible first | exact HB.out | apply below_alloc | apply pw_below_drewN | apply below_drew1 | refine below_set ?_ GE371.out) | exact HB.out)⟩⟩
                                · rw [if_neg c39] at H
                                  have c39b0 : ((bt a0 x26_2) == 46) = false := beq_eq_false_iff_ne.mpr c39
                                  have c39b1 : ((bt a0 x26_2) != 46) = true := bne_iff_ne.mpr c39
                                  by_cases c40 : (bt a0 x26_2) = 35
                                  · rw [if_pos c40] at H
                                    have c40b0 : ((bt a0 x26_2) == 35) = true := beq_iff_eq.mpr c40
                                    have c40b1 : ((bt a0 x26_2) != 35) = false := bne_eq_false_iff_eq.mpr c40
                                    clear c40
                                    have H' := Aside0.mk H
                                    clear H
                                    have p15 : 0 ≤ (x26_2 : Int) := of_decide_eq_true (by first | (with_reducible assumption) | assumption)
                                    have q15 : x26_2 < (a0.size : Int) := of_decide_eq_true (by first | (with_reducible assumption) | assumption)
                                    have hx15 := bt_at a0 x26_2
                                    replace p15 := eq_true p15
                                    replace q15 := eq_true q15
                                    go_wp2
                                    go_roundg k2
                                    case measure => have := HJ5.out; have := HK2.out; omega
                                    case rel => exact ⟨(true), (wrap64 (x26_2 + 1)), (by first | rfl | (simp; done) | (simp [*]; done)), (by first | rfl | (simp; done) | (simp [*]; done)), H', ⟨by have := HJ5.out; have := HK2.out; omega⟩, ⟨by (with_reducible repeat (first | refine blk_drewN ?_ _ | refine blk_drew ?_ | refine blk_alloc ?_ _)); exact BK371.out⟩, ⟨by repeat (first | (with_reducible first | exact HB.out | apply below_alloc | apply pw_below_drewN | apply below_drew1 | refine below_set ?_ GE371.out) | exact HB.out)⟩⟩
                                  · rw [if_neg c40] at H
                                    have c40b0 : ((bt a0 x26_2) == 35) = false := beq_eq_false_iff_ne.mpr c40
                                    have c40b1 : ((bt a0 x26_2) != 35) = true := bne_iff_ne.mpr c40
                                    have H' := Aside0.mk H
                                    clear H
                                    have p15 : 0 ≤ (x26_2 : Int) := of_decide_eq_true (by first | (with_reducible assumption) | assumption)
                                    have q15 : x26_2 < (a0.size : Int) := of_decide_eq_true (by first | (with_reducible assumption) | assumption)
                                    have hx15 := bt_at a0 x26_2
                                    replace p15 := eq_true p15
                                    replace q15 := eq_true q15
                                    go_wp2
                                    go_roundg k2
                                    case measure => have := HJ5.out; have := HK2.out; omega
                                    case rel => exact ⟨(decide ((bt a0 x26_2) > 127)), (wrap64 (x26_2 + 1)), (by first | rfl | (simp; done) | (simp [*]; done)), (by first | rfl | (simp; done) | (simp [*]; done)), H', ⟨by have := HJ5.out; have := HK2.out; omega⟩, ⟨by (with_reducible repeat (first | refine blk_drewN ?_ _ | refine blk_drew ?_ | refine blk_alloc ?_ _)); exact BK371.out⟩, ⟨by repeat (first | (with_reducible first | exact HB.out | apply below_alloc | apply pw_below_drewN | apply below_drew1 | refine below_set ?_ GE371.out) | exact HB.out)⟩⟩
                    · rw [if_neg c17] at H
                      have c17b0 : decide (97 ≤ (bt a0 x26_2)) = false := decide_eq_false c17
                      clear c17
                      by_cases c41 : (bt a0 x26_2) ≥ 65
                      · rw [if_pos c41] at H
                        have c41b0 : decide (65 ≤ (bt a0 x26_2)) = true := decide_eq_true c41
                        clear c41
                        by_cases c42 : (bt a0 x26_2) ≤ 90
                        · rw [if_pos c42] at H
                          have c42b0 : decide ((bt a0 x26_2) ≤ 90) = true := decide_eq_true c42
                          clear c42
                          have H' := Aside0.mk H
                          clear H
                          have p15 : 0 ≤ (x26_2 : Int) := of_decide_eq_true (by first | (with_reducible assumption) | assumption)
                          have q15 : x26_2 < (a0.size : Int) := of_decide_eq_true (by first | (with_reducible assumption) | assumption)
                          have hx15 := bt_at a0 x26_2
                          replace p15 := eq_true p15
                          replace q15 := eq_true q15
                          go_wp2
                          go_roundg k2
                          case measure => have := HJ5.out; have := HK2.out; omega
                          case rel => exact ⟨(true), (wrap64 (x26_2 + 1)), (by first | rfl | (simp; done) | (simp [*]; done)), (by first | rfl | (simp; done) | (simp [*]; done)), H', ⟨by have := HJ5.out; have := HK2.out; omega⟩, ⟨by (with_reducible repeat (first | refine blk_drewN ?_ _ | refine blk_drew ?_ | refine blk_alloc ?_ _)); exact BK371.out⟩, ⟨by repeat (first | (with_reducible first | exact HB.out | apply below_alloc | apply pw_below_drewN | apply below_drew1 | refine below_set ?_ GE371.out) | exact HB.out)⟩⟩
                        · rw [if_neg c42] at H
                          have c42b0 : decide ((bt a0 x26_2) ≤ 90) = false := decide_eq_false c42
                          clear c42
                          by_cases c43 : (bt a0 x26_2) ≥ 48
                          · rw [if_pos c43] at H
                            have c43b0 : decide (48 ≤ (bt a0 x26_2)) = true := decide_eq_true c43
                            clear c43
                            by_cases c44 : (bt a0 x26_2) ≤ 57
                            · rw [if_pos c44] at H
                              have c44b0 : decide ((bt a0 x26_2) ≤ 57) = true := decide_eq_true c44
                              clear c44
                              have H' := Aside0.mk H
                              clear H
                              have p15 : 0 ≤ (x26_2 : Int) := of_decide_eq_true (by first | (with_reducible assumption) | assumption)
                              have q15 : x26_2 < (a0.size : Int) := of_decide_eq_true (by first | (with_reducible assumption) | assumption)
                              have hx15 := bt_at a0 x26_2
                              replace p15 := eq_true p15
                              replace q15 := eq_true q15
                              go_wp2
                              go_roundg k2
                              case measure => have := HJ5.out; have := HK2.out; omega
                              case rel => exact ⟨(true), (wrap64 (x26_2 + 1)), (by first | rfl | (simp; done) | (simp [*]; done)), (by first | rfl | (simp; done) | (simp [*]; done)), H', ⟨by have := HJ5.out; have := HK2.out; omega⟩, ⟨by (with_reducible repeat (first | refine blk_drewN ?_ _ | refine blk_drew ?_ | refine blk_alloc ?_ _)); exact BK371.out⟩, ⟨by repeat (first | (with_reducible first | exact HB.out | apply below_alloc | apply pw_below_drewN | apply below_drew1 | refine below_set ?_ GE371.out) | exact HB.out)⟩⟩
                            · rw [if_neg c44] at H
                              have c44b0 : decide ((bt a0 x26_2) ≤ 57) = false := decide_eq_false c44
                              clear c44
                              by_cases c45 : (bt a0 x26_2) = 95
                              · rw [if_pos c45] at H
                                have c45b0 : ((bt a0 x26_2) == 95) = true := beq_iff_eq.mpr c45
                                have c45b1 : ((bt a0 x26_2) != 95) = false := bne_eq_false_iff_eq.mpr c45
                                clear c45
                                have H' := Aside0.mk H
                                clear H
                                have p15 : 0 ≤ (x26_2 : Int) := of_decide_eq_true (by first | (with_reducible assumption) | assumption)
                                have q15 : x26_2 < (a0.size : Int) := of_decide_eq_true (by first | (with_reducible assumption) | assumption)
                                have hx15 := bt_at a0 x26_2
                                replace p15 := eq_true p15
                                replace q15 := eq_true q15
                                go_wp2
                                go_roundg k2
                                case measure => have := HJ5.out; have := HK2.out; omega
                                case rel => exact ⟨(true), (wrap64 (x26_2 + 1)), (by first | rfl | (simp; done) | (simp [*]; done)), (by first | rfl | (simp; done) | (simp [*]; done)), H', ⟨by have := HJ5.out; have := HK2.out; omega⟩, ⟨by (with_reducible repeat (first | refine blk_drewN ?_ _ | refine blk_drew ?_ | refine blk_alloc ?_ _)); exact BK371.out⟩, ⟨by repeat (first | (with_reducible first | exact HB.out | apply below_alloc | apply pw_below_drewN | apply below_drew1 | refine below_set ?_ GE371.out) | exact HB.out)⟩⟩
                              · rw [if_neg c45] at H
                                have c45b0 : ((bt a0 x26_2) == 95) = false := beq_eq_false_iff_ne.mpr c45
                                have c45b1 : ((bt a0 x26_2) != 95) = true := bne_iff_ne.mpr c45
                                by_cases c46 : (bt a0 x26_2) = 45
                                · rw [if_pos c46] at H
                                  have c46b0 : ((bt a0 x26_2) == 45) = true := beq_iff_eq.mpr c46
                                  have c46b1 : ((bt a0 x26_2) != 45) = false := bne_eq_false_iff_eq.mpr c46
                                  clear c46
                                  have H' := Aside0.mk H
                                  clear H
                                  have p15 : 0 ≤ (x26_2 : Int) := of_decide_eq_true (by first | (with_reducible assumption) | assumption)
                                  have q15 : x26_2 < (a0.size : Int) := of_decide_eq_true (by first | (with_reducible assumption) | assumption)
                                  have hx15 := bt_at a0 x26_2
                                  replace p15 := eq_true p15
                                  replace q15 := eq_true q15
                                  go_wp2
                                  go_roundg k2
                                  case measure => have := HJ5.out; have := HK2.out; omega
                                  case rel => exact ⟨(true), (wrap64 (x26_2 + 1)), (by first | rfl | (simp; done) | (simp [*]; done)), (by first | rfl | (simp; done) | (simp [*]; done)), H', ⟨by have := HJ5.out; have := HK2.out; omega⟩, ⟨by (with_reducible repeat (first | refine blk_drewN ?_ _ | refine blk_drew ?_ | refine blk_alloc ?_ _)); exact BK371.out⟩, ⟨by repeat (first | (with_reducible first | exact HB.out | apply below_alloc | apply pw_below_drewN | apply below_drew1 | refine below_set ?_ GE371.out) | exact HB.out)⟩⟩
                                · rw [if_neg c46] at H
                                  have c46b0 : ((bt a0 x26_2) == 45) = false := beq_eq_false_iff_ne.mpr c46
                                  have c46b1 : ((bt a0 x26_2) != 45) = true := bne_iff_ne.mpr c46
                                  by_cases c47 : (bt a0 x26_2) = 46
                                  · rw [if_pos c47] at H
                                    have c47b0 : ((bt a0 x26_2) == 46) = true := beq_iff_eq.mpr c47
                                    have c47b1 : ((bt a0 x26_2) != 46) = false := bne_eq_false_iff_eq.mpr c47
                                    clear c47
                                    have H' := Aside0.mk H
                                    clear H
                                    have p15 : 0 ≤ (x26_2 : Int) := of_decide_eq_true (by first | (with_reducible assumption) | assumption)
                                    have q15 : x26_2 < (a0.size : Int) := of_decide_eq_true (by first | (with_reducible assumption) | assumption)
                                    have hx15 := bt_at a0 x26_2
                                    replace p15 := eq_true p15
                                    replace q15 := eq_true q15
                                    go_wp2
                                    go_roundg k2
                                    case measure => have := HJ5.out; have := HK2.out; omega
                                    case rel => exact ⟨(true), (wrap64 (x26_2 + 1)), (by first | rfl | (simp; done) | (simp [*]; done)), (by first | rfl | (simp; done) | (simp [*]; done)), H', ⟨by have := HJ5.out; have := HK2.out; omega⟩, ⟨by (with_reducible repeat (first | refine blk_drewN ?_ _ | refine blk_drew ?_ | refine blk_alloc ?_ _)); exact BK371.out⟩, ⟨by repeat (first | (with_reducible first | exact HB.out | apply below_alloc | apply pw_below_drewN | apply below_drew1 | refine below_set ?_ GE371.out) | exact HB.out)⟩⟩
                                  · rw [if_neg c47] at H
                                    have c47b0 : ((bt a0 x26_2) == 46) = false := beq_eq_false_iff_ne.mpr c47
                                    have c47b1 : ((bt a0 x26_2) != 46) = true := bne_iff_ne.mpr c47
                                    by_cases c48 : (bt a0 x26_2) = 35
                                    · rw [if_pos c48] at H
                                      have c48b0 : ((bt a0 x26_2) == 35) = true := beq_iff_eq.mpr c48
                                      have c48b1 : ((bt a0 x26_2) != 35) = false := bne_eq_false_iff_eq.mpr c48
                                      clear c48
                                      have H' := Aside0.mk H
                                      clear H
                                      have p15 : 0 ≤ (x26_2 : Int) := of_decide_eq_true (by first | (with_reducible assumption) | assumption)
                                      have q15 : x26_2 < (a0.size : Int) := of_decide_eq_true (by first | (with_reducible assumption) | assumption)
                                      have hx15 := bt_at a0 x26_2
                                      replace p15 := eq_true p15
                                      replace q15 := eq_true q15
                                      go_wp2
                                      go_roundg k2
                                      case measure => have := HJ5.out; have := HK2.out; omega
                                      case rel => exact ⟨(true), (wrap64 (x26_2 + 1)), (by first | rfl | (simp; done) | (simp [*]; done)), (by first | rfl | (simp; done) | (simp [*]; done)), H', ⟨by have := HJ5.out; have := HK2.out; omega⟩, ⟨by (with_reducible repeat (first | refine blk_drewN ?_ _ | refine blk_drew ?_ | refine blk_alloc ?_ _)); exact BK371.out⟩, ⟨by repeat (first | (with_reducible first | exact HB.out | apply below_alloc | apply pw_below_drewN | apply below_drew1 | refine below_set ?_ GE371.out) | exact HB.out)⟩⟩
                                    · rw [if_neg c48] at H
                                      have c48b0 : ((bt a0 x26_2) == 35) = false := beq_eq_false_iff_ne.mpr c48
                                      have c48b1 : ((bt a0 x26_2) != 35) = true := bne_iff_ne.mpr c48
                                      have H' := Aside0.mk H
                                      clear H
                                      have p15 : 0 ≤ (x26_2 : Int) := of_decide_eq_true (by first | (with_reducible assumption) | assumption)
                                      have q15 : x26_2 < (a0.size : Int) := of_decide_eq_true (by first | (with_reducible assumption) | assumption)
                                      have hx15 := bt_at a0 x26_2
                                      replace p15 := eq_true p15
                                      replace q15 := eq_true q15
                                      go_wp2
                                      go_roundg k2
                                      case measure => have := HJ5.out; have := HK2.out; omega
                                      case rel => exact ⟨(decide ((bt a0 x26_2) > 127)), (wrap64 (x26_2 + 1)), (by first | rfl | (simp; done) | (simp [*]; done)), (by first | rfl | (simp; done) | (simp [*]; done)), H', ⟨by have := HJ5.out; have := HK2.out; omega⟩, ⟨by (with_reducible repeat (first | refine blk_drewN ?_ _ | refine blk_drew ?_ | refine blk_alloc ?_ _)); exact BK371.out⟩, ⟨by repeat (first | (with_reducible first | exact HB.out | apply below_alloc | apply pw_below_drewN | apply below_drew1 | refine below_set ?_ GE371.out) | exact HB.out)⟩⟩
                          · rw [if_neg c43] at H
                            have c43b0 : decide (48 ≤ (bt a0 x26_2)) = false := decide_eq_false c43
                            clear c43
                            by_cases c49 : (bt a0 x26_2) = 95
                            · rw [if_pos c49] at H
                              have c49b0 : ((bt a0 x26_2) == 95) = true := beq_iff_eq.mpr c49
                              have c49b1 : ((bt a0 x26_2) != 95) = false := bne_eq_false_iff_eq.mpr c49
                              clear c49
                              have H' := Aside0.mk H
                              clear H
                              have p15 : 0 ≤ (x26_2 : Int) := of_decide_eq_true (by first | (with_reducible assumption) | assumption)
                              have q15 : x26_2 < (a0.size : Int) := of_decide_eq_true (by first | (with_reducible assumption) | assumption)
                              have hx15 := bt_at a0 x26_2
                              replace p15 := eq_true p15
                              replace q15 := eq_true q15
                              go_wp2
                              go_roundg k2
                              case measure => have := HJ5.out; have := HK2.out; omega
                              case rel => exact ⟨(true), (wrap64 (x26_2 + 1)), (by first | rfl | (simp; done) | (simp [*]; done)), (by first | rfl | (simp; done) | (simp [*]; done)), H', ⟨by have := HJ5.out; have := HK2.out; omega⟩, ⟨by (with_reducible repeat (first | refine blk_drewN ?_ _ | refine blk_drew ?_ | refine blk_alloc ?_ _)); exact BK371.out⟩, ⟨by repeat (first | (with_reducible first | exact HB.out | apply below_alloc | apply pw_below_drewN | apply below_drew1 | refine below_set ?_ GE371.out) | exact HB.out)⟩⟩
                            · rw [if_neg c49] at H
                              have c49b0 : ((bt a0 x26_2) == 95) = false := beq_eq_false_iff_ne.mpr c49
                              have c49b1 : ((bt a0 x26_2) != 95) = true := bne_iff_ne.mpr c49
                              by_cases c50 : (bt a0 x26_2) = 45
                              · rw [if_pos c50] at H
                                have c50b0 : ((bt a0 x26_2) == 45) = true := beq_iff_eq.mpr c50
                                have c50b1 : ((bt a0 x26_2) != 45) = false := bne_eq_false_iff_eq.mpr c50
                                clear c50
                                have H' := Aside0.mk H
                                clear H
                                have p15 : 0 ≤ (x26_2 : Int) := of_decide_eq_true (by first | (with_reducible assumption) | assumption)
                                have q15 : x26_2 < (a0.size : Int) := of_decide_eq_true (by first | (with_reducible assumption) | assumption)
                                have hx15 := bt_at a0 x26_2
                                replace p15 := eq_true p15
                                replace q15 := eq_true q15
                                go_wp2
                                go_roundg k2
                                case measure => have := HJ5.out; have := HK2.out; omega
                                case rel => exact ⟨(true), (wrap64 (x26_2 + 1)), (by first | rfl | (simp; done) | (simp [*]; done)), (by first | rfl | (simp; done) | (simp [*]; done)), H', ⟨by have := HJ5.out; have := HK2.out; omega⟩, ⟨by (with_reducible repeat (first | refine blk_drewN ?_ _ | refine blk_drew ?_ | refine blk_alloc ?_ _)); exact BK371.out⟩, ⟨by repeat (first | (with_reducible first | exact HB.out | apply below_alloc | apply pw_below_drewN | apply below_drew1 | refine below_set ?_ GE371.out) | exact HB.out)⟩⟩
                              · rw [if_neg c50] at H
                                have c50b0 : ((bt a0 x26_2) == 45) = false := beq_eq_false_iff_ne.mpr c50
                                have c50b1 : ((bt a0 x26_2) != 45) = true := bne_iff_ne.mpr c50
                                by_cases c51 : (bt a0 x26_2) = 46
                                · rw [if_pos c51] at H
                                  have c51b0 : ((bt a0 x26_2) == 46) = true := beq_iff_eq.mpr c51
                                  have c51b1 : ((bt a0 x26_2) != 46) = false := bne_eq_false_iff_eq.mpr c51
                                  clear c51
                                  have H' := Aside0.mk H
                                  clear H
                                  have p15 : 0 ≤ (x26_2 : Int) := of_decide_eq_true (by first | (with_reducible assumption) | assumption)
                                  have q15 : x26_2 < (a0.size : Int) := of_decide_eq_true (by first | (with_reducible assumption) | assumption)
                                  have hx15 := bt_at a0 x26_2
                                  replace p15 := eq_true p15
                                  replace q15 := eq_true q15
                                  go_wp2
                                  go_roundg k2
                                  case measure => have := HJ5.out; have := HK2.out; omega
                                  case rel => exact ⟨(true), (wrap64 (x26_2 + 1)), (by first | rfl | (simp; done) | (simp [*]; done)), (by first | rfl | (simp; done) | (simp [*]; done)), H', ⟨by have := HJ5.out; have := HK2.out; omega⟩, ⟨by (with_reducible repeat (first | refine blk_drewN ?_ _ | refine blk_drew ?_ | refine blk_alloc ?_ _)); exact BK371.out⟩, ⟨by repeat (first | (with_reducible first | exact HB.out | apply below_alloc | apply pw_below_drewN | apply below_drew1 | refine below_set ?_ GE371.out) | exact HB.out)⟩⟩
                                · rw [if_neg c51] at H
                                  have c51b0 : ((bt a0 x26_2) == 46) = false := beq_eq_false_iff_ne.mpr c51
                                  have c51b1 : ((bt a0 x26_2) != 46) = true := bne_iff_ne.mpr c51
                                  by_cases c52 : (bt a0 x26_2) = 35
                                  · rw [if_pos c52] at H
                                    have c52b0 : ((bt a0 x26_2) == 35) = true := beq_iff_eq.mpr c52
                                    have c52b1 : ((bt a0 x26_2) != 35) = false := bne_eq_false_iff_eq.mpr c52
                                    clear c52
                                    have H' := Aside0.mk H
                                    clear H
                                    have p15 : 0 ≤ (x26_2 : Int) := of_decide_eq_true (by first | (with_reducible assumption) | assumption)
                                    have q15 : x26_2 < (a0.size : Int) := of_decide_eq_true (by first | (with_reducible assumption) | assumption)
                                    have hx15 := bt_at a0 x26_2
                                    replace p15 := eq_true p15
                                    replace q15 := eq_true q15
                                    go_wp2
                                    go_roundg k2
                                    case measure => have := HJ5.out; have := HK2.out; omega
                                    case rel => exact ⟨(true), (wrap64 (x26_2 + 1)), (by first | rfl | (simp; done) | (simp [*]; done)), (by first | rfl | (simp; done) | (simp [*]; done)), H', ⟨by have := HJ5.out; have := HK2.out; omega⟩, ⟨by (with_reducible repeat (first | refine blk_drewN ?_ _ | refine blk_drew ?_ | refine blk_alloc ?_ _)); exact BK371.out⟩, ⟨by repeat (first | (with_reducible first | exact HB.out | apply below_alloc | apply pw_below_drewN | apply below_drew1 | refine below_set ?_ GE371.out) | exact HB.out)⟩⟩
                                  · rw [if_neg c52] at H
                                    have c52b0 : ((bt a0 x26_2) == 35) = false := beq_eq_false_iff_ne.mpr c52
                                    have c52b1 : ((bt a0 x26_2) != 35) = true := bne_iff_ne.mpr c52
                                    have H' := Aside0.mk H
                                    clear H
                                    have p15 : 0 ≤ (x26_2 : Int) := of_decide_eq_true (by first | (with_reducible assumption) | assumption)
                                    have q15 : x26_2 < (a0.size : Int) := of_decide_eq_true (by first | (with_reducible assumption) | assumption)
                                    have hx15 := bt_at a0 x26_2
                                    replace p15 := eq_true p15
                                    replace q15 := eq_true q15
                                    go_wp2
                                    go_roundg k2
                                    case measure => have := HJ5.out; have := HK2.out; omega
                                    case rel => exact ⟨(decide ((bt a0 x26_2) > 127)), (wrap64 (x26_2 + 1)), (by first | rfl | (simp; done) | (simp [*]; done)), (by first | rfl | (simp; done) | (simp [*]; done)), H', ⟨by have := HJ5.out; have := HK2.out; omega⟩, ⟨by (with_reducible repeat (first | refine blk_drewN ?_ _ | refine blk_drew ?_ | refine blk_alloc ?_ _)); exact BK371.out⟩, ⟨by repeat (first | (with_reducible first | exact HB.out | apply below_alloc | apply pw_below_drewN | apply below_drew1 | refine below_set ?_ GE371.out) | exact HB.out)⟩⟩
                      · rw [if_neg c41] at H
                        have c41b0 : decide (65 ≤ (bt a0 x26_2)) = false := decide_eq_false c41
                        clear c41
                        by_cases c53 : (bt a0 x26_2) ≥ 48
                        · rw [if_pos c53] at H
                          have c53b0 : decide (48 ≤ (bt a0 x26_2)) = true := decide_eq_true c53
                          clear c53
                          by_cases c54 : (bt a0 x26_2) ≤ 57
                          · rw [if_pos c54] at H
                            have c54b0 : decide ((bt a0 x26_2) ≤ 57) = true := decide_eq_true c54
                            clear c54
                            have H' := Aside0.mk H
                            clear H
                            have p15 : 0 ≤ (x26_2 : Int) := of_decide_eq_true (by first | (with_reducible assumption) | assumption)
                            have q15 : x26_2 < (a0.size : Int) := of_decide_eq_true (by first | (with_reducible assumption) | assumption)
                            have hx15 := bt_at a0 x26_2
                            replace p15 := eq_true p15
                            replace q15 := eq_true q15
                            go_wp2
                            go_roundg k2
                            case measure => have := HJ5.out; have := HK2.out; omega
                            case rel => exact ⟨(true), (wrap64 (x26_2 + 1)), (by first | rfl | (simp; done) | (simp [*]; done)), (by first | rfl | (simp; done) | (simp [*]; done)), H', ⟨by have := HJ5.out; have := HK2.out; omega⟩, ⟨by (with_reducible repeat (first | refine blk_drewN ?_ _ | refine blk_drew ?_ | refine blk_alloc ?_ _)); exact BK371.out⟩, ⟨by repeat (first | (with_reducible first | exact HB.out | apply below_alloc | apply pw_below_drewN | apply below_drew1 | refine below_set ?_ GE371.out) | exact HB.out)⟩⟩
                          · rw [if_neg c54] at H
                            have c54b0 : decide ((bt a0 x26_2) ≤ 57) = false := decide_eq_false c54
                            clear c54
                            by_cases c55 : (bt a0 x26_2) = 95
                            · rw [if_pos c55] at H
                              have c55b0 : ((bt a0 x26_2) == 95) = true := beq_iff_eq.mpr c55
                              have c55b1 : ((bt a0 x26_2) != 95) = false := bne_eq_false_iff_eq.mpr c55
                              clear c55
                              have H' := Aside0.mk H
                              clear H
                              have p15 : 0 ≤ (x26_2 : Int) := of_decide_eq_true (by first | (with_reducible assumption) | assumption)
                              have q15 : x26_2 < (a0.size : Int) := of_decide_eq_true (by first | (with_reducible assumption) | assumption)
                              have hx15 := bt_at a0 x26_2
                              replace p15 := eq_true p15
                              replace q15 := eq_true q15
                              go_wp2
                              go_roundg k2
                              case measure => have := HJ5.out; have := HK2.out; omega
                              case rel => exact ⟨(true), (wrap64 (x26_2 + 1)), (by first | rfl | (simp; done) | (simp [*]; done)), (by first | rfl | (simp; done) | (simp [*]; done)), H', ⟨by have := HJ5.out; have := HK2.out; omega⟩, ⟨by (with_reducible repeat (first | refine blk_drewN ?_ _ | refine blk_drew ?_ | refine blk_alloc ?_ _)); exact BK371.out⟩, ⟨by repeat (first | (with_reducible first | exact HB.out | apply below_alloc | apply pw_below_drewN | apply below_drew1 | refine below_set ?_ GE371.out) | exact HB.out)⟩⟩
                            · rw [if_neg c55] at H
                              have c55b0 : ((bt a0 x26_2) == 95) = false := beq_eq_false_iff_ne.mpr c55
                              have c55b1 : ((bt a0 x26_2) != 95) = true := bne_iff_ne.mpr c55
                              by_cases c56 : (bt a0 x26_2) = 45
                              · rw [if_pos c56] at H
                                have c56b0 : ((bt a0 x26_2) == 45) = true := beq_iff_eq.mpr c56
                                have c56b1 : ((bt a0 x26_2) != 45) = false := bne_eq_false_iff_eq.mpr c56
                                clear c56
                                have H' := Aside0.mk H
                                clear H
                                have p15 : 0 ≤ (x26_2 : Int) := of_decide_eq_true (by first | (with_reducible assumption) | assumption)
                                have q15 : x26_2 < (a0.size : Int) := of_decide_eq_true (by first | (with_reducible assumption) | assumption)
                                have hx15 := bt_at a0 x26_2
                                replace p15 := eq_true p15
                                replace q15 := eq_true q15
                                go_wp2
                                go_roundg k2
                                case measure => have := HJ5.out; have := HK2.out; omega
                                case rel => exact ⟨(true), (wrap64 (x26_2 + 1)), (by first | rfl | (simp; done) | (simp [*]; done)), (by first | rfl | (simp; done) | (simp [*]; done)), H', ⟨by have := HJ5.out; have := HK2.out; omega⟩, ⟨by (with_reducible repeat (first | refine blk_drewN ?_ _ | refine blk_drew ?_ | refine blk_alloc ?_ _)); exact BK371.out⟩, ⟨by repeat (first | (with_reducible first | exact HB.out | apply below_alloc | apply pw_below_drewN | apply below_drew1 | refine below_set ?_ GE371.out) | exact HB.out)⟩⟩
                              · rw [if_neg c56] at H
                                have c56b0 : ((bt a0 x26_2) == 45) = false := beq_eq_false_iff_ne.mpr c56
                                have c56b1 : ((bt a0 x26_2) != 45) = true := bne_iff_ne.mpr c56
                                by_cases c57 : (bt a0 x26_2) = 46
                                · rw [if_pos c57] at H
                                  have c57b0 : ((bt a0 x26_2) == 46) = true := beq_iff_eq.mpr c57
                                  have c57b1 : ((bt a0 x26_2) != 46) = false := bne_eq_false_iff_eq.mpr c57
                                  clear c57
                                  have H' := Aside0.mk H
                                  clear H
                                  have p15 : 0 ≤ (x26_2 : Int) := of_decide_eq_true (by first | (with_reducible assumption) | assumption)
                                  have q15 : x26_2 < (a0.size : Int) := of_decide_eq_true (by first | (with_reducible assumption) | assumption)
                                  have hx15 := bt_at a0 x26_2
                                  replace p15 := eq_true p15
                                  replace q15 := eq_true q15
                                  go_wp2
                                  go_roundg k2
                                  case measure => have := HJ5.out; have := HK2.out; omega
                                  case rel => exact ⟨(true), (wrap64 (x26_2 + 1)), (by first | rfl | (simp; done) | (simp [*]; done)), (by first | rfl | (simp; done) | (simp [*]; done)), H', ⟨by have := HJ5.out; have := HK2.out; omega⟩, ⟨by (with_reducible repeat (first | refine blk_drewN ?_ _ | refine blk_drew ?_ | refine blk_alloc ?_ _)); exact BK371.out⟩, ⟨by repeat (first | (with_reducible first | exact HB.out | apply below_alloc | apply pw_below_drewN | apply below_drew1 | refine below_set ?_ GE371.out) | exact HB.out)⟩⟩
                                · rw [if_neg c57] at H
                                  have c57b0 : ((bt a0 x26_2) == 46) = false := beq_eq_false_iff_ne.mpr c57
                                  have c57b1 : ((bt a0 x26_2) != 46) = true := bne_iff_ne.mpr c57
                                  by_cases c58 : (bt a0 x26_2) = 35
                                  · rw [if_pos c58] at H
                                    have c58b0 : ((bt a0 x26_2) == 35) = true := beq_iff_eq.mpr c58
                                    have c58b1 : ((bt a0 x26_2) != 35) = false := bne_eq_false_iff_eq.mpr c58
                                    clear c58
                                    have H' := Aside0.mk H
                                    clear H
                                    have p15 : 0 ≤ (x26_2 : Int) := of_decide_eq_true (by first | (with_reducible assumption) | assumption)
                                    have q15 : x26_2 < (a0.size : Int) := of_decide_eq_true (by first | (with_reducible assumption) | assumption)
                                    have hx15 := bt_at a0 x26_2
                                    replace p15 := eq_true p15
                                    replace q15 := eq_true q15
                                    go_wp2
                                    go_roundg k2
                                    case measure => have := HJ5.out; have := HK2.out; omega
                                    case rel => exact ⟨(true), (wrap64 (x26_2 + 1)), (by first | rfl | (simp; done) | (simp [*]; done)), (by first | rfl | (simp; done) | (simp [*]; done)), H', ⟨by have := HJ5.out; have := HK2.out; omega⟩, ⟨by (with_reducible repeat (first | refine blk_drewN ?_ _ | refine blk_drew ?_ | refine blk_alloc ?_ _)); exact BK371.out⟩, ⟨by repeat (first | (with_reducible first | exact HB.out | apply below_alloc | apply pw_below_drewN | apply below_drew1 | refine below_set ?_ GE371.out) | exact HB.out)⟩⟩
                                  · rw [if_neg c58] at H
                                    have c58b0 : ((bt a0 x26_2) == 35) = false := beq_eq_false_iff_ne.mpr c58
                                    have c58b1 : ((bt a0 x26_2) != 35) = true := bne_iff_ne.mpr c58
                                    have H' := Aside0.mk H
                                    clear H
                                    have p15 : 0 ≤ (x26_2 : Int) := of_decide_eq_true (by first | (with_reducible assumption) | assumption)
                                    have q15 : x26_2 < (a0.size : Int) := of_decide_eq_true (by first | (with_reducible assumption) | assumption)
                                    have hx15 := bt_at a0 x26_2
                                    replace p15 := eq_true p15
                                    replace q15 := eq_true q15
                                    go_wp2
                                    go_roundg k2
                                    case measure => have := HJ5.out; have := HK2.out; omega
                                    case rel => exact ⟨(decide ((bt a0 x26_2) > 127)), (wrap64 (x26_2 + 1)), (by first | rfl | (simp; done) | (simp [*]; done)), (by first | rfl | (simp; done) | (simp [*]; done)), H', ⟨by have := HJ5.out; have := HK2.out; omega⟩, ⟨by (with_reducible repeat (first | refine blk_drewN ?_ _ | refine blk_drew ?_ | refine blk_alloc ?_ _)); exact BK371.out⟩, ⟨by repeat (first | (with_reducible first | exact HB.out | apply below_alloc | apply pw_below_drewN | apply below_drew1 | refine below_set ?_ GE371.out) | exact HB.out)⟩⟩
                        · rw [if_neg c53] at H
                          have c53b0 : decide (48 ≤ (bt a0 x26_2)) = false := decide_eq_false c53
                          clear c53
                          by_cases c59 : (bt a0 x26_2) = 95
                          · rw [if_pos c59] at H
                            have c59b0 : ((bt a0 x26_2) == 95) = true := beq_iff_eq.mpr c59
                            have c59b1 : ((bt a0 x26_2) != 95) = false := bne_eq_false_iff_eq.mpr c59
                            clear c59
                            have H' := Aside0.mk H
                            clear H
                            have p15 : 0 ≤ (x26_2 : Int) := of_decide_eq_true (by first | (with_reducible assumption) | assumption)
                            have q15 : x26_2 < (a0.size : Int) := of_decide_eq_true (by first | (with_reducible assumption) | assumption)
                            have hx15 := bt_at a0 x26_2
                            replace p15 := eq_true p15
                            replace q15 := eq_true q15
                            go_wp2
                            go_roundg k2
                            case measure => have := HJ5.out; have := HK2.out; omega
                            case rel => exact ⟨(true), (wrap64 (x26_2 + 1)), (by first | rfl | (simp; done) | (simp [*]; done)), (by first | rfl | (simp; done) | (simp [*]; done)), H', ⟨by have := HJ5.out; have := HK2.out; omega⟩, ⟨by (with_reducible repeat (first | refine blk_drewN ?_ _ | refine blk_drew ?_ | refine blk_alloc ?_ _)); exact BK371.out⟩, ⟨by repeat (first | (with_reducible first | exact HB.out | apply below_alloc | apply pw_below_drewN | apply below_drew1 | refine below_set ?_ GE371.out) | exact HB.out)⟩⟩
                          · rw [if_neg c59] at H
                            have c59b0 : ((bt a0 x26_2) == 95) = false := beq_eq_false_iff_ne.mpr c59
                            have c59b1 : ((bt a0 x26_2) != 95) = true := bne_iff_ne.mpr c59
                            by_cases c60 : (bt a0 x26_2) = 45
                            · rw [if_pos c60] at H
                              have c60b0 : ((bt a0 x26_2) == 45) = true := beq_iff_eq.mpr c60
                              have c60b1 : ((bt a0 x26_2) != 45) = false := bne_eq_false_iff_eq.mpr c60
                              clear c60
                              have H' := Aside0.mk H
                              clear H
                              have p15 : 0 ≤ (x26_2 : Int) := of_decide_eq_true (by first | (with_reducible assumption) | assumption)
                              have q15 : x26_2 < (a0.size : Int) := of_decide_eq_true (by first | (with_reducible assumption) | assumption)
                              have hx15 := bt_at a0 x26_2
                              replace p15 := eq_true p15
                              replace q15 := eq_true q15
                              go_wp2
                              go_roundg k2
                              case measure => have := HJ5.out; have := HK2.out; omega
                              case rel => exact ⟨(true), (wrap64 (x26_2 + 1)), (by first | rfl | (simp; done) | (simp [*]; done)), (by first | rfl | (simp; done) | (simp [*]; done)), H', ⟨by have := HJ5.out; have := HK2.out; omega⟩, ⟨by (with_reducible repeat (first | refine blk_drewN ?_ _ | refine blk_drew ?_ | refine blk_alloc ?_ _)); exact BK371.out⟩, ⟨by repeat (first | (with_reducible first | exact HB.out | apply below_alloc | apply pw_below_drewN | apply below_drew1 | refine below_set ?_ GE371.out) | exact HB.out)⟩⟩
                            · rw [if_neg c60] at H
                              have c60b0 : ((bt a0 x26_2) == 45) = false := beq_eq_false_iff_ne.mpr c60
                              have c60b1 : ((bt a0 x26_2) != 45) = true := bne_iff_ne.mpr c60
                              by_cases c61 : (bt a0 x26_2) = 46
                              · rw [if_pos c61] at H
                                have c61b0 : ((bt a0 x26_2) == 46) = true := beq_iff_eq.mpr c61
                                have c61b1 : ((bt a0 x26_2) != 46) = false := bne_eq_false_iff_eq.mpr c61
                                clear c61
                                have H' := Aside0.mk H
                                clear H
                                have p15 : 0 ≤ (x26_2 : Int) := of_decide_eq_true (by first | (with_reducible assumption) | assumption)
                                have q15 : x26_2 < (a0.size : Int) := of_decide_eq_true (by first | (with_reducible assumption) | assumption)
                                have hx15 := bt_at a0 x26_2
                                replace p15 := eq_true p15
                                replace q15 := eq_true q15
                                go_wp2
                                go_roundg k2
                                case measure => have := HJ5.out; have := HK2.out; omega
                                case rel => exact ⟨(true), (wrap64 (x26_2 + 1)), (by first | rfl | (simp; done) | (simp [*]; done)), (by first | rfl | (simp; done) | (simp [*]; done)), H', ⟨by have := HJ5.out; have := HK2.out; omega⟩, ⟨by (with_reducible repeat (first | refine blk_drewN ?_ _ | refine blk_drew ?_ | refine blk_alloc ?_ _)); exact BK371.out⟩, ⟨by repeat (first | (with_reducible first | exact HB.out | apply below_alloc | apply pw_below_drewN | apply below_drew1 | refine below_set ?_ GE371.out) | exact HB.out)⟩⟩
                              · rw [if_neg c61] at H
                                have c61b0 : ((bt a0 x26_2) == 46) = false := beq_eq_false_iff_ne.mpr c61
                                have c61b1 : ((bt a0 x26_2) != 46) = true := bne_iff_ne.mpr c61
                                by_cases c62 : (bt a0 x26_2) = 35
                                · rw [if_pos c62] at H
                                  have c62b0 : ((bt a0 x26_2) == 35) = true := beq_iff_eq.mpr c62
                                  have c62b1 : ((bt a0 x26_2) != 35) = false := bne_eq_false_iff_eq.mpr c62
                                  clear c62
                                  have H' := Aside0.mk H
                                  clear H
                                  have p15 : 0 ≤ (x26_2 : Int) := of_decide_eq_true (by first | (with_reducible assumption) | assumption)
                                  have q15 : x26_2 < (a0.size : Int) := of_decide_eq_true (by first | (with_reducible assumption) | assumption)
                                  have hx15 := bt_at a0 x26_2
                                  replace p15 := eq_true p15
                                  replace q15 := eq_true q15
                                  go_wp2
                                  go_roundg k2
                                  case measure => have := HJ5.out; have := HK2.out; omega
                                  case rel => exact ⟨(true), (wrap64 (x26_2 + 1)), (by first | rfl | (simp; done) | (simp [*]; done)), (by first | rfl | (simp; done) | (simp [*]; done)), H', ⟨by have := HJ5.out; have := HK2.out; omega⟩, ⟨by (with_reducible repeat (first | refine blk_drewN ?_ _ | refine blk_drew ?_ | refine blk_alloc ?_ _)); exact BK371.out⟩, ⟨by repeat (first | (with_reducible first | exact HB.out | apply below_alloc | apply pw_below_drewN | apply below_drew1 | refine below_set ?_ GE371.out) | exact HB.out)⟩⟩
                                · rw [if_neg c62] at H
                                  have c62b0 : ((bt a0 x26_2) == 35) = false := beq_eq_false_iff_ne.mpr c62
                                  have c62b1 : ((bt a0 x26_2) != 35) = true := bne_iff_ne.mpr c62
                                  have H' := Aside0.mk H
                                  clear H
                                  have p15 : 0 ≤ (x26_2 : Int) := of_decide_eq_true (by first | (with_reducible assumption) | assumption)
                                  have q15 : x26_2 < (a0.size : Int) := of_decide_eq_true (by first | (with_reducible assumption) | assumption)
                                  have hx15 := bt_at a0 x26_2
                                  replace p15 := eq_true p15
                                  replace q15 := eq_true q15
                                  go_wp2
                                  go_roundg k2
                                  case measure => have := HJ5.out; have := HK2.out; omega
                                  case rel => exact ⟨(decide ((bt a0 x26_2) > 127)), (wrap64 (x26_2 + 1)), (by first | rfl | (simp; done) | (simp [*]; done)), (by first | rfl | (simp; done) | (simp [*]; done)), H', ⟨by have := HJ5.out; have := HK2.out; omega⟩, ⟨by (with_reducible repeat (first | refine blk_drewN ?_ _ | refine blk_drew ?_ | refine blk_alloc ?_ _)); exact BK371.out⟩, ⟨by repeat (first | (with_reducible first | exact HB.out | apply below_alloc | apply pw_below_drewN | apply below_drew1 | refine below_set ?_ GE371.out) | exact HB.out)⟩⟩
                  · replace c16 := Bool.eq_false_iff.mpr c16
                    subst c16
                    have H1 : (pennantlaw16_RouteIds.l0 k2 a0 t370 false (a0.size : Int) (wrap64 (x26_2 + 1)) t365 t366 t367 t368 t369) = some r := by rw [if_neg (show ¬ (false = true) by decide)] at H; exact H
                    clear H
                    have H := H1
                    clear H1
                    have H' := Aside0.mk H
                    clear H
                    have p15 : 0 ≤ (x26_2 : Int) := of_decide_eq_true (by first | (with_reducible assumption) | assumption)
                    have q15 : x26_2 < (a0.size : Int) := of_decide_eq_true (by first | (with_reducible assumption) | assumption)
                    have hx15 := bt_at a0 x26_2
                    replace p15 := eq_true p15
                    replace q15 := eq_true q15
                    go_wp2
                    go_roundg k2
                    case measure => have := HJ5.out; have := HK2.out; omega
                    case rel => exact ⟨(false), (wrap64 (x26_2 + 1)), (by first | rfl | (simp; done) | (simp [*]; done)), (by first | rfl | (simp; done) | (simp [*]; done)), H', ⟨by have := HJ5.out; have := HK2.out; omega⟩, ⟨by (with_reducible repeat (first | refine blk_drewN ?_ _ | refine blk_drew ?_ | refine blk_alloc ?_ _)); exact BK371.out⟩, ⟨by repeat (first | (with_reducible first | exact HB.out | apply below_alloc | apply pw_below_drewN | apply below_drew1 | refine below_set ?_ GE371.out) | exact HB.out)⟩⟩
                · rw [if_neg c14] at H
                  exact absurd H (by simp)
              · rw [if_neg c13] at H
                exact absurd H (by simp)
            · rw [if_neg c12] at H
              have c12b0 : decide (x26_2 < (a0.size : Int)) = false := decide_eq_false c12
              clear c12
              by_cases c63 : x5_2 = true
              · subst c63
                have H1 : (if t370 = 0 then (some (t365 == 4 && (t366.toList == a0.toList && (t367.toList == ([] : List UInt8) && (t368 == 0 && (t369.toList == ([] : List UInt8))))))) else (some false)) = some r := by rw [if_pos rfl] at H; exact H
                clear H
                have H := H1
                clear H1
                by_cases c64 : t370 = 0
                · rw [if_pos c64] at H
                  have c64b0 : (t370 == 0) = true := beq_iff_eq.mpr c64
                  have c64b1 : (t370 != 0) = false := bne_eq_false_iff_eq.mpr c64
                  clear c64
                  obtain rfl := Option.some.inj H
                  have hcz65_0 : wr.cell? ⟨gb371, 0, none⟩ = some (.int .i64 t365) := (blk_cell BK371.out 0).trans rfl
                  have hcz65_1 : wr.cell? ⟨gb371, 1, none⟩ = some (.string t366) := (blk_cell BK371.out 1).trans rfl
                  have hcz65_2 : wr.cell? ⟨gb371, 2, none⟩ = some (.string t367) := (blk_cell BK371.out 2).trans rfl
                  have hcz65_3 : wr.cell? ⟨gb371, 3, none⟩ = some (.int .i64 t368) := (blk_cell BK371.out 3).trans rfl
                  have hcz65_4 : wr.cell? ⟨gb371, 4, none⟩ = some (.string t369) := (blk_cell BK371.out 4).trans rfl
                  have hfz65_0 := blk_frozen BK371.out 0
                  have hfz65_1 := blk_frozen BK371.out 1
                  have hfz65_2 := blk_frozen BK371.out 2
                  have hfz65_3 := blk_frozen BK371.out 3
                  have hfz65_4 := blk_frozen BK371.out 4
                  go_wp2
                  go_ret
                  exact ⟨by first | rfl | (simp [errW_none, errW_some] <;> rfl) | (simp [*, errW_none, errW_some] <;> rfl), by repeat (first | (with_reducible first | exact HB.out | apply below_alloc | apply pw_below_drewN | apply below_drew1 | refine below_set ?_ GE371.out) | exact HB.out)⟩
                · rw [if_neg c64] at H
                  have c64b0 : (t370 == 0) = false := beq_eq_false_iff_ne.mpr c64
                  have c64b1 : (t370 != 0) = true := bne_iff_ne.mpr c64
                  exact absurd (Option.some.inj H) (by rw [HR_.out]; simp)
              · replace c63 := Bool.eq_false_iff.mpr c63
                subst c63
                have H1 : (if t370 = 0 then (if t365 = 5 then (if 6 + a0.size ≤ 9223372036854775807 then (some (t366.toList == ((⟨#[115, 99, 120, 109, 108, 95]⟩ : ByteArray) ++ a0).toList)) else (none)) else (some false)) else (some true)) = some r := by rw [if_neg (show ¬ (false = true) by decide)] at H; exact H
                clear H
                have H := H1
                clear H1
                by_cases c66 : t370 = 0
                · rw [if_pos c66] at H
                  have c66b0 : (t370 == 0) = true := beq_iff_eq.mpr c66
                  have c66b1 : (t370 != 0) = false := bne_eq_false_iff_eq.mpr c66
                  clear c66
                  by_cases c67 : t365 = 5
                  · rw [if_pos c67] at H
                    have c67b0 : (t365 == 5) = true := beq_iff_eq.mpr c67
                    have c67b1 : (t365 != 5) = false := bne_eq_false_iff_eq.mpr c67
                    clear c67
                    by_cases c68 : 6 + a0.size ≤ 9223372036854775807
                    · rw [if_pos c68] at H
                      have c68b0 := eq_true c68
                      have c68b1 : decide (6 + a0.size ≤ 9223372036854775807) = true := decide_eq_true c68
                      try have c68b2 : (9223372036854775807 < 6 + a0.size) = False := eq_false (Nat.not_lt.2 c68)
                      obtain rfl := Option.some.inj H
                      have hcz69_0 : wr.cell? ⟨gb371, 0, none⟩ = some (.int .i64 t365) := (blk_cell BK371.out 0).trans rfl
                      have hcz69_1 : wr.cell? ⟨gb371, 1, none⟩ = some (.string t366) := (blk_cell BK371.out 1).trans rfl
                      have hcz69_2 : wr.cell? ⟨gb371, 2, none⟩ = some (.string t367) := (blk_cell BK371.out 2).trans rfl
                      have hcz69_3 : wr.cell? ⟨gb371, 3, none⟩ = some (.int .i64 t368) := (blk_cell BK371.out 3).trans rfl
                      have hcz69_4 : wr.cell? ⟨gb371, 4, none⟩ = some (.string t369) := (blk_cell BK371.out 4).trans rfl
                      have hfz69_0 := blk_frozen BK371.out 0
                      have hfz69_1 := blk_frozen BK371.out 1
                      have hfz69_2 := blk_frozen BK371.out 2
                      have hfz69_3 := blk_frozen BK371.out 3
                      have hfz69_4 := blk_frozen BK371.out 4
                      go_wp2
                      go_ret
                      exact ⟨by first | rfl | (simp [errW_none, errW_some] <;> rfl) | (simp [*, errW_none, errW_some] <;> rfl), by repeat (first | (with_reducible first | exact HB.out | apply below_alloc | apply pw_below_drewN | apply below_drew1 | refine below_set ?_ GE371.out) | exact HB.out)⟩
                    · rw [if_neg c68] at H
                      exact absurd H (by simp)
                  · rw [if_neg c67] at H
                    have c67b0 : (t365 == 5) = false := beq_eq_false_iff_ne.mpr c67
                    have c67b1 : (t365 != 5) = true := bne_iff_ne.mpr c67
                    exact absurd (Option.some.inj H) (by rw [HR_.out]; simp)
                · rw [if_neg c66] at H
                  have c66b0 : (t370 == 0) = false := beq_eq_false_iff_ne.mpr c66
                  have c66b1 : (t370 != 0) = true := bne_iff_ne.mpr c66
                  obtain rfl := Option.some.inj H
                  go_wp2
                  go_ret
                  exact ⟨by first | rfl | (simp [errW_none, errW_some] <;> rfl) | (simp [*, errW_none, errW_some] <;> rfl), by repeat (first | (with_reducible first | exact HB.out | apply below_alloc | apply pw_below_drewN | apply below_drew1 | refine below_set ?_ GE371.out) | exact HB.out)⟩
  · replace c3 := Bool.eq_false_iff.mpr c3
    subst c3
    have H1 : (some false) = some r := by rw [if_neg (show ¬ (false = true) by decide)] at H; exact H
    clear H
    have H := H1
    clear H1
    exact absurd (Option.some.inj H) (by rw [HR_.out]; simp)

end Go.Proofs.YthoknobkkpefkaaDoor.PAll
