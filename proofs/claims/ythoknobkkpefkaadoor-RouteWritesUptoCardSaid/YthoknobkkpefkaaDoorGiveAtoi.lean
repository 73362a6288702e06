/- strconv.Atoi where it succeeds. -/
import Derived.Test.YthoknobkkpefkaaDoorPUrlx0
namespace Go.Proofs.YthoknobkkpefkaaDoor.PUrl
set_option linter.unusedVariables false
set_option linter.unusedSimpArgs false
open Go.RowKit Go.Proofs.YthoknobkkpefkaaDoorW.PrintWords PAll
/-- strconv.Atoi: its number, and whether there is an error (which one counts for nothing here). -/
def strconv_Atoi.f (a0 : ByteArray) : Option (Int × Option Int) :=
  if a0.size ≤ 281474976710656 then
    match Lib.atoiAll a0.data.toList with
    | .ok v => some (v, none)
    | .range => some (Lib.atoiSat a0.data.toList, some 0)
    | _ => some (0, some 0)
  else none
theorem strconv_Atoi.calls (a0 : ByteArray) (r1 : Int) (r2 : Option Int) (w : World) (hT : Aside0 (TabsOk w)) (h : strconv_Atoi.f a0 = some (r1, r2)) (hn : r2 = none := by rfl) :
    Calls Tryd.prog 28 #[.string a0] w fun e w' => e = .returned (.tuple #[.int .i64 r1, errW r2]) ∧ Below w.heap.size w w' := by
  subst hn
  unfold strconv_Atoi.f at h
  by_cases hs : a0.size ≤ 281474976710656
  · rw [if_pos hs] at h
    cases hA : Lib.atoiAll a0.data.toList
    · rename_i v
      rw [hA] at h
      simp only [Option.some.injEq, Prod.mk.injEq] at h
      obtain ⟨rfl, _⟩ := h
      refine (Tryd.strconv_Atoi_ok a0 (by omega) v hA w).mono ?_
      rintro e w' ⟨he, hw | ⟨t, hw⟩⟩
      · exact ⟨he, by rw [hw]; exact Below.refl _ _⟩
      · exact ⟨he, by rw [hw]; exact Lib.bytesWorld_below _ _ _⟩
    · rw [hA] at h; simp at h
    · rw [hA] at h; simp at h
  · rw [if_neg hs] at h; cases h
/-- Where it fails: an error that is not nil. -/
theorem strconv_Atoi.callsF (a0 : ByteArray) (r1 : Int) (c : Int) (w : World) (hT : Aside0 (TabsOk w)) (h : strconv_Atoi.f a0 = some (r1, some c)) :
    Calls Tryd.prog 28 #[.string a0] w fun e w' => ∃ N : Nat, e = .returned (.tuple #[.int .i64 r1, .iface 74 (.pointer (some ⟨N, 0, none⟩))]) ∧ Below w.heap.size w w' := by
  unfold strconv_Atoi.f at h
  by_cases hs : a0.size ≤ 281474976710656
  · rw [if_pos hs] at h
    cases hA : Lib.atoiAll a0.data.toList
    · rw [hA] at h; simp at h
    · rw [hA] at h
      simp only [Option.some.injEq, Prod.mk.injEq] at h
      obtain ⟨rfl, _⟩ := h
      obtain ⟨te, pe, hv⟩ := hT.out.syn
      have c : Calls Tryd.prog 28 #[.string a0] w _ := Any.strconv_Atoi_syntax Tryd.laysC172 a0 hs hA _ w hv (.inr ⟨te, pe, rfl⟩)
      refine c.mono ?_
      rintro e w' ⟨N, he, _, _, hb⟩
      exact ⟨N, he, hb⟩
    · rw [hA] at h
      simp only [Option.some.injEq, Prod.mk.injEq] at h
      obtain ⟨rfl, _⟩ := h
      obtain ⟨te, pe, hv⟩ := hT.out.rng
      have c : Calls Tryd.prog 28 #[.string a0] w _ := Any.strconv_Atoi_range Tryd.laysC172 a0 hs hA _ w hv (.inr ⟨te, pe, rfl⟩)
      refine c.mono ?_
      rintro e w' ⟨N, he, _, _, hb⟩
      exact ⟨N, he, hb⟩
  · rw [if_neg hs] at h; cases h
def strings_IndexByte.f (a0 : ByteArray) (a1 : Int) : Option Int := some (Lib.indexByte a0.data.toList a1.toNat.toUInt8)
theorem strings_IndexByte.calls (a0 : ByteArray) (a1 : Int) (r : Int) (w : World) (h : strings_IndexByte.f a0 a1 = some r) :
    Calls Tryd.prog 26 #[.string a0, .int .u8 a1] w fun e w' => e = .returned (.int .i64 r) ∧ Below w.heap.size w w' := by
  obtain rfl := Option.some.inj h
  exact (Tryd.strings_IndexByte a0 a1 w).mono fun e w' ⟨he, hw⟩ => ⟨he, by rw [hw]; exact Below.refl _ _⟩
def route_letters.f := PAll.route_letters.f
theorem route_letters.mono (a0 a1 : ByteArray) (k : Nat) : LeO (route_letters.f k a0 a1) (route_letters.f (k + 1) a0 a1) := PAll.route_letters.mono a0 a1 k
theorem route_letters.calls (k : Nat) (a0 a1 : ByteArray) (r : Bool) (w : World) (h : route_letters.f k a0 a1 = some r) :
    Calls Tryd.prog 29 #[.string a0, .string a1] w fun e w' => e = .returned (.bool r) ∧ Below w.heap.size w w' :=
  (PAll.route_letters.calls k a0 a1 r w h).mono fun e w' ⟨he, hw⟩ => ⟨he, hw.below⟩
def route_path.f := PAll.route_path.f
theorem route_path.mono (a0 : ByteArray) (k : Nat) : LeO (route_path.f k a0) (route_path.f (k + 1) a0) := PAll.route_path.mono a0 k
theorem route_path.calls (k : Nat) (a0 : ByteArray) (r : Bool) (w : World) (h : route_path.f k a0 = some r) :
    Calls Tryd.prog 30 #[.string a0] w fun e w' => e = .returned (.bool r) ∧ Below w.heap.size w w' :=
  (PAll.route_path.calls k a0 r w h).mono fun e w' ⟨he, hw⟩ => ⟨he, hw.below⟩
end Go.Proofs.YthoknobkkpefkaaDoor.PUrl
