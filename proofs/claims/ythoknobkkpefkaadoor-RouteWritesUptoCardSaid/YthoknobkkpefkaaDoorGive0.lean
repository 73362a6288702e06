/- What is taken of Go's library, as the printed texts call it: the tables that must lie in the world, strings.IndexByte, strconv.Itoa. -/
import Derived.Test.YthoknobkkpefkaaDoorShelf
import Derived.Test.YthoknobkkpefkaaDoorWWords
import Derived.Lib.AppendIntMem
import Derived.Lib.AtoiErrMem
namespace Go.Proofs.YthoknobkkpefkaaDoor.PAll
set_option linter.unusedVariables false
set_option linter.unusedSimpArgs false
open Go.RowKit Go.Proofs.YthoknobkkpefkaaDoorW.PrintWords

/-- What the library's variables hold. -/
structure TabsOk (w : World) : Prop where
  max : ∃ m, w.cell? ⟨0, 0, none⟩ = some (.int .i64 m)
  syn : ∃ te pe, w.cell? ⟨1, 0, none⟩ = some (.iface te pe)
  rng : ∃ te pe, w.cell? ⟨2, 0, none⟩ = some (.iface te pe)
  pow : Lib.TabIs Tryd.prog w "internal/strconv.uint64pow10" .u64 Lib.pow10Tab
  u8 : Lib.Utf8Tabs 4 5 w

theorem gPow : Tryd.prog.globalNamed "internal/strconv.uint64pow10" = some 3 := by kernel_rfl

theorem TabsOk.below {w w' : World} (h : TabsOk w) (hb : Below w.heap.size w w') : TabsOk w' where
  max := by obtain ⟨m, hm⟩ := h.max; exact ⟨m, pw_cell_below hb hm⟩
  syn := by obtain ⟨m, p, hm⟩ := h.syn; exact ⟨m, p, pw_cell_below hb hm⟩
  rng := by obtain ⟨m, p, hm⟩ := h.rng; exact ⟨m, p, pw_cell_below hb hm⟩
  pow := by
    have hp := h.pow
    unfold Lib.TabIs World.var? at hp ⊢
    simp only [gPow, Option.bind_some] at hp ⊢
    have hlt : 3 < w.heap.size := by
      rcases Nat.lt_or_ge 3 w.heap.size with h' | h'
      · exact h'
      · rw [Array.getElem?_eq_none h'] at hp; cases hp
    rw [hb.block 3 hlt]
    exact hp
  u8 := Utf8Tabs_below h.u8 hb

/-- strings.IndexByte -/
def strings_IndexByte.f (a0 : ByteArray) (a1 : Int) : Option Int := some (Lib.indexByte a0.data.toList a1.toNat.toUInt8)
theorem strings_IndexByte.calls (a0 : ByteArray) (a1 : Int) (r : Int) (w : World) (h : strings_IndexByte.f a0 a1 = some r) :
    Calls Tryd.prog 26 #[.string a0, .int .u8 a1] w fun e w' => e = .returned (.int .i64 r) ∧ Drawn0 w w' := by
  obtain rfl := Option.some.inj h
  exact (Tryd.strings_IndexByte a0 a1 w).mono fun e w' ⟨he, hw⟩ => ⟨he, ⟨⟨0, hw⟩⟩⟩

/-- strconv.Itoa -/
def strconv_Itoa.f (a0 : Int) : Option ByteArray := if -9223372036854775808 ≤ a0 ∧ a0 ≤ 9223372036854775807 then some ⟨(Lib.itoa a0).toArray⟩ else none
theorem strconv_Itoa.calls (a0 : Int) (r : ByteArray) (w : World) (hT : Aside0 (TabsOk w)) (h : strconv_Itoa.f a0 = some r) :
    Calls Tryd.prog 22 #[.int .i64 a0] w fun e w' => e = .returned (.string r) ∧ Below w.heap.size w w' := by
  unfold strconv_Itoa.f at h
  by_cases hb : -9223372036854775808 ≤ a0 ∧ a0 ≤ 9223372036854775807
  · rw [if_pos hb] at h
    obtain rfl := Option.some.inj h
    exact (Tryd.strconv_Itoa a0 hb.1 hb.2 w hT.out.pow).mono fun e w' ⟨he, k, os, hw⟩ => ⟨he, by rw [hw]; exact Lib.below_grow _ _ (Nat.le_refl _) _ _⟩
  · rw [if_neg hb] at h; cases h
end Go.Proofs.YthoknobkkpefkaaDoor.PAll
