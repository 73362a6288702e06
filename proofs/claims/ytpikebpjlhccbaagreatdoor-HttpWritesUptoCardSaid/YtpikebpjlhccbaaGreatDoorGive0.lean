/- What is taken of Go's library, as the printed texts call it: the tables that must lie in the world, and the library's functions by their contracts. -/
import Derived.Test.YtpikebpjlhccbaaGreatDoorShelf
import Derived.Test.YtpikebpjlhccbaaGreatDoorWWords
import Derived.Test.YtpikebpjlhccbaaGreatDoorWLast
import Derived.Test.YtpikebpjlhccbaaGreatDoorWMore
import Derived.Lib.AppendIntMem
import Derived.Lib.AtoiErrMem
namespace Go.Proofs.YtpikebpjlhccbaaGreatDoor.PAll
set_option linter.unusedVariables false
set_option linter.unusedSimpArgs false
open Go.RowKit Go.Proofs.YtpikebpjlhccbaaGreatDoorW.PrintWords

/-- What the library's variables hold. -/
structure TabsOk (w : World) : Prop where
 max : ∃ m, w.cell? ⟨1, 0, none⟩ = some (.int .i64 m)
 pow : Lib.TabIs Tryz.prog w "internal/strconv.uint64pow10" .u64 Lib.pow10Tab
 u8 : Lib.Utf8Tabs 5 6 w
 ety : w.cell? ⟨0, 0, none⟩ = some (.iface 135 (.agg #[.pointer (some ⟨9, 53, none⟩)]))

theorem gPow : Tryz.prog.globalNamed "internal/strconv.uint64pow10" = some 4 := by kernel_rfl

theorem TabsOk.below {w w' : World} (h : TabsOk w) (hb : Below w.heap.size w w') : TabsOk w' where
 max := by obtain ⟨m, hm⟩ := h.max; exact ⟨m, pw_cell_below hb hm⟩
 ety := pw_cell_below hb h.ety
 pow := by
  have hp := h.pow
  unfold Lib.TabIs World.var? at hp ⊢
  simp only [gPow, Option.bind_some] at hp ⊢
  have hlt : 4 < w.heap.size := by
   rcases Nat.lt_or_ge 4 w.heap.size with h' | h'
   ·
    exact h'
   ·
    rw [Array.getElem?_eq_none h'] at hp; cases hp
  rw [hb.block 4 hlt]
  exact hp
 u8 := Utf8Tabs_below h.u8 hb

/-- strings.IndexByte -/
def strings_IndexByte.f (a0 : ByteArray) (a1 : Int) : Option Int := some (Lib.indexByte a0.data.toList a1.toNat.toUInt8)
theorem strings_IndexByte.calls (a0 : ByteArray) (a1 : Int) (r : Int) (w : World) (h : strings_IndexByte.f a0 a1 = some r) :
  Calls Tryz.prog 61 #[.string a0, .int .u8 a1] w fun e w' => e = .returned (.int .i64 r) ∧ Drawn0 w w' := by
 obtain rfl := Option.some.inj h
 exact (Tryz.strings_IndexByte a0 a1 w).mono fun e w' ⟨he, hw⟩ => ⟨he, ⟨⟨0, hw⟩⟩⟩

/-- strings.Trim, at a cutset of ASCII bytes -/
def asciiB (l : List UInt8) : Bool := l.all fun b => decide (b.toNat < 128)
def strings_Trim.f (a0 a1 : ByteArray) : Option ByteArray :=
 if a0.size ≤ 9223372036854775807 ∧ a1.size < 4294967281 ∧ asciiB a1.data.toList = true then some ⟨(Lib.trimS a0.data.toList a1.data.toList).toArray⟩ else none
theorem set_zero : Tryz.zeroCells89 = Array.replicate 256 (Value.bool false) := by kernel_rfl
theorem strings_Trim.calls (a0 a1 r : ByteArray) (w : World) (h : strings_Trim.f a0 a1 = some r) :
  Calls Tryz.prog 35 #[.string a0, .string a1] w fun e w' => e = .returned (.string r) ∧ Below w.heap.size w w' := by
 unfold strings_Trim.f at h
 by_cases hc : a0.size ≤ 9223372036854775807 ∧ a1.size < 4294967281 ∧ asciiB a1.data.toList = true
 ·
  rw [if_pos hc] at h
  obtain rfl := Option.some.inj h
  refine Any.strings_Trim_ascii Tryz.lays160 (fun w => set_zero ▸ Tryz.zeroValue89 w) (by kernel_rfl) a0 a1 w hc.1 hc.2.1 ?_
  intro j b hb
  have := List.all_eq_true.1 hc.2.2 b (List.mem_of_getElem? hb)
  simpa using this
 ·
  rw [if_neg hc] at h; cases h

/-- strconv.Itoa -/
def strconv_Itoa.f (a0 : Int) : Option ByteArray := if -9223372036854775808 ≤ a0 ∧ a0 ≤ 9223372036854775807 then some ⟨(Lib.itoa a0).toArray⟩ else none
theorem strconv_Itoa.calls (a0 : Int) (r : ByteArray) (w : World) (hT : Aside0 (TabsOk w)) (h : strconv_Itoa.f a0 = some r) :
  Calls Tryz.prog 29 #[.int .i64 a0] w fun e w' => e = .returned (.string r) ∧ Below w.heap.size w w' := by
 unfold strconv_Itoa.f at h
 by_cases hb : -9223372036854775808 ≤ a0 ∧ a0 ≤ 9223372036854775807
 ·
  rw [if_pos hb] at h
  obtain rfl := Option.some.inj h
  exact (Tryz.strconv_Itoa a0 hb.1 hb.2 w hT.out.pow).mono fun e w' ⟨he, k, os, hw⟩ => ⟨he, by rw [hw]; exact Lib.below_grow _ _ (Nat.le_refl _) _ _⟩
 ·
  rw [if_neg hb] at h; cases h

/-- strconv.Atoi, where it succeeds (elsewhere the callers do not come). -/
def strconv_Atoi.f (a0 : ByteArray) : Option (Int × Option Int) :=
 if a0.size ≤ 281474976710656 then
  match Lib.atoiAll a0.data.toList with
  | .ok v => some (v, none)
  | _ => none
 else none
theorem strconv_Atoi.calls (a0 : ByteArray) (r1 : Int) (r2 : Option Int) (w : World) (hT : Aside0 (TabsOk w)) (h : strconv_Atoi.f a0 = some (r1, r2)) :
  Calls Tryz.prog 39 #[.string a0] w fun e w' => e = .returned (.tuple #[.int .i64 r1, .nilIface]) ∧ Below w.heap.size w w' := by
 unfold strconv_Atoi.f at h
 by_cases hs : a0.size ≤ 281474976710656
 ·
  rw [if_pos hs] at h
  cases hA : Lib.atoiAll a0.data.toList
  ·
   rename_i v
   rw [hA] at h
   simp only [Option.some.injEq, Prod.mk.injEq] at h
   obtain ⟨rfl, rfl⟩ := h
   refine (Tryz.strconv_Atoi_ok a0 (by omega) v hA w).mono ?_
   rintro e w' ⟨he, hw | ⟨t, hw⟩⟩
   ·
    exact ⟨he, by rw [hw]; exact Below.refl _ _⟩
   ·
    exact ⟨he, by rw [hw]; exact Lib.bytesWorld_below _ _ _⟩
  ·
   rw [hA] at h; cases h
  ·
   rw [hA] at h; cases h
 ·
  rw [if_neg hs] at h; cases h

/-- strings.Index -/
def strings_Index.f (a0 a1 : ByteArray) : Option Int := if a0.size < 4294967281 then some (Lib.index a0.data.toList a1.data.toList) else none
theorem strings_Index.calls (a0 a1 : ByteArray) (r : Int) (w : World) (hT : Aside0 (TabsOk w)) (h : strings_Index.f a0 a1 = some r) :
  Calls Tryz.prog 32 #[.string a0, .string a1] w fun e w' => e = .returned (.int .i64 r) ∧ w' = w := by
 unfold strings_Index.f at h
 by_cases hs : a0.size < 4294967281
 ·
  rw [if_pos hs] at h
  obtain rfl := Option.some.inj h
  obtain ⟨m, hm⟩ := hT.out.max
  exact Tryz.strings_Index a0 a1 m w hs hm
 ·
  rw [if_neg hs] at h; cases h

def strings_Cut.f (a0 a1 : ByteArray) : Option (ByteArray × ByteArray × Bool) :=
 if a0.size < 4294967281 then some (⟨(Lib.cut a0.data.toList a1.data.toList).1.toArray⟩, ⟨(Lib.cut a0.data.toList a1.data.toList).2.1.toArray⟩, (Lib.cut a0.data.toList a1.data.toList).2.2) else none
theorem strings_Cut.calls (a0 a1 : ByteArray) (r1 r2 : ByteArray) (r3 : Bool) (w : World) (hT : Aside0 (TabsOk w)) (h : strings_Cut.f a0 a1 = some (r1, r2, r3)) :
  Calls Tryz.prog 34 #[.string a0, .string a1] w fun e w' => e = .returned (.tuple #[.string r1, .string r2, .bool r3]) ∧ Below w.heap.size w w' := by
 unfold strings_Cut.f at h
 by_cases hs : a0.size < 4294967281
 ·
  rw [if_pos hs] at h
  simp only [Option.some.injEq, Prod.mk.injEq] at h
  obtain ⟨rfl, rfl, rfl⟩ := h
  obtain ⟨m, hm⟩ := hT.out.max
  refine (Tryz.strings_Cut a0 a1 m w hs hm).mono ?_
  rintro e w' ⟨he, k, hw⟩
  exact ⟨he, by rw [hw]; exact pw_below_drewN (Below.refl _ _) _⟩
 ·
  rw [if_neg hs] at h; cases h

/-- strings.Split, by a separator that is not empty -/
def strings_Split.f (a0 a1 : ByteArray) : Option (List ByteArray) :=
 if a0.size < 4294967281 ∧ 1 ≤ a1.size then some (Lib.splitB a1 0 (Lib.countB a0 a1) a0) else none
theorem strings_Split.calls (a0 a1 : ByteArray) (r : List ByteArray) (w : World) (hT : Aside0 (TabsOk w)) (h : strings_Split.f a0 a1 = some r) :
  Calls Tryz.prog 33 #[.string a0, .string a1] w fun e w' => ∃ v0_ : Value, e = .returned (v0_) ∧ Kd.R Kd.string 9 w' w.heap.size (fun _ => True) v0_ r ∧ Below w.heap.size w w' := by
 unfold strings_Split.f at h
 by_cases hs : a0.size < 4294967281 ∧ 1 ≤ a1.size
 ·
  rw [if_pos hs] at h
  obtain rfl := Option.some.inj h
  obtain ⟨m, hm⟩ := hT.out.max
  refine (Tryz.strings_Split a0 a1 m w hs.1 hm hs.2).mono ?_
  rintro e w' ⟨he, hw⟩
  refine ⟨_, he, ?_, by rw [hw]; exact below_alloc (Below.refl _ _) _⟩
  have hl := Lib.splitB_all a1 hs.2 0 (Lib.countB a0 a1) a0 rfl
  have hc := Lib.countB_le a1 hs.2 a0.size a0 (Nat.le_refl _)
  refine Kd.R_of_own ⟨by rw [encs_length, Nat.mul_one], .inr ⟨w.heap.size, Lib.countB a0 a1 + 1, _, by rw [hl], Nat.le_refl _, by rw [hw]; exact heap_alloc_new w _, by omega, ?_, ?_, ?_⟩⟩ (fun k _ => trivial)
  ·
   unfold maxLen; omega
  ·
   rw [List.size_toArray, List.length_map, hl, Nat.mul_one]
  ·
   rw [Nat.mul_one, hl]
   show List.take _ (List.map Value.string _) = encs Value.string _
   rw [List.take_of_length_le (by rw [List.length_map, hl]; exact Nat.le_refl _)]
   rfl
 ·
  rw [if_neg hs] at h; cases h
/-- The same, with where the row lies. -/
theorem strings_Split.callsAt (a0 a1 : ByteArray) (r : List ByteArray) (w : World) (hT : Aside0 (TabsOk w)) (h : strings_Split.f a0 a1 = some r) :
  Calls Tryz.prog 33 #[.string a0, .string a1] w fun e w' => e = .returned (.slice (some ⟨w.heap.size, 0, none⟩) r.length r.length) ∧ Kd.R Kd.string 9 w' w.heap.size (fun _ => True) (.slice (some ⟨w.heap.size, 0, none⟩) r.length r.length) r ∧ Below w.heap.size w w' := by
 unfold strings_Split.f at h
 by_cases hs : a0.size < 4294967281 ∧ 1 ≤ a1.size
 ·
  rw [if_pos hs] at h
  obtain rfl := Option.some.inj h
  obtain ⟨m, hm⟩ := hT.out.max
  refine (Tryz.strings_Split a0 a1 m w hs.1 hm hs.2).mono ?_
  rintro e w' ⟨he, hw⟩
  refine ⟨by rw [he, Lib.splitB_all a1 hs.2 0 (Lib.countB a0 a1) a0 rfl], ?_, by rw [hw]; exact below_alloc (Below.refl _ _) _⟩
  have hl := Lib.splitB_all a1 hs.2 0 (Lib.countB a0 a1) a0 rfl
  have hc := Lib.countB_le a1 hs.2 a0.size a0 (Nat.le_refl _)
  refine Kd.R_of_own ⟨by rw [encs_length, Nat.mul_one], .inr ⟨w.heap.size, Lib.countB a0 a1 + 1, _, by rw [hl], Nat.le_refl _, by rw [hw]; exact heap_alloc_new w _, by omega, ?_, ?_, ?_⟩⟩ (fun k _ => trivial)
  ·
   unfold maxLen; omega
  ·
   rw [List.size_toArray, List.length_map, hl, Nat.mul_one]
  ·
   rw [Nat.mul_one, hl]
   show List.take _ (List.map Value.string _) = encs Value.string _
   rw [List.take_of_length_le (by rw [List.length_map, hl]; exact Nat.le_refl _)]
   rfl
 ·
  rw [if_neg hs] at h; cases h
end Go.Proofs.YtpikebpjlhccbaaGreatDoor.PAll
