/- What the listed variables give the walks; and a world that holds them, for the witness. -/
import Derived.Test.YthoknobkkpefkaaDoorRows
import Derived.Test.YthoknobkkpefkaaDoorGive0
import Derived.Test.YthoknobkkpefkaaDoorShelf2
import Derived.Deep.DeepHandedRow
import Derived.Deep.DeepWitnessRowRef
import Derived.Lib.LaidIn
import Derived.Lib.LaidU8
import Derived.Stop.LaidErr
import Derived.ProofKit
namespace Go.Proofs.YthoknobkkpefkaaDoor.Laid
set_option linter.unusedVariables false
set_option linter.unusedSimpArgs false
open Go.Shelf Go.Lib Go.RowKit PAll

theorem own : ownKnob Tryd.prog.godebug = none := by kernel_rfl
theorem star : "*" ++ "errors.errorString" = "*errors.errorString" := by decide
/-- the one row of that name -/
theorem row108 (u : TypeId) (h : Tryd.prog.typeName? 3 u = some "*errors.errorString") : u = 108 :=
  typeName_ptr_named (nm := "errors.errorString") (by rw [star]; kernel_rfl) (by kernel_rfl) (by decide) u (by rw [star]; exact h)

def laidL : List (String × DataW Unit) := [("math/bits.deBruijn32tab", Rows.laid_math_bits_deBruijn32tab), ("math/bits.deBruijn64tab", Rows.laid_math_bits_deBruijn64tab), ("internal/strconv.uint64pow10", Rows.laid_internal_strconv_uint64pow10), ("unicode/utf8.acceptRanges", Rows.laid_unicode_utf8_acceptRanges), ("strconv.ErrRange", Rows.laid_strconv_ErrRange), ("strconv.ErrSyntax", Rows.laid_strconv_ErrSyntax), ("unicode/utf8.first", Rows.laid_unicode_utf8_first)]

theorem pow_eq : (Rows.laid_internal_strconv_uint64pow10 : DataW Unit) = tabData .u64 pow10Tab := by kernel_rfl
theorem first_eq : Rows.laid_unicode_utf8_first = firstData := by kernel_rfl
theorem accept_eq : (Rows.laid_unicode_utf8_acceptRanges : DataW Unit) = acceptData := by kernel_rfl
theorem gPow : Tryd.prog.globalNamed "internal/strconv.uint64pow10" = some 3 := by kernel_rfl
theorem cell_of_var {w : World} {n : String} {g : Nat} {v : Value} (hg : Tryd.prog.globalNamed n = some g) (h : w.var? Tryd.prog n = some #[v]) : w.cell? ⟨g, 0, none⟩ = some v := by
  have h0 := World.var?_cell hg h 0
  simpa using h0
theorem tabs {W : World} (h : laidMetH Tryd.prog laidL W) (hs : W.ShapedOpen Tryd.prog) : TabsOk W := by
  have hL : laidMet Tryd.prog laidL W := h
  have h4 : laidMet Tryd.prog (("strconv.ErrRange", Rows.laid_strconv_ErrRange) :: _) W := hL.tail.tail.tail.tail
  obtain ⟨a0, t0, hv0, _, _, _⟩ := laid_sentinel (g := 2) h4 (by kernel_rfl) (by kernel_rfl) Tryd.underlying50 row108 Tryd.underlying108 Tryd.underlying110 rfl rfl Tryd.underlying9 (by kernel_rfl) (by kernel_rfl)
  obtain ⟨a1, t1, hv1, _, _, _⟩ := laid_sentinel (g := 1) h4.tail (by kernel_rfl) (by kernel_rfl) Tryd.underlying50 row108 Tryd.underlying108 Tryd.underlying110 rfl rfl Tryd.underlying9 (by kernel_rfl) (by kernel_rfl)
  refine ⟨Tryd.laysM145.s1_3 W hs, ⟨_, _, cell_of_var (by kernel_rfl) hv1⟩, ⟨_, _, cell_of_var (by kernel_rfl) hv0⟩, ?_, ?_⟩
  · have h2 : laidMet Tryd.prog (("internal/strconv.uint64pow10", Rows.laid_internal_strconv_uint64pow10) :: _) W := hL.tail.tail
    rw [pow_eq] at h2
    exact tabIs_of_head gPow (by kernel_rfl) Tryd.underlying93 Tryd.underlying78 (by kernel_rfl) (by kernel_rfl) h2
  · have r4 := Lib.laidMet.reads hL (n := "unicode/utf8.acceptRanges") (d := Rows.laid_unicode_utf8_acceptRanges) (.tail _ (.tail _ (.tail _ (.head _))))
    have r3 := Lib.laidMet.reads hL (n := "unicode/utf8.first") (d := Rows.laid_unicode_utf8_first) (.tail _ (.tail _ (.tail _ (.tail _ (.tail _ (.tail _ (.head _)))))))
    rw [first_eq] at r3
    rw [accept_eq] at r4
    exact utf8Tabs_of_reads (ρ := Tryd.lays230_ren) { Tryd.lays230 with } ⟨by kernel_rfl, by kernel_rfl, by kernel_rfl, by kernel_rfl, by kernel_rfl, by kernel_rfl, by kernel_rfl⟩ r3 r4

def tabOf (k : IntKind) : DataW Unit → List Value
  | .agg l => l.map fun | .lit (.int _ n) => .int k n | _ => undef
  | _ => []
/-- A world for the witness: two blocks more (the two errors' structs), the seven variables holding what their initialisers lay. -/
noncomputable def laidWorld (os : Os) : World :=
  let N := (World.settled Tryd.prog os).heap.size
  let w0 := World.holding Tryd.prog os ⟨#[
    .cells #[.string ⟨#[118, 97, 108, 117, 101, 32, 111, 117, 116, 32, 111, 102, 32, 114, 97, 110, 103, 101]⟩] 110, .cells #[.string ⟨#[105, 110, 118, 97, 108, 105, 100, 32, 115, 121, 110, 116, 97, 120]⟩] 110], #[], []⟩
  let put (h : Array Obj) (g : Nat) (cs : Array Value) : Array Obj := h.modify g fun
    | .cells _ t frozen => .cells cs t frozen
    | o => o
  let h1 := put w0.heap 1 #[.iface 108 (.pointer (some ⟨N + 1, 0, none⟩))]
  let h2 := put h1 2 #[.iface 108 (.pointer (some ⟨N, 0, none⟩))]
  let h3 := put h2 3 (pow10Tab.map fun z => Value.int .u64 z).toArray
  let h4 := put h3 4 (firstTab.map fun z => Value.int .u8 z).toArray
  let h5 := put h4 5 ((List.range 16).flatMap fun i => [Value.int .u8 (accLo i), Value.int .u8 (accHi i)]).toArray
  let h6 := put h5 6 (tabOf .u8 Rows.laid_math_bits_deBruijn32tab).toArray
  let h7 := put h6 7 (tabOf .u8 Rows.laid_math_bits_deBruijn64tab).toArray
  { w0 with heap := h7 }
noncomputable abbrev N0 : Nat := (World.settled Tryd.prog default).heap.size
set_option maxRecDepth 1000000 in
theorem laid_met (os : Os) (args : Array Value) : laidMet Tryd.prog laidL ((laidWorld os).forCall (fun _ _ => 0) ⟨#[], args, []⟩).memory :=
  LaidIn.met (B := [6, 7, 3, 5, 2, N0, 1, N0 + 1, 4]) (LaidIn.of_run [6, 7, 3, 5, 2, N0, 1, N0 + 1, 4] 8 (by kernel_rfl) (by kernel_rfl) (by kernel_rfl) (by kernel_rfl))
end Go.Proofs.YthoknobkkpefkaaDoor.Laid
