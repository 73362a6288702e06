/- What the listed variables give the walks; and a world that holds them, for the witness. -/
import Derived.Test.YtpikebpjlhccbaaGreatDoorRows
import Derived.Test.YtpikebpjlhccbaaGreatDoorGive0
import Derived.Deep.DeepHandedRow
import Derived.Deep.DeepWitnessRowRef
import Derived.Lib.LaidIn
import Derived.Lib.LaidU8
import Derived.Stop.LaidErr
import Derived.LaidHandle
import Derived.ProofKit
namespace Go.Proofs.YtpikebpjlhccbaaGreatDoor.Laid
set_option linter.unusedVariables false
set_option linter.unusedSimpArgs false
open Go.Shelf Go.Lib Go.RowKit PAll

theorem own : ownKnob Tryz.prog.godebug = none := by kernel_rfl
theorem et : Tryz.prog.globalNamed "errors.errorType" = some 0 := by kernel_rfl
theorem rt : (Tryz.prog.cutTypes.find? (·.1 == "internal/reflectlite.rtype")).map (·.2) = some 135 := by kernel_rfl
theorem size : Tryz.prog.types.size = 209 := by kernel_rfl
theorem oneRow : ((List.range 209).filter fun t => Tryz.prog.rowNamed t [101, 114, 114, 111, 114]) = [53] := by kernel_rfl

def laidL : List (String × DataW Unit) := [("math/bits.deBruijn32tab", Rows.laid_math_bits_deBruijn32tab), ("math/bits.deBruijn64tab", Rows.laid_math_bits_deBruijn64tab), ("internal/strconv.uint64pow10", Rows.laid_internal_strconv_uint64pow10), ("unicode/utf8.acceptRanges", Rows.laid_unicode_utf8_acceptRanges), ("strconv.ErrRange", Rows.laid_strconv_ErrRange), ("strconv.ErrSyntax", Rows.laid_strconv_ErrSyntax), ("unicode/utf8.first", Rows.laid_unicode_utf8_first)]
def laidH : List (String × DataW Unit) := [("math/bits.deBruijn32tab", Rows.laid_math_bits_deBruijn32tab), ("math/bits.deBruijn64tab", Rows.laid_math_bits_deBruijn64tab), ("internal/strconv.uint64pow10", Rows.laid_internal_strconv_uint64pow10), ("unicode/utf8.acceptRanges", Rows.laid_unicode_utf8_acceptRanges), ("errors.errorType", Rows.laid_errors_errorType), ("strconv.ErrRange", Rows.laid_strconv_ErrRange), ("strconv.ErrSyntax", Rows.laid_strconv_ErrSyntax), ("unicode/utf8.first", Rows.laid_unicode_utf8_first)]

theorem pow_eq : (Rows.laid_internal_strconv_uint64pow10 : DataW Unit) = tabData .u64 pow10Tab := by kernel_rfl
theorem first_eq : Rows.laid_unicode_utf8_first = firstData := by kernel_rfl
theorem accept_eq : (Rows.laid_unicode_utf8_acceptRanges : DataW Unit) = acceptData := by kernel_rfl
theorem hf1 : (laidH.filter fun x => x.2.handleName?.isSome) = [("errors.errorType", Rows.laid_errors_errorType)] := by kernel_rfl
theorem hf2 : (laidH.filter fun x => x.2.handleName?.isNone) = laidL := by kernel_rfl
theorem tabs {W : World} (h : laidMetH Tryz.prog laidH W) (hs : W.ShapedOpen Tryz.prog) : TabsOk W := by
  have h' : laidMet Tryz.prog laidL W ∧ handlesMet Tryz.prog [("errors.errorType", Rows.laid_errors_errorType)] W := by
    unfold laidMetH at h
    rw [hf1, hf2] at h
    exact h
  have hL := h'.1
  refine ⟨Tryz.laysM143.s1_3 W hs, ?_, ?_, ?_⟩
  · have h2 : laidMet Tryz.prog (("internal/strconv.uint64pow10", Rows.laid_internal_strconv_uint64pow10) :: _) W := hL.tail.tail
    rw [pow_eq] at h2
    exact tabIs_of_head gPow (by kernel_rfl) Tryz.underlying166 Tryz.underlying149 (by kernel_rfl) (by kernel_rfl) h2
  · have r4 := Lib.laidMet.reads hL (n := "unicode/utf8.acceptRanges") (d := Rows.laid_unicode_utf8_acceptRanges) (.tail _ (.tail _ (.tail _ (.head _))))
    have r3 := Lib.laidMet.reads hL (n := "unicode/utf8.first") (d := Rows.laid_unicode_utf8_first) (.tail _ (.tail _ (.tail _ (.tail _ (.tail _ (.tail _ (.head _)))))))
    rw [first_eq] at r3
    rw [accept_eq] at r4
    exact utf8Tabs_of_reads (ρ := Tryz.lays230_ren) { Tryz.lays230 with } ⟨by kernel_rfl, by kernel_rfl, by kernel_rfl, by kernel_rfl, by kernel_rfl, by kernel_rfl, by kernel_rfl⟩ r3 r4
  · obtain ⟨name, u, ty, e1, e2, e3, e4, e5⟩ := h'.2 ("errors.errorType", Rows.laid_errors_errorType) (.head _)
    have en : name = [101, 114, 114, 111, 114] := (Option.some.inj e1).symm
    subst en
    obtain rfl := Option.some.inj (rt.symm.trans e2)
    have hm : ty ∈ (List.range 209).filter fun t => Tryz.prog.rowNamed t [101, 114, 114, 111, 114] := List.mem_filter.2 ⟨List.mem_range.2 (by rw [← size]; exact e3), e4⟩
    rw [oneRow] at hm
    obtain rfl := List.mem_singleton.1 hm
    have hh : typeHandle Tryz.prog 53 = .pointer (some ⟨9, 53, none⟩) := by kernel_rfl
    rw [hh] at e5
    simpa using World.var?_cell et e5 0

def tabOf (k : IntKind) : DataW Unit → List Value
  | .agg l => l.map fun | .lit (.int _ n) => .int k n | _ => undef
  | _ => []
/-- A world for the witness: two blocks more (the two errors' structs), the eight variables holding what their initialisers lay. -/
noncomputable def laidWorld (os : Os) : World :=
  let N := (World.settled Tryz.prog os).heap.size
  let w0 := World.holding Tryz.prog os ⟨#[
    .cells #[.string ⟨#[118, 97, 108, 117, 101, 32, 111, 117, 116, 32, 111, 102, 32, 114, 97, 110, 103, 101]⟩] 180, .cells #[.string ⟨#[105, 110, 118, 97, 108, 105, 100, 32, 115, 121, 110, 116, 97, 120]⟩] 180], #[], []⟩
  let put (h : Array Obj) (g : Nat) (cs : Array Value) : Array Obj := h.modify g fun
    | .cells _ t frozen => .cells cs t frozen
    | o => o
  let h0 := put w0.heap 0 #[.iface 135 (.agg #[.pointer (some ⟨9, 53, none⟩)])]
  let h1 := put h0 2 #[.iface 178 (.pointer (some ⟨N + 1, 0, none⟩))]
  let h2 := put h1 3 #[.iface 178 (.pointer (some ⟨N, 0, none⟩))]
  let h3 := put h2 4 (pow10Tab.map fun z => Value.int .u64 z).toArray
  let h4 := put h3 5 (firstTab.map fun z => Value.int .u8 z).toArray
  let h5 := put h4 6 ((List.range 16).flatMap fun i => [Value.int .u8 (accLo i), Value.int .u8 (accHi i)]).toArray
  let h6 := put h5 7 (tabOf .u8 Rows.laid_math_bits_deBruijn32tab).toArray
  let h7 := put h6 8 (tabOf .u8 Rows.laid_math_bits_deBruijn64tab).toArray
  { w0 with heap := h7 }
noncomputable abbrev N0 : Nat := (World.settled Tryz.prog default).heap.size
set_option maxRecDepth 1000000 in
theorem laid_met0 (os : Os) (args : Array Value) : laidMet Tryz.prog laidL ((laidWorld os).forCall (fun _ _ => 0) ⟨#[], args, []⟩).memory :=
  LaidIn.met (B := [7, 8, 4, 6, 3, N0, 2, N0 + 1, 5]) (LaidIn.of_run [7, 8, 4, 6, 3, N0, 2, N0 + 1, 5] 8 (by kernel_rfl) (by kernel_rfl) (by kernel_rfl) (by kernel_rfl))
set_option maxRecDepth 1000000 in
theorem laid_met (os : Os) (args : Array Value) : laidMetH Tryz.prog laidH ((laidWorld os).forCall (fun _ _ => 0) ⟨#[], args, []⟩).memory :=
  laidMetH_of_parts (laid_met0 os args) (by kernel_rfl)
end Go.Proofs.YtpikebpjlhccbaaGreatDoor.Laid
