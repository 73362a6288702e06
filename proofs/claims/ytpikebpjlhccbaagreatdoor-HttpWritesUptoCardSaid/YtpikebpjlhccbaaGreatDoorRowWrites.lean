/- HttpWrites: for every request and response of the card's bulk (UptoSaid) the statement returns true: each is written, or refused, as the document says. The card ties the listed library tables to the program's text. -/
import Derived.Test.YtpikebpjlhccbaaGreatDoorHLawWrites
import Derived.Test.YtpikebpjlhccbaaGreatDoorLaid
import Derived.Test.YtpikebpjlhccbaaGreatDoorCards
import Derived.Test.YtpikebpjlhccbaaGreatDoorTie
import Derived.OpenShut
import Derived.SizedLaws
import Derived.ShutString
import Derived.Carry
import Derived.Lib.SmallJoins
namespace Go.Proofs.YtpikebpjlhccbaaGreatDoor.HttpWrites
set_option linter.unusedVariables false
set_option linter.unusedSimpArgs false
open Go.ChangeShapes Go.WideShapes Go.ChangeAt Go.RowKit Go.Deep Go.Joins Go.Proofs.YtpikebpjlhccbaaGreatDoorW.PrintWords PAll Laid Base
open Go.ChangeMaps (open_string shut_string)

section
variable {H : Type} {enc : TypeId × Value → H} {P : Program} {w : World} {base : Nat} {spare : Nat → Bool} {held : Bool}
theorem open_agg2' {r : Reach} {b0 : Nat} {t : TypeId} {f0 f1 : Field} {v : Value} {d : DataW H} {p : List MemPlace} (hs : P.underlying t = some (.struct #[f0, f1])) (hone : oneCellFields P #[f0, f1] = true) (hC : P.cellsOf t = 2)
    (hv : Value.okWide P w r b0 t v) (h : DataW.Trod enc P w base spare held t v d p) :
    ∃ (v0 v1 : Value) (y0 y1 : DataW H × List MemPlace) (n : Nat), v = .agg #[v0, v1] ∧ d = .agg [y0.1, y1.1] ∧ p = y0.2 ++ (y1.2) ∧
      DataW.trod enc P w base spare held n f0.type [v0] = some y0 ∧ DataW.trod enc P w base spare held n f1.type [v1] = some y1 := by
  obtain ⟨cs, rfl, hsz⟩ := okWide_struct hs hv
  obtain ⟨l⟩ := cs
  match l, hsz.trans hC with
  | [c0, c1], _ =>
    obtain ⟨fuel, hf⟩ := h
    obtain ⟨xs, n, _, hx, _, hlen, hg⟩ := DataW.trod_struct hs hf
    obtain ⟨o0, k0⟩ := hone_of hone 0 f0 rfl
    obtain ⟨o1, k1⟩ := hone_of hone 1 f1 rfl
    match xs, hlen with
    | [y0, y1], _ =>
      simp only [Prod.mk.injEq] at hx
      exact ⟨c0, c1, y0, y1, n, rfl, by simpa using hx.1, by simpa using hx.2, by simpa [Value.cells, o0, k0] using hg 0 f0 rfl, by simpa [Value.cells, o1, k1] using hg 1 f1 rfl⟩
end

section
variable {H : Type} {enc : TypeId × Value → H} {P : Program} {w : World} {base : Nat} {spare : Nat → Bool} {held : Bool}
theorem open_agg5' {r : Reach} {b0 : Nat} {t : TypeId} {f0 f1 f2 f3 f4 : Field} {v : Value} {d : DataW H} {p : List MemPlace} (hs : P.underlying t = some (.struct #[f0, f1, f2, f3, f4])) (hone : oneCellFields P #[f0, f1, f2, f3, f4] = true) (hC : P.cellsOf t = 5)
    (hv : Value.okWide P w r b0 t v) (h : DataW.Trod enc P w base spare held t v d p) :
    ∃ (v0 v1 v2 v3 v4 : Value) (y0 y1 y2 y3 y4 : DataW H × List MemPlace) (n : Nat), v = .agg #[v0, v1, v2, v3, v4] ∧ d = .agg [y0.1, y1.1, y2.1, y3.1, y4.1] ∧ p = y0.2 ++ (y1.2 ++ (y2.2 ++ (y3.2 ++ (y4.2)))) ∧
      DataW.trod enc P w base spare held n f0.type [v0] = some y0 ∧ DataW.trod enc P w base spare held n f1.type [v1] = some y1 ∧ DataW.trod enc P w base spare held n f2.type [v2] = some y2 ∧ DataW.trod enc P w base spare held n f3.type [v3] = some y3 ∧ DataW.trod enc P w base spare held n f4.type [v4] = some y4 := by
  obtain ⟨cs, rfl, hsz⟩ := okWide_struct hs hv
  obtain ⟨l⟩ := cs
  match l, hsz.trans hC with
  | [c0, c1, c2, c3, c4], _ =>
    obtain ⟨fuel, hf⟩ := h
    obtain ⟨xs, n, _, hx, _, hlen, hg⟩ := DataW.trod_struct hs hf
    obtain ⟨o0, k0⟩ := hone_of hone 0 f0 rfl
    obtain ⟨o1, k1⟩ := hone_of hone 1 f1 rfl
    obtain ⟨o2, k2⟩ := hone_of hone 2 f2 rfl
    obtain ⟨o3, k3⟩ := hone_of hone 3 f3 rfl
    obtain ⟨o4, k4⟩ := hone_of hone 4 f4 rfl
    match xs, hlen with
    | [y0, y1, y2, y3, y4], _ =>
      simp only [Prod.mk.injEq] at hx
      exact ⟨c0, c1, c2, c3, c4, y0, y1, y2, y3, y4, n, rfl, by simpa using hx.1, by simpa using hx.2, by simpa [Value.cells, o0, k0] using hg 0 f0 rfl, by simpa [Value.cells, o1, k1] using hg 1 f1 rfl, by simpa [Value.cells, o2, k2] using hg 2 f2 rfl, by simpa [Value.cells, o3, k3] using hg 3 f3 rfl, by simpa [Value.cells, o4, k4] using hg 4 f4 rfl⟩
end

theorem laidOut : laidOutB Tryz.prog = true := by kernel_rfl
set_option maxRecDepth 100000 in
theorem reads (os : Os) {H : Type} (enc : TypeId × Value → H) : ∃ places, DataW.whole enc Tryz.prog ((laidWorld os).forCall (fun _ _ => 0) ⟨#[], #[.agg #[.string ⟨#[]⟩, .string ⟨#[]⟩, .string ⟨#[]⟩, .string ⟨#[]⟩, .string ⟨#[]⟩], .agg #[.int .i64 0, .string ⟨#[]⟩]], []⟩).memory Tryz.f5.params.toList Rows.httpWritesSpec.vars false (#[.agg #[.string ⟨#[]⟩, .string ⟨#[]⟩, .string ⟨#[]⟩, .string ⟨#[]⟩, .string ⟨#[]⟩], .agg #[.int .i64 0, .string ⟨#[]⟩]] : Array Value).toList 8 = some ([.agg [.lit (.string []), .lit (.string []), .lit (.string []), .lit (.string []), .lit (.string [])], .agg [.lit (.int .i64 0), .lit (.string [])]], [], places) :=
  ⟨[], by kernel_rfl⟩

theorem bulk (H : Type) (a0_0 : ByteArray) (a0_1 : ByteArray) (a0_2 : ByteArray) (a0_3 : ByteArray) (a0_4 : ByteArray) (a1_0 : Int) (a1_1 : ByteArray) (hk : Rows.uptoSmall H ([.agg [.lit (.string a0_0.data.toList), .lit (.string a0_1.data.toList), .lit (.string a0_2.data.toList), .lit (.string a0_3.data.toList), .lit (.string a0_4.data.toList)], .agg [.lit (.int .i64 a1_0), .lit (.string a1_1.data.toList)]] ++ []) = true) : a0_0.data.toList.length + a0_1.data.toList.length + a0_2.data.toList.length + a0_3.data.toList.length + a0_4.data.toList.length + a1_1.data.toList.length ≤ 1048576 := by
  have h : Rows.uptoBulkAll (H := H) ([.agg [.lit (.string a0_0.data.toList), .lit (.string a0_1.data.toList), .lit (.string a0_2.data.toList), .lit (.string a0_3.data.toList), .lit (.string a0_4.data.toList)], .agg [.lit (.int .i64 a1_0), .lit (.string a1_1.data.toList)]] ++ []) ≤ 1048576 := of_decide_eq_true hk
  generalize 1048576 = N at h ⊢
  simp only [List.append_nil, Rows.uptoBulkAll, Rows.uptoBulk] at h
  omega

set_option maxRecDepth 100000 in
theorem contract (H : Type) (enc : TypeId × Value → H) (W : World) (base : Nat) (args : Array Value) (ds gs : List (DataW H)) (before : List MemPlace)
    (hval : ∀ (j : Nat) t v, Tryz.f5.params[j]? = some t → args[j]? = some v → Value.okWide Tryz.prog W .any base t v)
    (hW : DataW.Whole enc Tryz.prog Tryz.f5.params.toList Rows.httpWritesSpec.vars false W args.toList ds gs before) (hk : Rows.uptoSmall H (ds ++ gs) = true) (hT : TabsOk W) :
    Calls Tryz.prog 5 args W fun e W' => ∃ v, e = .returned v ∧ Rows.httpWritesSpec.post enc Tryz.prog Tryz.f5 false true false false W args v W' := by
  have hW' := hW
  obtain ⟨p, q, hA0, hV, rfl, hfz, hnd⟩ := hW
  have hA : DataW.TrodAll enc Tryz.prog W 0 (fun _ => true) true Tryz.f5.params.toList args.toList ds p := hA0
  rw [Tryz.params5] at hA hval
  obtain ⟨v0, vs0, d0, ds0, p0, q0, hargs, rfl, rfl, h0, r0⟩ := trodAll_cons hA
  obtain ⟨v1, vs1, d1, ds1, p1, q1, rfl, rfl, rfl, h1, r1⟩ := trodAll_cons r0
  obtain ⟨rfl, rfl, rfl⟩ := trodAll_nil r1
  obtain rfl : args = #[v0, v1] := by clear hk hT; cases args; simp_all
  obtain ⟨rfl, rfl⟩ := trodVars_none hV
  have k0 := h0
  have lt0 : ∀ x ∈ p0, x.block < W.heap.size := by obtain ⟨m, hm⟩ := k0; exact DataW.trod_lt m _ _ _ hm
  obtain ⟨w0_0, w0_1, w0_2, w0_3, w0_4, y0_0, y0_1, y0_2, y0_3, y0_4, m0, rfl, rfl, rfl, g0_0, g0_1, g0_2, g0_3, g0_4⟩ := open_agg5' Tryz.underlying24 (by kernel_rfl) (by kernel_rfl) (hval 0 24 v0 rfl rfl) h0
  obtain ⟨a0_0, e0_0, rfl, ws0_0⟩ := DataW.trod_string Tryz.underlying9 g0_0
  obtain rfl : w0_0 = .string a0_0 := by simpa using e0_0
  obtain ⟨a0_1, e0_1, rfl, ws0_1⟩ := DataW.trod_string Tryz.underlying9 g0_1
  obtain rfl : w0_1 = .string a0_1 := by simpa using e0_1
  obtain ⟨a0_2, e0_2, rfl, ws0_2⟩ := DataW.trod_string Tryz.underlying9 g0_2
  obtain rfl : w0_2 = .string a0_2 := by simpa using e0_2
  obtain ⟨a0_3, e0_3, rfl, ws0_3⟩ := DataW.trod_string Tryz.underlying9 g0_3
  obtain rfl : w0_3 = .string a0_3 := by simpa using e0_3
  obtain ⟨a0_4, e0_4, rfl, ws0_4⟩ := DataW.trod_string Tryz.underlying9 g0_4
  obtain rfl : w0_4 = .string a0_4 := by simpa using e0_4
  have k1 := h1
  have lt1 : ∀ x ∈ p1, x.block < W.heap.size := by obtain ⟨m, hm⟩ := k1; exact DataW.trod_lt m _ _ _ hm
  obtain ⟨w1_0, w1_1, y1_0, y1_1, m1, rfl, rfl, rfl, g1_0, g1_1⟩ := open_agg2' Tryz.underlying31 (by kernel_rfl) (by kernel_rfl) (hval 1 31 v1 rfl rfl) h1
  obtain ⟨a1_0, e1_0, rfl, ws1_0⟩ := DataW.trod_int Tryz.underlying3 g1_0
  obtain rfl : w1_0 = .int .i64 a1_0 := by simpa using e1_0
  obtain ⟨a1_1, e1_1, rfl, ws1_1⟩ := DataW.trod_string Tryz.underlying9 g1_1
  obtain rfl : w1_1 = .string a1_1 := by simpa using e1_1
  clear hA0
  have hb : a0_0.data.toList.length + a0_1.data.toList.length + a0_2.data.toList.length + a0_3.data.toList.length + a0_4.data.toList.length + a1_1.data.toList.length ≤ 1048576 := bulk H _ _ _ _ _ _ _ hk
  obtain ⟨k, hf⟩ := writes_f a0_0 a0_1 a0_2 a0_3 a0_4 a1_0 a1_1 (by simp only [Base.size_eq]; omega)
  refine (pennantlaw22_HttpWrites.calls k a0_0 a0_1 a0_2 a0_3 a0_4 a1_0 a1_1 true W ⟨hT⟩ hf).mono fun e W' ⟨he, hg⟩ => ?_
  subst he
  exact ⟨_, rfl, _, _, _, [], _, [], hW', trodAll_cons_mk (shut_bool Tryz.underlying4 _) trodAll_mk0, (trodAll_cons_mk (Below.trod laidOut (by kernel_rfl) (of_decide_eq_true (by kernel_rfl)) k0 hg lt0) (trodAll_cons_mk (Below.trod laidOut (by kernel_rfl) (of_decide_eq_true (by kernel_rfl)) k1 hg lt1) trodAll_mk0)), rfl, hg.frame _, fun h => by cases h⟩

set_option maxRecDepth 100000 in
theorem liftedUpto (os : Os) (started : os.Started) (H : Type) (enc : TypeId × Value → H) (F : Stop.Interp) :
    ReturnsInHanded {} Tryz.checked os 5 .any ((Rows.OpenSpec.upto Rows.httpWritesSpec).preRow enc Tryz.prog Tryz.f5 Rows.httpWritesUptoRow.domain false Rows.httpWritesUptoRow.laid) (((Rows.OpenSpec.upto Rows.httpWritesSpec).at F).post enc Tryz.prog Tryz.f5 false true false false) := by
  obtain ⟨places, hx⟩ := reads os enc
  refine returnsInHanded_of_row (C := Tryz.checked) (s := Rows.OpenSpec.upto Rows.httpWritesSpec) own started (by kernel_rfl) Tryz.func5
    (witness_row_atRef (enc := enc) (C := Tryz.checked) false (laidWorld os) #[.agg #[.string ⟨#[]⟩, .string ⟨#[]⟩, .string ⟨#[]⟩, .string ⟨#[]⟩, .string ⟨#[]⟩], .agg #[.int .i64 0, .string ⟨#[]⟩]] rfl (by kernel_rfl) (by kernel_rfl) (by kernel_rfl)
      (OpenSpec.preRow_of_cond 8 hx (by kernel_rfl) (fun k hk => by cases hk; kernel_rfl) (by kernel_rfl) (laid_met os _))) ?_
  intro W base args ds gs before hval hW _ hc _ hL hS _
  exact contract H enc W base args ds gs before hval hW (hc _ rfl) (tabs hL hS)

theorem saidUpto : Rows.HttpWritesUptoSaid :=
  OpenClaim.holds_of_cond 5 Tryz.f5 rfl rfl rfl rfl rfl rfl rfl ⟨rfl, rfl, rfl, rfl, rfl⟩ rfl rfl rfl rfl rfl (by kernel_rfl) Tryz.func5 (by kernel_rfl)
    (of_decide_eq_true (by kernel_rfl)) (by unfold Func.isWrapper; rw [if_neg (of_decide_eq_false (by kernel_rfl))]; exact ⟨rfl, rfl⟩)
    (fun os started H enc _ F => by rw [OpenClaim.pre_eq_preRow]; exact liftedUpto os started H enc F)

/-- No parameter wants a stand-in; the program's own looks are off. -/
theorem plain (f : FuncId) (fn : Func) (hf : Tryz.pinned.checked.prog.funcNamed "pennant/pennantlaw22.HttpWrites" = some f) (hfn : Tryz.pinned.checked.prog.funcs[f]? = some fn) :
    true = Tryz.pinned.checked.prog.looks [] ∧ ∀ (j : Nat) t, fn.params[j]? = some t → Tryz.pinned.checked.prog.wantsStandIn t = false := by
  obtain rfl : f = 5 := Option.some.inj ((show Tryz.prog.funcNamed "pennant/pennantlaw22.HttpWrites" = some 5 by kernel_rfl).symm.trans hf) |>.symm
  obtain rfl : fn = Tryz.f5 := (Option.some.inj (Tryz.func5.symm.trans hfn)).symm
  refine ⟨by kernel_rfl, fun j t ht => ?_⟩
  rw [Tryz.params5] at ht
  have ht' : t = 24 ∨ t = 31 := by simpa [or_comm, or_assoc, or_left_comm] using Array.mem_of_getElem? ht
  rcases ht' with rfl | rfl
  · exact (show Tryz.prog.wantsStandIn 24 = false by kernel_rfl)
  · exact (show Tryz.prog.wantsStandIn 31 = false by kernel_rfl)

/-- The card. -/
theorem cardUpto : Rows.HttpWritesUptoCardSaid :=
  Claim7.holds_tied_plain_at .later [] _ _ _ _ saidUpto (fun _ h => by cases h) (by kernel_rfl) (fun _ h => by cases h) httpWritesUpto_row_tie rfl ⟨rfl, rfl⟩ (by kernel_rfl) rfl plain (by kernel_rfl)
end Go.Proofs.YtpikebpjlhccbaaGreatDoor.HttpWrites
