-- Laid by a program of this session (wip/pp in the repo) out of the translation. Lean checks it.
import Derived.Test.YthoknobkkpefkaaDoorPAllx0
import Derived.Test.YthoknobkkpefkaaDoorPAllx4
import Derived.Test.YthoknobkkpefkaaDoorPAllx8
import Derived.Test.YthoknobkkpefkaaDoorPAllx9
namespace Go.Proofs.YthoknobkkpefkaaDoor.PAll
open Go.RowKit Go.Proofs.YthoknobkkpefkaaDoorW.PrintWords Go.Proofs.YthoknobkkpefkaaDoorW.PrintLast Go.Proofs.YthoknobkkpefkaaDoorW.PrintMore
attribute [local go_sem] max2_int min2_int max_two min_two max_three min_three max_four min_four   -- for this text's walks alone
set_option linter.unusedVariables false
set_option linter.unusedSimpArgs false

/-! ### pennantlaw16_RouteWrites: function 4 -/
def pennantlaw16_RouteWrites.f (k : Nat) (a0_0 : Int) (a0_1 : ByteArray) (a0_2 : ByteArray) (a0_3 : Int) (a0_4 : ByteArray) : Option (Bool) := (pennantlaw16_awake.f k).bind fun t309 => (if t309 = true then ((route_Write.f k a0_0 a0_1 a0_2 a0_3 a0_4).bind fun bt310 => ((pennantref16_Write.f k a0_0 a0_1 a0_2 a0_3 a0_4).bind fun bt312 => (if bt310.1.toList = bt312.1.toList then (some (bt310.2 == bt312.2)) else (some false)))) else (some false))
theorem pennantlaw16_RouteWrites.mono : ∀ a0 a1 a2 a3 a4 k, LeO (pennantlaw16_RouteWrites.f k a0 a1 a2 a3 a4) (pennantlaw16_RouteWrites.f (k + 1) a0 a1 a2 a3 a4) := by
  intro a0 a1 a2 a3 a4 k
  unfold pennantlaw16_RouteWrites.f
  repeat' first
      | (with_reducible exact pennantlaw16_awake.mono _)
      | (with_reducible exact pennantref16_Write.mono _ _ _ _ _ _)
      | (with_reducible exact route_Write.mono _ _ _ _ _ _)
      | (with_reducible exact LeO.refl _)
      | (with_reducible exact LeO.none _)
      | (with_reducible refine LeO.ite ?_ ?_)
      | (with_reducible refine LeO.bind ?_ (fun _ => ?_))
      | exact pennantlaw16_awake.mono _
      | exact pennantref16_Write.mono _ _ _ _ _ _
      | exact route_Write.mono _ _ _ _ _ _
      | exact LeO.none _
      | refine LeO.ite ?_ ?_
      | refine LeO.bind ?_ (fun _ => ?_)
set_option maxHeartbeats 8000000 in
set_option maxRecDepth 100000 in
theorem pennantlaw16_RouteWrites.calls (k : Nat) (a0_0 : Int) (a0_1 : ByteArray) (a0_2 : ByteArray) (a0_3 : Int) (a0_4 : ByteArray) (r : Bool) (w : World) (hT : Aside0 (TabsOk w)) (h : pennantlaw16_RouteWrites.f k a0_0 a0_1 a0_2 a0_3 a0_4 = some r) (hr_ : r = true := by rfl) :
    Calls Tryd.prog 4 #[.agg #[.int .i64 a0_0, .string a0_1, .string a0_2, .int .i64 a0_3, .string a0_4]] w fun e w' => e = .returned (.bool r) ∧ Below w.heap.size w w' := by
  have hu24 := Tryd.underlying24
  have HR_ := Aside0.mk hr_
  clear hr_
  have HB := Aside0.mk (Below.refl w.heap.size w)
  have H : ((pennantlaw16_awake.f k).bind fun t309 => (if t309 = true then ((route_Write.f k a0_0 a0_1 a0_2 a0_3 a0_4).bind fun bt310 => ((pennantref16_Write.f k a0_0 a0_1 a0_2 a0_3 a0_4).bind fun bt312 => (if bt310.1.toList = bt312.1.toList then (some (bt310.2 == bt312.2)) else (some false)))) else (some false))) = some r := h
  clear h
  replace H := Option.bind_eq_some_iff.mp H
  obtain ⟨t309, A20, H⟩ := H
  replace H : (if t309 = true then ((route_Write.f k a0_0 a0_1 a0_2 a0_3 a0_4).bind fun bt310 => ((pennantref16_Write.f k a0_0 a0_1 a0_2 a0_3 a0_4).bind fun bt312 => (if bt310.1.toList = bt312.1.toList then (some (bt310.2 == bt312.2)) else (some false)))) else (some false)) = some r := H
  have A2 := Aside0.mk A20
  clear A20
  by_cases c3 : t309 = true
  · subst c3
    have H1 : ((route_Write.f k a0_0 a0_1 a0_2 a0_3 a0_4).bind fun bt310 => ((pennantref16_Write.f k a0_0 a0_1 a0_2 a0_3 a0_4).bind fun bt312 => (if bt310.1.toList = bt312.1.toList then (some (bt310.2 == bt312.2)) else (some false)))) = some r := by rw [if_pos rfl] at H; exact H
    clear H
    have H := H1
    clear H1
    replace H := Option.bind_eq_some_iff.mp H
    obtain ⟨⟨t310, t311⟩, A40, H⟩ := H
    replace H : ((pennantref16_Write.f k a0_0 a0_1 a0_2 a0_3 a0_4).bind fun bt312 => (if t310.toList = bt312.1.toList then (some (t311 == bt312.2)) else (some false))) = some r := H
    have A4 := Aside0.mk A40
    clear A40
    replace H := Option.bind_eq_some_iff.mp H
    obtain ⟨⟨t312, t313⟩, A50, H⟩ := H
    replace H : (if t310.toList = t312.toList then (some (t311 == t313)) else (some false)) = some r := H
    have A5 := Aside0.mk A50
    clear A50
    by_cases c6 : t310.toList = t312.toList
    · rw [if_pos c6] at H
      have c6b0 : (t310.toList == t312.toList) = true := beq_iff_eq.mpr c6
      have c6b1 : (t310.toList != t312.toList) = false := bne_eq_false_iff_eq.mpr c6
      clear c6
      obtain rfl := Option.some.inj H
      go_enter Tryd.func4, Tryd.ntmps4
      go_wp2_with (first | ((with_reducible refine gate_dst (N := 1) rfl ?_); refine box_event ?hg (N := 1) ?hd (cs := #[.int .i64 a0_0, .string a0_1, .string a0_2, .int .i64 a0_3, .string a0_4]) (t := 24) ?hr ?_; (case hd => rfl); (case hg => rfl); (case hr => first | (go_simp; done) | (go_simp; rfl)); intro gb308 hg w7 hbox hb; have n0_ := Aside0.mk (below_step (by repeat (first | (with_reducible first | exact HB.out | apply below_alloc | apply pw_below_drewN | apply below_drew1) | exact HB.out)) hb); have n1_ := Aside0.mk (hbox); have n2_ := Aside0.mk ((by rw [hg]; exact (below_size (by repeat (first | (with_reducible first | exact HB.out | apply below_alloc | apply pw_below_drewN | apply below_drew1) | exact HB.out))) : w.heap.size ≤ gb308)); have n3_ := Aside0.mk ((by rw [hg]; exact (below_size (by repeat (first | (with_reducible first | exact HB.out | apply below_alloc | apply pw_below_drewN | apply below_drew1) | exact HB.out))) : w.heap.size ≤ gb308)); clear HB; have HB := n0_; have BK308 := n1_; have GW308 := n2_; have GE308 := n3_; clear n0_ n1_ n2_ n3_; clear hb hbox hg) | ((with_reducible refine gate_callee (f := 8) rfl ?_); refine goesL_ (some 7) rfl rfl Tryd.func8 (by kernel_rfl) rfl #[] rfl (by (try simp only [List.map_toArray, List.map_cons, List.map_nil]); first | done | rfl | (simp only [List.length_drop, List.length_take]; rfl)) ?_; (with_reducible refine (pennantlaw16_awake.calls k  true _ ?side1 A2.out).mono ?_); (case side1 => exact ⟨TabsOk.below hT.out (by repeat (first | (with_reducible first | exact HB.out | apply below_alloc | apply pw_below_drewN | apply below_drew1 | refine below_set ?_ GE308.out) | exact HB.out))⟩); rintro e w8 ⟨rfl, hb⟩; refine ⟨_, rfl, ?_⟩; have n0_ := Aside0.mk (blk_below (g := gb308) (o := .cells #[.int .i64 a0_0, .string a0_1, .string a0_2, .int .i64 a0_3, .string a0_4] 24 (0, 0)) (by (with_reducible repeat (first | refine blk_drewN ?_ _ | refine blk_drew ?_ | refine blk_alloc ?_ _)); exact BK308.out) hb); have n1_ := Aside0.mk (below_step (by repeat (first | (with_reducible first | exact HB.out | apply below_alloc | apply pw_below_drewN | apply below_drew1 | refine below_set ?_ GE308.out) | exact HB.out)) hb); clear BK308; clear HB; have BK308 := n0_; have HB := n1_; clear n0_ n1_; (try clear hb); (try clear hb2); (try clear hk); (try clear hi); have hcz9_0 : w8.cell? ⟨gb308, 0, none⟩ = some (.int .i64 a0_0) := (blk_cell BK308.out 0).trans rfl; have hcz9_1 : w8.cell? ⟨gb308, 1, none⟩ = some (.string a0_1) := (blk_cell BK308.out 1).trans rfl; have hcz9_2 : w8.cell? ⟨gb308, 2, none⟩ = some (.string a0_2) := (blk_cell BK308.out 2).trans rfl; have hcz9_3 : w8.cell? ⟨gb308, 3, none⟩ = some (.int .i64 a0_3) := (blk_cell BK308.out 3).trans rfl; have hcz9_4 : w8.cell? ⟨gb308, 4, none⟩ = some (.string a0_4) := (blk_cell BK308.out 4).trans rfl; have hfz9_0 := blk_frozen BK308.out 0; have hfz9_1 := blk_frozen BK308.out 1; have hfz9_2 := blk_frozen BK308.out 2; have hfz9_3 := blk_frozen BK308.out 3; have hfz9_4 := blk_frozen BK308.out 4) | ((with_reducible refine gate_callee (f := 15) rfl ?_); refine goesL_ (some 11) rfl rfl Tryd.func15 (by kernel_rfl) rfl #[.agg #[.int .i64 a0_0, .string a0_1, .string a0_2, .int .i64 a0_3, .string a0_4]] rfl (by (try simp only [List.map_toArray, List.map_cons, List.map_nil]); first | done | rfl | (simp only [List.length_drop, List.length_take]; rfl)) ?_; (with_reducible refine (route_Write.calls k a0_0 a0_1 a0_2 a0_3 a0_4 t310 t311 _ ?side1 A4.out).mono ?_); (case side1 => exact ⟨TabsOk.below hT.out (by repeat (first | (with_reducible first | exact HB.out | apply below_alloc | apply pw_below_drewN | apply below_drew1 | refine below_set ?_ GE308.out) | exact HB.out))⟩); rintro e w10 ⟨rfl, hb⟩; refine ⟨_, rfl, ?_⟩; have n0_ := Aside0.mk (blk_below (g := gb308) (o := .cells #[.int .i64 a0_0, .string a0_1, .string a0_2, .int .i64 a0_3, .string a0_4] 24 (0, 0)) (by (with_reducible repeat (first | refine blk_drewN ?_ _ | refine blk_drew ?_ | refine blk_alloc ?_ _)); exact BK308.out) hb); have n1_ := Aside0.mk (below_step (by repeat (first | (with_reducible first | exact HB.out | apply below_alloc | apply pw_below_drewN | apply below_drew1 | refine below_set ?_ GE308.out) | exact HB.out)) hb); clear BK308; clear HB; have BK308 := n0_; have HB := n1_; clear n0_ n1_; (try clear hb); (try clear hb2); (try clear hk); (try clear hi); have hcz11_0 : w10.cell? ⟨gb308, 0, none⟩ = some (.int .i64 a0_0) := (blk_cell BK308.out 0).trans rfl; have hcz11_1 : w10.cell? ⟨gb308, 1, none⟩ = some (.string a0_1) := (blk_cell BK308.out 1).trans rfl; have hcz11_2 : w10.cell? ⟨gb308, 2, none⟩ = some (.string a0_2) := (blk_cell BK308.out 2).trans rfl; have hcz11_3 : w10.cell? ⟨gb308, 3, none⟩ = some (.int .i64 a0_3) := (blk_cell BK308.out 3).trans rfl; have hcz11_4 : w10.cell? ⟨gb308, 4, none⟩ = some (.string a0_4) := (blk_cell BK308.out 4).trans rfl; have hfz11_0 := blk_frozen BK308.out 0; have hfz11_1 := blk_frozen BK308.out 1; have hfz11_2 := blk_frozen BK308.out 2; have hfz11_3 := blk_frozen BK308.out 3; have hfz11_4 := blk_frozen BK308.out 4) | ((with_reducible refine gate_callee (f := 16) rfl ?_); refine goesL_ (some 16) rfl rfl Tryd.func16 (by kernel_rfl) rfl #[.agg #[.int .i64 a0_0, .string a0_1, .string a0_2, .int .i64 a0_3, .string a0_4]] rfl (by (try simp only [List.map_toArray, List.map_cons, List.map_nil]); first | done | rfl | (simp only [List.length_drop, List.length_take]; rfl)) ?_; (with_reducible refine (pennantref16_Write.calls k a0_0 a0_1 a0_2 a0_3 a0_4 t312 t313 _ A5.out).mono ?_); rintro e w12 ⟨rfl, hb⟩; refine ⟨_, rfl, ?_⟩; have n0_ := Aside0.mk (blk_below (g := gb308) (o := .cells #[.int .i64 a0_0, .string a0_1, .string a0_2, .int .i64 a0_3, .string a0_4] 24 (0, 0)) (by (with_reducible repeat (first | refine blk_drewN ?_ _ | refine blk_drew ?_ | refine blk_alloc ?_ _)); exact BK308.out) hb); have n1_ := Aside0.mk (below_step (by repeat (first | (with_reducible first | exact HB.out | apply below_alloc | apply pw_below_drewN | apply below_drew1 | refine below_set ?_ GE308.out) | exact HB.out)) hb); clear BK308; clear HB; have BK308 := n0_; have HB := n1_; clear n0_ n1_; (try clear hb); (try clear hb2); (try clear hk); (try clear hi)))
      go_ret
      exact ⟨by first | rfl | (simp [errW_none, errW_some] <;> rfl) | (simp [*, errW_none, errW_some] <;> rfl), by repeat (first | (with_reducible first | exact HB.out | apply below_alloc | apply pw_below_drewN | apply below_drew1 | refine below_set ?_ GE308.out) | exact HB.out)⟩
    · rw [if_neg c6] at H
      have c6b0 : (t310.toList == t312.toList) = false := beq_eq_false_iff_ne.mpr c6
      have c6b1 : (t310.toList != t312.toList) = true := bne_iff_ne.mpr c6
      exact absurd (Option.some.inj H) (by rw [HR_.out]; simp)
  · replace c3 := Bool.eq_false_iff.mpr c3
    subst c3
    have H1 : (some false) = some r := by rw [if_neg (show ¬ (false = true) by decide)] at H; exact H
    clear H
    have H := H1
    clear H1
    exact absurd (Option.some.inj H) (by rw [HR_.out]; simp)

end Go.Proofs.YthoknobkkpefkaaDoor.PAll
