-- Laid by a program of this session (wip/pp in the repo) out of the translation. Lean checks it.
import Derived.Test.YthoknobkkpefkaaDoorPAllx0
import Derived.Test.YthoknobkkpefkaaDoorPAllx1
import Derived.Test.YthoknobkkpefkaaDoorPAllx4
import Derived.Test.YthoknobkkpefkaaDoorPAllx9
namespace Go.Proofs.YthoknobkkpefkaaDoor.PAll
open Go.RowKit Go.Proofs.YthoknobkkpefkaaDoorW.PrintWords Go.Proofs.YthoknobkkpefkaaDoorW.PrintLast Go.Proofs.YthoknobkkpefkaaDoorW.PrintMore
attribute [local go_sem] max2_int min2_int max_two min_two max_three min_three max_four min_four   -- for this text's walks alone
set_option linter.unusedVariables false
set_option linter.unusedSimpArgs false

attribute [local go_sem high] eqA24
/-! ### pennantlaw16_RouteBack: function 5 -/
def pennantlaw16_RouteBack.j0 : Nat → Int → ByteArray → ByteArray → Int → ByteArray → Option (Bool)
  | 0, _, _, _, _, _ => none
  | k + 1, x315000, x315001, x315002, x315003, x315004 => (route_Write.f k x315000 x315001 x315002 x315003 x315004).bind fun bt332 => (if bt332.2 = 0 then (if x315000 = 6 then ((route_Find.f k bt332.1 (⟨#[98, 97, 115, 105, 99, 104, 116, 116, 112]⟩ : ByteArray)).bind fun bt334 => (if bt334.2.2.2.2.2 = 0 then (some (bt334.1 == x315000 && (bt334.2.1.toList == x315001.toList && (bt334.2.2.1.toList == x315002.toList && (bt334.2.2.2.1 == x315003 && (bt334.2.2.2.2.1.toList == x315004.toList)))))) else (some false))) else ((route_Find.f k bt332.1 (⟨#[115, 99, 120, 109, 108]⟩ : ByteArray)).bind fun bt341 => (if bt341.2.2.2.2.2 = 0 then (some (bt341.1 == x315000 && (bt341.2.1.toList == x315001.toList && (bt341.2.2.1.toList == x315002.toList && (bt341.2.2.2.1 == x315003 && (bt341.2.2.2.2.1.toList == x315004.toList)))))) else (some false)))) else (if bt332.1.toList = ([] : List UInt8) then (some (bt332.2 == 190)) else (some false)))
def pennantlaw16_RouteBack.f (k : Nat) (a0 : ByteArray) (a1 : ByteArray) (a2_0 : Int) (a2_1 : ByteArray) (a2_2 : ByteArray) (a2_3 : Int) (a2_4 : ByteArray) : Option (Bool) := (pennantlaw16_awake.f k).bind fun t315 => (if t315 = true then ((route_Find.f k a0 a1).bind fun bt316 => (if bt316.2.2.2.2.2 = 0 then ((route_Write.f k bt316.1 bt316.2.1 bt316.2.2.1 bt316.2.2.2.1 bt316.2.2.2.2.1).bind fun bt323 => ((route_Find.f k bt323.1 a1).bind fun bt325 => (if bt323.2 = 0 then (if bt325.2.2.2.2.2 = 0 then (if (!(bt316.1 == bt325.1) || (!(bt316.2.1.toList == bt325.2.1.toList) || (!(bt316.2.2.1.toList == bt325.2.2.1.toList) || (!(bt316.2.2.2.1 == bt325.2.2.2.1) || (!(bt316.2.2.2.2.1.toList == bt325.2.2.2.2.1.toList)))))) = true then (some false) else (pennantlaw16_RouteBack.j0 k a2_0 a2_1 a2_2 a2_3 a2_4)) else (some false)) else (some false)))) else (pennantlaw16_RouteBack.j0 k a2_0 a2_1 a2_2 a2_3 a2_4))) else (some false))
theorem pennantlaw16_RouteBack.mono_l : ∀ k, (∀ y0 y1 y2 y3 y4, LeO (pennantlaw16_RouteBack.j0 k y0 y1 y2 y3 y4) (pennantlaw16_RouteBack.j0 (k + 1) y0 y1 y2 y3 y4))
  | 0 => fun _ _ _ _ _ r h => by simp [pennantlaw16_RouteBack.j0] at h
  | k + 1 => by
    have ih0 := pennantlaw16_RouteBack.mono_l k
    · intro y0 y1 y2 y3 y4
      unfold pennantlaw16_RouteBack.j0
      repeat' first
      | (with_reducible exact ih0 _ _ _ _ _)
      | (with_reducible exact pennantlaw16_awake.mono _)
      | (with_reducible exact route_Find.mono _ _ _)
      | (with_reducible exact route_Write.mono _ _ _ _ _ _)
      | (with_reducible exact LeO.refl _)
      | (with_reducible exact LeO.none _)
      | (with_reducible refine LeO.ite ?_ ?_)
      | (with_reducible refine LeO.bind ?_ (fun _ => ?_))
      | exact ih0 _ _ _ _ _
      | exact pennantlaw16_awake.mono _
      | exact route_Find.mono _ _ _
      | exact route_Write.mono _ _ _ _ _ _
      | exact LeO.none _
      | refine LeO.ite ?_ ?_
      | refine LeO.bind ?_ (fun _ => ?_)
theorem pennantlaw16_RouteBack.mono : ∀ a0 a1 a2 a3 a4 a5 a6 k, LeO (pennantlaw16_RouteBack.f k a0 a1 a2 a3 a4 a5 a6) (pennantlaw16_RouteBack.f (k + 1) a0 a1 a2 a3 a4 a5 a6) := by
  intro a0 a1 a2 a3 a4 a5 a6 k
  have ih0 := pennantlaw16_RouteBack.mono_l k
  unfold pennantlaw16_RouteBack.f
  repeat' first
      | (with_reducible exact ih0 _ _ _ _ _)
      | (with_reducible exact pennantlaw16_awake.mono _)
      | (with_reducible exact route_Find.mono _ _ _)
      | (with_reducible exact route_Write.mono _ _ _ _ _ _)
      | (with_reducible exact LeO.refl _)
      | (with_reducible exact LeO.none _)
      | (with_reducible refine LeO.ite ?_ ?_)
      | (with_reducible refine LeO.bind ?_ (fun _ => ?_))
      | exact ih0 _ _ _ _ _
      | exact pennantlaw16_awake.mono _
      | exact route_Find.mono _ _ _
      | exact route_Write.mono _ _ _ _ _ _
      | exact LeO.none _
      | refine LeO.ite ?_ ?_
      | refine LeO.bind ?_ (fun _ => ?_)
set_option maxHeartbeats 8000000 in
set_option maxRecDepth 100000 in
theorem pennantlaw16_RouteBack.calls (k : Nat) (a0 : ByteArray) (a1 : ByteArray) (a2_0 : Int) (a2_1 : ByteArray) (a2_2 : ByteArray) (a2_3 : Int) (a2_4 : ByteArray) (r : Bool) (w : World) (hT : Aside0 (TabsOk w)) (h : pennantlaw16_RouteBack.f k a0 a1 a2_0 a2_1 a2_2 a2_3 a2_4 = some r) (hr_ : r = true := by rfl) :
    Calls Tryd.prog 5 #[.string a0, .string a1, .agg #[.int .i64 a2_0, .string a2_1, .string a2_2, .int .i64 a2_3, .string a2_4]] w fun e w' => e = .returned (.bool r) ∧ Below w.heap.size w w' := by
  have hu24 := Tryd.underlying24
  have HR_ := Aside0.mk hr_
  clear hr_
  have HB := Aside0.mk (Below.refl w.heap.size w)
  have H : ((pennantlaw16_awake.f k).bind fun t315 => (if t315 = true then ((route_Find.f k a0 a1).bind fun bt316 => (if bt316.2.2.2.2.2 = 0 then ((route_Write.f k bt316.1 bt316.2.1 bt316.2.2.1 bt316.2.2.2.1 bt316.2.2.2.2.1).bind fun bt323 => ((route_Find.f k bt323.1 a1).bind fun bt325 => (if bt323.2 = 0 then (if bt325.2.2.2.2.2 = 0 then (if (!(bt316.1 == bt325.1) || (!(bt316.2.1.toList == bt325.2.1.toList) || (!(bt316.2.2.1.toList == bt325.2.2.1.toList) || (!(bt316.2.2.2.1 == bt325.2.2.2.1) || (!(bt316.2.2.2.2.1.toList == bt325.2.2.2.2.1.toList)))))) = true then (some false) else (pennantlaw16_RouteBack.j0 k a2_0 a2_1 a2_2 a2_3 a2_4)) else (some false)) else (some false)))) else (pennantlaw16_RouteBack.j0 k a2_0 a2_1 a2_2 a2_3 a2_4))) else (some false))) = some r := h
  clear h
  replace H := Option.bind_eq_some_iff.mp H
  obtain ⟨t315, A40, H⟩ := H
  replace H : (if t315 = true then ((route_Find.f k a0 a1).bind fun bt316 => (if bt316.2.2.2.2.2 = 0 then ((route_Write.f k bt316.1 bt316.2.1 bt316.2.2.1 bt316.2.2.2.1 bt316.2.2.2.2.1).bind fun bt323 => ((route_Find.f k bt323.1 a1).bind fun bt325 => (if bt323.2 = 0 then (if bt325.2.2.2.2.2 = 0 then (if (!(bt316.1 == bt325.1) || (!(bt316.2.1.toList == bt325.2.1.toList) || (!(bt316.2.2.1.toList == bt325.2.2.1.toList) || (!(bt316.2.2.2.1 == bt325.2.2.2.1) || (!(bt316.2.2.2.2.1.toList == bt325.2.2.2.2.1.toList)))))) = true then (some false) else (pennantlaw16_RouteBack.j0 k a2_0 a2_1 a2_2 a2_3 a2_4)) else (some false)) else (some false)))) else (pennantlaw16_RouteBack.j0 k a2_0 a2_1 a2_2 a2_3 a2_4))) else (some false)) = some r := H
  have A4 := Aside0.mk A40
  clear A40
  by_cases c5 : t315 = true
  · subst c5
    have H1 : ((route_Find.f k a0 a1).bind fun bt316 => (if bt316.2.2.2.2.2 = 0 then ((route_Write.f k bt316.1 bt316.2.1 bt316.2.2.1 bt316.2.2.2.1 bt316.2.2.2.2.1).bind fun bt323 => ((route_Find.f k bt323.1 a1).bind fun bt325 => (if bt323.2 = 0 then (if bt325.2.2.2.2.2 = 0 then (if (!(bt316.1 == bt325.1) || (!(bt316.2.1.toList == bt325.2.1.toList) || (!(bt316.2.2.1.toList == bt325.2.2.1.toList) || (!(bt316.2.2.2.1 == bt325.2.2.2.1) || (!(bt316.2.2.2.2.1.toList == bt325.2.2.2.2.1.toList)))))) = true then (some false) else (pennantlaw16_RouteBack.j0 k a2_0 a2_1 a2_2 a2_3 a2_4)) else (some false)) else (some false)))) else (pennantlaw16_RouteBack.j0 k a2_0 a2_1 a2_2 a2_3 a2_4))) = some r := by rw [if_pos rfl] at H; exact H
    clear H
    have H := H1
    clear H1
    replace H := Option.bind_eq_some_iff.mp H
    obtain ⟨⟨t316, t317, t318, t319, t320, t321⟩, A60, H⟩ := H
    replace H : (if t321 = 0 then ((route_Write.f k t316 t317 t318 t319 t320).bind fun bt323 => ((route_Find.f k bt323.1 a1).bind fun bt325 => (if bt323.2 = 0 then (if bt325.2.2.2.2.2 = 0 then (if (!(t316 == bt325.1) || (!(t317.toList == bt325.2.1.toList) || (!(t318.toList == bt325.2.2.1.toList) || (!(t319 == bt325.2.2.2.1) || (!(t320.toList == bt325.2.2.2.2.1.toList)))))) = true then (some false) else (pennantlaw16_RouteBack.j0 k a2_0 a2_1 a2_2 a2_3 a2_4)) else (some false)) else (some false)))) else (pennantlaw16_RouteBack.j0 k a2_0 a2_1 a2_2 a2_3 a2_4)) = some r := H
    have A6 := Aside0.mk A60
    clear A60
    have HC7 := Aside0.mk H
    clear H
    go_enter Tryd.func5, Tryd.ntmps5
    go_upto_if 27 with (first | ((with_reducible refine gate_dst (N := 5) rfl ?_); refine box_event ?hg (N := 5) ?hd (cs := #[.int .i64 a2_0, .string a2_1, .string a2_2, .int .i64 a2_3, .string a2_4]) (t := 24) ?hr ?_; (case hd => rfl); (case hg => rfl); (case hr => first | (go_simp; done) | (go_simp; rfl)); intro gb314 hg w8 hbox hb; have n0_ := Aside0.mk (below_step (by repeat (first | (with_reducible first | exact HB.out | apply below_alloc | apply pw_below_drewN | apply below_drew1) | exact HB.out)) hb); have n1_ := Aside0.mk (hbox); have n2_ := Aside0.mk ((by rw [hg]; exact (below_size (by repeat (first | (with_reducible first | exact HB.out | apply below_alloc | apply pw_below_drewN | apply below_drew1) | exact HB.out))) : w.heap.size ≤ gb314)); have n3_ := Aside0.mk ((by rw [hg]; exact (below_size (by repeat (first | (with_reducible first | exact HB.out | apply below_alloc | apply pw_below_drewN | apply below_drew1) | exact HB.out))) : w.heap.size ≤ gb314)); clear HB; have HB := n0_; have BK314 := n1_; have GW314 := n2_; have GE314 := n3_; clear n0_ n1_ n2_ n3_; clear hb hbox hg) | ((with_reducible refine gate_callee (f := 8) rfl ?_); refine goesL_ (some 18) rfl rfl Tryd.func8 (by kernel_rfl) rfl #[] rfl (by (try simp only [List.map_toArray, List.map_cons, List.map_nil]); first | done | rfl | (simp only [List.length_drop, List.length_take]; rfl)) ?_; (with_reducible refine (pennantlaw16_awake.calls k  true _ ?side1 A4.out).mono ?_); (case side1 => exact ⟨TabsOk.below hT.out (by repeat (first | (with_reducible first | exact HB.out | apply below_alloc | apply pw_below_drewN | apply below_drew1 | refine below_set ?_ GE314.out) | exact HB.out))⟩); rintro e w9 ⟨rfl, hb⟩; refine ⟨_, rfl, ?_⟩; have n0_ := Aside0.mk (blk_below (g := gb314) (o := .cells #[.int .i64 a2_0, .string a2_1, .string a2_2, .int .i64 a2_3, .string a2_4] 24 (0, 0)) (by (with_reducible repeat (first | refine blk_drewN ?_ _ | refine blk_drew ?_ | refine blk_alloc ?_ _)); exact BK314.out) hb); have n1_ := Aside0.mk (below_step (by repeat (first | (with_reducible first | exact HB.out | apply below_alloc | apply pw_below_drewN | apply below_drew1 | refine below_set ?_ GE314.out) | exact HB.out)) hb); clear BK314; clear HB; have BK314 := n0_; have HB := n1_; clear n0_ n1_; (try clear hb); (try clear hb2); (try clear hk); (try clear hi)) | ((with_reducible refine gate_callee (f := 9) rfl ?_); refine goesL_ (some 23) rfl rfl Tryd.func9 (by kernel_rfl) rfl #[.string a0, .string a1] rfl (by (try simp only [List.map_toArray, List.map_cons, List.map_nil]); first | done | rfl | (simp only [List.length_drop, List.length_take]; rfl)) ?_; (with_reducible refine (route_Find.calls k a0 a1 t316 t317 t318 t319 t320 t321 _ ?side1 A6.out).mono ?_); (case side1 => exact ⟨TabsOk.below hT.out (by repeat (first | (with_reducible first | exact HB.out | apply below_alloc | apply pw_below_drewN | apply below_drew1 | refine below_set ?_ GE314.out) | exact HB.out))⟩); rintro e w10 ⟨rfl, hb⟩; refine ⟨_, rfl, ?_⟩; have n0_ := Aside0.mk (blk_below (g := gb314) (o := .cells #[.int .i64 a2_0, .string a2_1, .string a2_2, .int .i64 a2_3, .string a2_4] 24 (0, 0)) (by (with_reducible repeat (first | refine blk_drewN ?_ _ | refine blk_drew ?_ | refine blk_alloc ?_ _)); exact BK314.out) hb); have n1_ := Aside0.mk (below_step (by repeat (first | (with_reducible first | exact HB.out | apply below_alloc | apply pw_below_drewN | apply below_drew1 | refine below_set ?_ GE314.out) | exact HB.out)) hb); clear BK314; clear HB; have BK314 := n0_; have HB := n1_; clear n0_ n1_; (try clear hb); (try clear hb2); (try clear hk); (try clear hi)) | ((with_reducible refine gate_dst (N := 7) rfl ?_); refine box_event ?hg (N := 7) ?hd (cs := #[.int .i64 0, .string (⟨#[]⟩ : ByteArray), .string (⟨#[]⟩ : ByteArray), .int .i64 0, .string (⟨#[]⟩ : ByteArray)]) (t := 24) ?hr ?_; (case hd => rfl); (case hg => rfl); (case hr => first | (go_simp; done) | (go_simp; rfl)); intro gb322 hg w11 hbox hb; have n0_ := Aside0.mk (blk_below (g := gb314) (o := .cells #[.int .i64 a2_0, .string a2_1, .string a2_2, .int .i64 a2_3, .string a2_4] 24 (0, 0)) (by (with_reducible repeat (first | refine blk_drewN ?_ _ | refine blk_drew ?_ | refine blk_alloc ?_ _)); exact BK314.out) hb); have n1_ := Aside0.mk (below_step (by repeat (first | (with_reducible first | exact HB.out | apply below_alloc | apply pw_below_drewN | apply below_drew1 | refine below_set ?_ GE314.out) | exact HB.out)) hb); have n2_ := Aside0.mk (hbox); have n3_ := Aside0.mk ((by rw [hg]; exact (below_size (by repeat (first | (with_reducible first | exact HB.out | apply below_alloc | apply pw_below_drewN | apply below_drew1 | refine below_set ?_ GE314.out) | exact HB.out))) : w.heap.size ≤ gb322)); have n4_ := Aside0.mk ((by rw [hg]; exact (below_size (by repeat (first | (with_reducible first | exact HB.out | apply below_alloc | apply pw_below_drewN | apply below_drew1 | refine below_set ?_ GE314.out) | exact HB.out))) : w.heap.size ≤ gb322)); have n5_ := Aside0.mk ((by rw [hg]; exact Nat.ne_of_lt (blk_lt (g := gb314) (o := .cells #[.int .i64 a2_0, .string a2_1, .string a2_2, .int .i64 a2_3, .string a2_4] 24 (0, 0)) (by (with_reducible repeat (first | refine blk_drewN ?_ _ | refine blk_drew ?_ | refine blk_alloc ?_ _)); exact BK314.out)) : gb314 ≠ gb322)); have n6_ := Aside0.mk ((by rw [hg]; exact Nat.ne_of_gt (blk_lt (g := gb314) (o := .cells #[.int .i64 a2_0, .string a2_1, .string a2_2, .int .i64 a2_3, .string a2_4] 24 (0, 0)) (by (with_reducible repeat (first | refine blk_drewN ?_ _ | refine blk_drew ?_ | refine blk_alloc ?_ _)); exact BK314.out)) : gb322 ≠ gb314)); clear BK314; clear HB; have BK314 := n0_; have HB := n1_; have BK322 := n2_; have GW322 := n3_; have GE322 := n4_; have NB314_322 := n5_; have NB322_314 := n6_; clear n0_ n1_ n2_ n3_ n4_ n5_ n6_; clear hb hbox hg; have hnb12 := NB322_314.out; have hnc12 := NB314_322.out; have hcz13_0 : w11.cell? ⟨gb322, 0, none⟩ = some (.int .i64 0) := (blk_cell BK322.out 0).trans rfl; have hcz13_1 : w11.cell? ⟨gb322, 1, none⟩ = some (.string (⟨#[]⟩ : ByteArray)) := (blk_cell BK322.out 1).trans rfl; have hcz13_2 : w11.cell? ⟨gb322, 2, none⟩ = some (.string (⟨#[]⟩ : ByteArray)) := (blk_cell BK322.out 2).trans rfl; have hcz13_3 : w11.cell? ⟨gb322, 3, none⟩ = some (.int .i64 0) := (blk_cell BK322.out 3).trans rfl; have hcz13_4 : w11.cell? ⟨gb322, 4, none⟩ = some (.string (⟨#[]⟩ : ByteArray)) := (blk_cell BK322.out 4).trans rfl; have hfz13_0 := blk_frozen BK322.out 0; have hfz13_1 := blk_frozen BK322.out 1; have hfz13_2 := blk_frozen BK322.out 2; have hfz13_3 := blk_frozen BK322.out 3; have hfz13_4 := blk_frozen BK322.out 4))
    (try simp only [Act.put, List.setIfInBounds_toArray, List.set_cons_zero, List.set_cons_succ])
    go_cut [] (fun wc => ∃ (kq : Nat), Aside0 (pennantlaw16_RouteBack.j0 kq a2_0 a2_1 a2_2 a2_3 a2_4 = some r) ∧ Aside0 (kq ≤ k) ∧ Aside0 (wc.heap[gb314]? = some (.cells #[.int .i64 a2_0, .string a2_1, .string a2_2, .int .i64 a2_3, .string a2_4] 24 (0, 0))) ∧ Aside0 (wc.heap[gb322]? = some (.cells #[.int .i64 t316, .string t317, .string t318, .int .i64 t319, .string t320] 24 (0, 0))) ∧ Aside0 (Below w.heap.size w wc))
    case first =>
      have H := HC7.out
      clear HC7
      by_cases c14 : t321 = 0
      · rw [if_pos c14] at H
        have c14b0 : (t321 == 0) = true := beq_iff_eq.mpr c14
        have c14b1 : (t321 != 0) = false := bne_eq_false_iff_eq.mpr c14
        clear c14
        (first | rw [c14b0] | (simp only [i64_w, i32_w]; rw [c14b0]) | skip)
        replace H := Option.bind_eq_some_iff.mp H
        obtain ⟨⟨t323, t324⟩, A150, H⟩ := H
        replace H : ((route_Find.f k t323 a1).bind fun bt325 => (if t324 = 0 then (if bt325.2.2.2.2.2 = 0 then (if (!(t316 == bt325.1) || (!(t317.toList == bt325.2.1.toList) || (!(t318.toList == bt325.2.2.1.toList) || (!(t319 == bt325.2.2.2.1) || (!(t320.toList == bt325.2.2.2.2.1.toList)))))) = true then (some false) else (pennantlaw16_RouteBack.j0 k a2_0 a2_1 a2_2 a2_3 a2_4)) else (some false)) else (some false))) = some r := H
        have A15 := Aside0.mk A150
        clear A150
        replace H := Option.bind_eq_some_iff.mp H
        obtain ⟨⟨t325, t326, t327, t328, t329, t330⟩, A160, H⟩ := H
        replace H : (if t324 = 0 then (if t330 = 0 then (if (!(t316 == t325) || (!(t317.toList == t326.toList) || (!(t318.toList == t327.toList) || (!(t319 == t328) || (!(t320.toList == t329.toList)))))) = true then (some false) else (pennantlaw16_RouteBack.j0 k a2_0 a2_1 a2_2 a2_3 a2_4)) else (some false)) else (some false)) = some r := H
        have A16 := Aside0.mk A160
        clear A160
        by_cases c17 : t324 = 0
        · rw [if_pos c17] at H
          have c17b0 : (t324 == 0) = true := beq_iff_eq.mpr c17
          have c17b1 : (t324 != 0) = false := bne_eq_false_iff_eq.mpr c17
          clear c17
          by_cases c18 : t330 = 0
          · rw [if_pos c18] at H
            have c18b0 : (t330 == 0) = true := beq_iff_eq.mpr c18
            have c18b1 : (t330 != 0) = false := bne_eq_false_iff_eq.mpr c18
            clear c18
            by_cases c19 : (!(t316 == t325) || (!(t317.toList == t326.toList) || (!(t318.toList == t327.toList) || (!(t319 == t328) || (!(t320.toList == t329.toList)))))) = true
            · rw [if_pos c19] at H
              have c19b0 : (!(t316 == t325) || (!(t317.toList == t326.toList) || (!(t318.toList == t327.toList) || (!(t319 == t328) || (!(t320.toList == t329.toList)))))) = true := c19
              clear c19
              exact absurd (Option.some.inj H) (by rw [HR_.out]; simp)
            · rw [if_neg c19] at H
              have c19b0 : (!(t316 == t325) || (!(t317.toList == t326.toList) || (!(t318.toList == t327.toList) || (!(t319 == t328) || (!(t320.toList == t329.toList)))))) = false := by simpa using c19
              clear c19
              have H' := Aside0.mk H
              clear H
              have hnb20 := NB322_314.out
              have hnc20 := NB314_322.out
              have hcz21_0 : w11.cell? ⟨gb322, 0, none⟩ = some (.int .i64 0) := (blk_cell BK322.out 0).trans rfl
              have hcz21_1 : w11.cell? ⟨gb322, 1, none⟩ = some (.string (⟨#[]⟩ : ByteArray)) := (blk_cell BK322.out 1).trans rfl
              have hcz21_2 : w11.cell? ⟨gb322, 2, none⟩ = some (.string (⟨#[]⟩ : ByteArray)) := (blk_cell BK322.out 2).trans rfl
              have hcz21_3 : w11.cell? ⟨gb322, 3, none⟩ = some (.int .i64 0) := (blk_cell BK322.out 3).trans rfl
              have hcz21_4 : w11.cell? ⟨gb322, 4, none⟩ = some (.string (⟨#[]⟩ : ByteArray)) := (blk_cell BK322.out 4).trans rfl
              have hfz21_0 := blk_frozen BK322.out 0
              have hfz21_1 := blk_frozen BK322.out 1
              have hfz21_2 := blk_frozen BK322.out 2
              have hfz21_3 := blk_frozen BK322.out 3
              have hfz21_4 := blk_frozen BK322.out 4
              go_wp2_with (first | ((with_reducible refine gate_callee (f := 15) rfl ?_); refine goesL_ (some 30) rfl rfl Tryd.func15 (by kernel_rfl) rfl #[.agg #[.int .i64 t316, .string t317, .string t318, .int .i64 t319, .string t320]] rfl (by (try simp only [List.map_toArray, List.map_cons, List.map_nil]); first | done | rfl | (simp only [List.length_drop, List.length_take]; rfl)) ?_; (with_reducible refine (route_Write.calls k t316 t317 t318 t319 t320 t323 t324 _ ?side1 A15.out).mono ?_); (case side1 => exact ⟨TabsOk.below hT.out (by repeat (first | (with_reducible first | exact HB.out | apply below_alloc | apply pw_below_drewN | apply below_drew1 | refine below_set ?_ GE314.out | refine below_set ?_ GE322.out) | exact HB.out))⟩); rintro e w22 ⟨rfl, hb⟩; refine ⟨_, rfl, ?_⟩; have n0_ := Aside0.mk (blk_below (g := gb314) (o := .cells #[.int .i64 a2_0, .string a2_1, .string a2_2, .int .i64 a2_3, .string a2_4] 24 (0, 0)) (by (with_reducible repeat (first | refine blk_drewN ?_ _ | refine blk_drew ?_ | refine blk_alloc ?_ _)); refine blk_far ?_ NB314_322.out _; (with_reducible repeat (first | refine blk_drewN ?_ _ | refine blk_drew ?_ | refine blk_alloc ?_ _)); refine blk_far ?_ NB314_322.out _; (with_reducible repeat (first | refine blk_drewN ?_ _ | refine blk_drew ?_ | refine blk_alloc ?_ _)); refine blk_far ?_ NB314_322.out _; (with_reducible repeat (first | refine blk_drewN ?_ _ | refine blk_drew ?_ | refine blk_alloc ?_ _)); refine blk_far ?_ NB314_322.out _; (with_reducible repeat (first | refine blk_drewN ?_ _ | refine blk_drew ?_ | refine blk_alloc ?_ _)); refine blk_far ?_ NB314_322.out _; (with_reducible repeat (first | refine blk_drewN ?_ _ | refine blk_drew ?_ | refine blk_alloc ?_ _)); exact BK314.out) hb); have n1_ := Aside0.mk (blk_below (g := gb322) (o := .cells #[.int .i64 t316, .string t317, .string t318, .int .i64 t319, .string t320] 24 (0, 0)) (by (with_reducible repeat (first | refine blk_drewN ?_ _ | refine blk_drew ?_ | refine blk_alloc ?_ _)); refine blk_put (cs := #[.int .i64 t316, .string t317, .string t318, .int .i64 t319, .string (⟨#[]⟩ : ByteArray)]) ?_ 4 _ rfl; (with_reducible repeat (first | refine blk_drewN ?_ _ | refine blk_drew ?_ | refine blk_alloc ?_ _)); refine blk_put (cs := #[.int .i64 t316, .string t317, .string t318, .int .i64 0, .string (⟨#[]⟩ : ByteArray)]) ?_ 3 _ rfl; (with_reducible repeat (first | refine blk_drewN ?_ _ | refine blk_drew ?_ | refine blk_alloc ?_ _)); refine blk_put (cs := #[.int .i64 t316, .string t317, .string (⟨#[]⟩ : ByteArray), .int .i64 0, .string (⟨#[]⟩ : ByteArray)]) ?_ 2 _ rfl; (with_reducible repeat (first | refine blk_drewN ?_ _ | refine blk_drew ?_ | refine blk_alloc ?_ _)); refine blk_put (cs := #[.int .i64 t316, .string (⟨#[]⟩ : ByteArray), .string (⟨#[]⟩ : ByteArray), .int .i64 0, .string (⟨#[]⟩ : ByteArray)]) ?_ 1 _ rfl; (with_reducible repeat (first | refine blk_drewN ?_ _ | refine blk_drew ?_ | refine blk_alloc ?_ _)); refine blk_put (cs := #[.int .i64 0, .string (⟨#[]⟩ : ByteArray), .string (⟨#[]⟩ : ByteArray), .int .i64 0, .string (⟨#[]⟩ : ByteArray)]) ?_ 0 _ rfl; (with_reducible repeat (first | refine blk_drewN ?_ _ | refine blk_drew ?_ | refine blk_alloc ?_ _)); exact BK322.out) hb); have n2_ := Aside0.mk (below_step (by repeat (first | (with_reducible first | exact HB.out | apply below_alloc | apply pw_below_drewN | apply below_drew1 | refine below_set ?_ GE314.out | refine below_set ?_ GE322.out) | exact HB.out)) hb); clear BK314; clear BK322; clear HB; have BK314 := n0_; have BK322 := n1_; have HB := n2_; clear n0_ n1_ n2_; (try clear hb); (try clear hb2); (try clear hk); (try clear hi)) | ((with_reducible refine gate_callee (f := 9) rfl ?_); refine goesL_ (some 36) rfl rfl Tryd.func9 (by kernel_rfl) rfl #[.string t323, .string a1] rfl (by (try simp only [List.map_toArray, List.map_cons, List.map_nil]); first | done | rfl | (simp only [List.length_drop, List.length_take]; rfl)) ?_; (with_reducible refine (route_Find.calls k t323 a1 t325 t326 t327 t328 t329 t330 _ ?side1 A16.out).mono ?_); (case side1 => exact ⟨TabsOk.below hT.out (by repeat (first | (with_reducible first | exact HB.out | apply below_alloc | apply pw_below_drewN | apply below_drew1 | refine below_set ?_ GE314.out | refine below_set ?_ GE322.out) | exact HB.out))⟩); rintro e w23 ⟨rfl, hb⟩; refine ⟨_, rfl, ?_⟩; have n0_ := Aside0.mk (blk_below (g := gb314) (o := .cells #[.int .i64 a2_0, .string a2_1, .string a2_2, .int .i64 a2_3, .string a2_4] 24 (0, 0)) (by (with_reducible repeat (first | refine blk_drewN ?_ _ | refine blk_drew ?_ | refine blk_alloc ?_ _)); exact BK314.out) hb); have n1_ := Aside0.mk (blk_below (g := gb322) (o := .cells #[.int .i64 t316, .string t317, .string t318, .int .i64 t319, .string t320] 24 (0, 0)) (by (with_reducible repeat (first | refine blk_drewN ?_ _ | refine blk_drew ?_ | refine blk_alloc ?_ _)); exact BK322.out) hb); have n2_ := Aside0.mk (below_step (by repeat (first | (with_reducible first | exact HB.out | apply below_alloc | apply pw_below_drewN | apply below_drew1 | refine below_set ?_ GE314.out | refine below_set ?_ GE322.out) | exact HB.out)) hb); clear BK314; clear BK322; clear HB; have BK314 := n0_; have BK322 := n1_; have HB := n2_; clear n0_ n1_ n2_; (try clear hb); (try clear hb2); (try clear hk); (try clear hi)) | ((with_reducible refine gate_dst (N := 11) rfl ?_); refine box_event ?hg (N := 11) ?hd (cs := #[.int .i64 0, .string (⟨#[]⟩ : ByteArray), .string (⟨#[]⟩ : ByteArray), .int .i64 0, .string (⟨#[]⟩ : ByteArray)]) (t := 24) ?hr ?_; (case hd => rfl); (case hg => rfl); (case hr => first | (go_simp; done) | (go_simp; rfl)); intro gb331 hg w24 hbox hb; have n0_ := Aside0.mk (blk_below (g := gb314) (o := .cells #[.int .i64 a2_0, .string a2_1, .string a2_2, .int .i64 a2_3, .string a2_4] 24 (0, 0)) (by (with_reducible repeat (first | refine blk_drewN ?_ _ | refine blk_drew ?_ | refine blk_alloc ?_ _)); exact BK314.out) hb); have n1_ := Aside0.mk (blk_below (g := gb322) (o := .cells #[.int .i64 t316, .string t317, .string t318, .int .i64 t319, .string t320] 24 (0, 0)) (by (with_reducible repeat (first | refine blk_drewN ?_ _ | refine blk_drew ?_ | refine blk_alloc ?_ _)); exact BK322.out) hb); have n2_ := Aside0.mk (below_step (by repeat (first | (with_reducible first | exact HB.out | apply below_alloc | apply pw_below_drewN | apply below_drew1 | refine below_set ?_ GE314.out | refine below_set ?_ GE322.out) | exact HB.out)) hb); have n3_ := Aside0.mk (hbox); have n4_ := Aside0.mk ((by rw [hg]; exact (below_size (by repeat (first | (with_reducible first | exact HB.out | apply below_alloc | apply pw_below_drewN | apply below_drew1 | refine below_set ?_ GE314.out | refine below_set ?_ GE322.out) | exact HB.out))) : w.heap.size ≤ gb331)); have n5_ := Aside0.mk ((by rw [hg]; exact (below_size (by repeat (first | (with_reducible first | exact HB.out | apply below_alloc | apply pw_below_drewN | apply below_drew1 | refine below_set ?_ GE314.out | refine below_set ?_ GE322.out) | exact HB.out))) : w.heap.size ≤ gb331)); have n6_ := Aside0.mk ((by rw [hg]; exact Nat.ne_of_lt (blk_lt (g := gb314) (o := .cells #[.int .i64 a2_0, .string a2_1, .string a2_2, .int .i64 a2_3, .string a2_4] 24 (0, 0)) (by (with_reducible repeat (first | refine blk_drewN ?_ _ | refine blk_drew ?_ | refine blk_alloc ?_ _)); exact BK314.out)) : gb314 ≠ gb331)); have n7_ := Aside0.mk ((by rw [hg]; exact Nat.ne_of_gt (blk_lt (g := gb314) (o := .cells #[.int .i64 a2_0, .string a2_1, .string a2_2, .int .i64 a2_3, .string a2_4] 24 (0, 0)) (by (with_reducible repeat (first | refine blk_drewN ?_ _ | refine blk_drew ?_ | refine blk_alloc ?_ _)); exact BK314.out)) : gb331 ≠ gb314)); have n8_ := Aside0.mk ((by rw [hg]; exact Nat.ne_of_lt (blk_lt (g := gb322) (o := .cells #[.int .i64 t316, .string t317, .string t318, .int .i64 t319, .string t320] 24 (0, 0)) (by (with_reducible repeat (first | refine blk_drewN ?_ _ | refine blk_drew ?_ | refine blk_alloc ?_ _)); exact BK322.out)) : gb322 ≠ gb331)); have n9_ := Aside0.mk ((by rw [hg]; exact Nat.ne_of_gt (blk_lt (g := gb322) (o := .cells #[.int .i64 t316, .string t317, .string t318, .int .i64 t319, .string t320] 24 (0, 0)) (by (with_reducible repeat (first | refine blk_drewN ?_ _ | refine blk_drew ?_ | refine blk_alloc ?_ _)); exact BK322.out)) : gb331 ≠ gb322)); clear BK314; clear BK322; clear HB; have BK314 := n0_; have BK322 := n1_; have HB := n2_; have BK331 := n3_; have GW331 := n4_; have GE331 := n5_; have NB314_331 := n6_; have NB331_314 := n7_; have NB322_331 := n8_; have NB331_322 := n9_; clear n0_ n1_ n2_ n3_ n4_ n5_ n6_ n7_ n8_ n9_; clear hb hbox hg; have hnb25 := NB331_314.out; have hnc25 := NB314_331.out; have hnb26 := NB331_322.out; have hnc26 := NB322_331.out; have hcz27_0 : w24.cell? ⟨gb331, 0, none⟩ = some (.int .i64 0) := (blk_cell BK331.out 0).trans rfl; have hcz27_1 : w24.cell? ⟨gb331, 1, none⟩ = some (.string (⟨#[]⟩ : ByteArray)) := (blk_cell BK331.out 1).trans rfl; have hcz27_2 : w24.cell? ⟨gb331, 2, none⟩ = some (.string (⟨#[]⟩ : ByteArray)) := (blk_cell BK331.out 2).trans rfl; have hcz27_3 : w24.cell? ⟨gb331, 3, none⟩ = some (.int .i64 0) := (blk_cell BK331.out 3).trans rfl; have hcz27_4 : w24.cell? ⟨gb331, 4, none⟩ = some (.string (⟨#[]⟩ : ByteArray)) := (blk_cell BK331.out 4).trans rfl; have hfz27_0 := blk_frozen BK331.out 0; have hfz27_1 := blk_frozen BK331.out 1; have hfz27_2 := blk_frozen BK331.out 2; have hfz27_3 := blk_frozen BK331.out 3; have hfz27_4 := blk_frozen BK331.out 4; have hcz28_0 : w24.cell? ⟨gb322, 0, none⟩ = some (.int .i64 t316) := (blk_cell BK322.out 0).trans rfl; have hcz28_1 : w24.cell? ⟨gb322, 1, none⟩ = some (.string t317) := (blk_cell BK322.out 1).trans rfl; have hcz28_2 : w24.cell? ⟨gb322, 2, none⟩ = some (.string t318) := (blk_cell BK322.out 2).trans rfl; have hcz28_3 : w24.cell? ⟨gb322, 3, none⟩ = some (.int .i64 t319) := (blk_cell BK322.out 3).trans rfl; have hcz28_4 : w24.cell? ⟨gb322, 4, none⟩ = some (.string t320) := (blk_cell BK322.out 4).trans rfl; have hfz28_0 := blk_frozen BK322.out 0; have hfz28_1 := blk_frozen BK322.out 1; have hfz28_2 := blk_frozen BK322.out 2; have hfz28_3 := blk_frozen BK322.out 3; have hfz28_4 := blk_frozen BK322.out 4))
              go_meet
              case rel => exact ⟨_, H', ⟨by first | omega | exact Nat.le_refl _⟩, ⟨by (with_reducible repeat (first | refine blk_drewN ?_ _ | refine blk_drew ?_ | refine blk_alloc ?_ _)); refine blk_far ?_ NB314_331.out _; (with_reducible repeat (first | refine blk_drewN ?_ _ | refine blk_drew ?_ | refine blk_alloc ?_ _)); refine blk_far ?_ NB314_331.out _; (with_reducible repeat (first | refine blk_drewN ?_ _ | refine blk_drew ?_ | refine blk_alloc ?_ _)); refine blk_far ?_ NB314_331.out _; (with_reducible repeat (first | refine blk_drewN ?_ _ | refine blk_drew ?_ | refine blk_alloc ?_ _)); refine blk_far ?_ NB314_331.out _; (with_reducible repeat (first | refine blk_drewN ?_ _ | refine blk_drew ?_ | refine blk_alloc ?_ _)); refine blk_far ?_ NB314_331.out _; (with_reducible repeat (first | refine blk_drewN ?_ _ | refine blk_drew ?_ | refine blk_alloc ?_ _)); exact BK314.out⟩, ⟨by (with_reducible repeat (first | refine blk_drewN ?_ _ | refine blk_drew ?_ | refine blk_alloc ?_ _)); refine blk_far ?_ NB322_331.out _; (with_reducible repeat (first | refine blk_drewN ?_ _ | refine blk_drew ?_ | refine blk_alloc ?_ _)); refine blk_far ?_ NB322_331.out _; (with_reducible repeat (first | refine blk_drewN ?_ _ | refine blk_drew ?_ | refine blk_alloc ?_ _)); refine blk_far ?_ NB322_331.out _; (with_reducible repeat (first | refine blk_drewN ?_ _ | refine blk_drew ?_ | refine blk_alloc ?_ _)); refine blk_far ?_ NB322_331.out _; (with_reducible repeat (first | refine blk_drewN ?_ _ | refine blk_drew ?_ | refine blk_alloc ?_ _)); refine blk_far ?_ NB322_331.out _; (with_reducible repeat (first | refine blk_drewN ?_ _ | refine blk_drew ?_ | refine blk_alloc ?_ _)); exact BK322.out⟩, ⟨by repeat (first | (with_reducible first | exact HB.out | apply below_alloc | apply pw_below_drewN | apply below_drew1 | refine below_set ?_ GE314.out | refine below_set ?_ GE322.out | refine below_set ?_ GE331.out) | exact HB.out)⟩⟩
          · rw [if_neg c18] at H
            have c18b0 : (t330 == 0) = false := beq_eq_false_iff_ne.mpr c18
            have c18b1 : (t330 != 0) = true := bne_iff_ne.mpr c18
            exact absurd (Option.some.inj H) (by rw [HR_.out]; simp)
        · rw [if_neg c17] at H
          have c17b0 : (t324 == 0) = false := beq_eq_false_iff_ne.mpr c17
          have c17b1 : (t324 != 0) = true := bne_iff_ne.mpr c17
          exact absurd (Option.some.inj H) (by rw [HR_.out]; simp)
      · rw [if_neg c14] at H
        have c14b0 : (t321 == 0) = false := beq_eq_false_iff_ne.mpr c14
        have c14b1 : (t321 != 0) = true := bne_iff_ne.mpr c14
        (first | rw [c14b0] | (simp only [i64_w, i32_w]; rw [c14b0]) | skip)
        have H' := Aside0.mk H
        clear H
        go_wp2
        go_meet
        case rel => exact ⟨_, H', ⟨by first | omega | exact Nat.le_refl _⟩, ⟨by (with_reducible repeat (first | refine blk_drewN ?_ _ | refine blk_drew ?_ | refine blk_alloc ?_ _)); refine blk_far ?_ NB314_322.out _; (with_reducible repeat (first | refine blk_drewN ?_ _ | refine blk_drew ?_ | refine blk_alloc ?_ _)); refine blk_far ?_ NB314_322.out _; (with_reducible repeat (first | refine blk_drewN ?_ _ | refine blk_drew ?_ | refine blk_alloc ?_ _)); refine blk_far ?_ NB314_322.out _; (with_reducible repeat (first | refine blk_drewN ?_ _ | refine blk_drew ?_ | refine blk_alloc ?_ _)); refine blk_far ?_ NB314_322.out _; (with_reducible repeat (first | refine blk_drewN ?_ _ | refine blk_drew ?_ | refine blk_alloc ?_ _)); refine blk_far ?_ NB314_322.out _; (with_reducible repeat (first | refine blk_drewN ?_ _ | refine blk_drew ?_ | refine blk_alloc ?_ _)); exact BK314.out⟩, ⟨by (with_reducible repeat (first | refine blk_drewN ?_ _ | refine blk_drew ?_ | refine blk_alloc ?_ _)); refine blk_put (cs := #[.int .i64 t316, .string t317, .string t318, .int .i64 t319, .string (⟨#[]⟩ : ByteArray)]) ?_ 4 _ rfl; (with_reducible repeat (first | refine blk_drewN ?_ _ | refine blk_drew ?_ | refine blk_alloc ?_ _)); refine blk_put (cs := #[.int .i64 t316, .string t317, .string t318, .int .i64 0, .string (⟨#[]⟩ : ByteArray)]) ?_ 3 _ rfl; (with_reducible repeat (first | refine blk_drewN ?_ _ | refine blk_drew ?_ | refine blk_alloc ?_ _)); refine blk_put (cs := #[.int .i64 t316, .string t317, .string (⟨#[]⟩ : ByteArray), .int .i64 0, .string (⟨#[]⟩ : ByteArray)]) ?_ 2 _ rfl; (with_reducible repeat (first | refine blk_drewN ?_ _ | refine blk_drew ?_ | refine blk_alloc ?_ _)); refine blk_put (cs := #[.int .i64 t316, .string (⟨#[]⟩ : ByteArray), .string (⟨#[]⟩ : ByteArray), .int .i64 0, .string (⟨#[]⟩ : ByteArray)]) ?_ 1 _ rfl; (with_reducible repeat (first | refine blk_drewN ?_ _ | refine blk_drew ?_ | refine blk_alloc ?_ _)); refine blk_put (cs := #[.int .i64 0, .string (⟨#[]⟩ : ByteArray), .string (⟨#[]⟩ : ByteArray), .int .i64 0, .string (⟨#[]⟩ : ByteArray)]) ?_ 0 _ rfl; (with_reducible repeat (first | refine blk_drewN ?_ _ | refine blk_drew ?_ | refine blk_alloc ?_ _)); exact BK322.out⟩, ⟨by repeat (first | (with_reducible first | exact HB.out | apply below_alloc | apply pw_below_drewN | apply below_drew1 | refine below_set ?_ GE314.out | refine below_set ?_ GE322.out) | exact HB.out)⟩⟩
    case rest =>
      clear HC7
      try clear c1
      try clear c2
      try clear p2
      try clear c5
      try clear c8
      try clear c9
      try clear c12
      try clear c14
      try clear c14b0
      try clear c14b1
      try clear c15
      try clear c17
      try clear c17b0
      try clear c17b1
      try clear c18
      try clear c18b0
      try clear c18b1
      try clear c19
      try clear c19b0
      try clear c20
      try clear c25
      try clear c26
      try clear hcz13_0
      try clear hcz13_1
      try clear hcz13_2
      try clear hcz13_3
      try clear hcz13_4
      try clear hcz21_0
      try clear hcz21_1
      try clear hcz21_2
      try clear hcz21_3
      try clear hcz21_4
      try clear hcz27_0
      try clear hcz27_1
      try clear hcz27_2
      try clear hcz27_3
      try clear hcz27_4
      try clear hcz28_0
      try clear hcz28_1
      try clear hcz28_2
      try clear hcz28_3
      try clear hcz28_4
      try clear hfz13_0
      try clear hfz13_1
      try clear hfz13_2
      try clear hfz13_3
      try clear hfz13_4
      try clear hfz21_0
      try clear hfz21_1
      try clear hfz21_2
      try clear hfz21_3
      try clear hfz21_4
      try clear hfz27_0
      try clear hfz27_1
      try clear hfz27_2
      try clear hfz27_3
      try clear hfz27_4
      try clear hfz28_0
      try clear hfz28_1
      try clear hfz28_2
      try clear hfz28_3
      try clear hfz28_4
      obtain ⟨kq, HA, HJ6, BK314, BK322, HB⟩ := hcut
      cases kq with
      | zero => exact absurd HA.out (by simp [pennantlaw16_RouteBack.j0])
      | succ kj6 =>
        have H := HA.out
        clear HA
        simp only [pennantlaw16_RouteBack.j0] at H
        replace H := Option.bind_eq_some_iff.mp H
        obtain ⟨⟨t332, t333⟩, A290, H⟩ := H
        replace H : (if t333 = 0 then (if a2_0 = 6 then ((route_Find.f kj6 t332 (⟨#[98, 97, 115, 105, 99, 104, 116, 116, 112]⟩ : ByteArray)).bind fun bt334 => (if bt334.2.2.2.2.2 = 0 then (some (bt334.1 == a2_0 && (bt334.2.1.toList == a2_1.toList && (bt334.2.2.1.toList == a2_2.toList && (bt334.2.2.2.1 == a2_3 && (bt334.2.2.2.2.1.toList == a2_4.toList)))))) else (some false))) else ((route_Find.f kj6 t332 (⟨#[115, 99, 120, 109, 108]⟩ : ByteArray)).bind fun bt341 => (if bt341.2.2.2.2.2 = 0 then (some (bt341.1 == a2_0 && (bt341.2.1.toList == a2_1.toList && (bt341.2.2.1.toList == a2_2.toList && (bt341.2.2.2.1 == a2_3 && (bt341.2.2.2.2.1.toList == a2_4.toList)))))) else (some false)))) else (if t332.toList = ([] : List UInt8) then (some (t333 == 190)) else (some false))) = some r := H
        have A29 := Aside0.mk A290
        clear A290
        by_cases c30 : t333 = 0
        · rw [if_pos c30] at H
          have c30b0 : (t333 == 0) = true := beq_iff_eq.mpr c30
          have c30b1 : (t333 != 0) = false := bne_eq_false_iff_eq.mpr c30
          clear c30
          by_cases c31 : a2_0 = 6
          · rw [if_pos c31] at H
            have c31b0 : (a2_0 == 6) = true := beq_iff_eq.mpr c31
            have c31b1 : (a2_0 != 6) = false := bne_eq_false_iff_eq.mpr c31
            clear c31
            replace H := Option.bind_eq_some_iff.mp H
            obtain ⟨⟨t334, t335, t336, t337, t338, t339⟩, A320, H⟩ := H
            replace H : (if t339 = 0 then (some (t334 == a2_0 && (t335.toList == a2_1.toList && (t336.toList == a2_2.toList && (t337 == a2_3 && (t338.toList == a2_4.toList)))))) else (some false)) = some r := H
            have A32 := Aside0.mk A320
            clear A320
            by_cases c33 : t339 = 0
            · rw [if_pos c33] at H
              have c33b0 : (t339 == 0) = true := beq_iff_eq.mpr c33
              have c33b1 : (t339 != 0) = false := bne_eq_false_iff_eq.mpr c33
              clear c33
              obtain rfl := Option.some.inj H
              have hnb34 := NB314_322.out
              have hnc34 := NB322_314.out
              have hcz35_0 : wc.cell? ⟨gb314, 0, none⟩ = some (.int .i64 a2_0) := (blk_cell BK314.out 0).trans rfl
              have hcz35_1 : wc.cell? ⟨gb314, 1, none⟩ = some (.string a2_1) := (blk_cell BK314.out 1).trans rfl
              have hcz35_2 : wc.cell? ⟨gb314, 2, none⟩ = some (.string a2_2) := (blk_cell BK314.out 2).trans rfl
              have hcz35_3 : wc.cell? ⟨gb314, 3, none⟩ = some (.int .i64 a2_3) := (blk_cell BK314.out 3).trans rfl
              have hcz35_4 : wc.cell? ⟨gb314, 4, none⟩ = some (.string a2_4) := (blk_cell BK314.out 4).trans rfl
              have hfz35_0 := blk_frozen BK314.out 0
              have hfz35_1 := blk_frozen BK314.out 1
              have hfz35_2 := blk_frozen BK314.out 2
              have hfz35_3 := blk_frozen BK314.out 3
              have hfz35_4 := blk_frozen BK314.out 4
              go_wp2_with (first | ((with_reducible refine gate_callee (f := 15) rfl ?_); refine goesL_ (some 52) rfl rfl Tryd.func15 (by kernel_rfl) rfl #[.agg #[.int .i64 a2_0, .string a2_1, .string a2_2, .int .i64 a2_3, .string a2_4]] rfl (by (try simp only [List.map_toArray, List.map_cons, List.map_nil]); first | done | rfl | (simp only [List.length_drop, List.length_take]; rfl)) ?_; (with_reducible refine (route_Write.calls kj6 a2_0 a2_1 a2_2 a2_3 a2_4 t332 t333 _ ?side1 A29.out).mono ?_); (case side1 => exact ⟨TabsOk.below hT.out (by repeat (first | (with_reducible first | exact HB.out | apply below_alloc | apply pw_below_drewN | apply below_drew1 | refine below_set ?_ GE314.out | refine below_set ?_ GE322.out) | exact HB.out))⟩); rintro e w36 ⟨rfl, hb⟩; refine ⟨_, rfl, ?_⟩; have n0_ := Aside0.mk (blk_below (g := gb314) (o := .cells #[.int .i64 a2_0, .string a2_1, .string a2_2, .int .i64 a2_3, .string a2_4] 24 (0, 0)) (by (with_reducible repeat (first | refine blk_drewN ?_ _ | refine blk_drew ?_ | refine blk_alloc ?_ _)); exact BK314.out) hb); have n1_ := Aside0.mk (blk_below (g := gb322) (o := .cells #[.int .i64 t316, .string t317, .string t318, .int .i64 t319, .string t320] 24 (0, 0)) (by (with_reducible repeat (first | refine blk_drewN ?_ _ | refine blk_drew ?_ | refine blk_alloc ?_ _)); exact BK322.out) hb); have n2_ := Aside0.mk (below_step (by repeat (first | (with_reducible first | exact HB.out | apply below_alloc | apply pw_below_drewN | apply below_drew1 | refine below_set ?_ GE314.out | refine below_set ?_ GE322.out) | exact HB.out)) hb); clear BK314; clear BK322; clear HB; have BK314 := n0_; have BK322 := n1_; have HB := n2_; clear n0_ n1_ n2_; (try clear hb); (try clear hb2); (try clear hk); (try clear hi); have hcz37_0 : w36.cell? ⟨gb314, 0, none⟩ = some (.int .i64 a2_0) := (blk_cell BK314.out 0).trans rfl; have hcz37_1 : w36.cell? ⟨gb314, 1, none⟩ = some (.string a2_1) := (blk_cell BK314.out 1).trans rfl; have hcz37_2 : w36.cell? ⟨gb314, 2, none⟩ = some (.string a2_2) := (blk_cell BK314.out 2).trans rfl; have hcz37_3 : w36.cell? ⟨gb314, 3, none⟩ = some (.int .i64 a2_3) := (blk_cell BK314.out 3).trans rfl; have hcz37_4 : w36.cell? ⟨gb314, 4, none⟩ = some (.string a2_4) := (blk_cell BK314.out 4).trans rfl; have hfz37_0 := blk_frozen BK314.out 0; have hfz37_1 := blk_frozen BK314.out 1; have hfz37_2 := blk_frozen BK314.out 2; have hfz37_3 := blk_frozen BK314.out 3; have hfz37_4 := blk_frozen BK314.out 4) | ((with_reducible refine gate_callee (f := 9) rfl ?_); refine goesL_ (some 69) rfl rfl Tryd.func9 (by kernel_rfl) rfl #[.string t332, .string (⟨#[98, 97, 115, 105, 99, 104, 116, 116, 112]⟩ : ByteArray)] rfl (by (try simp only [List.map_toArray, List.map_cons, List.map_nil]); first | done | rfl | (simp only [List.length_drop, List.length_take]; rfl)) ?_; (with_reducible refine (route_Find.calls kj6 t332 (⟨#[98, 97, 115, 105, 99, 104, 116, 116, 112]⟩ : ByteArray) t334 t335 t336 t337 t338 t339 _ ?side1 A32.out).mono ?_); (case side1 => exact ⟨TabsOk.below hT.out (by repeat (first | (with_reducible first | exact HB.out | apply below_alloc | apply pw_below_drewN | apply below_drew1 | refine below_set ?_ GE314.out | refine below_set ?_ GE322.out) | exact HB.out))⟩); rintro e w38 ⟨rfl, hb⟩; refine ⟨_, rfl, ?_⟩; have n0_ := Aside0.mk (blk_below (g := gb314) (o := .cells #[.int .i64 a2_0, .string a2_1, .string a2_2, .int .i64 a2_3, .string a2_4] 24 (0, 0)) (by (with_reducible repeat (first | refine blk_drewN ?_ _ | refine blk_drew ?_ | refine blk_alloc ?_ _)); exact BK314.out) hb); have n1_ := Aside0.mk (blk_below (g := gb322) (o := .cells #[.int .i64 t316, .string t317, .string t318, .int .i64 t319, .string t320] 24 (0, 0)) (by (with_reducible repeat (first | refine blk_drewN ?_ _ | refine blk_drew ?_ | refine blk_alloc ?_ _)); exact BK322.out) hb); have n2_ := Aside0.mk (below_step (by repeat (first | (with_reducible first | exact HB.out | apply below_alloc | apply pw_below_drewN | apply below_drew1 | refine below_set ?_ GE314.out | refine below_set ?_ GE322.out) | exact HB.out)) hb); clear BK314; clear BK322; clear HB; have BK314 := n0_; have BK322 := n1_; have HB := n2_; clear n0_ n1_ n2_; (try clear hb); (try clear hb2); (try clear hk); (try clear hi)) | ((with_reducible refine gate_dst (N := 16) rfl ?_); refine box_event ?hg (N := 16) ?hd (cs := #[.int .i64 0, .string (⟨#[]⟩ : ByteArray), .string (⟨#[]⟩ : ByteArray), .int .i64 0, .string (⟨#[]⟩ : ByteArray)]) (t := 24) ?hr ?_; (case hd => rfl); (case hg => rfl); (case hr => first | (go_simp; done) | (go_simp; rfl)); intro gb340 hg w39 hbox hb; have n0_ := Aside0.mk (blk_below (g := gb314) (o := .cells #[.int .i64 a2_0, .string a2_1, .string a2_2, .int .i64 a2_3, .string a2_4] 24 (0, 0)) (by (with_reducible repeat (first | refine blk_drewN ?_ _ | refine blk_drew ?_ | refine blk_alloc ?_ _)); exact BK314.out) hb); have n1_ := Aside0.mk (blk_below (g := gb322) (o := .cells #[.int .i64 t316, .string t317, .string t318, .int .i64 t319, .string t320] 24 (0, 0)) (by (with_reducible repeat (first | refine blk_drewN ?_ _ | refine blk_drew ?_ | refine blk_alloc ?_ _)); exact BK322.out) hb); have n2_ := Aside0.mk (below_step (by repeat (first | (with_reducible first | exact HB.out | apply below_alloc | apply pw_below_drewN | apply below_drew1 | refine below_set ?_ GE314.out | refine below_set ?_ GE322.out) | exact HB.out)) hb); have n3_ := Aside0.mk (hbox); have n4_ := Aside0.mk ((by rw [hg]; exact (below_size (by repeat (first | (with_reducible first | exact HB.out | apply below_alloc | apply pw_below_drewN | apply below_drew1 | refine below_set ?_ GE314.out | refine below_set ?_ GE322.out) | exact HB.out))) : w.heap.size ≤ gb340)); have n5_ := Aside0.mk ((by rw [hg]; exact (below_size (by repeat (first | (with_reducible first | exact HB.out | apply below_alloc | apply pw_below_drewN | apply below_drew1 | refine below_set ?_ GE314.out | refine below_set ?_ GE322.out) | exact HB.out))) : w.heap.size ≤ gb340)); have n6_ := Aside0.mk ((by rw [hg]; exact Nat.ne_of_lt (blk_lt (g := gb314) (o := .cells #[.int .i64 a2_0, .string a2_1, .string a2_2, .int .i64 a2_3, .string a2_4] 24 (0, 0)) (by (with_reducible repeat (first | refine blk_drewN ?_ _ | refine blk_drew ?_ | refine blk_alloc ?_ _)); exact BK314.out)) : gb314 ≠ gb340)); have n7_ := Aside0.mk ((by rw [hg]; exact Nat.ne_of_gt (blk_lt (g := gb314) (o := .cells #[.int .i64 a2_0, .string a2_1, .string a2_2, .int .i64 a2_3, .string a2_4] 24 (0, 0)) (by (with_reducible repeat (first | refine blk_drewN ?_ _ | refine blk_drew ?_ | refine blk_alloc ?_ _)); exact BK314.out)) : gb340 ≠ gb314)); have n8_ := Aside0.mk ((by rw [hg]; exact Nat.ne_of_lt (blk_lt (g := gb322) (o := .cells #[.int .i64 t316, .string t317, .string t318, .int .i64 t319, .string t320] 24 (0, 0)) (by (with_reducible repeat (first | refine blk_drewN ?_ _ | refine blk_drew ?_ | refine blk_alloc ?_ _)); exact BK322.out)) : gb322 ≠ gb340)); have n9_ := Aside0.mk ((by rw [hg]; exact Nat.ne_of_gt (blk_lt (g := gb322) (o := .cells #[.int .i64 t316, .string t317, .string t318, .int .i64 t319, .string t320] 24 (0, 0)) (by (with_reducible repeat (first | refine blk_drewN ?_ _ | refine blk_drew ?_ | refine blk_alloc ?_ _)); exact BK322.out)) : gb340 ≠ gb322)); clear BK314; clear BK322; clear HB; have BK314 := n0_; have BK322 := n1_; have HB := n2_; have BK340 := n3_; have GW340 := n4_; have GE340 := n5_; have NB314_340 := n6_; have NB340_314 := n7_; have NB322_340 := n8_; have NB340_322 := n9_; clear n0_ n1_ n2_ n3_ n4_ n5_ n6_ n7_ n8_ n9_; clear hb hbox hg; have hnb40 := NB340_314.out; have hnc40 := NB314_340.out; have hnb41 := NB340_322.out; have hnc41 := NB322_340.out; have hcz42_0 : w39.cell? ⟨gb340, 0, none⟩ = some (.int .i64 0) := (blk_cell BK340.out 0).trans rfl; have hcz42_1 : w39.cell? ⟨gb340, 1, none⟩ = some (.string (⟨#[]⟩ : ByteArray)) := (blk_cell BK340.out 1).trans rfl; have hcz42_2 : w39.cell? ⟨gb340, 2, none⟩ = some (.string (⟨#[]⟩ : ByteArray)) := (blk_cell BK340.out 2).trans rfl; have hcz42_3 : w39.cell? ⟨gb340, 3, none⟩ = some (.int .i64 0) := (blk_cell BK340.out 3).trans rfl; have hcz42_4 : w39.cell? ⟨gb340, 4, none⟩ = some (.string (⟨#[]⟩ : ByteArray)) := (blk_cell BK340.out 4).trans rfl; have hfz42_0 := blk_frozen BK340.out 0; have hfz42_1 := blk_frozen BK340.out 1; have hfz42_2 := blk_frozen BK340.out 2; have hfz42_3 := blk_frozen BK340.out 3; have hfz42_4 := blk_frozen BK340.out 4; have hcz43_0 : w39.cell? ⟨gb314, 0, none⟩ = some (.int .i64 a2_0) := (blk_cell BK314.out 0).trans rfl; have hcz43_1 : w39.cell? ⟨gb314, 1, none⟩ = some (.string a2_1) := (blk_cell BK314.out 1).trans rfl; have hcz43_2 : w39.cell? ⟨gb314, 2, none⟩ = some (.string a2_2) := (blk_cell BK314.out 2).trans rfl; have hcz43_3 : w39.cell? ⟨gb314, 3, none⟩ = some (.int .i64 a2_3) := (blk_cell BK314.out 3).trans rfl; have hcz43_4 : w39.cell? ⟨gb314, 4, none⟩ = some (.string a2_4) := (blk_cell BK314.out 4).trans rfl; have hfz43_0 := blk_frozen BK314.out 0; have hfz43_1 := blk_frozen BK314.out 1; have hfz43_2 := blk_frozen BK314.out 2; have hfz43_3 := blk_frozen BK314.out 3; have hfz43_4 := blk_frozen BK314.out 4))
              go_ret
              exact ⟨by first | rfl | (simp [errW_none, errW_some] <;> rfl) | (simp [*, errW_none, errW_some] <;> rfl), by repeat (first | (with_reducible first | exact HB.out | apply below_alloc | apply pw_below_drewN | apply below_drew1 | refine below_set ?_ GE314.out | refine below_set ?_ GE322.out | refine below_set ?_ GE340.out) | exact HB.out)⟩
            · rw [if_neg c33] at H
              have c33b0 : (t339 == 0) = false := beq_eq_false_iff_ne.mpr c33
              have c33b1 : (t339 != 0) = true := bne_iff_ne.mpr c33
              exact absurd (Option.some.inj H) (by rw [HR_.out]; simp)
          · rw [if_neg c31] at H
            have c31b0 : (a2_0 == 6) = false := beq_eq_false_iff_ne.mpr c31
            have c31b1 : (a2_0 != 6) = true := bne_iff_ne.mpr c31
            replace H := Option.bind_eq_some_iff.mp H
            obtain ⟨⟨t341, t342, t343, t344, t345, t346⟩, A440, H⟩ := H
            replace H : (if t346 = 0 then (some (t341 == a2_0 && (t342.toList == a2_1.toList && (t343.toList == a2_2.toList && (t344 == a2_3 && (t345.toList == a2_4.toList)))))) else (some false)) = some r := H
            have A44 := Aside0.mk A440
            clear A440
            by_cases c45 : t346 = 0
            · rw [if_pos c45] at H
              have c45b0 : (t346 == 0) = true := beq_iff_eq.mpr c45
              have c45b1 : (t346 != 0) = false := bne_eq_false_iff_eq.mpr c45
              clear c45
              obtain rfl := Option.some.inj H
              have hnb46 := NB314_322.out
              have hnc46 := NB322_314.out
              have hcz47_0 : wc.cell? ⟨gb314, 0, none⟩ = some (.int .i64 a2_0) := (blk_cell BK314.out 0).trans rfl
              have hcz47_1 : wc.cell? ⟨gb314, 1, none⟩ = some (.string a2_1) := (blk_cell BK314.out 1).trans rfl
              have hcz47_2 : wc.cell? ⟨gb314, 2, none⟩ = some (.string a2_2) := (blk_cell BK314.out 2).trans rfl
              have hcz47_3 : wc.cell? ⟨gb314, 3, none⟩ = some (.int .i64 a2_3) := (blk_cell BK314.out 3).trans rfl
              have hcz47_4 : wc.cell? ⟨gb314, 4, none⟩ = some (.string a2_4) := (blk_cell BK314.out 4).trans rfl
              have hfz47_0 := blk_frozen BK314.out 0
              have hfz47_1 := blk_frozen BK314.out 1
              have hfz47_2 := blk_frozen BK314.out 2
              have hfz47_3 := blk_frozen BK314.out 3
              have hfz47_4 := blk_frozen BK314.out 4
              go_wp2_with (first | ((with_reducible refine gate_callee (f := 15) rfl ?_); refine goesL_ (some 52) rfl rfl Tryd.func15 (by kernel_rfl) rfl #[.agg #[.int .i64 a2_0, .string a2_1, .string a2_2, .int .i64 a2_3, .string a2_4]] rfl (by (try simp only [List.map_toArray, List.map_cons, List.map_nil]); first | done | rfl | (simp only [List.length_drop, List.length_take]; rfl)) ?_; (with_reducible refine (route_Write.calls kj6 a2_0 a2_1 a2_2 a2_3 a2_4 t332 t333 _ ?side1 A29.out).mono ?_); (case side1 => exact ⟨TabsOk.below hT.out (by repeat (first | (with_reducible first | exact HB.out | apply below_alloc | apply pw_below_drewN | apply below_drew1 | refine below_set ?_ GE314.out | refine below_set ?_ GE322.out) | exact HB.out))⟩); rintro e w48 ⟨rfl, hb⟩; refine ⟨_, rfl, ?_⟩; have n0_ := Aside0.mk (blk_below (g := gb314) (o := .cells #[.int .i64 a2_0, .string a2_1, .string a2_2, .int .i64 a2_3, .string a2_4] 24 (0, 0)) (by (with_reducible repeat (first | refine blk_drewN ?_ _ | refine blk_drew ?_ | refine blk_alloc ?_ _)); exact BK314.out) hb); have n1_ := Aside0.mk (blk_below (g := gb322) (o := .cells #[.int .i64 t316, .string t317, .string t318, .int .i64 t319, .string t320] 24 (0, 0)) (by (with_reducible repeat (first | refine blk_drewN ?_ _ | refine blk_drew ?_ | refine blk_alloc ?_ _)); exact BK322.out) hb); have n2_ := Aside0.mk (below_step (by repeat (first | (with_reducible first | exact HB.out | apply below_alloc | apply pw_below_drewN | apply below_drew1 | refine below_set ?_ GE314.out | refine below_set ?_ GE322.out) | exact HB.out)) hb); clear BK314; clear BK322; clear HB; have BK314 := n0_; have BK322 := n1_; have HB := n2_; clear n0_ n1_ n2_; (try clear hb); (try clear hb2); (try clear hk); (try clear hi); have hcz49_0 : w48.cell? ⟨gb314, 0, none⟩ = some (.int .i64 a2_0) := (blk_cell BK314.out 0).trans rfl; have hcz49_1 : w48.cell? ⟨gb314, 1, none⟩ = some (.string a2_1) := (blk_cell BK314.out 1).trans rfl; have hcz49_2 : w48.cell? ⟨gb314, 2, none⟩ = some (.string a2_2) := (blk_cell BK314.out 2).trans rfl; have hcz49_3 : w48.cell? ⟨gb314, 3, none⟩ = some (.int .i64 a2_3) := (blk_cell BK314.out 3).trans rfl; have hcz49_4 : w48.cell? ⟨gb314, 4, none⟩ = some (.string a2_4) := (blk_cell BK314.out 4).trans rfl; have hfz49_0 := blk_frozen BK314.out 0; have hfz49_1 := blk_frozen BK314.out 1; have hfz49_2 := blk_frozen BK314.out 2; have hfz49_3 := blk_frozen BK314.out 3; have hfz49_4 := blk_frozen BK314.out 4) | ((with_reducible refine gate_callee (f := 9) rfl ?_); refine goesL_ (some 69) rfl rfl Tryd.func9 (by kernel_rfl) rfl #[.string t332, .string (⟨#[115, 99, 120, 109, 108]⟩ : ByteArray)] rfl (by (try simp only [List.map_toArray, List.map_cons, List.map_nil]); first | done | rfl | (simp only [List.length_drop, List.length_take]; rfl)) ?_; (with_reducible refine (route_Find.calls kj6 t332 (⟨#[115, 99, 120, 109, 108]⟩ : ByteArray) t341 t342 t343 t344 t345 t346 _ ?side1 A44.out).mono ?_); (case side1 => exact ⟨TabsOk.below hT.out (by repeat (first | (with_reducible first | exact HB.out | apply below_alloc | apply pw_below_drewN | apply below_drew1 | refine below_set ?_ GE314.out | refine below_set ?_ GE322.out) | exact HB.out))⟩); rintro e w50 ⟨rfl, hb⟩; refine ⟨_, rfl, ?_⟩; have n0_ := Aside0.mk (blk_below (g := gb314) (o := .cells #[.int .i64 a2_0, .string a2_1, .string a2_2, .int .i64 a2_3, .string a2_4] 24 (0, 0)) (by (with_reducible repeat (first | refine blk_drewN ?_ _ | refine blk_drew ?_ | refine blk_alloc ?_ _)); exact BK314.out) hb); have n1_ := Aside0.mk (blk_below (g := gb322) (o := .cells #[.int .i64 t316, .string t317, .string t318, .int .i64 t319, .string t320] 24 (0, 0)) (by (with_reducible repeat (first | refine blk_drewN ?_ _ | refine blk_drew ?_ | refine blk_alloc ?_ _)); exact BK322.out) hb); have n2_ := Aside0.mk (below_step (by repeat (first | (with_reducible first | exact HB.out | apply below_alloc | apply pw_below_drewN | apply below_drew1 | refine below_set ?_ GE314.out | refine below_set ?_ GE322.out) | exact HB.out)) hb); clear BK314; clear BK322; clear HB; have BK314 := n0_; have BK322 := n1_; have HB := n2_; clear n0_ n1_ n2_; (try clear hb); (try clear hb2); (try clear hk); (try clear hi)) | ((with_reducible refine gate_dst (N := 16) rfl ?_); refine box_event ?hg (N := 16) ?hd (cs := #[.int .i64 0, .string (⟨#[]⟩ : ByteArray), .string (⟨#[]⟩ : ByteArray), .int .i64 0, .string (⟨#[]⟩ : ByteArray)]) (t := 24) ?hr ?_; (case hd => rfl); (case hg => rfl); (case hr => first | (go_simp; done) | (go_simp; rfl)); intro gb347 hg w51 hbox hb; have n0_ := Aside0.mk (blk_below (g := gb314) (o := .cells #[.int .i64 a2_0, .string a2_1, .string a2_2, .int .i64 a2_3, .string a2_4] 24 (0, 0)) (by (with_reducible repeat (first | refine blk_drewN ?_ _ | refine blk_drew ?_ | refine blk_alloc ?_ _)); exact BK314.out) hb); have n1_ := Aside0.mk (blk_below (g := gb322) (o := .cells #[.int .i64 t316, .string t317, .string t318, .int .i64 t319, .string t320] 24 (0, 0)) (by (with_reducible repeat (first | refine blk_drewN ?_ _ | refine blk_drew ?_ | refine blk_alloc ?_ _)); exact BK322.out) hb); have n2_ := Aside0.mk (below_step (by repeat (first | (with_reducible first | exact HB.out | apply below_alloc | apply pw_below_drewN | apply below_drew1 | refine below_set ?_ GE314.out | refine below_set ?_ GE322.out) | exact HB.out)) hb); have n3_ := Aside0.mk (hbox); have n4_ := Aside0.mk ((by rw [hg]; exact (below_size (by repeat (first | (with_reducible first | exact HB.out | apply below_alloc | apply pw_below_drewN | apply below_drew1 | refine below_set ?_ GE314.out | refine below_set ?_ GE322.out) | exact HB.out))) : w.heap.size ≤ gb347)); have n5_ := Aside0.mk ((by rw [hg]; exact (below_size (by repeat (first | (with_reducible first | exact HB.out | apply below_alloc | apply pw_below_drewN | apply below_drew1 | refine below_set ?_ GE314.out | refine below_set ?_ GE322.out) | exact HB.out))) : w.heap.size ≤ gb347)); have n6_ := Aside0.mk ((by rw [hg]; exact Nat.ne_of_lt (blk_lt (g := gb314) (o := .cells #[.int .i64 a2_0, .string a2_1, .string a2_2, .int .i64 a2_3, .string a2_4] 24 (0, 0)) (by (with_reducible repeat (first | refine blk_drewN ?_ _ | refine blk_drew ?_ | refine blk_alloc ?_ _)); exact BK314.out)) : gb314 ≠ gb347)); have n7_ := Aside0.mk ((by rw [hg]; exact Nat.ne_of_gt (blk_lt (g := gb314) (o := .cells #[.int .i64 a2_0, .string a2_1, .string a2_2, .int .i64 a2_3, .string a2_4] 24 (0, 0)) (by (with_reducible repeat (first | refine blk_drewN ?_ _ | refine blk_drew ?_ | refine blk_alloc ?_ _)); exact BK314.out)) : gb347 ≠ gb314)); have n8_ := Aside0.mk ((by rw [hg]; exact Nat.ne_of_lt (blk_lt (g := gb322) (o := .cells #[.int .i64 t316, .string t317, .string t318, .int .i64 t319, .string t320] 24 (0, 0)) (by (with_reducible repeat (first | refine blk_drewN ?_ _ | refine blk_drew ?_ | refine blk_alloc ?_ _)); exact BK322.out)) : gb322 ≠ gb347)); have n9_ := Aside0.mk ((by rw [hg]; exact Nat.ne_of_gt (blk_lt (g := gb322) (o := .cells #[.int .i64 t316, .string t317, .string t318, .int .i64 t319, .string t320] 24 (0, 0)) (by (with_reducible repeat (first | refine blk_drewN ?_ _ | refine blk_drew ?_ | refine blk_alloc ?_ _)); exact BK322.out)) : gb347 ≠ gb322)); clear BK314; clear BK322; clear HB; have BK314 := n0_; have BK322 := n1_; have HB := n2_; have BK347 := n3_; have GW347 := n4_; have GE347 := n5_; have NB314_347 := n6_; have NB347_314 := n7_; have NB322_347 := n8_; have NB347_322 := n9_; clear n0_ n1_ n2_ n3_ n4_ n5_ n6_ n7_ n8_ n9_; clear hb hbox hg; have hnb52 := NB347_314.out; have hnc52 := NB314_347.out; have hnb53 := NB347_322.out; have hnc53 := NB322_347.out; have hcz54_0 : w51.cell? ⟨gb347, 0, none⟩ = some (.int .i64 0) := (blk_cell BK347.out 0).trans rfl; have hcz54_1 : w51.cell? ⟨gb347, 1, none⟩ = some (.string (⟨#[]⟩ : ByteArray)) := (blk_cell BK347.out 1).trans rfl; have hcz54_2 : w51.cell? ⟨gb347, 2, none⟩ = some (.string (⟨#[]⟩ : ByteArray)) := (blk_cell BK347.out 2).trans rfl; have hcz54_3 : w51.cell? ⟨gb347, 3, none⟩ = some (.int .i64 0) := (blk_cell BK347.out 3).trans rfl; have hcz54_4 : w51.cell? ⟨gb347, 4, none⟩ = some (.string (⟨#[]⟩ : ByteArray)) := (blk_cell BK347.out 4).trans rfl; have hfz54_0 := blk_frozen BK347.out 0; have hfz54_1 := blk_frozen BK347.out 1; have hfz54_2 := blk_frozen BK347.out 2; have hfz54_3 := blk_frozen BK347.out 3; have hfz54_4 := blk_frozen BK347.out 4; have hcz55_0 : w51.cell? ⟨gb314, 0, none⟩ = some (.int .i64 a2_0) := (blk_cell BK314.out 0).trans rfl; have hcz55_1 : w51.cell? ⟨gb314, 1, none⟩ = some (.string a2_1) := (blk_cell BK314.out 1).trans rfl; have hcz55_2 : w51.cell? ⟨gb314, 2, none⟩ = some (.string a2_2) := (blk_cell BK314.out 2).trans rfl; have hcz55_3 : w51.cell? ⟨gb314, 3, none⟩ = some (.int .i64 a2_3) := (blk_cell BK314.out 3).trans rfl; have hcz55_4 : w51.cell? ⟨gb314, 4, none⟩ = some (.string a2_4) := (blk_cell BK314.out 4).trans rfl; have hfz55_0 := blk_frozen BK314.out 0; have hfz55_1 := blk_frozen BK314.out 1; have hfz55_2 := blk_frozen BK314.out 2; have hfz55_3 := blk_frozen BK314.out 3; have hfz55_4 := blk_frozen BK314.out 4))
              go_ret
              exact ⟨by first | rfl | (simp [errW_none, errW_some] <;> rfl) | (simp [*, errW_none, errW_some] <;> rfl), by repeat (first | (with_reducible first | exact HB.out | apply below_alloc | apply pw_below_drewN | apply below_drew1 | refine below_set ?_ GE314.out | refine below_set ?_ GE322.out | refine below_set ?_ GE347.out) | exact HB.out)⟩
            · rw [if_neg c45] at H
              have c45b0 : (t346 == 0) = false := beq_eq_false_iff_ne.mpr c45
              have c45b1 : (t346 != 0) = true := bne_iff_ne.mpr c45
              exact absurd (Option.some.inj H) (by rw [HR_.out]; simp)
        · rw [if_neg c30] at H
          have c30b0 : (t333 == 0) = false := beq_eq_false_iff_ne.mpr c30
          have c30b1 : (t333 != 0) = true := bne_iff_ne.mpr c30
          by_cases c56 : t332.toList = ([] : List UInt8)
          · rw [if_pos c56] at H
            have c56b0 : (t332.toList == ([] : List UInt8)) = true := beq_iff_eq.mpr c56
            have c56b1 : (t332.toList != ([] : List UInt8)) = false := bne_eq_false_iff_eq.mpr c56
            have c56b2 : t332.toList.isEmpty = true := List.isEmpty_iff.mpr c56
            clear c56
            obtain rfl := Option.some.inj H
            have hnb57 := NB314_322.out
            have hnc57 := NB322_314.out
            have hcz58_0 : wc.cell? ⟨gb314, 0, none⟩ = some (.int .i64 a2_0) := (blk_cell BK314.out 0).trans rfl
            have hcz58_1 : wc.cell? ⟨gb314, 1, none⟩ = some (.string a2_1) := (blk_cell BK314.out 1).trans rfl
            have hcz58_2 : wc.cell? ⟨gb314, 2, none⟩ = some (.string a2_2) := (blk_cell BK314.out 2).trans rfl
            have hcz58_3 : wc.cell? ⟨gb314, 3, none⟩ = some (.int .i64 a2_3) := (blk_cell BK314.out 3).trans rfl
            have hcz58_4 : wc.cell? ⟨gb314, 4, none⟩ = some (.string a2_4) := (blk_cell BK314.out 4).trans rfl
            have hfz58_0 := blk_frozen BK314.out 0
            have hfz58_1 := blk_frozen BK314.out 1
            have hfz58_2 := blk_frozen BK314.out 2
            have hfz58_3 := blk_frozen BK314.out 3
            have hfz58_4 := blk_frozen BK314.out 4
            go_wp2_with (first | ((with_reducible refine gate_callee (f := 15) rfl ?_); refine goesL_ (some 52) rfl rfl Tryd.func15 (by kernel_rfl) rfl #[.agg #[.int .i64 a2_0, .string a2_1, .string a2_2, .int .i64 a2_3, .string a2_4]] rfl (by (try simp only [List.map_toArray, List.map_cons, List.map_nil]); first | done | rfl | (simp only [List.length_drop, List.length_take]; rfl)) ?_; (with_reducible refine (route_Write.calls kj6 a2_0 a2_1 a2_2 a2_3 a2_4 t332 t333 _ ?side1 A29.out).mono ?_); (case side1 => exact ⟨TabsOk.below hT.out (by repeat (first | (with_reducible first | exact HB.out | apply below_alloc | apply pw_below_drewN | apply below_drew1 | refine below_set ?_ GE314.out | refine below_set ?_ GE322.out) | exact HB.out))⟩); rintro e w59 ⟨rfl, hb⟩; refine ⟨_, rfl, ?_⟩; have n0_ := Aside0.mk (blk_below (g := gb314) (o := .cells #[.int .i64 a2_0, .string a2_1, .string a2_2, .int .i64 a2_3, .string a2_4] 24 (0, 0)) (by (with_reducible repeat (first | refine blk_drewN ?_ _ | refine blk_drew ?_ | refine blk_alloc ?_ _)); exact BK314.out) hb); have n1_ := Aside0.mk (blk_below (g := gb322) (o := .cells #[.int .i64 t316, .string t317, .string t318, .int .i64 t319, .string t320] 24 (0, 0)) (by (with_reducible repeat (first | refine blk_drewN ?_ _ | refine blk_drew ?_ | refine blk_alloc ?_ _)); exact BK322.out) hb); have n2_ := Aside0.mk (below_step (by repeat (first | (with_reducible first | exact HB.out | apply below_alloc | apply pw_below_drewN | apply below_drew1 | refine below_set ?_ GE314.out | refine below_set ?_ GE322.out) | exact HB.out)) hb); clear BK314; clear BK322; clear HB; have BK314 := n0_; have BK322 := n1_; have HB := n2_; clear n0_ n1_ n2_; (try clear hb); (try clear hb2); (try clear hk); (try clear hi)))
            go_ret
            exact ⟨by first | rfl | (simp [errW_none, errW_some] <;> rfl) | (simp [*, errW_none, errW_some] <;> rfl), by repeat (first | (with_reducible first | exact HB.out | apply below_alloc | apply pw_below_drewN | apply below_drew1 | refine below_set ?_ GE314.out | refine below_set ?_ GE322.out) | exact HB.out)⟩
          · rw [if_neg c56] at H
            have c56b0 : (t332.toList == ([] : List UInt8)) = false := beq_eq_false_iff_ne.mpr c56
            have c56b1 : (t332.toList != ([] : List UInt8)) = true := bne_iff_ne.mpr c56
            have c56b2 : t332.toList.isEmpty = false := List.isEmpty_eq_false_iff.mpr c56
            exact absurd (Option.some.inj H) (by rw [HR_.out]; simp)
  · replace c5 := Bool.eq_false_iff.mpr c5
    subst c5
    have H1 : (some false) = some r := by rw [if_neg (show ¬ (false = true) by decide)] at H; exact H
    clear H
    have H := H1
    clear H1
    exact absurd (Option.some.inj H) (by rw [HR_.out]; simp)

end Go.Proofs.YthoknobkkpefkaaDoor.PAll
