-- Laid by a program of this session (wip/pp in the repo) out of the translation. Lean checks it.
import Derived.Test.YtpikebpjlhccbaaGreatDoorPAllx0
import Derived.Test.YtpikebpjlhccbaaGreatDoorPAllx1
import Derived.Test.YtpikebpjlhccbaaGreatDoorPAllx2
import Derived.Test.YtpikebpjlhccbaaGreatDoorPAllx7
import Derived.Test.YtpikebpjlhccbaaGreatDoorPAllx8
import Derived.Test.YtpikebpjlhccbaaGreatDoorPAllx16
import Derived.Test.YtpikebpjlhccbaaGreatDoorGiveRead
namespace Go.Proofs.YtpikebpjlhccbaaGreatDoor.PAll
open Go.RowKit Go.Proofs.YtpikebpjlhccbaaGreatDoorW.PrintWords Go.Proofs.YtpikebpjlhccbaaGreatDoorW.PrintLast Go.Proofs.YtpikebpjlhccbaaGreatDoorW.PrintMore
attribute [local go_sem] max2_int min2_int max_two min_two max_three min_three max_four min_four   -- for this text's walks alone
set_option linter.unusedVariables false
set_option linter.unusedSimpArgs false

attribute [local go_sem high] eqA24 eqA31
/-! ### pennantlaw22_HttpBack: function 6 -/
mutual
def pennantlaw22_HttpBack.j0 : Nat → ByteArray → Int → ByteArray → Option (Bool)
  | 0, _, _, _ => none
  | k + 1, x2, x361000, x361001 => (http_WriteResponse.f k x361000 x361001).bind fun bt372 => (if bt372.2 = 0 then (if bt372.1.size + x2.size ≤ 9223372036854775807 then ((http_ReadResponse.f k (bt372.1 ++ x2)).bind fun bt374 => (if bt374.2.2.2 = 0 then (if bt374.2.2.1 = (bt372.1.size : Int) then (if (!(bt374.1 == x361000) || (!(bt374.2.1.toList == x361001.toList))) = true then (some false) else (pennantlaw22_HttpBack.j1 k x2)) else (some false)) else (some false))) else (none)) else (pennantlaw22_HttpBack.j1 k x2))
def pennantlaw22_HttpBack.j1 : Nat → ByteArray → Option (Bool)
  | 0, _ => none
  | k + 1, x2 => (http_ReadRequest.f k x2).bind fun bt379 => (if bt379.2.2.2.2.2.2 = 0 then ((http_WriteRequest.f k bt379.1 bt379.2.1 bt379.2.2.1 bt379.2.2.2.1 bt379.2.2.2.2.1).bind fun bt387 => (if bt387.2 = 0 then ((http_ReadRequest.f k bt387.1).bind fun bt389 => (if bt389.2.2.2.2.2.2 = 0 then (some (bt379.1.toList == bt389.1.toList && (bt379.2.1.toList == bt389.2.1.toList && (bt379.2.2.1.toList == bt389.2.2.1.toList && (bt379.2.2.2.1.toList == bt389.2.2.2.1.toList && (bt379.2.2.2.2.1.toList == bt389.2.2.2.2.1.toList)))))) else (some false))) else (if bt387.2 = 1 then (some (decide ((x2.size : Int) > 3900))) else (some false)))) else (if (bt379.1.toList == ([] : List UInt8) && (bt379.2.1.toList == ([] : List UInt8) && (bt379.2.2.1.toList == ([] : List UInt8) && (bt379.2.2.2.1.toList == ([] : List UInt8) && (bt379.2.2.2.2.1.toList == ([] : List UInt8)))))) = true then (some (bt379.2.2.2.2.2.1 == 0)) else (some false)))
end
def pennantlaw22_HttpBack.f (k : Nat) (a0_0 : ByteArray) (a0_1 : ByteArray) (a0_2 : ByteArray) (a0_3 : ByteArray) (a0_4 : ByteArray) (a1_0 : Int) (a1_1 : ByteArray) (a2 : ByteArray) : Option (Bool) := (pennantlaw22_awake.f k).bind fun t361 => (if t361 = true then (if (wrap64 ((wrap64 ((a0_4.size : Int) + (a1_1.size : Int))) + (a2.size : Int))) > 12000 then (some true) else ((http_WriteRequest.f k a0_0 a0_1 a0_2 a0_3 a0_4).bind fun bt362 => (if bt362.2 = 0 then (if bt362.1.size + a2.size ≤ 9223372036854775807 then ((http_ReadRequest.f k (bt362.1 ++ a2)).bind fun bt364 => (if bt364.2.2.2.2.2.2 = 0 then (if bt364.2.2.2.2.2.1 = (bt362.1.size : Int) then (if (!(bt364.1.toList == a0_0.toList) || (!(bt364.2.1.toList == a0_1.toList) || (!(bt364.2.2.1.toList == a0_2.toList) || (!(bt364.2.2.2.1.toList == a0_3.toList) || (!(bt364.2.2.2.2.1.toList == a0_4.toList)))))) = true then (some false) else (pennantlaw22_HttpBack.j0 k a2 a1_0 a1_1)) else (some false)) else (some false))) else (none)) else (if bt362.1.toList = ([] : List UInt8) then (pennantlaw22_HttpBack.j0 k a2 a1_0 a1_1) else (some false))))) else (some false))
theorem pennantlaw22_HttpBack.mono_l : ∀ k, (∀ y0 y1 y2, LeO (pennantlaw22_HttpBack.j0 k y0 y1 y2) (pennantlaw22_HttpBack.j0 (k + 1) y0 y1 y2)) ∧ (∀ y0, LeO (pennantlaw22_HttpBack.j1 k y0) (pennantlaw22_HttpBack.j1 (k + 1) y0))
  | 0 => ⟨fun _ _ _ r h => by simp [pennantlaw22_HttpBack.j0] at h, fun _ r h => by simp [pennantlaw22_HttpBack.j1] at h⟩
  | k + 1 => by
    obtain ⟨ih0, ih1⟩ := pennantlaw22_HttpBack.mono_l k
    refine ⟨?_, ?_⟩
    · intro y0 y1 y2
      unfold pennantlaw22_HttpBack.j0
      repeat' first
      | (with_reducible exact ih0 _ _ _)
      | (with_reducible exact ih1 _)
      | (with_reducible exact http_ReadRequest.mono _ _)
      | (with_reducible exact http_ReadResponse.mono _ _)
      | (with_reducible exact http_WriteRequest.mono _ _ _ _ _ _)
      | (with_reducible exact http_WriteResponse.mono _ _ _)
      | (with_reducible exact pennantlaw22_awake.mono _)
      | (with_reducible exact LeO.refl _)
      | (with_reducible exact LeO.none _)
      | (with_reducible refine LeO.ite ?_ ?_)
      | (with_reducible refine LeO.bind ?_ (fun _ => ?_))
      | exact ih0 _ _ _
      | exact ih1 _
      | exact http_ReadRequest.mono _ _
      | exact http_ReadResponse.mono _ _
      | exact http_WriteRequest.mono _ _ _ _ _ _
      | exact http_WriteResponse.mono _ _ _
      | exact pennantlaw22_awake.mono _
      | exact LeO.none _
      | refine LeO.ite ?_ ?_
      | refine LeO.bind ?_ (fun _ => ?_)
    · intro y0
      unfold pennantlaw22_HttpBack.j1
      repeat' first
      | (with_reducible exact ih0 _ _ _)
      | (with_reducible exact ih1 _)
      | (with_reducible exact http_ReadRequest.mono _ _)
      | (with_reducible exact http_ReadResponse.mono _ _)
      | (with_reducible exact http_WriteRequest.mono _ _ _ _ _ _)
      | (with_reducible exact http_WriteResponse.mono _ _ _)
      | (with_reducible exact pennantlaw22_awake.mono _)
      | (with_reducible exact LeO.refl _)
      | (with_reducible exact LeO.none _)
      | (with_reducible refine LeO.ite ?_ ?_)
      | (with_reducible refine LeO.bind ?_ (fun _ => ?_))
      | exact ih0 _ _ _
      | exact ih1 _
      | exact http_ReadRequest.mono _ _
      | exact http_ReadResponse.mono _ _
      | exact http_WriteRequest.mono _ _ _ _ _ _
      | exact http_WriteResponse.mono _ _ _
      | exact pennantlaw22_awake.mono _
      | exact LeO.none _
      | refine LeO.ite ?_ ?_
      | refine LeO.bind ?_ (fun _ => ?_)
theorem pennantlaw22_HttpBack.mono : ∀ a0 a1 a2 a3 a4 a5 a6 a7 k, LeO (pennantlaw22_HttpBack.f k a0 a1 a2 a3 a4 a5 a6 a7) (pennantlaw22_HttpBack.f (k + 1) a0 a1 a2 a3 a4 a5 a6 a7) := by
  intro a0 a1 a2 a3 a4 a5 a6 a7 k
  obtain ⟨ih0, ih1⟩ := pennantlaw22_HttpBack.mono_l k
  unfold pennantlaw22_HttpBack.f
  repeat' first
      | (with_reducible exact ih0 _ _ _)
      | (with_reducible exact ih1 _)
      | (with_reducible exact http_ReadRequest.mono _ _)
      | (with_reducible exact http_ReadResponse.mono _ _)
      | (with_reducible exact http_WriteRequest.mono _ _ _ _ _ _)
      | (with_reducible exact http_WriteResponse.mono _ _ _)
      | (with_reducible exact pennantlaw22_awake.mono _)
      | (with_reducible exact LeO.refl _)
      | (with_reducible exact LeO.none _)
      | (with_reducible refine LeO.ite ?_ ?_)
      | (with_reducible refine LeO.bind ?_ (fun _ => ?_))
      | exact ih0 _ _ _
      | exact ih1 _
      | exact http_ReadRequest.mono _ _
      | exact http_ReadResponse.mono _ _
      | exact http_WriteRequest.mono _ _ _ _ _ _
      | exact http_WriteResponse.mono _ _ _
      | exact pennantlaw22_awake.mono _
      | exact LeO.none _
      | refine LeO.ite ?_ ?_
      | refine LeO.bind ?_ (fun _ => ?_)
set_option maxHeartbeats 8000000 in
set_option maxRecDepth 100000 in
theorem pennantlaw22_HttpBack.calls (k : Nat) (a0_0 : ByteArray) (a0_1 : ByteArray) (a0_2 : ByteArray) (a0_3 : ByteArray) (a0_4 : ByteArray) (a1_0 : Int) (a1_1 : ByteArray) (a2 : ByteArray) (r : Bool) (w : World) (hT : Aside0 (TabsOk w)) (h : pennantlaw22_HttpBack.f k a0_0 a0_1 a0_2 a0_3 a0_4 a1_0 a1_1 a2 = some r) (hr_ : r = true := by rfl) :
    Calls Tryz.prog 6 #[.agg #[.string a0_0, .string a0_1, .string a0_2, .string a0_3, .string a0_4], .agg #[.int .i64 a1_0, .string a1_1], .string a2] w fun e w' => e = .returned (.bool r) ∧ Below w.heap.size w w' := by
  have hu24 := Tryz.underlying24
  have hu31 := Tryz.underlying31
  have HR_ := Aside0.mk hr_
  clear hr_
  have HB := Aside0.mk (Below.refl w.heap.size w)
  have H : ((pennantlaw22_awake.f k).bind fun t361 => (if t361 = true then (if (wrap64 ((wrap64 ((a0_4.size : Int) + (a1_1.size : Int))) + (a2.size : Int))) > 12000 then (some true) else ((http_WriteRequest.f k a0_0 a0_1 a0_2 a0_3 a0_4).bind fun bt362 => (if bt362.2 = 0 then (if bt362.1.size + a2.size ≤ 9223372036854775807 then ((http_ReadRequest.f k (bt362.1 ++ a2)).bind fun bt364 => (if bt364.2.2.2.2.2.2 = 0 then (if bt364.2.2.2.2.2.1 = (bt362.1.size : Int) then (if (!(bt364.1.toList == a0_0.toList) || (!(bt364.2.1.toList == a0_1.toList) || (!(bt364.2.2.1.toList == a0_2.toList) || (!(bt364.2.2.2.1.toList == a0_3.toList) || (!(bt364.2.2.2.2.1.toList == a0_4.toList)))))) = true then (some false) else (pennantlaw22_HttpBack.j0 k a2 a1_0 a1_1)) else (some false)) else (some false))) else (none)) else (if bt362.1.toList = ([] : List UInt8) then (pennantlaw22_HttpBack.j0 k a2 a1_0 a1_1) else (some false))))) else (some false))) = some r := h
  clear h
  replace H := Option.bind_eq_some_iff.mp H
  obtain ⟨t361, A40, H⟩ := H
  replace H : (if t361 = true then (if (wrap64 ((wrap64 ((a0_4.size : Int) + (a1_1.size : Int))) + (a2.size : Int))) > 12000 then (some true) else ((http_WriteRequest.f k a0_0 a0_1 a0_2 a0_3 a0_4).bind fun bt362 => (if bt362.2 = 0 then (if bt362.1.size + a2.size ≤ 9223372036854775807 then ((http_ReadRequest.f k (bt362.1 ++ a2)).bind fun bt364 => (if bt364.2.2.2.2.2.2 = 0 then (if bt364.2.2.2.2.2.1 = (bt362.1.size : Int) then (if (!(bt364.1.toList == a0_0.toList) || (!(bt364.2.1.toList == a0_1.toList) || (!(bt364.2.2.1.toList == a0_2.toList) || (!(bt364.2.2.2.1.toList == a0_3.toList) || (!(bt364.2.2.2.2.1.toList == a0_4.toList)))))) = true then (some false) else (pennantlaw22_HttpBack.j0 k a2 a1_0 a1_1)) else (some false)) else (some false))) else (none)) else (if bt362.1.toList = ([] : List UInt8) then (pennantlaw22_HttpBack.j0 k a2 a1_0 a1_1) else (some false))))) else (some false)) = some r := H
  have A4 := Aside0.mk A40
  clear A40
  by_cases c5 : t361 = true
  · subst c5
    have H1 : (if (wrap64 ((wrap64 ((a0_4.size : Int) + (a1_1.size : Int))) + (a2.size : Int))) > 12000 then (some true) else ((http_WriteRequest.f k a0_0 a0_1 a0_2 a0_3 a0_4).bind fun bt362 => (if bt362.2 = 0 then (if bt362.1.size + a2.size ≤ 9223372036854775807 then ((http_ReadRequest.f k (bt362.1 ++ a2)).bind fun bt364 => (if bt364.2.2.2.2.2.2 = 0 then (if bt364.2.2.2.2.2.1 = (bt362.1.size : Int) then (if (!(bt364.1.toList == a0_0.toList) || (!(bt364.2.1.toList == a0_1.toList) || (!(bt364.2.2.1.toList == a0_2.toList) || (!(bt364.2.2.2.1.toList == a0_3.toList) || (!(bt364.2.2.2.2.1.toList == a0_4.toList)))))) = true then (some false) else (pennantlaw22_HttpBack.j0 k a2 a1_0 a1_1)) else (some false)) else (some false))) else (none)) else (if bt362.1.toList = ([] : List UInt8) then (pennantlaw22_HttpBack.j0 k a2 a1_0 a1_1) else (some false))))) = some r := by rw [if_pos rfl] at H; exact H
    clear H
    have H := H1
    clear H1
    by_cases c6 : (wrap64 ((wrap64 ((a0_4.size : Int) + (a1_1.size : Int))) + (a2.size : Int))) > 12000
    · rw [if_pos c6] at H
      have c6b0 : decide (12000 < (wrap64 ((wrap64 ((a0_4.size : Int) + (a1_1.size : Int))) + (a2.size : Int)))) = true := decide_eq_true c6
      clear c6
      obtain rfl := Option.some.inj H
      go_enter Tryz.func6, Tryz.ntmps6
      go_wp2_with (first | ((with_reducible refine gate_dst (N := 3) rfl ?_); (try (refine gate_guard (by rfl) ?_; dsimp only)); refine box_event ?hg (N := 3) ?hd (cs := #[.string a0_0, .string a0_1, .string a0_2, .string a0_3, .string a0_4]) (t := 24) ?hr ?_; (case hd => rfl); (case hg => rfl); (case hr => first | (go_simp; done) | (go_simp; rfl)); intro gb359 hg w7 hbox hb; have n0_ := Aside0.mk (below_step (by repeat (first | (with_reducible first | exact HB.out | apply below_alloc | apply pw_below_drewN | apply below_drew1) | exact HB.out)) hb); have n1_ := Aside0.mk (hbox); have n2_ := Aside0.mk ((by rw [hg]; exact (below_size (by repeat (first | (with_reducible first | exact HB.out | apply below_alloc | apply pw_below_drewN | apply below_drew1) | exact HB.out))) : w.heap.size ≤ gb359)); have n3_ := Aside0.mk ((by rw [hg]; exact (below_size (by repeat (first | (with_reducible first | exact HB.out | apply below_alloc | apply pw_below_drewN | apply below_drew1) | exact HB.out))) : w.heap.size ≤ gb359)); clear HB; have HB := n0_; have BK359 := n1_; have GW359 := n2_; have GE359 := n3_; clear n0_ n1_ n2_ n3_; clear hb hbox hg) | ((with_reducible refine gate_dst (N := 4) rfl ?_); (try (refine gate_guard (by rfl) ?_; dsimp only)); refine box_event ?hg (N := 4) ?hd (cs := #[.int .i64 a1_0, .string a1_1]) (t := 31) ?hr ?_; (case hd => rfl); (case hg => rfl); (case hr => first | (go_simp; done) | (go_simp; rfl)); intro gb360 hg w8 hbox hb; have n0_ := Aside0.mk (blk_below (g := gb359) (o := .cells #[.string a0_0, .string a0_1, .string a0_2, .string a0_3, .string a0_4] 24 (0, 0)) (by (with_reducible repeat (first | refine blk_drewN ?_ _ | refine blk_drew ?_ | refine blk_alloc ?_ _)); exact BK359.out) hb); have n1_ := Aside0.mk (below_step (by repeat (first | (with_reducible first | exact HB.out | apply below_alloc | apply pw_below_drewN | apply below_drew1 | refine below_set ?_ GE359.out) | exact HB.out)) hb); have n2_ := Aside0.mk (hbox); have n3_ := Aside0.mk ((by rw [hg]; exact (below_size (by repeat (first | (with_reducible first | exact HB.out | apply below_alloc | apply pw_below_drewN | apply below_drew1 | refine below_set ?_ GE359.out) | exact HB.out))) : w.heap.size ≤ gb360)); have n4_ := Aside0.mk ((by rw [hg]; exact (below_size (by repeat (first | (with_reducible first | exact HB.out | apply below_alloc | apply pw_below_drewN | apply below_drew1 | refine below_set ?_ GE359.out) | exact HB.out))) : w.heap.size ≤ gb360)); have n5_ := Aside0.mk ((by rw [hg]; exact Nat.ne_of_lt (blk_lt (g := gb359) (o := .cells #[.string a0_0, .string a0_1, .string a0_2, .string a0_3, .string a0_4] 24 (0, 0)) (by (with_reducible repeat (first | refine blk_drewN ?_ _ | refine blk_drew ?_ | refine blk_alloc ?_ _)); exact BK359.out)) : gb359 ≠ gb360)); have n6_ := Aside0.mk ((by rw [hg]; exact Nat.ne_of_gt (blk_lt (g := gb359) (o := .cells #[.string a0_0, .string a0_1, .string a0_2, .string a0_3, .string a0_4] 24 (0, 0)) (by (with_reducible repeat (first | refine blk_drewN ?_ _ | refine blk_drew ?_ | refine blk_alloc ?_ _)); exact BK359.out)) : gb360 ≠ gb359)); clear BK359; clear HB; have BK359 := n0_; have HB := n1_; have BK360 := n2_; have GW360 := n3_; have GE360 := n4_; have NB359_360 := n5_; have NB360_359 := n6_; clear n0_ n1_ n2_ n3_ n4_ n5_ n6_; clear hb hbox hg) | ((with_reducible refine gate_callee (f := 9) rfl ?_); refine goesL_ (some 22) rfl rfl Tryz.func9 (by kernel_rfl) rfl #[] rfl (by (try simp only [List.map_toArray, List.map_cons, List.map_nil]); first | done | rfl | (simp only [List.length_drop, List.length_take]; rfl)) ?_; (with_reducible refine (pennantlaw22_awake.calls k  true _ ?side1 A4.out).mono ?_); (case side1 => exact ⟨TabsOk.below hT.out (by repeat (first | (with_reducible first | exact HB.out | apply below_alloc | apply pw_below_drewN | apply below_drew1 | refine below_set ?_ GE359.out | refine below_set ?_ GE360.out) | exact HB.out))⟩); rintro e w9 ⟨rfl, hb⟩; refine ⟨_, rfl, ?_⟩; have n0_ := Aside0.mk (blk_below (g := gb359) (o := .cells #[.string a0_0, .string a0_1, .string a0_2, .string a0_3, .string a0_4] 24 (0, 0)) (by (with_reducible repeat (first | refine blk_drewN ?_ _ | refine blk_drew ?_ | refine blk_alloc ?_ _)); exact BK359.out) hb); have n1_ := Aside0.mk (blk_below (g := gb360) (o := .cells #[.int .i64 a1_0, .string a1_1] 31 (0, 0)) (by (with_reducible repeat (first | refine blk_drewN ?_ _ | refine blk_drew ?_ | refine blk_alloc ?_ _)); exact BK360.out) hb); have n2_ := Aside0.mk (below_step (by repeat (first | (with_reducible first | exact HB.out | apply below_alloc | apply pw_below_drewN | apply below_drew1 | refine below_set ?_ GE359.out | refine below_set ?_ GE360.out) | exact HB.out)) hb); clear BK359; clear BK360; clear HB; have BK359 := n0_; have BK360 := n1_; have HB := n2_; clear n0_ n1_ n2_; (try clear hb); (try clear hb2); (try clear hk); (try clear hi); have hnb10 := NB359_360.out; have hnc10 := NB360_359.out; have hcz11_0 : w9.cell? ⟨gb359, 0, none⟩ = some (.string a0_0) := (blk_cell BK359.out 0).trans rfl; have hcz11_1 : w9.cell? ⟨gb359, 1, none⟩ = some (.string a0_1) := (blk_cell BK359.out 1).trans rfl; have hcz11_2 : w9.cell? ⟨gb359, 2, none⟩ = some (.string a0_2) := (blk_cell BK359.out 2).trans rfl; have hcz11_3 : w9.cell? ⟨gb359, 3, none⟩ = some (.string a0_3) := (blk_cell BK359.out 3).trans rfl; have hcz11_4 : w9.cell? ⟨gb359, 4, none⟩ = some (.string a0_4) := (blk_cell BK359.out 4).trans rfl; have hfz11_0 := blk_frozen BK359.out 0; have hfz11_1 := blk_frozen BK359.out 1; have hfz11_2 := blk_frozen BK359.out 2; have hfz11_3 := blk_frozen BK359.out 3; have hfz11_4 := blk_frozen BK359.out 4; have hcz12_0 : w9.cell? ⟨gb360, 0, none⟩ = some (.int .i64 a1_0) := (blk_cell BK360.out 0).trans rfl; have hcz12_1 : w9.cell? ⟨gb360, 1, none⟩ = some (.string a1_1) := (blk_cell BK360.out 1).trans rfl; have hfz12_0 := blk_frozen BK360.out 0; have hfz12_1 := blk_frozen BK360.out 1))
      go_ret
      exact ⟨by first | rfl | (simp [errW_none, errW_some] <;> rfl) | (simp [*, errW_none, errW_some] <;> rfl), by repeat (first | (with_reducible first | exact HB.out | apply below_alloc | apply pw_below_drewN | apply below_drew1 | refine below_set ?_ GE359.out | refine below_set ?_ GE360.out) | exact HB.out)⟩
    · rw [if_neg c6] at H
      have c6b0 : decide (12000 < (wrap64 ((wrap64 ((a0_4.size : Int) + (a1_1.size : Int))) + (a2.size : Int)))) = false := decide_eq_false c6
      clear c6
      replace H := Option.bind_eq_some_iff.mp H
      obtain ⟨⟨t362, t363⟩, A130, H⟩ := H
      replace H : (if t363 = 0 then (if t362.size + a2.size ≤ 9223372036854775807 then ((http_ReadRequest.f k (t362 ++ a2)).bind fun bt364 => (if bt364.2.2.2.2.2.2 = 0 then (if bt364.2.2.2.2.2.1 = (t362.size : Int) then (if (!(bt364.1.toList == a0_0.toList) || (!(bt364.2.1.toList == a0_1.toList) || (!(bt364.2.2.1.toList == a0_2.toList) || (!(bt364.2.2.2.1.toList == a0_3.toList) || (!(bt364.2.2.2.2.1.toList == a0_4.toList)))))) = true then (some false) else (pennantlaw22_HttpBack.j0 k a2 a1_0 a1_1)) else (some false)) else (some false))) else (none)) else (if t362.toList = ([] : List UInt8) then (pennantlaw22_HttpBack.j0 k a2 a1_0 a1_1) else (some false))) = some r := H
      have A13 := Aside0.mk A130
      clear A130
      have HC14 := Aside0.mk H
      clear H
      go_enter Tryz.func6, Tryz.ntmps6
      go_upto_if 41 with (first | ((with_reducible refine gate_dst (N := 3) rfl ?_); (try (refine gate_guard (by rfl) ?_; dsimp only)); refine box_event ?hg (N := 3) ?hd (cs := #[.string a0_0, .string a0_1, .string a0_2, .string a0_3, .string a0_4]) (t := 24) ?hr ?_; (case hd => rfl); (case hg => rfl); (case hr => first | (go_simp; done) | (go_simp; rfl)); intro gb359 hg w15 hbox hb; have n0_ := Aside0.mk (below_step (by repeat (first | (with_reducible first | exact HB.out | apply below_alloc | apply pw_below_drewN | apply below_drew1) | exact HB.out)) hb); have n1_ := Aside0.mk (hbox); have n2_ := Aside0.mk ((by rw [hg]; exact (below_size (by repeat (first | (with_reducible first | exact HB.out | apply below_alloc | apply pw_below_drewN | apply below_drew1) | exact HB.out))) : w.heap.size ≤ gb359)); have n3_ := Aside0.mk ((by rw [hg]; exact (below_size (by repeat (first | (with_reducible first | exact HB.out | apply below_alloc | apply pw_below_drewN | apply below_drew1) | exact HB.out))) : w.heap.size ≤ gb359)); clear HB; have HB := n0_; have BK359 := n1_; have GW359 := n2_; have GE359 := n3_; clear n0_ n1_ n2_ n3_; clear hb hbox hg) | ((with_reducible refine gate_dst (N := 4) rfl ?_); (try (refine gate_guard (by rfl) ?_; dsimp only)); refine box_event ?hg (N := 4) ?hd (cs := #[.int .i64 a1_0, .string a1_1]) (t := 31) ?hr ?_; (case hd => rfl); (case hg => rfl); (case hr => first | (go_simp; done) | (go_simp; rfl)); intro gb360 hg w16 hbox hb; have n0_ := Aside0.mk (blk_below (g := gb359) (o := .cells #[.string a0_0, .string a0_1, .string a0_2, .string a0_3, .string a0_4] 24 (0, 0)) (by (with_reducible repeat (first | refine blk_drewN ?_ _ | refine blk_drew ?_ | refine blk_alloc ?_ _)); exact BK359.out) hb); have n1_ := Aside0.mk (below_step (by repeat (first | (with_reducible first | exact HB.out | apply below_alloc | apply pw_below_drewN | apply below_drew1 | refine below_set ?_ GE359.out) | exact HB.out)) hb); have n2_ := Aside0.mk (hbox); have n3_ := Aside0.mk ((by rw [hg]; exact (below_size (by repeat (first | (with_reducible first | exact HB.out | apply below_alloc | apply pw_below_drewN | apply below_drew1 | refine below_set ?_ GE359.out) | exact HB.out))) : w.heap.size ≤ gb360)); have n4_ := Aside0.mk ((by rw [hg]; exact (below_size (by repeat (first | (with_reducible first | exact HB.out | apply below_alloc | apply pw_below_drewN | apply below_drew1 | refine below_set ?_ GE359.out) | exact HB.out))) : w.heap.size ≤ gb360)); have n5_ := Aside0.mk ((by rw [hg]; exact Nat.ne_of_lt (blk_lt (g := gb359) (o := .cells #[.string a0_0, .string a0_1, .string a0_2, .string a0_3, .string a0_4] 24 (0, 0)) (by (with_reducible repeat (first | refine blk_drewN ?_ _ | refine blk_drew ?_ | refine blk_alloc ?_ _)); exact BK359.out)) : gb359 ≠ gb360)); have n6_ := Aside0.mk ((by rw [hg]; exact Nat.ne_of_gt (blk_lt (g := gb359) (o := .cells #[.string a0_0, .string a0_1, .string a0_2, .string a0_3, .string a0_4] 24 (0, 0)) (by (with_reducible repeat (first | refine blk_drewN ?_ _ | refine blk_drew ?_ | refine blk_alloc ?_ _)); exact BK359.out)) : gb360 ≠ gb359)); clear BK359; clear HB; have BK359 := n0_; have HB := n1_; have BK360 := n2_; have GW360 := n3_; have GE360 := n4_; have NB359_360 := n5_; have NB360_359 := n6_; clear n0_ n1_ n2_ n3_ n4_ n5_ n6_; clear hb hbox hg) | ((with_reducible refine gate_callee (f := 9) rfl ?_); refine goesL_ (some 22) rfl rfl Tryz.func9 (by kernel_rfl) rfl #[] rfl (by (try simp only [List.map_toArray, List.map_cons, List.map_nil]); first | done | rfl | (simp only [List.length_drop, List.length_take]; rfl)) ?_; (with_reducible refine (pennantlaw22_awake.calls k  true _ ?side1 A4.out).mono ?_); (case side1 => exact ⟨TabsOk.below hT.out (by repeat (first | (with_reducible first | exact HB.out | apply below_alloc | apply pw_below_drewN | apply below_drew1 | refine below_set ?_ GE359.out | refine below_set ?_ GE360.out) | exact HB.out))⟩); rintro e w17 ⟨rfl, hb⟩; refine ⟨_, rfl, ?_⟩; have n0_ := Aside0.mk (blk_below (g := gb359) (o := .cells #[.string a0_0, .string a0_1, .string a0_2, .string a0_3, .string a0_4] 24 (0, 0)) (by (with_reducible repeat (first | refine blk_drewN ?_ _ | refine blk_drew ?_ | refine blk_alloc ?_ _)); exact BK359.out) hb); have n1_ := Aside0.mk (blk_below (g := gb360) (o := .cells #[.int .i64 a1_0, .string a1_1] 31 (0, 0)) (by (with_reducible repeat (first | refine blk_drewN ?_ _ | refine blk_drew ?_ | refine blk_alloc ?_ _)); exact BK360.out) hb); have n2_ := Aside0.mk (below_step (by repeat (first | (with_reducible first | exact HB.out | apply below_alloc | apply pw_below_drewN | apply below_drew1 | refine below_set ?_ GE359.out | refine below_set ?_ GE360.out) | exact HB.out)) hb); clear BK359; clear BK360; clear HB; have BK359 := n0_; have BK360 := n1_; have HB := n2_; clear n0_ n1_ n2_; (try clear hb); (try clear hb2); (try clear hk); (try clear hi); have hnb18 := NB359_360.out; have hnc18 := NB360_359.out; have hcz19_0 : w17.cell? ⟨gb359, 0, none⟩ = some (.string a0_0) := (blk_cell BK359.out 0).trans rfl; have hcz19_1 : w17.cell? ⟨gb359, 1, none⟩ = some (.string a0_1) := (blk_cell BK359.out 1).trans rfl; have hcz19_2 : w17.cell? ⟨gb359, 2, none⟩ = some (.string a0_2) := (blk_cell BK359.out 2).trans rfl; have hcz19_3 : w17.cell? ⟨gb359, 3, none⟩ = some (.string a0_3) := (blk_cell BK359.out 3).trans rfl; have hcz19_4 : w17.cell? ⟨gb359, 4, none⟩ = some (.string a0_4) := (blk_cell BK359.out 4).trans rfl; have hfz19_0 := blk_frozen BK359.out 0; have hfz19_1 := blk_frozen BK359.out 1; have hfz19_2 := blk_frozen BK359.out 2; have hfz19_3 := blk_frozen BK359.out 3; have hfz19_4 := blk_frozen BK359.out 4; have hcz20_0 : w17.cell? ⟨gb360, 0, none⟩ = some (.int .i64 a1_0) := (blk_cell BK360.out 0).trans rfl; have hcz20_1 : w17.cell? ⟨gb360, 1, none⟩ = some (.string a1_1) := (blk_cell BK360.out 1).trans rfl; have hfz20_0 := blk_frozen BK360.out 0; have hfz20_1 := blk_frozen BK360.out 1) | ((with_reducible refine gate_callee (f := 14) rfl ?_); refine goesL_ (some 37) rfl rfl Tryz.func14 (by kernel_rfl) rfl #[.agg #[.string a0_0, .string a0_1, .string a0_2, .string a0_3, .string a0_4]] rfl (by (try simp only [List.map_toArray, List.map_cons, List.map_nil]); first | done | rfl | (simp only [List.length_drop, List.length_take]; rfl)) ?_; (with_reducible refine (http_WriteRequest.calls k a0_0 a0_1 a0_2 a0_3 a0_4 t362 t363 _ ?side1 A13.out).mono ?_); (case side1 => exact ⟨TabsOk.below hT.out (by repeat (first | (with_reducible first | exact HB.out | apply below_alloc | apply pw_below_drewN | apply below_drew1 | refine below_set ?_ GE359.out | refine below_set ?_ GE360.out) | exact HB.out))⟩); rintro e w21 ⟨rfl, hb⟩; refine ⟨_, rfl, ?_⟩; have n0_ := Aside0.mk (blk_below (g := gb359) (o := .cells #[.string a0_0, .string a0_1, .string a0_2, .string a0_3, .string a0_4] 24 (0, 0)) (by (with_reducible repeat (first | refine blk_drewN ?_ _ | refine blk_drew ?_ | refine blk_alloc ?_ _)); exact BK359.out) hb); have n1_ := Aside0.mk (blk_below (g := gb360) (o := .cells #[.int .i64 a1_0, .string a1_1] 31 (0, 0)) (by (with_reducible repeat (first | refine blk_drewN ?_ _ | refine blk_drew ?_ | refine blk_alloc ?_ _)); exact BK360.out) hb); have n2_ := Aside0.mk (below_step (by repeat (first | (with_reducible first | exact HB.out | apply below_alloc | apply pw_below_drewN | apply below_drew1 | refine below_set ?_ GE359.out | refine below_set ?_ GE360.out) | exact HB.out)) hb); clear BK359; clear BK360; clear HB; have BK359 := n0_; have BK360 := n1_; have HB := n2_; clear n0_ n1_ n2_; (try clear hb); (try clear hb2); (try clear hk); (try clear hi)))
      (try simp only [Act.put, List.setIfInBounds_toArray, List.set_cons_zero, List.set_cons_succ])
      go_cut [] (fun wc => ∃ (kq : Nat), Aside0 (pennantlaw22_HttpBack.j0 kq a2 a1_0 a1_1 = some r) ∧ Aside0 (kq ≤ k) ∧ Aside0 (wc.heap[gb359]? = some (.cells #[.string a0_0, .string a0_1, .string a0_2, .string a0_3, .string a0_4] 24 (0, 0))) ∧ Aside0 (wc.heap[gb360]? = some (.cells #[.int .i64 a1_0, .string a1_1] 31 (0, 0))) ∧ Aside0 (Below w.heap.size w wc))
      case first =>
        have H := HC14.out
        clear HC14
        by_cases c22 : t363 = 0
        · rw [if_pos c22] at H
          have c22b0 : (t363 == 0) = true := beq_iff_eq.mpr c22
          have c22b1 : (t363 != 0) = false := bne_eq_false_iff_eq.mpr c22
          clear c22
          (first | rw [c22b0] | (simp only [i64_w, i32_w]; rw [c22b0]) | skip)
          by_cases c23 : t362.size + a2.size ≤ 9223372036854775807
          · rw [if_pos c23] at H
            have c23b0 := eq_true c23
            have c23b1 : decide (t362.size + a2.size ≤ 9223372036854775807) = true := decide_eq_true c23
            try have c23b2 : (9223372036854775807 < t362.size + a2.size) = False := eq_false (Nat.not_lt.2 c23)
            replace H := Option.bind_eq_some_iff.mp H
            obtain ⟨⟨t364, t365, t366, t367, t368, t369, t370⟩, A240, H⟩ := H
            replace H : (if t370 = 0 then (if t369 = (t362.size : Int) then (if (!(t364.toList == a0_0.toList) || (!(t365.toList == a0_1.toList) || (!(t366.toList == a0_2.toList) || (!(t367.toList == a0_3.toList) || (!(t368.toList == a0_4.toList)))))) = true then (some false) else (pennantlaw22_HttpBack.j0 k a2 a1_0 a1_1)) else (some false)) else (some false)) = some r := H
            have A24 := Aside0.mk A240
            clear A240
            by_cases c25 : t370 = 0
            · rw [if_pos c25] at H
              have c25b0 : (t370 == 0) = true := beq_iff_eq.mpr c25
              have c25b1 : (t370 != 0) = false := bne_eq_false_iff_eq.mpr c25
              clear c25
              by_cases c26 : t369 = (t362.size : Int)
              · rw [if_pos c26] at H
                have c26b0 : (t369 == (t362.size : Int)) = true := beq_iff_eq.mpr c26
                have c26b1 : (t369 != (t362.size : Int)) = false := bne_eq_false_iff_eq.mpr c26
                clear c26
                by_cases c27 : (!(t364.toList == a0_0.toList) || (!(t365.toList == a0_1.toList) || (!(t366.toList == a0_2.toList) || (!(t367.toList == a0_3.toList) || (!(t368.toList == a0_4.toList)))))) = true
                · rw [if_pos c27] at H
                  have c27b0 : (!(t364.toList == a0_0.toList) || (!(t365.toList == a0_1.toList) || (!(t366.toList == a0_2.toList) || (!(t367.toList == a0_3.toList) || (!(t368.toList == a0_4.toList)))))) = true := c27
                  clear c27
                  exact absurd (Option.some.inj H) (by rw [HR_.out]; simp)
                · rw [if_neg c27] at H
                  have c27b0 : (!(t364.toList == a0_0.toList) || (!(t365.toList == a0_1.toList) || (!(t366.toList == a0_2.toList) || (!(t367.toList == a0_3.toList) || (!(t368.toList == a0_4.toList)))))) = false := by simpa using c27
                  clear c27
                  have H' := Aside0.mk H
                  clear H
                  go_wp2_with (first | ((with_reducible refine gate_callee (f := 10) rfl ?_); refine goesL_ (some 46) rfl rfl Tryz.func10 (by kernel_rfl) rfl #[.string (t362 ++ a2)] rfl (by (try simp only [List.map_toArray, List.map_cons, List.map_nil]); first | done | rfl | (simp only [List.length_drop, List.length_take]; rfl)) ?_; (with_reducible refine (http_ReadRequest.calls k (t362 ++ a2) t364 t365 t366 t367 t368 t369 t370 _ ?side1 A24.out).mono ?_); (case side1 => exact ⟨TabsOk.below hT.out (by repeat (first | (with_reducible first | exact HB.out | apply below_alloc | apply pw_below_drewN | apply below_drew1 | refine below_set ?_ GE359.out | refine below_set ?_ GE360.out) | exact HB.out))⟩); rintro e w28 ⟨rfl, hb⟩; refine ⟨_, rfl, ?_⟩; have n0_ := Aside0.mk (blk_below (g := gb359) (o := .cells #[.string a0_0, .string a0_1, .string a0_2, .string a0_3, .string a0_4] 24 (0, 0)) (by (with_reducible repeat (first | refine blk_drewN ?_ _ | refine blk_drew ?_ | refine blk_alloc ?_ _)); exact BK359.out) hb); have n1_ := Aside0.mk (blk_below (g := gb360) (o := .cells #[.int .i64 a1_0, .string a1_1] 31 (0, 0)) (by (with_reducible repeat (first | refine blk_drewN ?_ _ | refine blk_drew ?_ | refine blk_alloc ?_ _)); exact BK360.out) hb); have n2_ := Aside0.mk (below_step (by repeat (first | (with_reducible first | exact HB.out | apply below_alloc | apply pw_below_drewN | apply below_drew1 | refine below_set ?_ GE359.out | refine below_set ?_ GE360.out) | exact HB.out)) hb); clear BK359; clear BK360; clear HB; have BK359 := n0_; have BK360 := n1_; have HB := n2_; clear n0_ n1_ n2_; (try clear hb); (try clear hb2); (try clear hk); (try clear hi)) | ((with_reducible refine gate_dst (N := 9) rfl ?_); (try (refine gate_guard (by rfl) ?_; dsimp only)); refine box_event ?hg (N := 9) ?hd (cs := #[.string (⟨#[]⟩ : ByteArray), .string (⟨#[]⟩ : ByteArray), .string (⟨#[]⟩ : ByteArray), .string (⟨#[]⟩ : ByteArray), .string (⟨#[]⟩ : ByteArray)]) (t := 24) ?hr ?_; (case hd => rfl); (case hg => rfl); (case hr => first | (go_simp; done) | (go_simp; rfl)); intro gb371 hg w29 hbox hb; have n0_ := Aside0.mk (blk_below (g := gb359) (o := .cells #[.string a0_0, .string a0_1, .string a0_2, .string a0_3, .string a0_4] 24 (0, 0)) (by (with_reducible repeat (first | refine blk_drewN ?_ _ | refine blk_drew ?_ | refine blk_alloc ?_ _)); exact BK359.out) hb); have n1_ := Aside0.mk (blk_below (g := gb360) (o := .cells #[.int .i64 a1_0, .string a1_1] 31 (0, 0)) (by (with_reducible repeat (first | refine blk_drewN ?_ _ | refine blk_drew ?_ | refine blk_alloc ?_ _)); exact BK360.out) hb); have n2_ := Aside0.mk (below_step (by repeat (first | (with_reducible first | exact HB.out | apply below_alloc | apply pw_below_drewN | apply below_drew1 | refine below_set ?_ GE359.out | refine below_set ?_ GE360.out) | exact HB.out)) hb); have n3_ := Aside0.mk (hbox); have n4_ := Aside0.mk ((by rw [hg]; exact (below_size (by repeat (first | (with_reducible first | exact HB.out | apply below_alloc | apply pw_below_drewN | apply below_drew1 | refine below_set ?_ GE359.out | refine below_set ?_ GE360.out) | exact HB.out))) : w.heap.size ≤ gb371)); have n5_ := Aside0.mk ((by rw [hg]; exact (below_size (by repeat (first | (with_reducible first | exact HB.out | apply below_alloc | apply pw_below_drewN | apply below_drew1 | refine below_set ?_ GE359.out | refine below_set ?_ GE360.out) | exact HB.out))) : w.heap.size ≤ gb371)); have n6_ := Aside0.mk ((by rw [hg]; exact Nat.ne_of_lt (blk_lt (g := gb359) (o := .cells #[.string a0_0, .string a0_1, .string a0_2, .string a0_3, .string a0_4] 24 (0, 0)) (by (with_reducible repeat (first | refine blk_drewN ?_ _ | refine blk_drew ?_ | refine blk_alloc ?_ _)); exact BK359.out)) : gb359 ≠ gb371)); have n7_ := Aside0.mk ((by rw [hg]; exact Nat.ne_of_gt (blk_lt (g := gb359) (o := .cells #[.string a0_0, .string a0_1, .string a0_2, .string a0_3, .string a0_4] 24 (0, 0)) (by (with_reducible repeat (first | refine blk_drewN ?_ _ | refine blk_drew ?_ | refine blk_alloc ?_ _)); exact BK359.out)) : gb371 ≠ gb359)); have n8_ := Aside0.mk ((by rw [hg]; exact Nat.ne_of_lt (blk_lt (g := gb360) (o := .cells #[.int .i64 a1_0, .string a1_1] 31 (0, 0)) (by (with_reducible repeat (first | refine blk_drewN ?_ _ | refine blk_drew ?_ | refine blk_alloc ?_ _)); exact BK360.out)) : gb360 ≠ gb371)); have n9_ := Aside0.mk ((by rw [hg]; exact Nat.ne_of_gt (blk_lt (g := gb360) (o := .cells #[.int .i64 a1_0, .string a1_1] 31 (0, 0)) (by (with_reducible repeat (first | refine blk_drewN ?_ _ | refine blk_drew ?_ | refine blk_alloc ?_ _)); exact BK360.out)) : gb371 ≠ gb360)); clear BK359; clear BK360; clear HB; have BK359 := n0_; have BK360 := n1_; have HB := n2_; have BK371 := n3_; have GW371 := n4_; have GE371 := n5_; have NB359_371 := n6_; have NB371_359 := n7_; have NB360_371 := n8_; have NB371_360 := n9_; clear n0_ n1_ n2_ n3_ n4_ n5_ n6_ n7_ n8_ n9_; clear hb hbox hg; have hnb30 := NB371_359.out; have hnc30 := NB359_371.out; have hnb31 := NB371_360.out; have hnc31 := NB360_371.out; have hcz32_0 : w29.cell? ⟨gb371, 0, none⟩ = some (.string (⟨#[]⟩ : ByteArray)) := (blk_cell BK371.out 0).trans rfl; have hcz32_1 : w29.cell? ⟨gb371, 1, none⟩ = some (.string (⟨#[]⟩ : ByteArray)) := (blk_cell BK371.out 1).trans rfl; have hcz32_2 : w29.cell? ⟨gb371, 2, none⟩ = some (.string (⟨#[]⟩ : ByteArray)) := (blk_cell BK371.out 2).trans rfl; have hcz32_3 : w29.cell? ⟨gb371, 3, none⟩ = some (.string (⟨#[]⟩ : ByteArray)) := (blk_cell BK371.out 3).trans rfl; have hcz32_4 : w29.cell? ⟨gb371, 4, none⟩ = some (.string (⟨#[]⟩ : ByteArray)) := (blk_cell BK371.out 4).trans rfl; have hfz32_0 := blk_frozen BK371.out 0; have hfz32_1 := blk_frozen BK371.out 1; have hfz32_2 := blk_frozen BK371.out 2; have hfz32_3 := blk_frozen BK371.out 3; have hfz32_4 := blk_frozen BK371.out 4; have hnb33 := NB359_360.out; have hnc33 := NB360_359.out; have hcz34_0 : w29.cell? ⟨gb359, 0, none⟩ = some (.string a0_0) := (blk_cell BK359.out 0).trans rfl; have hcz34_1 : w29.cell? ⟨gb359, 1, none⟩ = some (.string a0_1) := (blk_cell BK359.out 1).trans rfl; have hcz34_2 : w29.cell? ⟨gb359, 2, none⟩ = some (.string a0_2) := (blk_cell BK359.out 2).trans rfl; have hcz34_3 : w29.cell? ⟨gb359, 3, none⟩ = some (.string a0_3) := (blk_cell BK359.out 3).trans rfl; have hcz34_4 : w29.cell? ⟨gb359, 4, none⟩ = some (.string a0_4) := (blk_cell BK359.out 4).trans rfl; have hfz34_0 := blk_frozen BK359.out 0; have hfz34_1 := blk_frozen BK359.out 1; have hfz34_2 := blk_frozen BK359.out 2; have hfz34_3 := blk_frozen BK359.out 3; have hfz34_4 := blk_frozen BK359.out 4))
                  go_meet
                  case rel => exact ⟨_, H', ⟨by first | omega | exact Nat.le_refl _⟩, ⟨by (with_reducible repeat (first | refine blk_drewN ?_ _ | refine blk_drew ?_ | refine blk_alloc ?_ _)); refine blk_far ?_ NB359_371.out _; (with_reducible repeat (first | refine blk_drewN ?_ _ | refine blk_drew ?_ | refine blk_alloc ?_ _)); refine blk_far ?_ NB359_371.out _; (with_reducible repeat (first | refine blk_drewN ?_ _ | refine blk_drew ?_ | refine blk_alloc ?_ _)); refine blk_far ?_ NB359_371.out _; (with_reducible repeat (first | refine blk_drewN ?_ _ | refine blk_drew ?_ | refine blk_alloc ?_ _)); refine blk_far ?_ NB359_371.out _; (with_reducible repeat (first | refine blk_drewN ?_ _ | refine blk_drew ?_ | refine blk_alloc ?_ _)); refine blk_far ?_ NB359_371.out _; (with_reducible repeat (first | refine blk_drewN ?_ _ | refine blk_drew ?_ | refine blk_alloc ?_ _)); exact BK359.out⟩, ⟨by (with_reducible repeat (first | refine blk_drewN ?_ _ | refine blk_drew ?_ | refine blk_alloc ?_ _)); refine blk_far ?_ NB360_371.out _; (with_reducible repeat (first | refine blk_drewN ?_ _ | refine blk_drew ?_ | refine blk_alloc ?_ _)); refine blk_far ?_ NB360_371.out _; (with_reducible repeat (first | refine blk_drewN ?_ _ | refine blk_drew ?_ | refine blk_alloc ?_ _)); refine blk_far ?_ NB360_371.out _; (with_reducible repeat (first | refine blk_drewN ?_ _ | refine blk_drew ?_ | refine blk_alloc ?_ _)); refine blk_far ?_ NB360_371.out _; (with_reducible repeat (first | refine blk_drewN ?_ _ | refine blk_drew ?_ | refine blk_alloc ?_ _)); refine blk_far ?_ NB360_371.out _; (with_reducible repeat (first | refine blk_drewN ?_ _ | refine blk_drew ?_ | refine blk_alloc ?_ _)); exact BK360.out⟩, ⟨by repeat (first | (with_reducible first | exact HB.out | apply below_alloc | apply pw_below_drewN | apply below_drew1 | refine below_set ?_ GE359.out | refine below_set ?_ GE360.out | refine below_set ?_ GE371.out) | exact HB.out)⟩⟩
              · rw [if_neg c26] at H
                have c26b0 : (t369 == (t362.size : Int)) = false := beq_eq_false_iff_ne.mpr c26
                have c26b1 : (t369 != (t362.size : Int)) = true := bne_iff_ne.mpr c26
                exact absurd (Option.some.inj H) (by rw [HR_.out]; simp)
            · rw [if_neg c25] at H
              have c25b0 : (t370 == 0) = false := beq_eq_false_iff_ne.mpr c25
              have c25b1 : (t370 != 0) = true := bne_iff_ne.mpr c25
              exact absurd (Option.some.inj H) (by rw [HR_.out]; simp)
          · rw [if_neg c23] at H
            exact absurd H (by simp)
        · rw [if_neg c22] at H
          have c22b0 : (t363 == 0) = false := beq_eq_false_iff_ne.mpr c22
          have c22b1 : (t363 != 0) = true := bne_iff_ne.mpr c22
          (first | rw [c22b0] | (simp only [i64_w, i32_w]; rw [c22b0]) | skip)
          by_cases c35 : t362.toList = ([] : List UInt8)
          · rw [if_pos c35] at H
            have c35b0 : (t362.toList == ([] : List UInt8)) = true := beq_iff_eq.mpr c35
            have c35b1 : (t362.toList != ([] : List UInt8)) = false := bne_eq_false_iff_eq.mpr c35
            have c35b2 : t362.toList.isEmpty = true := List.isEmpty_iff.mpr c35
            clear c35
            have H' := Aside0.mk H
            clear H
            go_wp2
            go_meet
            case rel => exact ⟨_, H', ⟨by first | omega | exact Nat.le_refl _⟩, ⟨by (with_reducible repeat (first | refine blk_drewN ?_ _ | refine blk_drew ?_ | refine blk_alloc ?_ _)); exact BK359.out⟩, ⟨by (with_reducible repeat (first | refine blk_drewN ?_ _ | refine blk_drew ?_ | refine blk_alloc ?_ _)); exact BK360.out⟩, ⟨by repeat (first | (with_reducible first | exact HB.out | apply below_alloc | apply pw_below_drewN | apply below_drew1 | refine below_set ?_ GE359.out | refine below_set ?_ GE360.out) | exact HB.out)⟩⟩
          · rw [if_neg c35] at H
            have c35b0 : (t362.toList == ([] : List UInt8)) = false := beq_eq_false_iff_ne.mpr c35
            have c35b1 : (t362.toList != ([] : List UInt8)) = true := bne_iff_ne.mpr c35
            have c35b2 : t362.toList.isEmpty = false := List.isEmpty_eq_false_iff.mpr c35
            exact absurd (Option.some.inj H) (by rw [HR_.out]; simp)
      case rest =>
        clear HC14
        try clear c1
        try clear c2
        try clear p2
        try clear c3
        try clear c5
        try clear c6
        try clear c6b0
        try clear p6
        try clear c9
        try clear c10
        try clear c14
        try clear c18
        try clear c22
        try clear c22b0
        try clear c22b1
        try clear c23
        try clear c23b0
        try clear c23b1
        try clear c23b2
        try clear c25
        try clear c25b0
        try clear c25b1
        try clear c26
        try clear c26b0
        try clear c26b1
        try clear c27
        try clear c27b0
        try clear c30
        try clear c31
        try clear c33
        try clear c35
        try clear c35b0
        try clear c35b1
        try clear c35b2
        try clear hcz11_0
        try clear hcz11_1
        try clear hcz11_2
        try clear hcz11_3
        try clear hcz11_4
        try clear hcz12_0
        try clear hcz12_1
        try clear hcz19_0
        try clear hcz19_1
        try clear hcz19_2
        try clear hcz19_3
        try clear hcz19_4
        try clear hcz20_0
        try clear hcz20_1
        try clear hcz32_0
        try clear hcz32_1
        try clear hcz32_2
        try clear hcz32_3
        try clear hcz32_4
        try clear hcz34_0
        try clear hcz34_1
        try clear hcz34_2
        try clear hcz34_3
        try clear hcz34_4
        try clear hfz11_0
        try clear hfz11_1
        try clear hfz11_2
        try clear hfz11_3
        try clear hfz11_4
        try clear hfz12_0
        try clear hfz12_1
        try clear hfz19_0
        try clear hfz19_1
        try clear hfz19_2
        try clear hfz19_3
        try clear hfz19_4
        try clear hfz20_0
        try clear hfz20_1
        try clear hfz32_0
        try clear hfz32_1
        try clear hfz32_2
        try clear hfz32_3
        try clear hfz32_4
        try clear hfz34_0
        try clear hfz34_1
        try clear hfz34_2
        try clear hfz34_3
        try clear hfz34_4
        obtain ⟨kq, HA, HJ13, BK359, BK360, HB⟩ := hcut
        cases kq with
        | zero => exact absurd HA.out (by simp [pennantlaw22_HttpBack.j0])
        | succ kj13 =>
          have H := HA.out
          clear HA
          simp only [pennantlaw22_HttpBack.j0] at H
          replace H := Option.bind_eq_some_iff.mp H
          obtain ⟨⟨t372, t373⟩, A360, H⟩ := H
          replace H : (if t373 = 0 then (if t372.size + a2.size ≤ 9223372036854775807 then ((http_ReadResponse.f kj13 (t372 ++ a2)).bind fun bt374 => (if bt374.2.2.2 = 0 then (if bt374.2.2.1 = (t372.size : Int) then (if (!(bt374.1 == a1_0) || (!(bt374.2.1.toList == a1_1.toList))) = true then (some false) else (pennantlaw22_HttpBack.j1 kj13 a2)) else (some false)) else (some false))) else (none)) else (pennantlaw22_HttpBack.j1 kj13 a2)) = some r := H
          have A36 := Aside0.mk A360
          clear A360
          have HC37 := Aside0.mk H
          clear H
          have hnb38 := NB360_359.out
          have hnc38 := NB359_360.out
          have hcz39_0 : wc.cell? ⟨gb360, 0, none⟩ = some (.int .i64 a1_0) := (blk_cell BK360.out 0).trans rfl
          have hcz39_1 : wc.cell? ⟨gb360, 1, none⟩ = some (.string a1_1) := (blk_cell BK360.out 1).trans rfl
          have hfz39_0 := blk_frozen BK360.out 0
          have hfz39_1 := blk_frozen BK360.out 1
          go_upto_if 71 with (first | ((with_reducible refine gate_callee (f := 16) rfl ?_); refine goesL_ (some 67) rfl rfl Tryz.func16 (by kernel_rfl) rfl #[.agg #[.int .i64 a1_0, .string a1_1]] rfl (by (try simp only [List.map_toArray, List.map_cons, List.map_nil]); first | done | rfl | (simp only [List.length_drop, List.length_take]; rfl)) ?_; (with_reducible refine (http_WriteResponse.calls kj13 a1_0 a1_1 t372 t373 _ ?side1 A36.out).mono ?_); (case side1 => exact ⟨TabsOk.below hT.out (by repeat (first | (with_reducible first | exact HB.out | apply below_alloc | apply pw_below_drewN | apply below_drew1 | refine below_set ?_ GE359.out | refine below_set ?_ GE360.out) | exact HB.out))⟩); rintro e w40 ⟨rfl, hb⟩; refine ⟨_, rfl, ?_⟩; have n0_ := Aside0.mk (blk_below (g := gb359) (o := .cells #[.string a0_0, .string a0_1, .string a0_2, .string a0_3, .string a0_4] 24 (0, 0)) (by (with_reducible repeat (first | refine blk_drewN ?_ _ | refine blk_drew ?_ | refine blk_alloc ?_ _)); exact BK359.out) hb); have n1_ := Aside0.mk (blk_below (g := gb360) (o := .cells #[.int .i64 a1_0, .string a1_1] 31 (0, 0)) (by (with_reducible repeat (first | refine blk_drewN ?_ _ | refine blk_drew ?_ | refine blk_alloc ?_ _)); exact BK360.out) hb); have n2_ := Aside0.mk (below_step (by repeat (first | (with_reducible first | exact HB.out | apply below_alloc | apply pw_below_drewN | apply below_drew1 | refine below_set ?_ GE359.out | refine below_set ?_ GE360.out) | exact HB.out)) hb); clear BK359; clear BK360; clear HB; have BK359 := n0_; have BK360 := n1_; have HB := n2_; clear n0_ n1_ n2_; (try clear hb); (try clear hb2); (try clear hk); (try clear hi)))
          (try simp only [Act.put, List.setIfInBounds_toArray, List.set_cons_zero, List.set_cons_succ])
          go_cut [] (fun wc => ∃ (kq : Nat), Aside0 (pennantlaw22_HttpBack.j1 kq a2 = some r) ∧ Aside0 (kq ≤ kj13) ∧ Aside0 (wc.heap[gb359]? = some (.cells #[.string a0_0, .string a0_1, .string a0_2, .string a0_3, .string a0_4] 24 (0, 0))) ∧ Aside0 (wc.heap[gb360]? = some (.cells #[.int .i64 a1_0, .string a1_1] 31 (0, 0))) ∧ Aside0 (Below w.heap.size w wc))
          case first =>
            have H := HC37.out
            clear HC37
            by_cases c41 : t373 = 0
            · rw [if_pos c41] at H
              have c41b0 : (t373 == 0) = true := beq_iff_eq.mpr c41
              have c41b1 : (t373 != 0) = false := bne_eq_false_iff_eq.mpr c41
              clear c41
              (first | rw [c41b0] | (simp only [i64_w, i32_w]; rw [c41b0]) | skip)
              by_cases c42 : t372.size + a2.size ≤ 9223372036854775807
              · rw [if_pos c42] at H
                have c42b0 := eq_true c42
                have c42b1 : decide (t372.size + a2.size ≤ 9223372036854775807) = true := decide_eq_true c42
                try have c42b2 : (9223372036854775807 < t372.size + a2.size) = False := eq_false (Nat.not_lt.2 c42)
                replace H := Option.bind_eq_some_iff.mp H
                obtain ⟨⟨t374, t375, t376, t377⟩, A430, H⟩ := H
                replace H : (if t377 = 0 then (if t376 = (t372.size : Int) then (if (!(t374 == a1_0) || (!(t375.toList == a1_1.toList))) = true then (some false) else (pennantlaw22_HttpBack.j1 kj13 a2)) else (some false)) else (some false)) = some r := H
                have A43 := Aside0.mk A430
                clear A430
                by_cases c44 : t377 = 0
                · rw [if_pos c44] at H
                  have c44b0 : (t377 == 0) = true := beq_iff_eq.mpr c44
                  have c44b1 : (t377 != 0) = false := bne_eq_false_iff_eq.mpr c44
                  clear c44
                  by_cases c45 : t376 = (t372.size : Int)
                  · rw [if_pos c45] at H
                    have c45b0 : (t376 == (t372.size : Int)) = true := beq_iff_eq.mpr c45
                    have c45b1 : (t376 != (t372.size : Int)) = false := bne_eq_false_iff_eq.mpr c45
                    clear c45
                    by_cases c46 : (!(t374 == a1_0) || (!(t375.toList == a1_1.toList))) = true
                    · rw [if_pos c46] at H
                      have c46b0 : (!(t374 == a1_0) || (!(t375.toList == a1_1.toList))) = true := c46
                      clear c46
                      exact absurd (Option.some.inj H) (by rw [HR_.out]; simp)
                    · rw [if_neg c46] at H
                      have c46b0 : (!(t374 == a1_0) || (!(t375.toList == a1_1.toList))) = false := by simpa using c46
                      clear c46
                      have H' := Aside0.mk H
                      clear H
                      go_wp2_with (first | ((with_reducible refine gate_callee (f := 12) rfl ?_); refine goesL_ (some 76) rfl rfl Tryz.func12 (by kernel_rfl) rfl #[.string (t372 ++ a2)] rfl (by (try simp only [List.map_toArray, List.map_cons, List.map_nil]); first | done | rfl | (simp only [List.length_drop, List.length_take]; rfl)) ?_; (with_reducible refine (http_ReadResponse.calls kj13 (t372 ++ a2) t374 t375 t376 t377 _ ?side1 A43.out).mono ?_); (case side1 => exact ⟨TabsOk.below hT.out (by repeat (first | (with_reducible first | exact HB.out | apply below_alloc | apply pw_below_drewN | apply below_drew1 | refine below_set ?_ GE359.out | refine below_set ?_ GE360.out) | exact HB.out))⟩); rintro e w47 ⟨rfl, hb⟩; refine ⟨_, rfl, ?_⟩; have n0_ := Aside0.mk (blk_below (g := gb359) (o := .cells #[.string a0_0, .string a0_1, .string a0_2, .string a0_3, .string a0_4] 24 (0, 0)) (by (with_reducible repeat (first | refine blk_drewN ?_ _ | refine blk_drew ?_ | refine blk_alloc ?_ _)); exact BK359.out) hb); have n1_ := Aside0.mk (blk_below (g := gb360) (o := .cells #[.int .i64 a1_0, .string a1_1] 31 (0, 0)) (by (with_reducible repeat (first | refine blk_drewN ?_ _ | refine blk_drew ?_ | refine blk_alloc ?_ _)); exact BK360.out) hb); have n2_ := Aside0.mk (below_step (by repeat (first | (with_reducible first | exact HB.out | apply below_alloc | apply pw_below_drewN | apply below_drew1 | refine below_set ?_ GE359.out | refine below_set ?_ GE360.out) | exact HB.out)) hb); clear BK359; clear BK360; clear HB; have BK359 := n0_; have BK360 := n1_; have HB := n2_; clear n0_ n1_ n2_; (try clear hb); (try clear hb2); (try clear hk); (try clear hi)) | ((with_reducible refine gate_dst (N := 13) rfl ?_); (try (refine gate_guard (by rfl) ?_; dsimp only)); refine box_event ?hg (N := 13) ?hd (cs := #[.int .i64 0, .string (⟨#[]⟩ : ByteArray)]) (t := 31) ?hr ?_; (case hd => rfl); (case hg => rfl); (case hr => first | (go_simp; done) | (go_simp; rfl)); intro gb378 hg w48 hbox hb; have n0_ := Aside0.mk (blk_below (g := gb359) (o := .cells #[.string a0_0, .string a0_1, .string a0_2, .string a0_3, .string a0_4] 24 (0, 0)) (by (with_reducible repeat (first | refine blk_drewN ?_ _ | refine blk_drew ?_ | refine blk_alloc ?_ _)); exact BK359.out) hb); have n1_ := Aside0.mk (blk_below (g := gb360) (o := .cells #[.int .i64 a1_0, .string a1_1] 31 (0, 0)) (by (with_reducible repeat (first | refine blk_drewN ?_ _ | refine blk_drew ?_ | refine blk_alloc ?_ _)); exact BK360.out) hb); have n2_ := Aside0.mk (below_step (by repeat (first | (with_reducible first | exact HB.out | apply below_alloc | apply pw_below_drewN | apply below_drew1 | refine below_set ?_ GE359.out | refine below_set ?_ GE360.out) | exact HB.out)) hb); have n3_ := Aside0.mk (hbox); have n4_ := Aside0.mk ((by rw [hg]; exact (below_size (by repeat (first | (with_reducible first | exact HB.out | apply below_alloc | apply pw_below_drewN | apply below_drew1 | refine below_set ?_ GE359.out | refine below_set ?_ GE360.out) | exact HB.out))) : w.heap.size ≤ gb378)); have n5_ := Aside0.mk ((by rw [hg]; exact (below_size (by repeat (first | (with_reducible first | exact HB.out | apply below_alloc | apply pw_below_drewN | apply below_drew1 | refine below_set ?_ GE359.out | refine below_set ?_ GE360.out) | exact HB.out))) : w.heap.size ≤ gb378)); have n6_ := Aside0.mk ((by rw [hg]; exact Nat.ne_of_lt (blk_lt (g := gb359) (o := .cells #[.string a0_0, .string a0_1, .string a0_2, .string a0_3, .string a0_4] 24 (0, 0)) (by (with_reducible repeat (first | refine blk_drewN ?_ _ | refine blk_drew ?_ | refine blk_alloc ?_ _)); exact BK359.out)) : gb359 ≠ gb378)); have n7_ := Aside0.mk ((by rw [hg]; exact Nat.ne_of_gt (blk_lt (g := gb359) (o := .cells #[.string a0_0, .string a0_1, .string a0_2, .string a0_3, .string a0_4] 24 (0, 0)) (by (with_reducible repeat (first | refine blk_drewN ?_ _ | refine blk_drew ?_ | refine blk_alloc ?_ _)); exact BK359.out)) : gb378 ≠ gb359)); have n8_ := Aside0.mk ((by rw [hg]; exact Nat.ne_of_lt (blk_lt (g := gb360) (o := .cells #[.int .i64 a1_0, .string a1_1] 31 (0, 0)) (by (with_reducible repeat (first | refine blk_drewN ?_ _ | refine blk_drew ?_ | refine blk_alloc ?_ _)); exact BK360.out)) : gb360 ≠ gb378)); have n9_ := Aside0.mk ((by rw [hg]; exact Nat.ne_of_gt (blk_lt (g := gb360) (o := .cells #[.int .i64 a1_0, .string a1_1] 31 (0, 0)) (by (with_reducible repeat (first | refine blk_drewN ?_ _ | refine blk_drew ?_ | refine blk_alloc ?_ _)); exact BK360.out)) : gb378 ≠ gb360)); clear BK359; clear BK360; clear HB; have BK359 := n0_; have BK360 := n1_; have HB := n2_; have BK378 := n3_; have GW378 := n4_; have GE378 := n5_; have NB359_378 := n6_; have NB378_359 := n7_; have NB360_378 := n8_; have NB378_360 := n9_; clear n0_ n1_ n2_ n3_ n4_ n5_ n6_ n7_ n8_ n9_; clear hb hbox hg; have hnb49 := NB378_359.out; have hnc49 := NB359_378.out; have hnb50 := NB378_360.out; have hnc50 := NB360_378.out; have hcz51_0 : w48.cell? ⟨gb378, 0, none⟩ = some (.int .i64 0) := (blk_cell BK378.out 0).trans rfl; have hcz51_1 : w48.cell? ⟨gb378, 1, none⟩ = some (.string (⟨#[]⟩ : ByteArray)) := (blk_cell BK378.out 1).trans rfl; have hfz51_0 := blk_frozen BK378.out 0; have hfz51_1 := blk_frozen BK378.out 1; have hnb52 := NB360_359.out; have hnc52 := NB359_360.out; have hcz53_0 : w48.cell? ⟨gb360, 0, none⟩ = some (.int .i64 a1_0) := (blk_cell BK360.out 0).trans rfl; have hcz53_1 : w48.cell? ⟨gb360, 1, none⟩ = some (.string a1_1) := (blk_cell BK360.out 1).trans rfl; have hfz53_0 := blk_frozen BK360.out 0; have hfz53_1 := blk_frozen BK360.out 1))
                      go_meet
                      case rel => exact ⟨_, H', ⟨by have := HJ13.out; first | omega | exact Nat.le_refl _⟩, ⟨by (with_reducible repeat (first | refine blk_drewN ?_ _ | refine blk_drew ?_ | refine blk_alloc ?_ _)); refine blk_far ?_ NB359_378.out _; (with_reducible repeat (first | refine blk_drewN ?_ _ | refine blk_drew ?_ | refine blk_alloc ?_ _)); refine blk_far ?_ NB359_378.out _; (with_reducible repeat (first | refine blk_drewN ?_ _ | refine blk_drew ?_ | refine blk_alloc ?_ _)); exact BK359.out⟩, ⟨by (with_reducible repeat (first | refine blk_drewN ?_ _ | refine blk_drew ?_ | refine blk_alloc ?_ _)); refine blk_far ?_ NB360_378.out _; (with_reducible repeat (first | refine blk_drewN ?_ _ | refine blk_drew ?_ | refine blk_alloc ?_ _)); refine blk_far ?_ NB360_378.out _; (with_reducible repeat (first | refine blk_drewN ?_ _ | refine blk_drew ?_ | refine blk_alloc ?_ _)); exact BK360.out⟩, ⟨by repeat (first | (with_reducible first | exact HB.out | apply below_alloc | apply pw_below_drewN | apply below_drew1 | refine below_set ?_ GE359.out | refine below_set ?_ GE360.out | refine below_set ?_ GE378.out) | exact HB.out)⟩⟩
                  · rw [if_neg c45] at H
                    have c45b0 : (t376 == (t372.size : Int)) = false := beq_eq_false_iff_ne.mpr c45
                    have c45b1 : (t376 != (t372.size : Int)) = true := bne_iff_ne.mpr c45
                    exact absurd (Option.some.inj H) (by rw [HR_.out]; simp)
                · rw [if_neg c44] at H
                  have c44b0 : (t377 == 0) = false := beq_eq_false_iff_ne.mpr c44
                  have c44b1 : (t377 != 0) = true := bne_iff_ne.mpr c44
                  exact absurd (Option.some.inj H) (by rw [HR_.out]; simp)
              · rw [if_neg c42] at H
                exact absurd H (by simp)
            · rw [if_neg c41] at H
              have c41b0 : (t373 == 0) = false := beq_eq_false_iff_ne.mpr c41
              have c41b1 : (t373 != 0) = true := bne_iff_ne.mpr c41
              (first | rw [c41b0] | (simp only [i64_w, i32_w]; rw [c41b0]) | skip)
              have H' := Aside0.mk H
              clear H
              go_wp2
              go_meet
              case rel => exact ⟨_, H', ⟨by have := HJ13.out; first | omega | exact Nat.le_refl _⟩, ⟨by (with_reducible repeat (first | refine blk_drewN ?_ _ | refine blk_drew ?_ | refine blk_alloc ?_ _)); exact BK359.out⟩, ⟨by (with_reducible repeat (first | refine blk_drewN ?_ _ | refine blk_drew ?_ | refine blk_alloc ?_ _)); exact BK360.out⟩, ⟨by repeat (first | (with_reducible first | exact HB.out | apply below_alloc | apply pw_below_drewN | apply below_drew1 | refine below_set ?_ GE359.out | refine below_set ?_ GE360.out) | exact HB.out)⟩⟩
          case rest =>
            clear HC37
            try clear c1
            try clear c2
            try clear p2
            try clear c3
            try clear c4
            try clear c5
            try clear c6
            try clear c6b0
            try clear p6
            try clear c9
            try clear c10
            try clear c12
            try clear c14
            try clear c16
            try clear c18
            try clear c22
            try clear c22b0
            try clear c22b1
            try clear c23
            try clear c23b0
            try clear c23b1
            try clear c23b2
            try clear c25
            try clear c25b0
            try clear c25b1
            try clear c26
            try clear c26b0
            try clear c26b1
            try clear c27
            try clear c27b0
            try clear c30
            try clear c31
            try clear c33
            try clear c35
            try clear c35b0
            try clear c35b1
            try clear c35b2
            try clear c38
            try clear c41
            try clear c41b0
            try clear c41b1
            try clear c42
            try clear c42b0
            try clear c42b1
            try clear c42b2
            try clear c44
            try clear c44b0
            try clear c44b1
            try clear c45
            try clear c45b0
            try clear c45b1
            try clear c46
            try clear c46b0
            try clear c49
            try clear c50
            try clear c52
            try clear hcz11_0
            try clear hcz11_1
            try clear hcz11_2
            try clear hcz11_3
            try clear hcz11_4
            try clear hcz12_0
            try clear hcz12_1
            try clear hcz19_0
            try clear hcz19_1
            try clear hcz19_2
            try clear hcz19_3
            try clear hcz19_4
            try clear hcz20_0
            try clear hcz20_1
            try clear hcz32_0
            try clear hcz32_1
            try clear hcz32_2
            try clear hcz32_3
            try clear hcz32_4
            try clear hcz34_0
            try clear hcz34_1
            try clear hcz34_2
            try clear hcz34_3
            try clear hcz34_4
            try clear hcz39_0
            try clear hcz39_1
            try clear hcz51_0
            try clear hcz51_1
            try clear hcz53_0
            try clear hcz53_1
            try clear hfz11_0
            try clear hfz11_1
            try clear hfz11_2
            try clear hfz11_3
            try clear hfz11_4
            try clear hfz12_0
            try clear hfz12_1
            try clear hfz19_0
            try clear hfz19_1
            try clear hfz19_2
            try clear hfz19_3
            try clear hfz19_4
            try clear hfz20_0
            try clear hfz20_1
            try clear hfz32_0
            try clear hfz32_1
            try clear hfz32_2
            try clear hfz32_3
            try clear hfz32_4
            try clear hfz34_0
            try clear hfz34_1
            try clear hfz34_2
            try clear hfz34_3
            try clear hfz34_4
            try clear hfz39_0
            try clear hfz39_1
            try clear hfz51_0
            try clear hfz51_1
            try clear hfz53_0
            try clear hfz53_1
            try clear p2
            try clear p6
            obtain ⟨kq, HA, HJ36, BK359, BK360, HB⟩ := hcut
            cases kq with
            | zero => exact absurd HA.out (by simp [pennantlaw22_HttpBack.j1])
            | succ kj36 =>
              have H := HA.out
              clear HA
              simp only [pennantlaw22_HttpBack.j1] at H
              replace H := Option.bind_eq_some_iff.mp H
              obtain ⟨⟨t379, t380, t381, t382, t383, t384, t385⟩, A540, H⟩ := H
              replace H : (if t385 = 0 then ((http_WriteRequest.f kj36 t379 t380 t381 t382 t383).bind fun bt387 => (if bt387.2 = 0 then ((http_ReadRequest.f kj36 bt387.1).bind fun bt389 => (if bt389.2.2.2.2.2.2 = 0 then (some (t379.toList == bt389.1.toList && (t380.toList == bt389.2.1.toList && (t381.toList == bt389.2.2.1.toList && (t382.toList == bt389.2.2.2.1.toList && (t383.toList == bt389.2.2.2.2.1.toList)))))) else (some false))) else (if bt387.2 = 1 then (some (decide ((a2.size : Int) > 3900))) else (some false)))) else (if (t379.toList == ([] : List UInt8) && (t380.toList == ([] : List UInt8) && (t381.toList == ([] : List UInt8) && (t382.toList == ([] : List UInt8) && (t383.toList == ([] : List UInt8)))))) = true then (some (t384 == 0)) else (some false))) = some r := H
              have A54 := Aside0.mk A540
              clear A540
              by_cases c55 : t385 = 0
              · rw [if_pos c55] at H
                have c55b0 : (t385 == 0) = true := beq_iff_eq.mpr c55
                have c55b1 : (t385 != 0) = false := bne_eq_false_iff_eq.mpr c55
                clear c55
                replace H := Option.bind_eq_some_iff.mp H
                obtain ⟨⟨t387, t388⟩, A560, H⟩ := H
                replace H : (if t388 = 0 then ((http_ReadRequest.f kj36 t387).bind fun bt389 => (if bt389.2.2.2.2.2.2 = 0 then (some (t379.toList == bt389.1.toList && (t380.toList == bt389.2.1.toList && (t381.toList == bt389.2.2.1.toList && (t382.toList == bt389.2.2.2.1.toList && (t383.toList == bt389.2.2.2.2.1.toList)))))) else (some false))) else (if t388 = 1 then (some (decide ((a2.size : Int) > 3900))) else (some false))) = some r := H
                have A56 := Aside0.mk A560
                clear A560
                by_cases c57 : t388 = 0
                · rw [if_pos c57] at H
                  have c57b0 : (t388 == 0) = true := beq_iff_eq.mpr c57
                  have c57b1 : (t388 != 0) = false := bne_eq_false_iff_eq.mpr c57
                  clear c57
                  replace H := Option.bind_eq_some_iff.mp H
                  obtain ⟨⟨t389, t390, t391, t392, t393, t394, t395⟩, A580, H⟩ := H
                  replace H : (if t395 = 0 then (some (t379.toList == t389.toList && (t380.toList == t390.toList && (t381.toList == t391.toList && (t382.toList == t392.toList && (t383.toList == t393.toList)))))) else (some false)) = some r := H
                  have A58 := Aside0.mk A580
                  clear A580
                  by_cases c59 : t395 = 0
                  · rw [if_pos c59] at H
                    have c59b0 : (t395 == 0) = true := beq_iff_eq.mpr c59
                    have c59b1 : (t395 != 0) = false := bne_eq_false_iff_eq.mpr c59
                    clear c59
                    obtain rfl := Option.some.inj H
                    go_wp2_with (first | ((with_reducible refine gate_callee (f := 10) rfl ?_); refine goesL_ (some 95) rfl rfl Tryz.func10 (by kernel_rfl) rfl #[.string a2] rfl (by (try simp only [List.map_toArray, List.map_cons, List.map_nil]); first | done | rfl | (simp only [List.length_drop, List.length_take]; rfl)) ?_; (with_reducible refine (http_ReadRequest.calls kj36 a2 t379 t380 t381 t382 t383 t384 t385 _ ?side1 A54.out).mono ?_); (case side1 => exact ⟨TabsOk.below hT.out (by repeat (first | (with_reducible first | exact HB.out | apply below_alloc | apply pw_below_drewN | apply below_drew1 | refine below_set ?_ GE359.out | refine below_set ?_ GE360.out) | exact HB.out))⟩); rintro e w60 ⟨rfl, hb⟩; refine ⟨_, rfl, ?_⟩; have n0_ := Aside0.mk (blk_below (g := gb359) (o := .cells #[.string a0_0, .string a0_1, .string a0_2, .string a0_3, .string a0_4] 24 (0, 0)) (by (with_reducible repeat (first | refine blk_drewN ?_ _ | refine blk_drew ?_ | refine blk_alloc ?_ _)); exact BK359.out) hb); have n1_ := Aside0.mk (blk_below (g := gb360) (o := .cells #[.int .i64 a1_0, .string a1_1] 31 (0, 0)) (by (with_reducible repeat (first | refine blk_drewN ?_ _ | refine blk_drew ?_ | refine blk_alloc ?_ _)); exact BK360.out) hb); have n2_ := Aside0.mk (below_step (by repeat (first | (with_reducible first | exact HB.out | apply below_alloc | apply pw_below_drewN | apply below_drew1 | refine below_set ?_ GE359.out | refine below_set ?_ GE360.out) | exact HB.out)) hb); clear BK359; clear BK360; clear HB; have BK359 := n0_; have BK360 := n1_; have HB := n2_; clear n0_ n1_ n2_; (try clear hb); (try clear hb2); (try clear hk); (try clear hi)) | ((with_reducible refine gate_dst (N := 16) rfl ?_); (try (refine gate_guard (by rfl) ?_; dsimp only)); refine box_event ?hg (N := 16) ?hd (cs := #[.string (⟨#[]⟩ : ByteArray), .string (⟨#[]⟩ : ByteArray), .string (⟨#[]⟩ : ByteArray), .string (⟨#[]⟩ : ByteArray), .string (⟨#[]⟩ : ByteArray)]) (t := 24) ?hr ?_; (case hd => rfl); (case hg => rfl); (case hr => first | (go_simp; done) | (go_simp; rfl)); intro gb386 hg w61 hbox hb; have n0_ := Aside0.mk (blk_below (g := gb359) (o := .cells #[.string a0_0, .string a0_1, .string a0_2, .string a0_3, .string a0_4] 24 (0, 0)) (by (with_reducible repeat (first | refine blk_drewN ?_ _ | refine blk_drew ?_ | refine blk_alloc ?_ _)); exact BK359.out) hb); have n1_ := Aside0.mk (blk_below (g := gb360) (o := .cells #[.int .i64 a1_0, .string a1_1] 31 (0, 0)) (by (with_reducible repeat (first | refine blk_drewN ?_ _ | refine blk_drew ?_ | refine blk_alloc ?_ _)); exact BK360.out) hb); have n2_ := Aside0.mk (below_step (by repeat (first | (with_reducible first | exact HB.out | apply below_alloc | apply pw_below_drewN | apply below_drew1 | refine below_set ?_ GE359.out | refine below_set ?_ GE360.out) | exact HB.out)) hb); have n3_ := Aside0.mk (hbox); have n4_ := Aside0.mk ((by rw [hg]; exact (below_size (by repeat (first | (with_reducible first | exact HB.out | apply below_alloc | apply pw_below_drewN | apply below_drew1 | refine below_set ?_ GE359.out | refine below_set ?_ GE360.out) | exact HB.out))) : w.heap.size ≤ gb386)); have n5_ := Aside0.mk ((by rw [hg]; exact (below_size (by repeat (first | (with_reducible first | exact HB.out | apply below_alloc | apply pw_below_drewN | apply below_drew1 | refine below_set ?_ GE359.out | refine below_set ?_ GE360.out) | exact HB.out))) : w.heap.size ≤ gb386)); have n6_ := Aside0.mk ((by rw [hg]; exact Nat.ne_of_lt (blk_lt (g := gb359) (o := .cells #[.string a0_0, .string a0_1, .string a0_2, .string a0_3, .string a0_4] 24 (0, 0)) (by (with_reducible repeat (first | refine blk_drewN ?_ _ | refine blk_drew ?_ | refine blk_alloc ?_ _)); exact BK359.out)) : gb359 ≠ gb386)); have n7_ := Aside0.mk ((by rw [hg]; exact Nat.ne_of_gt (blk_lt (g := gb359) (o := .cells #[.string a0_0, .string a0_1, .string a0_2, .string a0_3, .string a0_4] 24 (0, 0)) (by (with_reducible repeat (first | refine blk_drewN ?_ _ | refine blk_drew ?_ | refine blk_alloc ?_ _)); exact BK359.out)) : gb386 ≠ gb359)); have n8_ := Aside0.mk ((by rw [hg]; exact Nat.ne_of_lt (blk_lt (g := gb360) (o := .cells #[.int .i64 a1_0, .string a1_1] 31 (0, 0)) (by (with_reducible repeat (first | refine blk_drewN ?_ _ | refine blk_drew ?_ | refine blk_alloc ?_ _)); exact BK360.out)) : gb360 ≠ gb386)); have n9_ := Aside0.mk ((by rw [hg]; exact Nat.ne_of_gt (blk_lt (g := gb360) (o := .cells #[.int .i64 a1_0, .string a1_1] 31 (0, 0)) (by (with_reducible repeat (first | refine blk_drewN ?_ _ | refine blk_drew ?_ | refine blk_alloc ?_ _)); exact BK360.out)) : gb386 ≠ gb360)); clear BK359; clear BK360; clear HB; have BK359 := n0_; have BK360 := n1_; have HB := n2_; have BK386 := n3_; have GW386 := n4_; have GE386 := n5_; have NB359_386 := n6_; have NB386_359 := n7_; have NB360_386 := n8_; have NB386_360 := n9_; clear n0_ n1_ n2_ n3_ n4_ n5_ n6_ n7_ n8_ n9_; clear hb hbox hg; have hnb62 := NB386_359.out; have hnc62 := NB359_386.out; have hnb63 := NB386_360.out; have hnc63 := NB360_386.out; have hcz64_0 : w61.cell? ⟨gb386, 0, none⟩ = some (.string (⟨#[]⟩ : ByteArray)) := (blk_cell BK386.out 0).trans rfl; have hcz64_1 : w61.cell? ⟨gb386, 1, none⟩ = some (.string (⟨#[]⟩ : ByteArray)) := (blk_cell BK386.out 1).trans rfl; have hcz64_2 : w61.cell? ⟨gb386, 2, none⟩ = some (.string (⟨#[]⟩ : ByteArray)) := (blk_cell BK386.out 2).trans rfl; have hcz64_3 : w61.cell? ⟨gb386, 3, none⟩ = some (.string (⟨#[]⟩ : ByteArray)) := (blk_cell BK386.out 3).trans rfl; have hcz64_4 : w61.cell? ⟨gb386, 4, none⟩ = some (.string (⟨#[]⟩ : ByteArray)) := (blk_cell BK386.out 4).trans rfl; have hfz64_0 := blk_frozen BK386.out 0; have hfz64_1 := blk_frozen BK386.out 1; have hfz64_2 := blk_frozen BK386.out 2; have hfz64_3 := blk_frozen BK386.out 3; have hfz64_4 := blk_frozen BK386.out 4) | ((with_reducible refine gate_callee (f := 14) rfl ?_); refine goesL_ (some 110) rfl rfl Tryz.func14 (by kernel_rfl) rfl #[.agg #[.string t379, .string t380, .string t381, .string t382, .string t383]] rfl (by (try simp only [List.map_toArray, List.map_cons, List.map_nil]); first | done | rfl | (simp only [List.length_drop, List.length_take]; rfl)) ?_; (with_reducible refine (http_WriteRequest.calls kj36 t379 t380 t381 t382 t383 t387 t388 _ ?side1 A56.out).mono ?_); (case side1 => exact ⟨TabsOk.below hT.out (by repeat (first | (with_reducible first | exact HB.out | apply below_alloc | apply pw_below_drewN | apply below_drew1 | refine below_set ?_ GE359.out | refine below_set ?_ GE360.out | refine below_set ?_ GE386.out) | exact HB.out))⟩); rintro e w65 ⟨rfl, hb⟩; refine ⟨_, rfl, ?_⟩; have n0_ := Aside0.mk (blk_below (g := gb359) (o := .cells #[.string a0_0, .string a0_1, .string a0_2, .string a0_3, .string a0_4] 24 (0, 0)) (by (with_reducible repeat (first | refine blk_drewN ?_ _ | refine blk_drew ?_ | refine blk_alloc ?_ _)); refine blk_far ?_ NB359_386.out _; (with_reducible repeat (first | refine blk_drewN ?_ _ | refine blk_drew ?_ | refine blk_alloc ?_ _)); refine blk_far ?_ NB359_386.out _; (with_reducible repeat (first | refine blk_drewN ?_ _ | refine blk_drew ?_ | refine blk_alloc ?_ _)); refine blk_far ?_ NB359_386.out _; (with_reducible repeat (first | refine blk_drewN ?_ _ | refine blk_drew ?_ | refine blk_alloc ?_ _)); refine blk_far ?_ NB359_386.out _; (with_reducible repeat (first | refine blk_drewN ?_ _ | refine blk_drew ?_ | refine blk_alloc ?_ _)); refine blk_far ?_ NB359_386.out _; (with_reducible repeat (first | refine blk_drewN ?_ _ | refine blk_drew ?_ | refine blk_alloc ?_ _)); exact BK359.out) hb); have n1_ := Aside0.mk (blk_below (g := gb360) (o := .cells #[.int .i64 a1_0, .string a1_1] 31 (0, 0)) (by (with_reducible repeat (first | refine blk_drewN ?_ _ | refine blk_drew ?_ | refine blk_alloc ?_ _)); refine blk_far ?_ NB360_386.out _; (with_reducible repeat (first | refine blk_drewN ?_ _ | refine blk_drew ?_ | refine blk_alloc ?_ _)); refine blk_far ?_ NB360_386.out _; (with_reducible repeat (first | refine blk_drewN ?_ _ | refine blk_drew ?_ | refine blk_alloc ?_ _)); refine blk_far ?_ NB360_386.out _; (with_reducible repeat (first | refine blk_drewN ?_ _ | refine blk_drew ?_ | refine blk_alloc ?_ _)); refine blk_far ?_ NB360_386.out _; (with_reducible repeat (first | refine blk_drewN ?_ _ | refine blk_drew ?_ | refine blk_alloc ?_ _)); refine blk_far ?_ NB360_386.out _; (with_reducible repeat (first | refine blk_drewN ?_ _ | refine blk_drew ?_ | refine blk_alloc ?_ _)); exact BK360.out) hb); have n2_ := Aside0.mk (blk_below (g := gb386) (o := .cells #[.string t379, .string t380, .string t381, .string t382, .string t383] 24 (0, 0)) (by (with_reducible repeat (first | refine blk_drewN ?_ _ | refine blk_drew ?_ | refine blk_alloc ?_ _)); refine blk_put (cs := #[.string t379, .string t380, .string t381, .string t382, .string (⟨#[]⟩ : ByteArray)]) ?_ 4 _ rfl; (with_reducible repeat (first | refine blk_drewN ?_ _ | refine blk_drew ?_ | refine blk_alloc ?_ _)); refine blk_put (cs := #[.string t379, .string t380, .string t381, .string (⟨#[]⟩ : ByteArray), .string (⟨#[]⟩ : ByteArray)]) ?_ 3 _ rfl; (with_reducible repeat (first | refine blk_drewN ?_ _ | refine blk_drew ?_ | refine blk_alloc ?_ _)); refine blk_put (cs := #[.string t379, .string t380, .string (⟨#[]⟩ : ByteArray), .string (⟨#[]⟩ : ByteArray), .string (⟨#[]⟩ : ByteArray)]) ?_ 2 _ rfl; (with_reducible repeat (first | refine blk_drewN ?_ _ | refine blk_drew ?_ | refine blk_alloc ?_ _)); refine blk_put (cs := #[.string t379, .string (⟨#[]⟩ : ByteArray), .string (⟨#[]⟩ : ByteArray), .string (⟨#[]⟩ : ByteArray), .string (⟨#[]⟩ : ByteArray)]) ?_ 1 _ rfl; (with_reducible repeat (first | refine blk_drewN ?_ _ | refine blk_drew ?_ | refine blk_alloc ?_ _)); refine blk_put (cs := #[.string (⟨#[]⟩ : ByteArray), .string (⟨#[]⟩ : ByteArray), .string (⟨#[]⟩ : ByteArray), .string (⟨#[]⟩ : ByteArray), .string (⟨#[]⟩ : ByteArray)]) ?_ 0 _ rfl; (with_reducible repeat (first | refine blk_drewN ?_ _ | refine blk_drew ?_ | refine blk_alloc ?_ _)); exact BK386.out) hb); have n3_ := Aside0.mk (below_step (by repeat (first | (with_reducible first | exact HB.out | apply below_alloc | apply pw_below_drewN | apply below_drew1 | refine below_set ?_ GE359.out | refine below_set ?_ GE360.out | refine below_set ?_ GE386.out) | exact HB.out)) hb); clear BK359; clear BK360; clear BK386; clear HB; have BK359 := n0_; have BK360 := n1_; have BK386 := n2_; have HB := n3_; clear n0_ n1_ n2_ n3_; (try clear hb); (try clear hb2); (try clear hk); (try clear hi)) | ((with_reducible refine gate_callee (f := 10) rfl ?_); refine goesL_ (some 124) rfl rfl Tryz.func10 (by kernel_rfl) rfl #[.string t387] rfl (by (try simp only [List.map_toArray, List.map_cons, List.map_nil]); first | done | rfl | (simp only [List.length_drop, List.length_take]; rfl)) ?_; (with_reducible refine (http_ReadRequest.calls kj36 t387 t389 t390 t391 t392 t393 t394 t395 _ ?side1 A58.out).mono ?_); (case side1 => exact ⟨TabsOk.below hT.out (by repeat (first | (with_reducible first | exact HB.out | apply below_alloc | apply pw_below_drewN | apply below_drew1 | refine below_set ?_ GE359.out | refine below_set ?_ GE360.out | refine below_set ?_ GE386.out) | exact HB.out))⟩); rintro e w66 ⟨rfl, hb⟩; refine ⟨_, rfl, ?_⟩; have n0_ := Aside0.mk (blk_below (g := gb359) (o := .cells #[.string a0_0, .string a0_1, .string a0_2, .string a0_3, .string a0_4] 24 (0, 0)) (by (with_reducible repeat (first | refine blk_drewN ?_ _ | refine blk_drew ?_ | refine blk_alloc ?_ _)); exact BK359.out) hb); have n1_ := Aside0.mk (blk_below (g := gb360) (o := .cells #[.int .i64 a1_0, .string a1_1] 31 (0, 0)) (by (with_reducible repeat (first | refine blk_drewN ?_ _ | refine blk_drew ?_ | refine blk_alloc ?_ _)); exact BK360.out) hb); have n2_ := Aside0.mk (blk_below (g := gb386) (o := .cells #[.string t379, .string t380, .string t381, .string t382, .string t383] 24 (0, 0)) (by (with_reducible repeat (first | refine blk_drewN ?_ _ | refine blk_drew ?_ | refine blk_alloc ?_ _)); exact BK386.out) hb); have n3_ := Aside0.mk (below_step (by repeat (first | (with_reducible first | exact HB.out | apply below_alloc | apply pw_below_drewN | apply below_drew1 | refine below_set ?_ GE359.out | refine below_set ?_ GE360.out | refine below_set ?_ GE386.out) | exact HB.out)) hb); clear BK359; clear BK360; clear BK386; clear HB; have BK359 := n0_; have BK360 := n1_; have BK386 := n2_; have HB := n3_; clear n0_ n1_ n2_ n3_; (try clear hb); (try clear hb2); (try clear hk); (try clear hi)) | ((with_reducible refine gate_dst (N := 19) rfl ?_); (try (refine gate_guard (by rfl) ?_; dsimp only)); refine box_event ?hg (N := 19) ?hd (cs := #[.string (⟨#[]⟩ : ByteArray), .string (⟨#[]⟩ : ByteArray), .string (⟨#[]⟩ : ByteArray), .string (⟨#[]⟩ : ByteArray), .string (⟨#[]⟩ : ByteArray)]) (t := 24) ?hr ?_; (case hd => rfl); (case hg => rfl); (case hr => first | (go_simp; done) | (go_simp; rfl)); intro gb396 hg w67 hbox hb; have n0_ := Aside0.mk (blk_below (g := gb359) (o := .cells #[.string a0_0, .string a0_1, .string a0_2, .string a0_3, .string a0_4] 24 (0, 0)) (by (with_reducible repeat (first | refine blk_drewN ?_ _ | refine blk_drew ?_ | refine blk_alloc ?_ _)); exact BK359.out) hb); have n1_ := Aside0.mk (blk_below (g := gb360) (o := .cells #[.int .i64 a1_0, .string a1_1] 31 (0, 0)) (by (with_reducible repeat (first | refine blk_drewN ?_ _ | refine blk_drew ?_ | refine blk_alloc ?_ _)); exact BK360.out) hb); have n2_ := Aside0.mk (blk_below (g := gb386) (o := .cells #[.string t379, .string t380, .string t381, .string t382, .string t383] 24 (0, 0)) (by (with_reducible repeat (first | refine blk_drewN ?_ _ | refine blk_drew ?_ | refine blk_alloc ?_ _)); exact BK386.out) hb); have n3_ := Aside0.mk (below_step (by repeat (first | (with_reducible first | exact HB.out | apply below_alloc | apply pw_below_drewN | apply below_drew1 | refine below_set ?_ GE359.out | refine below_set ?_ GE360.out | refine below_set ?_ GE386.out) | exact HB.out)) hb); have n4_ := Aside0.mk (hbox); have n5_ := Aside0.mk ((by rw [hg]; exact (below_size (by repeat (first | (with_reducible first | exact HB.out | apply below_alloc | apply pw_below_drewN | apply below_drew1 | refine below_set ?_ GE359.out | refine below_set ?_ GE360.out | refine below_set ?_ GE386.out) | exact HB.out))) : w.heap.size ≤ gb396)); have n6_ := Aside0.mk ((by rw [hg]; exact (below_size (by repeat (first | (with_reducible first | exact HB.out | apply below_alloc | apply pw_below_drewN | apply below_drew1 | refine below_set ?_ GE359.out | refine below_set ?_ GE360.out | refine below_set ?_ GE386.out) | exact HB.out))) : w.heap.size ≤ gb396)); have n7_ := Aside0.mk ((by rw [hg]; exact Nat.ne_of_lt (blk_lt (g := gb359) (o := .cells #[.string a0_0, .string a0_1, .string a0_2, .string a0_3, .string a0_4] 24 (0, 0)) (by (with_reducible repeat (first | refine blk_drewN ?_ _ | refine blk_drew ?_ | refine blk_alloc ?_ _)); exact BK359.out)) : gb359 ≠ gb396)); have n8_ := Aside0.mk ((by rw [hg]; exact Nat.ne_of_gt (blk_lt (g := gb359) (o := .cells #[.string a0_0, .string a0_1, .string a0_2, .string a0_3, .string a0_4] 24 (0, 0)) (by (with_reducible repeat (first | refine blk_drewN ?_ _ | refine blk_drew ?_ | refine blk_alloc ?_ _)); exact BK359.out)) : gb396 ≠ gb359)); have n9_ := Aside0.mk ((by rw [hg]; exact Nat.ne_of_lt (blk_lt (g := gb360) (o := .cells #[.int .i64 a1_0, .string a1_1] 31 (0, 0)) (by (with_reducible repeat (first | refine blk_drewN ?_ _ | refine blk_drew ?_ | refine blk_alloc ?_ _)); exact BK360.out)) : gb360 ≠ gb396)); have n10_ := Aside0.mk ((by rw [hg]; exact Nat.ne_of_gt (blk_lt (g := gb360) (o := .cells #[.int .i64 a1_0, .string a1_1] 31 (0, 0)) (by (with_reducible repeat (first | refine blk_drewN ?_ _ | refine blk_drew ?_ | refine blk_alloc ?_ _)); exact BK360.out)) : gb396 ≠ gb360)); have n11_ := Aside0.mk ((by rw [hg]; exact Nat.ne_of_lt (blk_lt (g := gb386) (o := .cells #[.string t379, .string t380, .string t381, .string t382, .string t383] 24 (0, 0)) (by (with_reducible repeat (first | refine blk_drewN ?_ _ | refine blk_drew ?_ | refine blk_alloc ?_ _)); exact BK386.out)) : gb386 ≠ gb396)); have n12_ := Aside0.mk ((by rw [hg]; exact Nat.ne_of_gt (blk_lt (g := gb386) (o := .cells #[.string t379, .string t380, .string t381, .string t382, .string t383] 24 (0, 0)) (by (with_reducible repeat (first | refine blk_drewN ?_ _ | refine blk_drew ?_ | refine blk_alloc ?_ _)); exact BK386.out)) : gb396 ≠ gb386)); clear BK359; clear BK360; clear BK386; clear HB; have BK359 := n0_; have BK360 := n1_; have BK386 := n2_; have HB := n3_; have BK396 := n4_; have GW396 := n5_; have GE396 := n6_; have NB359_396 := n7_; have NB396_359 := n8_; have NB360_396 := n9_; have NB396_360 := n10_; have NB386_396 := n11_; have NB396_386 := n12_; clear n0_ n1_ n2_ n3_ n4_ n5_ n6_ n7_ n8_ n9_ n10_ n11_ n12_; clear hb hbox hg; have hnb68 := NB396_359.out; have hnc68 := NB359_396.out; have hnb69 := NB396_360.out; have hnc69 := NB360_396.out; have hnb70 := NB396_386.out; have hnc70 := NB386_396.out; have hcz71_0 : w67.cell? ⟨gb396, 0, none⟩ = some (.string (⟨#[]⟩ : ByteArray)) := (blk_cell BK396.out 0).trans rfl; have hcz71_1 : w67.cell? ⟨gb396, 1, none⟩ = some (.string (⟨#[]⟩ : ByteArray)) := (blk_cell BK396.out 1).trans rfl; have hcz71_2 : w67.cell? ⟨gb396, 2, none⟩ = some (.string (⟨#[]⟩ : ByteArray)) := (blk_cell BK396.out 2).trans rfl; have hcz71_3 : w67.cell? ⟨gb396, 3, none⟩ = some (.string (⟨#[]⟩ : ByteArray)) := (blk_cell BK396.out 3).trans rfl; have hcz71_4 : w67.cell? ⟨gb396, 4, none⟩ = some (.string (⟨#[]⟩ : ByteArray)) := (blk_cell BK396.out 4).trans rfl; have hfz71_0 := blk_frozen BK396.out 0; have hfz71_1 := blk_frozen BK396.out 1; have hfz71_2 := blk_frozen BK396.out 2; have hfz71_3 := blk_frozen BK396.out 3; have hfz71_4 := blk_frozen BK396.out 4; have hcz72_0 : w67.cell? ⟨gb386, 0, none⟩ = some (.string t379) := (blk_cell BK386.out 0).trans rfl; have hcz72_1 : w67.cell? ⟨gb386, 1, none⟩ = some (.string t380) := (blk_cell BK386.out 1).trans rfl; have hcz72_2 : w67.cell? ⟨gb386, 2, none⟩ = some (.string t381) := (blk_cell BK386.out 2).trans rfl; have hcz72_3 : w67.cell? ⟨gb386, 3, none⟩ = some (.string t382) := (blk_cell BK386.out 3).trans rfl; have hcz72_4 : w67.cell? ⟨gb386, 4, none⟩ = some (.string t383) := (blk_cell BK386.out 4).trans rfl; have hfz72_0 := blk_frozen BK386.out 0; have hfz72_1 := blk_frozen BK386.out 1; have hfz72_2 := blk_frozen BK386.out 2; have hfz72_3 := blk_frozen BK386.out 3; have hfz72_4 := blk_frozen BK386.out 4))
                    go_ret
                    exact ⟨by first | rfl | (simp [errW_none, errW_some] <;> rfl) | (simp [*, errW_none, errW_some] <;> rfl), by repeat (first | (with_reducible first | exact HB.out | apply below_alloc | apply pw_below_drewN | apply below_drew1 | refine below_set ?_ GE359.out | refine below_set ?_ GE360.out | refine below_set ?_ GE386.out | refine below_set ?_ GE396.out) | exact HB.out)⟩
                  · rw [if_neg c59] at H
                    have c59b0 : (t395 == 0) = false := beq_eq_false_iff_ne.mpr c59
                    have c59b1 : (t395 != 0) = true := bne_iff_ne.mpr c59
                    exact absurd (Option.some.inj H) (by rw [HR_.out]; simp)
                · rw [if_neg c57] at H
                  have c57b0 : (t388 == 0) = false := beq_eq_false_iff_ne.mpr c57
                  have c57b1 : (t388 != 0) = true := bne_iff_ne.mpr c57
                  by_cases c73 : t388 = 1
                  · rw [if_pos c73] at H
                    have c73b0 : (t388 == 1) = true := beq_iff_eq.mpr c73
                    have c73b1 : (t388 != 1) = false := bne_eq_false_iff_eq.mpr c73
                    clear c73
                    obtain rfl := Option.some.inj H
                    go_wp2_with (first | ((with_reducible refine gate_callee (f := 10) rfl ?_); refine goesL_ (some 95) rfl rfl Tryz.func10 (by kernel_rfl) rfl #[.string a2] rfl (by (try simp only [List.map_toArray, List.map_cons, List.map_nil]); first | done | rfl | (simp only [List.length_drop, List.length_take]; rfl)) ?_; (with_reducible refine (http_ReadRequest.calls kj36 a2 t379 t380 t381 t382 t383 t384 t385 _ ?side1 A54.out).mono ?_); (case side1 => exact ⟨TabsOk.below hT.out (by repeat (first | (with_reducible first | exact HB.out | apply below_alloc | apply pw_below_drewN | apply below_drew1 | refine below_set ?_ GE359.out | refine below_set ?_ GE360.out) | exact HB.out))⟩); rintro e w74 ⟨rfl, hb⟩; refine ⟨_, rfl, ?_⟩; have n0_ := Aside0.mk (blk_below (g := gb359) (o := .cells #[.string a0_0, .string a0_1, .string a0_2, .string a0_3, .string a0_4] 24 (0, 0)) (by (with_reducible repeat (first | refine blk_drewN ?_ _ | refine blk_drew ?_ | refine blk_alloc ?_ _)); exact BK359.out) hb); have n1_ := Aside0.mk (blk_below (g := gb360) (o := .cells #[.int .i64 a1_0, .string a1_1] 31 (0, 0)) (by (with_reducible repeat (first | refine blk_drewN ?_ _ | refine blk_drew ?_ | refine blk_alloc ?_ _)); exact BK360.out) hb); have n2_ := Aside0.mk (below_step (by repeat (first | (with_reducible first | exact HB.out | apply below_alloc | apply pw_below_drewN | apply below_drew1 | refine below_set ?_ GE359.out | refine below_set ?_ GE360.out) | exact HB.out)) hb); clear BK359; clear BK360; clear HB; have BK359 := n0_; have BK360 := n1_; have HB := n2_; clear n0_ n1_ n2_; (try clear hb); (try clear hb2); (try clear hk); (try clear hi)) | ((with_reducible refine gate_dst (N := 16) rfl ?_); (try (refine gate_guard (by rfl) ?_; dsimp only)); refine box_event ?hg (N := 16) ?hd (cs := #[.string (⟨#[]⟩ : ByteArray), .string (⟨#[]⟩ : ByteArray), .string (⟨#[]⟩ : ByteArray), .string (⟨#[]⟩ : ByteArray), .string (⟨#[]⟩ : ByteArray)]) (t := 24) ?hr ?_; (case hd => rfl); (case hg => rfl); (case hr => first | (go_simp; done) | (go_simp; rfl)); intro gb386 hg w75 hbox hb; have n0_ := Aside0.mk (blk_below (g := gb359) (o := .cells #[.string a0_0, .string a0_1, .string a0_2, .string a0_3, .string a0_4] 24 (0, 0)) (by (with_reducible repeat (first | refine blk_drewN ?_ _ | refine blk_drew ?_ | refine blk_alloc ?_ _)); exact BK359.out) hb); have n1_ := Aside0.mk (blk_below (g := gb360) (o := .cells #[.int .i64 a1_0, .string a1_1] 31 (0, 0)) (by (with_reducible repeat (first | refine blk_drewN ?_ _ | refine blk_drew ?_ | refine blk_alloc ?_ _)); exact BK360.out) hb); have n2_ := Aside0.mk (below_step (by repeat (first | (with_reducible first | exact HB.out | apply below_alloc | apply pw_below_drewN | apply below_drew1 | refine below_set ?_ GE359.out | refine below_set ?_ GE360.out) | exact HB.out)) hb); have n3_ := Aside0.mk (hbox); have n4_ := Aside0.mk ((by rw [hg]; exact (below_size (by repeat (first | (with_reducible first | exact HB.out | apply below_alloc | apply pw_below_drewN | apply below_drew1 | refine below_set ?_ GE359.out | refine below_set ?_ GE360.out) | exact HB.out))) : w.heap.size ≤ gb386)); have n5_ := Aside0.mk ((by rw [hg]; exact (below_size (by repeat (first | (with_reducible first | exact HB.out | apply below_alloc | apply pw_below_drewN | apply below_drew1 | refine below_set ?_ GE359.out | refine below_set ?_ GE360.out) | exact HB.out))) : w.heap.size ≤ gb386)); have n6_ := Aside0.mk ((by rw [hg]; exact Nat.ne_of_lt (blk_lt (g := gb359) (o := .cells #[.string a0_0, .string a0_1, .string a0_2, .string a0_3, .string a0_4] 24 (0, 0)) (by (with_reducible repeat (first | refine blk_drewN ?_ _ | refine blk_drew ?_ | refine blk_alloc ?_ _)); exact BK359.out)) : gb359 ≠ gb386)); have n7_ := Aside0.mk ((by rw [hg]; exact Nat.ne_of_gt (blk_lt (g := gb359) (o := .cells #[.string a0_0, .string a0_1, .string a0_2, .string a0_3, .string a0_4] 24 (0, 0)) (by (with_reducible repeat (first | refine blk_drewN ?_ _ | refine blk_drew ?_ | refine blk_alloc ?_ _)); exact BK359.out)) : gb386 ≠ gb359)); have n8_ := Aside0.mk ((by rw [hg]; exact Nat.ne_of_lt (blk_lt (g := gb360) (o := .cells #[.int .i64 a1_0, .string a1_1] 31 (0, 0)) (by (with_reducible repeat (first | refine blk_drewN ?_ _ | refine blk_drew ?_ | refine blk_alloc ?_ _)); exact BK360.out)) : gb360 ≠ gb386)); have n9_ := Aside0.mk ((by rw [hg]; exact Nat.ne_of_gt (blk_lt (g := gb360) (o := .cells #[.int .i64 a1_0, .string a1_1] 31 (0, 0)) (by (with_reducible repeat (first | refine blk_drewN ?_ _ | refine blk_drew ?_ | refine blk_alloc ?_ _)); exact BK360.out)) : gb386 ≠ gb360)); clear BK359; clear BK360; clear HB; have BK359 := n0_; have BK360 := n1_; have HB := n2_; have BK386 := n3_; have GW386 := n4_; have GE386 := n5_; have NB359_386 := n6_; have NB386_359 := n7_; have NB360_386 := n8_; have NB386_360 := n9_; clear n0_ n1_ n2_ n3_ n4_ n5_ n6_ n7_ n8_ n9_; clear hb hbox hg; have hnb76 := NB386_359.out; have hnc76 := NB359_386.out; have hnb77 := NB386_360.out; have hnc77 := NB360_386.out; have hcz78_0 : w75.cell? ⟨gb386, 0, none⟩ = some (.string (⟨#[]⟩ : ByteArray)) := (blk_cell BK386.out 0).trans rfl; have hcz78_1 : w75.cell? ⟨gb386, 1, none⟩ = some (.string (⟨#[]⟩ : ByteArray)) := (blk_cell BK386.out 1).trans rfl; have hcz78_2 : w75.cell? ⟨gb386, 2, none⟩ = some (.string (⟨#[]⟩ : ByteArray)) := (blk_cell BK386.out 2).trans rfl; have hcz78_3 : w75.cell? ⟨gb386, 3, none⟩ = some (.string (⟨#[]⟩ : ByteArray)) := (blk_cell BK386.out 3).trans rfl; have hcz78_4 : w75.cell? ⟨gb386, 4, none⟩ = some (.string (⟨#[]⟩ : ByteArray)) := (blk_cell BK386.out 4).trans rfl; have hfz78_0 := blk_frozen BK386.out 0; have hfz78_1 := blk_frozen BK386.out 1; have hfz78_2 := blk_frozen BK386.out 2; have hfz78_3 := blk_frozen BK386.out 3; have hfz78_4 := blk_frozen BK386.out 4) | ((with_reducible refine gate_callee (f := 14) rfl ?_); refine goesL_ (some 110) rfl rfl Tryz.func14 (by kernel_rfl) rfl #[.agg #[.string t379, .string t380, .string t381, .string t382, .string t383]] rfl (by (try simp only [List.map_toArray, List.map_cons, List.map_nil]); first | done | rfl | (simp only [List.length_drop, List.length_take]; rfl)) ?_; (with_reducible refine (http_WriteRequest.calls kj36 t379 t380 t381 t382 t383 t387 t388 _ ?side1 A56.out).mono ?_); (case side1 => exact ⟨TabsOk.below hT.out (by repeat (first | (with_reducible first | exact HB.out | apply below_alloc | apply pw_below_drewN | apply below_drew1 | refine below_set ?_ GE359.out | refine below_set ?_ GE360.out | refine below_set ?_ GE386.out) | exact HB.out))⟩); rintro e w79 ⟨rfl, hb⟩; refine ⟨_, rfl, ?_⟩; have n0_ := Aside0.mk (blk_below (g := gb359) (o := .cells #[.string a0_0, .string a0_1, .string a0_2, .string a0_3, .string a0_4] 24 (0, 0)) (by (with_reducible repeat (first | refine blk_drewN ?_ _ | refine blk_drew ?_ | refine blk_alloc ?_ _)); refine blk_far ?_ NB359_386.out _; (with_reducible repeat (first | refine blk_drewN ?_ _ | refine blk_drew ?_ | refine blk_alloc ?_ _)); refine blk_far ?_ NB359_386.out _; (with_reducible repeat (first | refine blk_drewN ?_ _ | refine blk_drew ?_ | refine blk_alloc ?_ _)); refine blk_far ?_ NB359_386.out _; (with_reducible repeat (first | refine blk_drewN ?_ _ | refine blk_drew ?_ | refine blk_alloc ?_ _)); refine blk_far ?_ NB359_386.out _; (with_reducible repeat (first | refine blk_drewN ?_ _ | refine blk_drew ?_ | refine blk_alloc ?_ _)); refine blk_far ?_ NB359_386.out _; (with_reducible repeat (first | refine blk_drewN ?_ _ | refine blk_drew ?_ | refine blk_alloc ?_ _)); exact BK359.out) hb); have n1_ := Aside0.mk (blk_below (g := gb360) (o := .cells #[.int .i64 a1_0, .string a1_1] 31 (0, 0)) (by (with_reducible repeat (first | refine blk_drewN ?_ _ | refine blk_drew ?_ | refine blk_alloc ?_ _)); refine blk_far ?_ NB360_386.out _; (with_reducible repeat (first | refine blk_drewN ?_ _ | refine blk_drew ?_ | refine blk_alloc ?_ _)); refine blk_far ?_ NB360_386.out _; (with_reducible repeat (first | refine blk_drewN ?_ _ | refine blk_drew ?_ | refine blk_alloc ?_ _)); refine blk_far ?_ NB360_386.out _; (with_reducible repeat (first | refine blk_drewN ?_ _ | refine blk_drew ?_ | refine blk_alloc ?_ _)); refine blk_far ?_ NB360_386.out _; (with_reducible repeat (first | refine blk_drewN ?_ _ | refine blk_drew ?_ | refine blk_alloc ?_ _)); refine blk_far ?_ NB360_386.out _; (with_reducible repeat (first | refine blk_drewN ?_ _ | refine blk_drew ?_ | refine blk_alloc ?_ _)); exact BK360.out) hb); have n2_ := Aside0.mk (blk_below (g := gb386) (o := .cells #[.string t379, .string t380, .string t381, .string t382, .string t383] 24 (0, 0)) (by (with_reducible repeat (first | refine blk_drewN ?_ _ | refine blk_drew ?_ | refine blk_alloc ?_ _)); refine blk_put (cs := #[.string t379, .string t380, .string t381, .string t382, .string (⟨#[]⟩ : ByteArray)]) ?_ 4 _ rfl; (with_reducible repeat (first | refine blk_drewN ?_ _ | refine blk_drew ?_ | refine blk_alloc ?_ _)); refine blk_put (cs := #[.string t379, .string t380, .string t381, .string (⟨#[]⟩ : ByteArray), .string (⟨#[]⟩ : ByteArray)]) ?_ 3 _ rfl; (with_reducible repeat (first | refine blk_drewN ?_ _ | refine blk_drew ?_ | refine blk_alloc ?_ _)); refine blk_put (cs := #[.string t379, .string t380, .string (⟨#[]⟩ : ByteArray), .string (⟨#[]⟩ : ByteArray), .string (⟨#[]⟩ : ByteArray)]) ?_ 2 _ rfl; (with_reducible repeat (first | refine blk_drewN ?_ _ | refine blk_drew ?_ | refine blk_alloc ?_ _)); refine blk_put (cs := #[.string t379, .string (⟨#[]⟩ : ByteArray), .string (⟨#[]⟩ : ByteArray), .string (⟨#[]⟩ : ByteArray), .string (⟨#[]⟩ : ByteArray)]) ?_ 1 _ rfl; (with_reducible repeat (first | refine blk_drewN ?_ _ | refine blk_drew ?_ | refine blk_alloc ?_ _)); refine blk_put (cs := #[.string (⟨#[]⟩ : ByteArray), .string (⟨#[]⟩ : ByteArray), .string (⟨#[]⟩ : ByteArray), .string (⟨#[]⟩ : ByteArray), .string (⟨#[]⟩ : ByteArray)]) ?_ 0 _ rfl; (with_reducible repeat (first | refine blk_drewN ?_ _ | refine blk_drew ?_ | refine blk_alloc ?_ _)); exact BK386.out) hb); have n3_ := Aside0.mk (below_step (by repeat (first | (with_reducible first | exact HB.out | apply below_alloc | apply pw_below_drewN | apply below_drew1 | refine below_set ?_ GE359.out | refine below_set ?_ GE360.out | refine below_set ?_ GE386.out) | exact HB.out)) hb); clear BK359; clear BK360; clear BK386; clear HB; have BK359 := n0_; have BK360 := n1_; have BK386 := n2_; have HB := n3_; clear n0_ n1_ n2_ n3_; (try clear hb); (try clear hb2); (try clear hk); (try clear hi)))
                    go_ret
                    exact ⟨by first | rfl | (simp [errW_none, errW_some] <;> rfl) | (simp [*, errW_none, errW_some] <;> rfl), by repeat (first | (with_reducible first | exact HB.out | apply below_alloc | apply pw_below_drewN | apply below_drew1 | refine below_set ?_ GE359.out | refine below_set ?_ GE360.out | refine below_set ?_ GE386.out) | exact HB.out)⟩
                  · rw [if_neg c73] at H
                    have c73b0 : (t388 == 1) = false := beq_eq_false_iff_ne.mpr c73
                    have c73b1 : (t388 != 1) = true := bne_iff_ne.mpr c73
                    exact absurd (Option.some.inj H) (by rw [HR_.out]; simp)
              · rw [if_neg c55] at H
                have c55b0 : (t385 == 0) = false := beq_eq_false_iff_ne.mpr c55
                have c55b1 : (t385 != 0) = true := bne_iff_ne.mpr c55
                by_cases c80 : (t379.toList == ([] : List UInt8) && (t380.toList == ([] : List UInt8) && (t381.toList == ([] : List UInt8) && (t382.toList == ([] : List UInt8) && (t383.toList == ([] : List UInt8)))))) = true
                · rw [if_pos c80] at H
                  have c80b0 : (t379.toList == ([] : List UInt8) && (t380.toList == ([] : List UInt8) && (t381.toList == ([] : List UInt8) && (t382.toList == ([] : List UInt8) && (t383.toList == ([] : List UInt8)))))) = true := c80
                  (try (have c80b1 : decide (t379.toList = ([] : List UInt8) && (t380.toList == ([] : List UInt8) && (t381.toList == ([] : List UInt8) && (t382.toList == ([] : List UInt8) && (t383.toList == ([] : List UInt8)))))) = true := by simpa using c80))
                  (try (have c80b2 : (t379.toList == ([] : List UInt8) && (t380.toList == ([] : List UInt8) && (t381.toList == ([] : List UInt8) && (t382.toList == ([] : List UInt8) && (t383.toList == ([] : List UInt8)))))) = true := by simpa using c80))
                  clear c80
                  obtain rfl := Option.some.inj H
                  go_wp2_with (first | ((with_reducible refine gate_callee (f := 10) rfl ?_); refine goesL_ (some 95) rfl rfl Tryz.func10 (by kernel_rfl) rfl #[.string a2] rfl (by (try simp only [List.map_toArray, List.map_cons, List.map_nil]); first | done | rfl | (simp only [List.length_drop, List.length_take]; rfl)) ?_; (with_reducible refine (http_ReadRequest.calls kj36 a2 t379 t380 t381 t382 t383 t384 t385 _ ?side1 A54.out).mono ?_); (case side1 => exact ⟨TabsOk.below hT.out (by repeat (first | (with_reducible first | exact HB.out | apply below_alloc | apply pw_below_drewN | apply below_drew1 | refine below_set ?_ GE359.out | refine below_set ?_ GE360.out) | exact HB.out))⟩); rintro e w81 ⟨rfl, hb⟩; refine ⟨_, rfl, ?_⟩; have n0_ := Aside0.mk (blk_below (g := gb359) (o := .cells #[.string a0_0, .string a0_1, .string a0_2, .string a0_3, .string a0_4] 24 (0, 0)) (by (with_reducible repeat (first | refine blk_drewN ?_ _ | refine blk_drew ?_ | refine blk_alloc ?_ _)); exact BK359.out) hb); have n1_ := Aside0.mk (blk_below (g := gb360) (o := .cells #[.int .i64 a1_0, .string a1_1] 31 (0, 0)) (by (with_reducible repeat (first | refine blk_drewN ?_ _ | refine blk_drew ?_ | refine blk_alloc ?_ _)); exact BK360.out) hb); have n2_ := Aside0.mk (below_step (by repeat (first | (with_reducible first | exact HB.out | apply below_alloc | apply pw_below_drewN | apply below_drew1 | refine below_set ?_ GE359.out | refine below_set ?_ GE360.out) | exact HB.out)) hb); clear BK359; clear BK360; clear HB; have BK359 := n0_; have BK360 := n1_; have HB := n2_; clear n0_ n1_ n2_; (try clear hb); (try clear hb2); (try clear hk); (try clear hi)) | ((with_reducible refine gate_dst (N := 16) rfl ?_); (try (refine gate_guard (by rfl) ?_; dsimp only)); refine box_event ?hg (N := 16) ?hd (cs := #[.string (⟨#[]⟩ : ByteArray), .string (⟨#[]⟩ : ByteArray), .string (⟨#[]⟩ : ByteArray), .string (⟨#[]⟩ : ByteArray), .string (⟨#[]⟩ : ByteArray)]) (t := 24) ?hr ?_; (case hd => rfl); (case hg => rfl); (case hr => first | (go_simp; done) | (go_simp; rfl)); intro gb386 hg w82 hbox hb; have n0_ := Aside0.mk (blk_below (g := gb359) (o := .cells #[.string a0_0, .string a0_1, .string a0_2, .string a0_3, .string a0_4] 24 (0, 0)) (by (with_reducible repeat (first | refine blk_drewN ?_ _ | refine blk_drew ?_ | refine blk_alloc ?_ _)); exact BK359.out) hb); have n1_ := Aside0.mk (blk_below (g := gb360) (o := .cells #[.int .i64 a1_0, .string a1_1] 31 (0, 0)) (by (with_reducible repeat (first | refine blk_drewN ?_ _ | refine blk_drew ?_ | refine blk_alloc ?_ _)); exact BK360.out) hb); have n2_ := Aside0.mk (below_step (by repeat (first | (with_reducible first | exact HB.out | apply below_alloc | apply pw_below_drewN | apply below_drew1 | refine below_set ?_ GE359.out | refine below_set ?_ GE360.out) | exact HB.out)) hb); have n3_ := Aside0.mk (hbox); have n4_ := Aside0.mk ((by rw [hg]; exact (below_size (by repeat (first | (with_reducible first | exact HB.out | apply below_alloc | apply pw_below_drewN | apply below_drew1 | refine below_set ?_ GE359.out | refine below_set ?_ GE360.out) | exact HB.out))) : w.heap.size ≤ gb386)); have n5_ := Aside0.mk ((by rw [hg]; exact (below_size (by repeat (first | (with_reducible first | exact HB.out | apply below_alloc | apply pw_below_drewN | apply below_drew1 | refine below_set ?_ GE359.out | refine below_set ?_ GE360.out) | exact HB.out))) : w.heap.size ≤ gb386)); have n6_ := Aside0.mk ((by rw [hg]; exact Nat.ne_of_lt (blk_lt (g := gb359) (o := .cells #[.string a0_0, .string a0_1, .string a0_2, .string a0_3, .string a0_4] 24 (0, 0)) (by (with_reducible repeat (first | refine blk_drewN ?_ _ | refine blk_drew ?_ | refine blk_alloc ?_ _)); exact BK359.out)) : gb359 ≠ gb386)); have n7_ := Aside0.mk ((by rw [hg]; exact Nat.ne_of_gt (blk_lt (g := gb359) (o := .cells #[.string a0_0, .string a0_1, .string a0_2, .string a0_3, .string a0_4] 24 (0, 0)) (by (with_reducible repeat (first | refine blk_drewN ?_ _ | refine blk_drew ?_ | refine blk_alloc ?_ _)); exact BK359.out)) : gb386 ≠ gb359)); have n8_ := Aside0.mk ((by rw [hg]; exact Nat.ne_of_lt (blk_lt (g := gb360) (o := .cells #[.int .i64 a1_0, .string a1_1] 31 (0, 0)) (by (with_reducible repeat (first | refine blk_drewN ?_ _ | refine blk_drew ?_ | refine blk_alloc ?_ _)); exact BK360.out)) : gb360 ≠ gb386)); have n9_ := Aside0.mk ((by rw [hg]; exact Nat.ne_of_gt (blk_lt (g := gb360) (o := .cells #[.int .i64 a1_0, .string a1_1] 31 (0, 0)) (by (with_reducible repeat (first | refine blk_drewN ?_ _ | refine blk_drew ?_ | refine blk_alloc ?_ _)); exact BK360.out)) : gb386 ≠ gb360)); clear BK359; clear BK360; clear HB; have BK359 := n0_; have BK360 := n1_; have HB := n2_; have BK386 := n3_; have GW386 := n4_; have GE386 := n5_; have NB359_386 := n6_; have NB386_359 := n7_; have NB360_386 := n8_; have NB386_360 := n9_; clear n0_ n1_ n2_ n3_ n4_ n5_ n6_ n7_ n8_ n9_; clear hb hbox hg; have hnb83 := NB386_359.out; have hnc83 := NB359_386.out; have hnb84 := NB386_360.out; have hnc84 := NB360_386.out; have hcz85_0 : w82.cell? ⟨gb386, 0, none⟩ = some (.string (⟨#[]⟩ : ByteArray)) := (blk_cell BK386.out 0).trans rfl; have hcz85_1 : w82.cell? ⟨gb386, 1, none⟩ = some (.string (⟨#[]⟩ : ByteArray)) := (blk_cell BK386.out 1).trans rfl; have hcz85_2 : w82.cell? ⟨gb386, 2, none⟩ = some (.string (⟨#[]⟩ : ByteArray)) := (blk_cell BK386.out 2).trans rfl; have hcz85_3 : w82.cell? ⟨gb386, 3, none⟩ = some (.string (⟨#[]⟩ : ByteArray)) := (blk_cell BK386.out 3).trans rfl; have hcz85_4 : w82.cell? ⟨gb386, 4, none⟩ = some (.string (⟨#[]⟩ : ByteArray)) := (blk_cell BK386.out 4).trans rfl; have hfz85_0 := blk_frozen BK386.out 0; have hfz85_1 := blk_frozen BK386.out 1; have hfz85_2 := blk_frozen BK386.out 2; have hfz85_3 := blk_frozen BK386.out 3; have hfz85_4 := blk_frozen BK386.out 4))
                  go_ret
                  exact ⟨by first | rfl | (simp [errW_none, errW_some] <;> rfl) | (simp [*, errW_none, errW_some] <;> rfl), by repeat (first | (with_reducible first | exact HB.out | apply below_alloc | apply pw_below_drewN | apply below_drew1 | refine below_set ?_ GE359.out | refine below_set ?_ GE360.out | refine below_set ?_ GE386.out) | exact HB.out)⟩
                  all_goals (exfalso; rename_i h_; exact h_ (by simpa using c80b0))
                · rw [if_neg c80] at H
                  have c80b0 : (t379.toList == ([] : List UInt8) && (t380.toList == ([] : List UInt8) && (t381.toList == ([] : List UInt8) && (t382.toList == ([] : List UInt8) && (t383.toList == ([] : List UInt8)))))) = false := by simpa using c80
                  (try (have c80b1 : decide (t379.toList = ([] : List UInt8) && (t380.toList == ([] : List UInt8) && (t381.toList == ([] : List UInt8) && (t382.toList == ([] : List UInt8) && (t383.toList == ([] : List UInt8)))))) = false := by simpa using c80))
                  (try (have c80b2 : (t379.toList == ([] : List UInt8) && (t380.toList == ([] : List UInt8) && (t381.toList == ([] : List UInt8) && (t382.toList == ([] : List UInt8) && (t383.toList == ([] : List UInt8)))))) = false := by simpa using c80))
                  (try (have c80b3 : ¬ (t379.toList = ([] : List UInt8) && (t380.toList == ([] : List UInt8) && (t381.toList == ([] : List UInt8) && (t382.toList == ([] : List UInt8) && (t383.toList == ([] : List UInt8)))))) := by simpa using c80))
                  clear c80
                  exact absurd (Option.some.inj H) (by rw [HR_.out]; simp)
  · replace c5 := Bool.eq_false_iff.mpr c5
    subst c5
    have H1 : (some false) = some r := by rw [if_neg (show ¬ (false = true) by decide)] at H; exact H
    clear H
    have H := H1
    clear H1
    exact absurd (Option.some.inj H) (by rw [HR_.out]; simp)

end Go.Proofs.YtpikebpjlhccbaaGreatDoor.PAll
