-- Laid by a program of this session (wip/pp in the repo) out of the translation. Lean checks it.
import Derived.Test.YtpikebpjlhccbaaGreatDoorPAllx0
import Derived.Test.YtpikebpjlhccbaaGreatDoorPAllx1
import Derived.Test.YtpikebpjlhccbaaGreatDoorPAllx16
import Derived.Test.YtpikebpjlhccbaaGreatDoorGiveRead
namespace Go.Proofs.YtpikebpjlhccbaaGreatDoor.PAll
open Go.RowKit Go.Proofs.YtpikebpjlhccbaaGreatDoorW.PrintWords Go.Proofs.YtpikebpjlhccbaaGreatDoorW.PrintLast Go.Proofs.YtpikebpjlhccbaaGreatDoorW.PrintMore
attribute [local go_sem] max2_int min2_int max_two min_two max_three min_three max_four min_four   -- for this text's walks alone
set_option linter.unusedVariables false
set_option linter.unusedSimpArgs false

attribute [local go_sem high] eqA24
/-! ### pennantlaw22_HttpBegins: function 4 -/
def pennantlaw22_HttpBegins.j0 : Nat → ByteArray → Int → ByteArray → Int → Bool → ByteArray → ByteArray → ByteArray → ByteArray → ByteArray → Option (Bool)
  | 0, _, _, _, _, _, _, _, _, _, _ => none
  | k + 1, x0, x1, x2, x8, x41, x332000, x332001, x332002, x332003, x332004 => if x41 = true then (some false) else (if x8 = 0 then (none) else (if 0 ≤ (Int.tmod (wrap64 (x1)) x8) then (if (Int.tmod (wrap64 (x1)) x8) ≤ (x0.size : Int) then ((http_ReadRequest.f k (x0.extract 0 ((Int.tmod (wrap64 (x1)) x8) : Int).toNat)).bind fun bt332 => (if 0 ≤ x8 then (if x8 ≤ (x0.size : Int) then (if (x0.extract 0 (x8 : Int).toNat).size + x2.size ≤ 9223372036854775807 then ((http_ReadRequest.f k ((x0.extract 0 (x8 : Int).toNat) ++ x2)).bind fun bt340 => (if (bt332.1.toList == ([] : List UInt8) && (bt332.2.1.toList == ([] : List UInt8) && (bt332.2.2.1.toList == ([] : List UInt8) && (bt332.2.2.2.1.toList == ([] : List UInt8) && (bt332.2.2.2.2.1.toList == ([] : List UInt8)))))) = true then (if bt332.2.2.2.2.2.1 = 0 then (if bt332.2.2.2.2.2.2 = 3 then (if (bt340.1.toList == x332000.toList && (bt340.2.1.toList == x332001.toList && (bt340.2.2.1.toList == x332002.toList && (bt340.2.2.2.1.toList == x332003.toList && (bt340.2.2.2.2.1.toList == x332004.toList))))) = true then (if bt340.2.2.2.2.2.1 = x8 then (some (bt340.2.2.2.2.2.2 == 0)) else (some false)) else (some false)) else (some false)) else (some false)) else (some false))) else (none)) else (none)) else (none))) else (none)) else (none)))
def pennantlaw22_HttpBegins.f (k : Nat) (a0 : ByteArray) (a1 : Int) (a2 : ByteArray) : Option (Bool) := (pennantlaw22_awake.f k).bind fun t323 => (if t323 = true then (if (wrap64 ((a0.size : Int) + (a2.size : Int))) > 9000 then (some true) else ((http_ReadRequest.f k a0).bind fun bt324 => (if bt324.2.2.2.2.2.2 = 0 then (if bt324.2.2.2.2.2.1 < 1 then (pennantlaw22_HttpBegins.j0 k a0 a1 a2 bt324.2.2.2.2.2.1 true bt324.1 bt324.2.1 bt324.2.2.1 bt324.2.2.2.1 bt324.2.2.2.2.1) else (pennantlaw22_HttpBegins.j0 k a0 a1 a2 bt324.2.2.2.2.2.1 (decide (bt324.2.2.2.2.2.1 > (a0.size : Int))) bt324.1 bt324.2.1 bt324.2.2.1 bt324.2.2.2.1 bt324.2.2.2.2.1)) else (some (bt324.2.2.2.2.2.1 == 0))))) else (some false))
theorem pennantlaw22_HttpBegins.mono_l : ∀ k, (∀ y0 y1 y2 y3 y4 y5 y6 y7 y8 y9, LeO (pennantlaw22_HttpBegins.j0 k y0 y1 y2 y3 y4 y5 y6 y7 y8 y9) (pennantlaw22_HttpBegins.j0 (k + 1) y0 y1 y2 y3 y4 y5 y6 y7 y8 y9))
  | 0 => fun _ _ _ _ _ _ _ _ _ _ r h => by simp [pennantlaw22_HttpBegins.j0] at h
  | k + 1 => by
    have ih0 := pennantlaw22_HttpBegins.mono_l k
    · intro y0 y1 y2 y3 y4 y5 y6 y7 y8 y9
      unfold pennantlaw22_HttpBegins.j0
      repeat' first
      | (with_reducible exact ih0 _ _ _ _ _ _ _ _ _ _)
      | (with_reducible exact http_ReadRequest.mono _ _)
      | (with_reducible exact pennantlaw22_awake.mono _)
      | (with_reducible exact LeO.refl _)
      | (with_reducible exact LeO.none _)
      | (with_reducible refine LeO.ite ?_ ?_)
      | (with_reducible refine LeO.bind ?_ (fun _ => ?_))
      | exact ih0 _ _ _ _ _ _ _ _ _ _
      | exact http_ReadRequest.mono _ _
      | exact pennantlaw22_awake.mono _
      | exact LeO.none _
      | refine LeO.ite ?_ ?_
      | refine LeO.bind ?_ (fun _ => ?_)
theorem pennantlaw22_HttpBegins.mono : ∀ a0 a1 a2 k, LeO (pennantlaw22_HttpBegins.f k a0 a1 a2) (pennantlaw22_HttpBegins.f (k + 1) a0 a1 a2) := by
  intro a0 a1 a2 k
  have ih0 := pennantlaw22_HttpBegins.mono_l k
  unfold pennantlaw22_HttpBegins.f
  repeat' first
      | (with_reducible exact ih0 _ _ _ _ _ _ _ _ _ _)
      | (with_reducible exact http_ReadRequest.mono _ _)
      | (with_reducible exact pennantlaw22_awake.mono _)
      | (with_reducible exact LeO.refl _)
      | (with_reducible exact LeO.none _)
      | (with_reducible refine LeO.ite ?_ ?_)
      | (with_reducible refine LeO.bind ?_ (fun _ => ?_))
      | exact ih0 _ _ _ _ _ _ _ _ _ _
      | exact http_ReadRequest.mono _ _
      | exact pennantlaw22_awake.mono _
      | exact LeO.none _
      | refine LeO.ite ?_ ?_
      | refine LeO.bind ?_ (fun _ => ?_)
set_option maxHeartbeats 8000000 in
set_option maxRecDepth 100000 in
theorem pennantlaw22_HttpBegins.calls (k : Nat) (a0 : ByteArray) (a1 : Int) (a2 : ByteArray) (r : Bool) (w : World) (hT : Aside0 (TabsOk w)) (h : pennantlaw22_HttpBegins.f k a0 a1 a2 = some r) (hr_ : r = true := by rfl) :
    Calls Tryz.prog 4 #[.string a0, .int .u16 a1, .string a2] w fun e w' => e = .returned (.bool r) ∧ Below w.heap.size w w' := by
  have hu24 := Tryz.underlying24
  have HR_ := Aside0.mk hr_
  clear hr_
  have HB := Aside0.mk (Below.refl w.heap.size w)
  have H : ((pennantlaw22_awake.f k).bind fun t323 => (if t323 = true then (if (wrap64 ((a0.size : Int) + (a2.size : Int))) > 9000 then (some true) else ((http_ReadRequest.f k a0).bind fun bt324 => (if bt324.2.2.2.2.2.2 = 0 then (if bt324.2.2.2.2.2.1 < 1 then (pennantlaw22_HttpBegins.j0 k a0 a1 a2 bt324.2.2.2.2.2.1 true bt324.1 bt324.2.1 bt324.2.2.1 bt324.2.2.2.1 bt324.2.2.2.2.1) else (pennantlaw22_HttpBegins.j0 k a0 a1 a2 bt324.2.2.2.2.2.1 (decide (bt324.2.2.2.2.2.1 > (a0.size : Int))) bt324.1 bt324.2.1 bt324.2.2.1 bt324.2.2.2.1 bt324.2.2.2.2.1)) else (some (bt324.2.2.2.2.2.1 == 0))))) else (some false))) = some r := h
  clear h
  replace H := Option.bind_eq_some_iff.mp H
  obtain ⟨t323, A40, H⟩ := H
  replace H : (if t323 = true then (if (wrap64 ((a0.size : Int) + (a2.size : Int))) > 9000 then (some true) else ((http_ReadRequest.f k a0).bind fun bt324 => (if bt324.2.2.2.2.2.2 = 0 then (if bt324.2.2.2.2.2.1 < 1 then (pennantlaw22_HttpBegins.j0 k a0 a1 a2 bt324.2.2.2.2.2.1 true bt324.1 bt324.2.1 bt324.2.2.1 bt324.2.2.2.1 bt324.2.2.2.2.1) else (pennantlaw22_HttpBegins.j0 k a0 a1 a2 bt324.2.2.2.2.2.1 (decide (bt324.2.2.2.2.2.1 > (a0.size : Int))) bt324.1 bt324.2.1 bt324.2.2.1 bt324.2.2.2.1 bt324.2.2.2.2.1)) else (some (bt324.2.2.2.2.2.1 == 0))))) else (some false)) = some r := H
  have A4 := Aside0.mk A40
  clear A40
  by_cases c5 : t323 = true
  · subst c5
    have H1 : (if (wrap64 ((a0.size : Int) + (a2.size : Int))) > 9000 then (some true) else ((http_ReadRequest.f k a0).bind fun bt324 => (if bt324.2.2.2.2.2.2 = 0 then (if bt324.2.2.2.2.2.1 < 1 then (pennantlaw22_HttpBegins.j0 k a0 a1 a2 bt324.2.2.2.2.2.1 true bt324.1 bt324.2.1 bt324.2.2.1 bt324.2.2.2.1 bt324.2.2.2.2.1) else (pennantlaw22_HttpBegins.j0 k a0 a1 a2 bt324.2.2.2.2.2.1 (decide (bt324.2.2.2.2.2.1 > (a0.size : Int))) bt324.1 bt324.2.1 bt324.2.2.1 bt324.2.2.2.1 bt324.2.2.2.2.1)) else (some (bt324.2.2.2.2.2.1 == 0))))) = some r := by rw [if_pos rfl] at H; exact H
    clear H
    have H := H1
    clear H1
    by_cases c6 : (wrap64 ((a0.size : Int) + (a2.size : Int))) > 9000
    · rw [if_pos c6] at H
      have c6b0 : decide (9000 < (wrap64 ((a0.size : Int) + (a2.size : Int)))) = true := decide_eq_true c6
      clear c6
      obtain rfl := Option.some.inj H
      go_enter Tryz.func4, Tryz.ntmps4
      go_wp2_with (first | ((with_reducible refine gate_callee (f := 9) rfl ?_); refine goesL_ (some 16) rfl rfl Tryz.func9 (by kernel_rfl) rfl #[] rfl (by (try simp only [List.map_toArray, List.map_cons, List.map_nil]); first | done | rfl | (simp only [List.length_drop, List.length_take]; rfl)) ?_; (with_reducible refine (pennantlaw22_awake.calls k  true _ ?side1 A4.out).mono ?_); (case side1 => exact ⟨TabsOk.below hT.out (by repeat (first | (with_reducible first | exact HB.out | apply below_alloc | apply pw_below_drewN | apply below_drew1) | exact HB.out))⟩); rintro e w7 ⟨rfl, hb⟩; refine ⟨_, rfl, ?_⟩; have n0_ := Aside0.mk (below_step (by repeat (first | (with_reducible first | exact HB.out | apply below_alloc | apply pw_below_drewN | apply below_drew1) | exact HB.out)) hb); clear HB; have HB := n0_; clear n0_; (try clear hb); (try clear hb2); (try clear hk); (try clear hi)))
      go_ret
      exact ⟨by first | rfl | (simp [errW_none, errW_some] <;> rfl) | (simp [*, errW_none, errW_some] <;> rfl), by repeat (first | (with_reducible first | exact HB.out | apply below_alloc | apply pw_below_drewN | apply below_drew1) | exact HB.out)⟩
    · rw [if_neg c6] at H
      have c6b0 : decide (9000 < (wrap64 ((a0.size : Int) + (a2.size : Int)))) = false := decide_eq_false c6
      clear c6
      replace H := Option.bind_eq_some_iff.mp H
      obtain ⟨⟨t324, t325, t326, t327, t328, t329, t330⟩, A80, H⟩ := H
      replace H : (if t330 = 0 then (if t329 < 1 then (pennantlaw22_HttpBegins.j0 k a0 a1 a2 t329 true t324 t325 t326 t327 t328) else (pennantlaw22_HttpBegins.j0 k a0 a1 a2 t329 (decide (t329 > (a0.size : Int))) t324 t325 t326 t327 t328)) else (some (t329 == 0))) = some r := H
      have A8 := Aside0.mk A80
      clear A80
      by_cases c9 : t330 = 0
      · rw [if_pos c9] at H
        have c9b0 : (t330 == 0) = true := beq_iff_eq.mpr c9
        have c9b1 : (t330 != 0) = false := bne_eq_false_iff_eq.mpr c9
        clear c9
        have HC10 := Aside0.mk H
        clear H
        go_enter Tryz.func4, Tryz.ntmps4
        go_upto_region 8 with (first | ((with_reducible refine gate_callee (f := 9) rfl ?_); refine goesL_ (some 16) rfl rfl Tryz.func9 (by kernel_rfl) rfl #[] rfl (by (try simp only [List.map_toArray, List.map_cons, List.map_nil]); first | done | rfl | (simp only [List.length_drop, List.length_take]; rfl)) ?_; (with_reducible refine (pennantlaw22_awake.calls k  true _ ?side1 A4.out).mono ?_); (case side1 => exact ⟨TabsOk.below hT.out (by repeat (first | (with_reducible first | exact HB.out | apply below_alloc | apply pw_below_drewN | apply below_drew1) | exact HB.out))⟩); rintro e w11 ⟨rfl, hb⟩; refine ⟨_, rfl, ?_⟩; have n0_ := Aside0.mk (below_step (by repeat (first | (with_reducible first | exact HB.out | apply below_alloc | apply pw_below_drewN | apply below_drew1) | exact HB.out)) hb); clear HB; have HB := n0_; clear n0_; (try clear hb); (try clear hb2); (try clear hk); (try clear hi)) | ((with_reducible refine gate_callee (f := 10) rfl ?_); refine goesL_ (some 26) rfl rfl Tryz.func10 (by kernel_rfl) rfl #[.string a0] rfl (by (try simp only [List.map_toArray, List.map_cons, List.map_nil]); first | done | rfl | (simp only [List.length_drop, List.length_take]; rfl)) ?_; (with_reducible refine (http_ReadRequest.calls k a0 t324 t325 t326 t327 t328 t329 t330 _ ?side1 A8.out).mono ?_); (case side1 => exact ⟨TabsOk.below hT.out (by repeat (first | (with_reducible first | exact HB.out | apply below_alloc | apply pw_below_drewN | apply below_drew1) | exact HB.out))⟩); rintro e w12 ⟨rfl, hb⟩; refine ⟨_, rfl, ?_⟩; have n0_ := Aside0.mk (below_step (by repeat (first | (with_reducible first | exact HB.out | apply below_alloc | apply pw_below_drewN | apply below_drew1) | exact HB.out)) hb); clear HB; have HB := n0_; clear n0_; (try clear hb); (try clear hb2); (try clear hk); (try clear hi)) | ((with_reducible refine gate_dst (N := 7) rfl ?_); (try (refine gate_guard (by rfl) ?_; dsimp only)); refine box_event ?hg (N := 7) ?hd (cs := #[.string (⟨#[]⟩ : ByteArray), .string (⟨#[]⟩ : ByteArray), .string (⟨#[]⟩ : ByteArray), .string (⟨#[]⟩ : ByteArray), .string (⟨#[]⟩ : ByteArray)]) (t := 24) ?hr ?_; (case hd => rfl); (case hg => rfl); (case hr => first | (go_simp; done) | (go_simp; rfl)); intro gb331 hg w13 hbox hb; have n0_ := Aside0.mk (below_step (by repeat (first | (with_reducible first | exact HB.out | apply below_alloc | apply pw_below_drewN | apply below_drew1) | exact HB.out)) hb); have n1_ := Aside0.mk (hbox); have n2_ := Aside0.mk ((by rw [hg]; exact (below_size (by repeat (first | (with_reducible first | exact HB.out | apply below_alloc | apply pw_below_drewN | apply below_drew1) | exact HB.out))) : w.heap.size ≤ gb331)); have n3_ := Aside0.mk ((by rw [hg]; exact (below_size (by repeat (first | (with_reducible first | exact HB.out | apply below_alloc | apply pw_below_drewN | apply below_drew1) | exact HB.out))) : w.heap.size ≤ gb331)); clear HB; have HB := n0_; have BK331 := n1_; have GW331 := n2_; have GE331 := n3_; clear n0_ n1_ n2_ n3_; clear hb hbox hg; have hcz14_0 : w13.cell? ⟨gb331, 0, none⟩ = some (.string (⟨#[]⟩ : ByteArray)) := (blk_cell BK331.out 0).trans rfl; have hcz14_1 : w13.cell? ⟨gb331, 1, none⟩ = some (.string (⟨#[]⟩ : ByteArray)) := (blk_cell BK331.out 1).trans rfl; have hcz14_2 : w13.cell? ⟨gb331, 2, none⟩ = some (.string (⟨#[]⟩ : ByteArray)) := (blk_cell BK331.out 2).trans rfl; have hcz14_3 : w13.cell? ⟨gb331, 3, none⟩ = some (.string (⟨#[]⟩ : ByteArray)) := (blk_cell BK331.out 3).trans rfl; have hcz14_4 : w13.cell? ⟨gb331, 4, none⟩ = some (.string (⟨#[]⟩ : ByteArray)) := (blk_cell BK331.out 4).trans rfl; have hfz14_0 := blk_frozen BK331.out 0; have hfz14_1 := blk_frozen BK331.out 1; have hfz14_2 := blk_frozen BK331.out 2; have hfz14_3 := blk_frozen BK331.out 3; have hfz14_4 := blk_frozen BK331.out 4))
        (try simp only [Act.put, List.setIfInBounds_toArray, List.set_cons_zero, List.set_cons_succ])
        go_cut [41] (fun v41 wc => ∃ (kq : Nat) (x41_9 : Bool), v41 = .bool x41_9 ∧ Aside0 (pennantlaw22_HttpBegins.j0 kq a0 a1 a2 t329 x41_9 t324 t325 t326 t327 t328 = some r) ∧ Aside0 (kq ≤ k) ∧ Aside0 (wc.heap[gb331]? = some (.cells #[.string t324, .string t325, .string t326, .string t327, .string t328] 24 (0, 0))) ∧ Aside0 (Below w.heap.size w wc))
        case first =>
          have H := HC10.out
          clear HC10
          by_cases c15 : t329 < 1
          · rw [if_pos c15] at H
            have c15b0 : decide (t329 < 1) = true := decide_eq_true c15
            clear c15
            (first | rw [c15b0] | (simp only [i64_w, i32_w]; rw [c15b0]) | skip)
            have H' := Aside0.mk H
            clear H
            go_wp2
            go_meet
            case rel => exact ⟨_, (true), (by first | rfl | (simp; done) | (simp [*]; done)), H', ⟨by first | omega | exact Nat.le_refl _⟩, ⟨by (with_reducible repeat (first | refine blk_drewN ?_ _ | refine blk_drew ?_ | refine blk_alloc ?_ _)); refine blk_put (cs := #[.string t324, .string t325, .string t326, .string t327, .string (⟨#[]⟩ : ByteArray)]) ?_ 4 _ rfl; (with_reducible repeat (first | refine blk_drewN ?_ _ | refine blk_drew ?_ | refine blk_alloc ?_ _)); refine blk_put (cs := #[.string t324, .string t325, .string t326, .string (⟨#[]⟩ : ByteArray), .string (⟨#[]⟩ : ByteArray)]) ?_ 3 _ rfl; (with_reducible repeat (first | refine blk_drewN ?_ _ | refine blk_drew ?_ | refine blk_alloc ?_ _)); refine blk_put (cs := #[.string t324, .string t325, .string (⟨#[]⟩ : ByteArray), .string (⟨#[]⟩ : ByteArray), .string (⟨#[]⟩ : ByteArray)]) ?_ 2 _ rfl; (with_reducible repeat (first | refine blk_drewN ?_ _ | refine blk_drew ?_ | refine blk_alloc ?_ _)); refine blk_put (cs := #[.string t324, .string (⟨#[]⟩ : ByteArray), .string (⟨#[]⟩ : ByteArray), .string (⟨#[]⟩ : ByteArray), .string (⟨#[]⟩ : ByteArray)]) ?_ 1 _ rfl; (with_reducible repeat (first | refine blk_drewN ?_ _ | refine blk_drew ?_ | refine blk_alloc ?_ _)); refine blk_put (cs := #[.string (⟨#[]⟩ : ByteArray), .string (⟨#[]⟩ : ByteArray), .string (⟨#[]⟩ : ByteArray), .string (⟨#[]⟩ : ByteArray), .string (⟨#[]⟩ : ByteArray)]) ?_ 0 _ rfl; (with_reducible repeat (first | refine blk_drewN ?_ _ | refine blk_drew ?_ | refine blk_alloc ?_ _)); exact BK331.out⟩, ⟨by repeat (first | (with_reducible first | exact HB.out | apply below_alloc | apply pw_below_drewN | apply below_drew1 | refine below_set ?_ GE331.out) | exact HB.out)⟩⟩
          · rw [if_neg c15] at H
            have c15b0 : decide (t329 < 1) = false := decide_eq_false c15
            clear c15
            (first | rw [c15b0] | (simp only [i64_w, i32_w]; rw [c15b0]) | skip)
            have H' := Aside0.mk H
            clear H
            go_wp2
            go_meet
            case rel => exact ⟨_, (decide (t329 > (a0.size : Int))), (by first | rfl | (simp; done) | (simp [*]; done)), H', ⟨by first | omega | exact Nat.le_refl _⟩, ⟨by (with_reducible repeat (first | refine blk_drewN ?_ _ | refine blk_drew ?_ | refine blk_alloc ?_ _)); refine blk_put (cs := #[.string t324, .string t325, .string t326, .string t327, .string (⟨#[]⟩ : ByteArray)]) ?_ 4 _ rfl; (with_reducible repeat (first | refine blk_drewN ?_ _ | refine blk_drew ?_ | refine blk_alloc ?_ _)); refine blk_put (cs := #[.string t324, .string t325, .string t326, .string (⟨#[]⟩ : ByteArray), .string (⟨#[]⟩ : ByteArray)]) ?_ 3 _ rfl; (with_reducible repeat (first | refine blk_drewN ?_ _ | refine blk_drew ?_ | refine blk_alloc ?_ _)); refine blk_put (cs := #[.string t324, .string t325, .string (⟨#[]⟩ : ByteArray), .string (⟨#[]⟩ : ByteArray), .string (⟨#[]⟩ : ByteArray)]) ?_ 2 _ rfl; (with_reducible repeat (first | refine blk_drewN ?_ _ | refine blk_drew ?_ | refine blk_alloc ?_ _)); refine blk_put (cs := #[.string t324, .string (⟨#[]⟩ : ByteArray), .string (⟨#[]⟩ : ByteArray), .string (⟨#[]⟩ : ByteArray), .string (⟨#[]⟩ : ByteArray)]) ?_ 1 _ rfl; (with_reducible repeat (first | refine blk_drewN ?_ _ | refine blk_drew ?_ | refine blk_alloc ?_ _)); refine blk_put (cs := #[.string (⟨#[]⟩ : ByteArray), .string (⟨#[]⟩ : ByteArray), .string (⟨#[]⟩ : ByteArray), .string (⟨#[]⟩ : ByteArray), .string (⟨#[]⟩ : ByteArray)]) ?_ 0 _ rfl; (with_reducible repeat (first | refine blk_drewN ?_ _ | refine blk_drew ?_ | refine blk_alloc ?_ _)); exact BK331.out⟩, ⟨by repeat (first | (with_reducible first | exact HB.out | apply below_alloc | apply pw_below_drewN | apply below_drew1 | refine below_set ?_ GE331.out) | exact HB.out)⟩⟩
        case rest =>
          clear HC10
          try clear c1
          try clear p2
          try clear c4
          try clear c5
          try clear c6
          try clear c6b0
          try clear p6
          try clear c9
          try clear c9b0
          try clear c9b1
          try clear c10
          try clear c15
          try clear c15b0
          try clear hcz14_0
          try clear hcz14_1
          try clear hcz14_2
          try clear hcz14_3
          try clear hcz14_4
          try clear hfz14_0
          try clear hfz14_1
          try clear hfz14_2
          try clear hfz14_3
          try clear hfz14_4
          obtain ⟨kq, x41_9, rfl, HA, HJ9, BK331, HB⟩ := hcut
          cases kq with
          | zero => exact absurd HA.out (by simp [pennantlaw22_HttpBegins.j0])
          | succ kj9 =>
            have H := HA.out
            clear HA
            simp only [pennantlaw22_HttpBegins.j0] at H
            by_cases c16 : x41_9 = true
            · subst c16
              have H1 : (some false) = some r := by rw [if_pos rfl] at H; exact H
              clear H
              have H := H1
              clear H1
              exact absurd (Option.some.inj H) (by rw [HR_.out]; simp)
            · replace c16 := Bool.eq_false_iff.mpr c16
              subst c16
              have H1 : (if t329 = 0 then (none) else (if 0 ≤ (Int.tmod (wrap64 (a1)) t329) then (if (Int.tmod (wrap64 (a1)) t329) ≤ (a0.size : Int) then ((http_ReadRequest.f kj9 (a0.extract 0 ((Int.tmod (wrap64 (a1)) t329) : Int).toNat)).bind fun bt332 => (if 0 ≤ t329 then (if t329 ≤ (a0.size : Int) then (if (a0.extract 0 (t329 : Int).toNat).size + a2.size ≤ 9223372036854775807 then ((http_ReadRequest.f kj9 ((a0.extract 0 (t329 : Int).toNat) ++ a2)).bind fun bt340 => (if (bt332.1.toList == ([] : List UInt8) && (bt332.2.1.toList == ([] : List UInt8) && (bt332.2.2.1.toList == ([] : List UInt8) && (bt332.2.2.2.1.toList == ([] : List UInt8) && (bt332.2.2.2.2.1.toList == ([] : List UInt8)))))) = true then (if bt332.2.2.2.2.2.1 = 0 then (if bt332.2.2.2.2.2.2 = 3 then (if (bt340.1.toList == t324.toList && (bt340.2.1.toList == t325.toList && (bt340.2.2.1.toList == t326.toList && (bt340.2.2.2.1.toList == t327.toList && (bt340.2.2.2.2.1.toList == t328.toList))))) = true then (if bt340.2.2.2.2.2.1 = t329 then (some (bt340.2.2.2.2.2.2 == 0)) else (some false)) else (some false)) else (some false)) else (some false)) else (some false))) else (none)) else (none)) else (none))) else (none)) else (none))) = some r := by rw [if_neg (show ¬ (false = true) by decide)] at H; exact H
              clear H
              have H := H1
              clear H1
              by_cases c17 : t329 = 0
              · rw [if_pos c17] at H
                exact absurd H (by simp)
              · rw [if_neg c17] at H
                have c17b0 : (t329 == 0) = false := beq_eq_false_iff_ne.mpr c17
                have c17b1 : (t329 != 0) = true := bne_iff_ne.mpr c17
                obtain ⟨ji18, hji18⟩ : ∃ j_ : Int, (Int.tmod (wrap64 (a1)) t329) = j_ := ⟨_, rfl⟩
                replace H : (if 0 ≤ (ji18) then (if (ji18) ≤ (a0.size : Int) then ((http_ReadRequest.f kj9 (a0.extract 0 ((ji18) : Int).toNat)).bind fun bt332 => (if 0 ≤ t329 then (if t329 ≤ (a0.size : Int) then (if (a0.extract 0 (t329 : Int).toNat).size + a2.size ≤ 9223372036854775807 then ((http_ReadRequest.f kj9 ((a0.extract 0 (t329 : Int).toNat) ++ a2)).bind fun bt340 => (if (bt332.1.toList == ([] : List UInt8) && (bt332.2.1.toList == ([] : List UInt8) && (bt332.2.2.1.toList == ([] : List UInt8) && (bt332.2.2.2.1.toList == ([] : List UInt8) && (bt332.2.2.2.2.1.toList == ([] : List UInt8)))))) = true then (if bt332.2.2.2.2.2.1 = 0 then (if bt332.2.2.2.2.2.2 = 3 then (if (bt340.1.toList == t324.toList && (bt340.2.1.toList == t325.toList && (bt340.2.2.1.toList == t326.toList && (bt340.2.2.2.1.toList == t327.toList && (bt340.2.2.2.2.1.toList == t328.toList))))) = true then (if bt340.2.2.2.2.2.1 = t329 then (some (bt340.2.2.2.2.2.2 == 0)) else (some false)) else (some false)) else (some false)) else (some false)) else (some false))) else (none)) else (none)) else (none))) else (none)) else (none)) = some r := by first | (rw [hji18] at H; exact H) | (simp only [hji18] at H ⊢; exact H)
                by_cases c19 : 0 ≤ (ji18)
                · rw [if_pos c19] at H
                  have c19b0 := eq_true c19
                  have c19b1 : decide (0 ≤ (ji18)) = true := decide_eq_true c19
                  clear c19
                  by_cases c20 : (ji18) ≤ (a0.size : Int)
                  · rw [if_pos c20] at H
                    have c20b0 := eq_true c20
                    have c20b1 : decide ((ji18) ≤ (a0.size : Int)) = true := decide_eq_true c20
                    clear c20
                    replace H := Option.bind_eq_some_iff.mp H
                    obtain ⟨⟨t332, t333, t334, t335, t336, t337, t338⟩, A210, H⟩ := H
                    replace H : (if 0 ≤ t329 then (if t329 ≤ (a0.size : Int) then (if (a0.extract 0 (t329 : Int).toNat).size + a2.size ≤ 9223372036854775807 then ((http_ReadRequest.f kj9 ((a0.extract 0 (t329 : Int).toNat) ++ a2)).bind fun bt340 => (if (t332.toList == ([] : List UInt8) && (t333.toList == ([] : List UInt8) && (t334.toList == ([] : List UInt8) && (t335.toList == ([] : List UInt8) && (t336.toList == ([] : List UInt8)))))) = true then (if t337 = 0 then (if t338 = 3 then (if (bt340.1.toList == t324.toList && (bt340.2.1.toList == t325.toList && (bt340.2.2.1.toList == t326.toList && (bt340.2.2.2.1.toList == t327.toList && (bt340.2.2.2.2.1.toList == t328.toList))))) = true then (if bt340.2.2.2.2.2.1 = t329 then (some (bt340.2.2.2.2.2.2 == 0)) else (some false)) else (some false)) else (some false)) else (some false)) else (some false))) else (none)) else (none)) else (none)) = some r := H
                    have A21 := Aside0.mk A210
                    clear A210
                    by_cases c22 : 0 ≤ t329
                    · rw [if_pos c22] at H
                      have c22b0 := eq_true c22
                      have c22b1 : decide (0 ≤ t329) = true := decide_eq_true c22
                      clear c22
                      by_cases c23 : t329 ≤ (a0.size : Int)
                      · rw [if_pos c23] at H
                        have c23b0 := eq_true c23
                        have c23b1 : decide (t329 ≤ (a0.size : Int)) = true := decide_eq_true c23
                        clear c23
                        by_cases c24 : (a0.extract 0 (t329 : Int).toNat).size + a2.size ≤ 9223372036854775807
                        · rw [if_pos c24] at H
                          have c24b0 := eq_true c24
                          have c24b1 : decide ((a0.extract 0 (t329 : Int).toNat).size + a2.size ≤ 9223372036854775807) = true := decide_eq_true c24
                          try have c24b2 : (9223372036854775807 < (a0.extract 0 (t329 : Int).toNat).size + a2.size) = False := eq_false (Nat.not_lt.2 c24)
                          replace H := Option.bind_eq_some_iff.mp H
                          obtain ⟨⟨t340, t341, t342, t343, t344, t345, t346⟩, A250, H⟩ := H
                          replace H : (if (t332.toList == ([] : List UInt8) && (t333.toList == ([] : List UInt8) && (t334.toList == ([] : List UInt8) && (t335.toList == ([] : List UInt8) && (t336.toList == ([] : List UInt8)))))) = true then (if t337 = 0 then (if t338 = 3 then (if (t340.toList == t324.toList && (t341.toList == t325.toList && (t342.toList == t326.toList && (t343.toList == t327.toList && (t344.toList == t328.toList))))) = true then (if t345 = t329 then (some (t346 == 0)) else (some false)) else (some false)) else (some false)) else (some false)) else (some false)) = some r := H
                          have A25 := Aside0.mk A250
                          clear A250
                          by_cases c26 : (t332.toList == ([] : List UInt8) && (t333.toList == ([] : List UInt8) && (t334.toList == ([] : List UInt8) && (t335.toList == ([] : List UInt8) && (t336.toList == ([] : List UInt8)))))) = true
                          · rw [if_pos c26] at H
                            have c26b0 : (t332.toList == ([] : List UInt8) && (t333.toList == ([] : List UInt8) && (t334.toList == ([] : List UInt8) && (t335.toList == ([] : List UInt8) && (t336.toList == ([] : List UInt8)))))) = true := c26
                            (try (have c26b1 : decide (t332.toList = ([] : List UInt8) && (t333.toList == ([] : List UInt8) && (t334.toList == ([] : List UInt8) && (t335.toList == ([] : List UInt8) && (t336.toList == ([] : List UInt8)))))) = true := by simpa using c26))
                            (try (have c26b2 : (t332.toList == ([] : List UInt8) && (t333.toList == ([] : List UInt8) && (t334.toList == ([] : List UInt8) && (t335.toList == ([] : List UInt8) && (t336.toList == ([] : List UInt8)))))) = true := by simpa using c26))
                            clear c26
                            by_cases c27 : t337 = 0
                            · rw [if_pos c27] at H
                              have c27b0 : (t337 == 0) = true := beq_iff_eq.mpr c27
                              have c27b1 : (t337 != 0) = false := bne_eq_false_iff_eq.mpr c27
                              clear c27
                              by_cases c28 : t338 = 3
                              · rw [if_pos c28] at H
                                have c28b0 : (t338 == 3) = true := beq_iff_eq.mpr c28
                                have c28b1 : (t338 != 3) = false := bne_eq_false_iff_eq.mpr c28
                                clear c28
                                by_cases c29 : (t340.toList == t324.toList && (t341.toList == t325.toList && (t342.toList == t326.toList && (t343.toList == t327.toList && (t344.toList == t328.toList))))) = true
                                · rw [if_pos c29] at H
                                  have c29b0 : (t340.toList == t324.toList && (t341.toList == t325.toList && (t342.toList == t326.toList && (t343.toList == t327.toList && (t344.toList == t328.toList))))) = true := c29
                                  (try (have c29b1 : decide (t340.toList = t324.toList && (t341.toList == t325.toList && (t342.toList == t326.toList && (t343.toList == t327.toList && (t344.toList == t328.toList))))) = true := by simpa using c29))
                                  (try (have c29b2 : (t340.toList == t324.toList && (t341.toList == t325.toList && (t342.toList == t326.toList && (t343.toList == t327.toList && (t344.toList == t328.toList))))) = true := by simpa using c29))
                                  clear c29
                                  by_cases c30 : t345 = t329
                                  · rw [if_pos c30] at H
                                    have c30b0 : (t345 == t329) = true := beq_iff_eq.mpr c30
                                    have c30b1 : (t345 != t329) = false := bne_eq_false_iff_eq.mpr c30
                                    clear c30
                                    obtain rfl := Option.some.inj H
                                    go_wp2_with (first | ((with_reducible refine gate_callee (f := 10) rfl ?_); refine goesL_ (some 49) rfl rfl Tryz.func10 (by kernel_rfl) rfl #[.string (a0.extract 0 ((ji18) : Int).toNat)] rfl (by (try simp only [List.map_toArray, List.map_cons, List.map_nil]); first | done | (simp only [hji18]; rfl) | rfl | (simp only [List.length_drop, List.length_take]; rfl)) ?_; (with_reducible refine (http_ReadRequest.calls kj9 (a0.extract 0 ((ji18) : Int).toNat) t332 t333 t334 t335 t336 t337 t338 _ ?side1 A21.out).mono ?_); (case side1 => exact ⟨TabsOk.below hT.out (by repeat (first | (with_reducible first | exact HB.out | apply below_alloc | apply pw_below_drewN | apply below_drew1 | refine below_set ?_ GE331.out) | exact HB.out))⟩); rintro e w31 ⟨rfl, hb⟩; refine ⟨_, rfl, ?_⟩; have n0_ := Aside0.mk (blk_below (g := gb331) (o := .cells #[.string t324, .string t325, .string t326, .string t327, .string t328] 24 (0, 0)) (by (with_reducible repeat (first | refine blk_drewN ?_ _ | refine blk_drew ?_ | refine blk_alloc ?_ _)); exact BK331.out) hb); have n1_ := Aside0.mk (below_step (by repeat (first | (with_reducible first | exact HB.out | apply below_alloc | apply pw_below_drewN | apply below_drew1 | refine below_set ?_ GE331.out) | exact HB.out)) hb); clear BK331; clear HB; have BK331 := n0_; have HB := n1_; clear n0_ n1_; (try clear hb); (try clear hb2); (try clear hk); (try clear hi)) | ((with_reducible refine gate_dst (N := 10) rfl ?_); (try (refine gate_guard (by rfl) ?_; dsimp only)); refine box_event ?hg (N := 10) ?hd (cs := #[.string (⟨#[]⟩ : ByteArray), .string (⟨#[]⟩ : ByteArray), .string (⟨#[]⟩ : ByteArray), .string (⟨#[]⟩ : ByteArray), .string (⟨#[]⟩ : ByteArray)]) (t := 24) ?hr ?_; (case hd => rfl); (case hg => rfl); (case hr => first | (go_simp; done) | (go_simp; rfl)); intro gb339 hg w32 hbox hb; have n0_ := Aside0.mk (blk_below (g := gb331) (o := .cells #[.string t324, .string t325, .string t326, .string t327, .string t328] 24 (0, 0)) (by (with_reducible repeat (first | refine blk_drewN ?_ _ | refine blk_drew ?_ | refine blk_alloc ?_ _)); exact BK331.out) hb); have n1_ := Aside0.mk (below_step (by repeat (first | (with_reducible first | exact HB.out | apply below_alloc | apply pw_below_drewN | apply below_drew1 | refine below_set ?_ GE331.out) | exact HB.out)) hb); have n2_ := Aside0.mk (hbox); have n3_ := Aside0.mk ((by rw [hg]; exact (below_size (by repeat (first | (with_reducible first | exact HB.out | apply below_alloc | apply pw_below_drewN | apply below_drew1 | refine below_set ?_ GE331.out) | exact HB.out))) : w.heap.size ≤ gb339)); have n4_ := Aside0.mk ((by rw [hg]; exact (below_size (by repeat (first | (with_reducible first | exact HB.out | apply below_alloc | apply pw_below_drewN | apply below_drew1 | refine below_set ?_ GE331.out) | exact HB.out))) : w.heap.size ≤ gb339)); have n5_ := Aside0.mk ((by rw [hg]; exact Nat.ne_of_lt (blk_lt (g := gb331) (o := .cells #[.string t324, .string t325, .string t326, .string t327, .string t328] 24 (0, 0)) (by (with_reducible repeat (first | refine blk_drewN ?_ _ | refine blk_drew ?_ | refine blk_alloc ?_ _)); exact BK331.out)) : gb331 ≠ gb339)); have n6_ := Aside0.mk ((by rw [hg]; exact Nat.ne_of_gt (blk_lt (g := gb331) (o := .cells #[.string t324, .string t325, .string t326, .string t327, .string t328] 24 (0, 0)) (by (with_reducible repeat (first | refine blk_drewN ?_ _ | refine blk_drew ?_ | refine blk_alloc ?_ _)); exact BK331.out)) : gb339 ≠ gb331)); clear BK331; clear HB; have BK331 := n0_; have HB := n1_; have BK339 := n2_; have GW339 := n3_; have GE339 := n4_; have NB331_339 := n5_; have NB339_331 := n6_; clear n0_ n1_ n2_ n3_ n4_ n5_ n6_; clear hb hbox hg; have hnb33 := NB339_331.out; have hnc33 := NB331_339.out; have hcz34_0 : w32.cell? ⟨gb339, 0, none⟩ = some (.string (⟨#[]⟩ : ByteArray)) := (blk_cell BK339.out 0).trans rfl; have hcz34_1 : w32.cell? ⟨gb339, 1, none⟩ = some (.string (⟨#[]⟩ : ByteArray)) := (blk_cell BK339.out 1).trans rfl; have hcz34_2 : w32.cell? ⟨gb339, 2, none⟩ = some (.string (⟨#[]⟩ : ByteArray)) := (blk_cell BK339.out 2).trans rfl; have hcz34_3 : w32.cell? ⟨gb339, 3, none⟩ = some (.string (⟨#[]⟩ : ByteArray)) := (blk_cell BK339.out 3).trans rfl; have hcz34_4 : w32.cell? ⟨gb339, 4, none⟩ = some (.string (⟨#[]⟩ : ByteArray)) := (blk_cell BK339.out 4).trans rfl; have hfz34_0 := blk_frozen BK339.out 0; have hfz34_1 := blk_frozen BK339.out 1; have hfz34_2 := blk_frozen BK339.out 2; have hfz34_3 := blk_frozen BK339.out 3; have hfz34_4 := blk_frozen BK339.out 4) | ((with_reducible refine gate_callee (f := 10) rfl ?_); refine goesL_ (some 59) rfl rfl Tryz.func10 (by kernel_rfl) rfl #[.string ((a0.extract 0 (t329 : Int).toNat) ++ a2)] rfl (by (try simp only [List.map_toArray, List.map_cons, List.map_nil]); first | done | rfl | (simp only [List.length_drop, List.length_take]; rfl)) ?_; (with_reducible refine (http_ReadRequest.calls kj9 ((a0.extract 0 (t329 : Int).toNat) ++ a2) t340 t341 t342 t343 t344 t345 t346 _ ?side1 A25.out).mono ?_); (case side1 => exact ⟨TabsOk.below hT.out (by repeat (first | (with_reducible first | exact HB.out | apply below_alloc | apply pw_below_drewN | apply below_drew1 | refine below_set ?_ GE331.out | refine below_set ?_ GE339.out) | exact HB.out))⟩); rintro e w35 ⟨rfl, hb⟩; refine ⟨_, rfl, ?_⟩; have n0_ := Aside0.mk (blk_below (g := gb331) (o := .cells #[.string t324, .string t325, .string t326, .string t327, .string t328] 24 (0, 0)) (by (with_reducible repeat (first | refine blk_drewN ?_ _ | refine blk_drew ?_ | refine blk_alloc ?_ _)); refine blk_far ?_ NB331_339.out _; (with_reducible repeat (first | refine blk_drewN ?_ _ | refine blk_drew ?_ | refine blk_alloc ?_ _)); refine blk_far ?_ NB331_339.out _; (with_reducible repeat (first | refine blk_drewN ?_ _ | refine blk_drew ?_ | refine blk_alloc ?_ _)); refine blk_far ?_ NB331_339.out _; (with_reducible repeat (first | refine blk_drewN ?_ _ | refine blk_drew ?_ | refine blk_alloc ?_ _)); refine blk_far ?_ NB331_339.out _; (with_reducible repeat (first | refine blk_drewN ?_ _ | refine blk_drew ?_ | refine blk_alloc ?_ _)); refine blk_far ?_ NB331_339.out _; (with_reducible repeat (first | refine blk_drewN ?_ _ | refine blk_drew ?_ | refine blk_alloc ?_ _)); exact BK331.out) hb); have n1_ := Aside0.mk (blk_below (g := gb339) (o := .cells #[.string t332, .string t333, .string t334, .string t335, .string t336] 24 (0, 0)) (by (with_reducible repeat (first | refine blk_drewN ?_ _ | refine blk_drew ?_ | refine blk_alloc ?_ _)); refine blk_put (cs := #[.string t332, .string t333, .string t334, .string t335, .string (⟨#[]⟩ : ByteArray)]) ?_ 4 _ rfl; (with_reducible repeat (first | refine blk_drewN ?_ _ | refine blk_drew ?_ | refine blk_alloc ?_ _)); refine blk_put (cs := #[.string t332, .string t333, .string t334, .string (⟨#[]⟩ : ByteArray), .string (⟨#[]⟩ : ByteArray)]) ?_ 3 _ rfl; (with_reducible repeat (first | refine blk_drewN ?_ _ | refine blk_drew ?_ | refine blk_alloc ?_ _)); refine blk_put (cs := #[.string t332, .string t333, .string (⟨#[]⟩ : ByteArray), .string (⟨#[]⟩ : ByteArray), .string (⟨#[]⟩ : ByteArray)]) ?_ 2 _ rfl; (with_reducible repeat (first | refine blk_drewN ?_ _ | refine blk_drew ?_ | refine blk_alloc ?_ _)); refine blk_put (cs := #[.string t332, .string (⟨#[]⟩ : ByteArray), .string (⟨#[]⟩ : ByteArray), .string (⟨#[]⟩ : ByteArray), .string (⟨#[]⟩ : ByteArray)]) ?_ 1 _ rfl; (with_reducible repeat (first | refine blk_drewN ?_ _ | refine blk_drew ?_ | refine blk_alloc ?_ _)); refine blk_put (cs := #[.string (⟨#[]⟩ : ByteArray), .string (⟨#[]⟩ : ByteArray), .string (⟨#[]⟩ : ByteArray), .string (⟨#[]⟩ : ByteArray), .string (⟨#[]⟩ : ByteArray)]) ?_ 0 _ rfl; (with_reducible repeat (first | refine blk_drewN ?_ _ | refine blk_drew ?_ | refine blk_alloc ?_ _)); exact BK339.out) hb); have n2_ := Aside0.mk (below_step (by repeat (first | (with_reducible first | exact HB.out | apply below_alloc | apply pw_below_drewN | apply below_drew1 | refine below_set ?_ GE331.out | refine below_set ?_ GE339.out) | exact HB.out)) hb); clear BK331; clear BK339; clear HB; have BK331 := n0_; have BK339 := n1_; have HB := n2_; clear n0_ n1_ n2_; (try clear hb); (try clear hb2); (try clear hk); (try clear hi)) | ((with_reducible refine gate_dst (N := 13) rfl ?_); (try (refine gate_guard (by rfl) ?_; dsimp only)); refine box_event ?hg (N := 13) ?hd (cs := #[.string (⟨#[]⟩ : ByteArray), .string (⟨#[]⟩ : ByteArray), .string (⟨#[]⟩ : ByteArray), .string (⟨#[]⟩ : ByteArray), .string (⟨#[]⟩ : ByteArray)]) (t := 24) ?hr ?_; (case hd => rfl); (case hg => rfl); (case hr => first | (go_simp; done) | (go_simp; rfl)); intro gb347 hg w36 hbox hb; have n0_ := Aside0.mk (blk_below (g := gb331) (o := .cells #[.string t324, .string t325, .string t326, .string t327, .string t328] 24 (0, 0)) (by (with_reducible repeat (first | refine blk_drewN ?_ _ | refine blk_drew ?_ | refine blk_alloc ?_ _)); exact BK331.out) hb); have n1_ := Aside0.mk (blk_below (g := gb339) (o := .cells #[.string t332, .string t333, .string t334, .string t335, .string t336] 24 (0, 0)) (by (with_reducible repeat (first | refine blk_drewN ?_ _ | refine blk_drew ?_ | refine blk_alloc ?_ _)); exact BK339.out) hb); have n2_ := Aside0.mk (below_step (by repeat (first | (with_reducible first | exact HB.out | apply below_alloc | apply pw_below_drewN | apply below_drew1 | refine below_set ?_ GE331.out | refine below_set ?_ GE339.out) | exact HB.out)) hb); have n3_ := Aside0.mk (hbox); have n4_ := Aside0.mk ((by rw [hg]; exact (below_size (by repeat (first | (with_reducible first | exact HB.out | apply below_alloc | apply pw_below_drewN | apply below_drew1 | refine below_set ?_ GE331.out | refine below_set ?_ GE339.out) | exact HB.out))) : w.heap.size ≤ gb347)); have n5_ := Aside0.mk ((by rw [hg]; exact (below_size (by repeat (first | (with_reducible first | exact HB.out | apply below_alloc | apply pw_below_drewN | apply below_drew1 | refine below_set ?_ GE331.out | refine below_set ?_ GE339.out) | exact HB.out))) : w.heap.size ≤ gb347)); have n6_ := Aside0.mk ((by rw [hg]; exact Nat.ne_of_lt (blk_lt (g := gb331) (o := .cells #[.string t324, .string t325, .string t326, .string t327, .string t328] 24 (0, 0)) (by (with_reducible repeat (first | refine blk_drewN ?_ _ | refine blk_drew ?_ | refine blk_alloc ?_ _)); exact BK331.out)) : gb331 ≠ gb347)); have n7_ := Aside0.mk ((by rw [hg]; exact Nat.ne_of_gt (blk_lt (g := gb331) (o := .cells #[.string t324, .string t325, .string t326, .string t327, .string t328] 24 (0, 0)) (by (with_reducible repeat (first | refine blk_drewN ?_ _ | refine blk_drew ?_ | refine blk_alloc ?_ _)); exact BK331.out)) : gb347 ≠ gb331)); have n8_ := Aside0.mk ((by rw [hg]; exact Nat.ne_of_lt (blk_lt (g := gb339) (o := .cells #[.string t332, .string t333, .string t334, .string t335, .string t336] 24 (0, 0)) (by (with_reducible repeat (first | refine blk_drewN ?_ _ | refine blk_drew ?_ | refine blk_alloc ?_ _)); exact BK339.out)) : gb339 ≠ gb347)); have n9_ := Aside0.mk ((by rw [hg]; exact Nat.ne_of_gt (blk_lt (g := gb339) (o := .cells #[.string t332, .string t333, .string t334, .string t335, .string t336] 24 (0, 0)) (by (with_reducible repeat (first | refine blk_drewN ?_ _ | refine blk_drew ?_ | refine blk_alloc ?_ _)); exact BK339.out)) : gb347 ≠ gb339)); clear BK331; clear BK339; clear HB; have BK331 := n0_; have BK339 := n1_; have HB := n2_; have BK347 := n3_; have GW347 := n4_; have GE347 := n5_; have NB331_347 := n6_; have NB347_331 := n7_; have NB339_347 := n8_; have NB347_339 := n9_; clear n0_ n1_ n2_ n3_ n4_ n5_ n6_ n7_ n8_ n9_; clear hb hbox hg; have hnb37 := NB347_331.out; have hnc37 := NB331_347.out; have hnb38 := NB347_339.out; have hnc38 := NB339_347.out; have hcz39_0 : w36.cell? ⟨gb347, 0, none⟩ = some (.string (⟨#[]⟩ : ByteArray)) := (blk_cell BK347.out 0).trans rfl; have hcz39_1 : w36.cell? ⟨gb347, 1, none⟩ = some (.string (⟨#[]⟩ : ByteArray)) := (blk_cell BK347.out 1).trans rfl; have hcz39_2 : w36.cell? ⟨gb347, 2, none⟩ = some (.string (⟨#[]⟩ : ByteArray)) := (blk_cell BK347.out 2).trans rfl; have hcz39_3 : w36.cell? ⟨gb347, 3, none⟩ = some (.string (⟨#[]⟩ : ByteArray)) := (blk_cell BK347.out 3).trans rfl; have hcz39_4 : w36.cell? ⟨gb347, 4, none⟩ = some (.string (⟨#[]⟩ : ByteArray)) := (blk_cell BK347.out 4).trans rfl; have hfz39_0 := blk_frozen BK347.out 0; have hfz39_1 := blk_frozen BK347.out 1; have hfz39_2 := blk_frozen BK347.out 2; have hfz39_3 := blk_frozen BK347.out 3; have hfz39_4 := blk_frozen BK347.out 4; have hcz40_0 : w36.cell? ⟨gb339, 0, none⟩ = some (.string t332) := (blk_cell BK339.out 0).trans rfl; have hcz40_1 : w36.cell? ⟨gb339, 1, none⟩ = some (.string t333) := (blk_cell BK339.out 1).trans rfl; have hcz40_2 : w36.cell? ⟨gb339, 2, none⟩ = some (.string t334) := (blk_cell BK339.out 2).trans rfl; have hcz40_3 : w36.cell? ⟨gb339, 3, none⟩ = some (.string t335) := (blk_cell BK339.out 3).trans rfl; have hcz40_4 : w36.cell? ⟨gb339, 4, none⟩ = some (.string t336) := (blk_cell BK339.out 4).trans rfl; have hfz40_0 := blk_frozen BK339.out 0; have hfz40_1 := blk_frozen BK339.out 1; have hfz40_2 := blk_frozen BK339.out 2; have hfz40_3 := blk_frozen BK339.out 3; have hfz40_4 := blk_frozen BK339.out 4; have hcz41_0 : w36.cell? ⟨gb331, 0, none⟩ = some (.string t324) := (blk_cell BK331.out 0).trans rfl; have hcz41_1 : w36.cell? ⟨gb331, 1, none⟩ = some (.string t325) := (blk_cell BK331.out 1).trans rfl; have hcz41_2 : w36.cell? ⟨gb331, 2, none⟩ = some (.string t326) := (blk_cell BK331.out 2).trans rfl; have hcz41_3 : w36.cell? ⟨gb331, 3, none⟩ = some (.string t327) := (blk_cell BK331.out 3).trans rfl; have hcz41_4 : w36.cell? ⟨gb331, 4, none⟩ = some (.string t328) := (blk_cell BK331.out 4).trans rfl; have hfz41_0 := blk_frozen BK331.out 0; have hfz41_1 := blk_frozen BK331.out 1; have hfz41_2 := blk_frozen BK331.out 2; have hfz41_3 := blk_frozen BK331.out 3; have hfz41_4 := blk_frozen BK331.out 4))
                                    go_ret
                                    exact ⟨by first | rfl | (simp [errW_none, errW_some] <;> rfl) | (simp only [← hji18]; first | rfl | (simp [errW_none, errW_some] <;> rfl)) | (simp [*, errW_none, errW_some] <;> rfl), by repeat (first | (with_reducible first | exact HB.out | apply below_alloc | apply pw_below_drewN | apply below_drew1 | refine below_set ?_ GE331.out | refine below_set ?_ GE339.out | refine below_set ?_ GE347.out) | exact HB.out)⟩
                                    all_goals (exfalso; rename_i h_; exact h_ (by simpa using c26b0))
                                  · rw [if_neg c30] at H
                                    have c30b0 : (t345 == t329) = false := beq_eq_false_iff_ne.mpr c30
                                    have c30b1 : (t345 != t329) = true := bne_iff_ne.mpr c30
                                    exact absurd (Option.some.inj H) (by rw [HR_.out]; simp)
                                · rw [if_neg c29] at H
                                  have c29b0 : (t340.toList == t324.toList && (t341.toList == t325.toList && (t342.toList == t326.toList && (t343.toList == t327.toList && (t344.toList == t328.toList))))) = false := by simpa using c29
                                  (try (have c29b1 : decide (t340.toList = t324.toList && (t341.toList == t325.toList && (t342.toList == t326.toList && (t343.toList == t327.toList && (t344.toList == t328.toList))))) = false := by simpa using c29))
                                  (try (have c29b2 : (t340.toList == t324.toList && (t341.toList == t325.toList && (t342.toList == t326.toList && (t343.toList == t327.toList && (t344.toList == t328.toList))))) = false := by simpa using c29))
                                  (try (have c29b3 : ¬ (t340.toList = t324.toList && (t341.toList == t325.toList && (t342.toList == t326.toList && (t343.toList == t327.toList && (t344.toList == t328.toList))))) := by simpa using c29))
                                  clear c29
                                  exact absurd (Option.some.inj H) (by rw [HR_.out]; simp)
                              · rw [if_neg c28] at H
                                have c28b0 : (t338 == 3) = false := beq_eq_false_iff_ne.mpr c28
                                have c28b1 : (t338 != 3) = true := bne_iff_ne.mpr c28
                                exact absurd (Option.some.inj H) (by rw [HR_.out]; simp)
                            · rw [if_neg c27] at H
                              have c27b0 : (t337 == 0) = false := beq_eq_false_iff_ne.mpr c27
                              have c27b1 : (t337 != 0) = true := bne_iff_ne.mpr c27
                              exact absurd (Option.some.inj H) (by rw [HR_.out]; simp)
                          · rw [if_neg c26] at H
                            have c26b0 : (t332.toList == ([] : List UInt8) && (t333.toList == ([] : List UInt8) && (t334.toList == ([] : List UInt8) && (t335.toList == ([] : List UInt8) && (t336.toList == ([] : List UInt8)))))) = false := by simpa using c26
                            (try (have c26b1 : decide (t332.toList = ([] : List UInt8) && (t333.toList == ([] : List UInt8) && (t334.toList == ([] : List UInt8) && (t335.toList == ([] : List UInt8) && (t336.toList == ([] : List UInt8)))))) = false := by simpa using c26))
                            (try (have c26b2 : (t332.toList == ([] : List UInt8) && (t333.toList == ([] : List UInt8) && (t334.toList == ([] : List UInt8) && (t335.toList == ([] : List UInt8) && (t336.toList == ([] : List UInt8)))))) = false := by simpa using c26))
                            (try (have c26b3 : ¬ (t332.toList = ([] : List UInt8) && (t333.toList == ([] : List UInt8) && (t334.toList == ([] : List UInt8) && (t335.toList == ([] : List UInt8) && (t336.toList == ([] : List UInt8)))))) := by simpa using c26))
                            clear c26
                            exact absurd (Option.some.inj H) (by rw [HR_.out]; simp)
                        · rw [if_neg c24] at H
                          exact absurd H (by simp)
                      · rw [if_neg c23] at H
                        exact absurd H (by simp)
                    · rw [if_neg c22] at H
                      exact absurd H (by simp)
                  · rw [if_neg c20] at H
                    exact absurd H (by simp)
                · rw [if_neg c19] at H
                  exact absurd H (by simp)
      · rw [if_neg c9] at H
        have c9b0 : (t330 == 0) = false := beq_eq_false_iff_ne.mpr c9
        have c9b1 : (t330 != 0) = true := bne_iff_ne.mpr c9
        obtain rfl := Option.some.inj H
        go_enter Tryz.func4, Tryz.ntmps4
        go_wp2_with (first | ((with_reducible refine gate_callee (f := 9) rfl ?_); refine goesL_ (some 16) rfl rfl Tryz.func9 (by kernel_rfl) rfl #[] rfl (by (try simp only [List.map_toArray, List.map_cons, List.map_nil]); first | done | rfl | (simp only [List.length_drop, List.length_take]; rfl)) ?_; (with_reducible refine (pennantlaw22_awake.calls k  true _ ?side1 A4.out).mono ?_); (case side1 => exact ⟨TabsOk.below hT.out (by repeat (first | (with_reducible first | exact HB.out | apply below_alloc | apply pw_below_drewN | apply below_drew1) | exact HB.out))⟩); rintro e w42 ⟨rfl, hb⟩; refine ⟨_, rfl, ?_⟩; have n0_ := Aside0.mk (below_step (by repeat (first | (with_reducible first | exact HB.out | apply below_alloc | apply pw_below_drewN | apply below_drew1) | exact HB.out)) hb); clear HB; have HB := n0_; clear n0_; (try clear hb); (try clear hb2); (try clear hk); (try clear hi)) | ((with_reducible refine gate_callee (f := 10) rfl ?_); refine goesL_ (some 26) rfl rfl Tryz.func10 (by kernel_rfl) rfl #[.string a0] rfl (by (try simp only [List.map_toArray, List.map_cons, List.map_nil]); first | done | rfl | (simp only [List.length_drop, List.length_take]; rfl)) ?_; (with_reducible refine (http_ReadRequest.calls k a0 t324 t325 t326 t327 t328 t329 t330 _ ?side1 A8.out).mono ?_); (case side1 => exact ⟨TabsOk.below hT.out (by repeat (first | (with_reducible first | exact HB.out | apply below_alloc | apply pw_below_drewN | apply below_drew1) | exact HB.out))⟩); rintro e w43 ⟨rfl, hb⟩; refine ⟨_, rfl, ?_⟩; have n0_ := Aside0.mk (below_step (by repeat (first | (with_reducible first | exact HB.out | apply below_alloc | apply pw_below_drewN | apply below_drew1) | exact HB.out)) hb); clear HB; have HB := n0_; clear n0_; (try clear hb); (try clear hb2); (try clear hk); (try clear hi)) | ((with_reducible refine gate_dst (N := 7) rfl ?_); (try (refine gate_guard (by rfl) ?_; dsimp only)); refine box_event ?hg (N := 7) ?hd (cs := #[.string (⟨#[]⟩ : ByteArray), .string (⟨#[]⟩ : ByteArray), .string (⟨#[]⟩ : ByteArray), .string (⟨#[]⟩ : ByteArray), .string (⟨#[]⟩ : ByteArray)]) (t := 24) ?hr ?_; (case hd => rfl); (case hg => rfl); (case hr => first | (go_simp; done) | (go_simp; rfl)); intro gb331 hg w44 hbox hb; have n0_ := Aside0.mk (below_step (by repeat (first | (with_reducible first | exact HB.out | apply below_alloc | apply pw_below_drewN | apply below_drew1) | exact HB.out)) hb); have n1_ := Aside0.mk (hbox); have n2_ := Aside0.mk ((by rw [hg]; exact (below_size (by repeat (first | (with_reducible first | exact HB.out | apply below_alloc | apply pw_below_drewN | apply below_drew1) | exact HB.out))) : w.heap.size ≤ gb331)); have n3_ := Aside0.mk ((by rw [hg]; exact (below_size (by repeat (first | (with_reducible first | exact HB.out | apply below_alloc | apply pw_below_drewN | apply below_drew1) | exact HB.out))) : w.heap.size ≤ gb331)); clear HB; have HB := n0_; have BK331 := n1_; have GW331 := n2_; have GE331 := n3_; clear n0_ n1_ n2_ n3_; clear hb hbox hg; have hcz45_0 : w44.cell? ⟨gb331, 0, none⟩ = some (.string (⟨#[]⟩ : ByteArray)) := (blk_cell BK331.out 0).trans rfl; have hcz45_1 : w44.cell? ⟨gb331, 1, none⟩ = some (.string (⟨#[]⟩ : ByteArray)) := (blk_cell BK331.out 1).trans rfl; have hcz45_2 : w44.cell? ⟨gb331, 2, none⟩ = some (.string (⟨#[]⟩ : ByteArray)) := (blk_cell BK331.out 2).trans rfl; have hcz45_3 : w44.cell? ⟨gb331, 3, none⟩ = some (.string (⟨#[]⟩ : ByteArray)) := (blk_cell BK331.out 3).trans rfl; have hcz45_4 : w44.cell? ⟨gb331, 4, none⟩ = some (.string (⟨#[]⟩ : ByteArray)) := (blk_cell BK331.out 4).trans rfl; have hfz45_0 := blk_frozen BK331.out 0; have hfz45_1 := blk_frozen BK331.out 1; have hfz45_2 := blk_frozen BK331.out 2; have hfz45_3 := blk_frozen BK331.out 3; have hfz45_4 := blk_frozen BK331.out 4))
        go_ret
        exact ⟨by first | rfl | (simp [errW_none, errW_some] <;> rfl) | (simp [*, errW_none, errW_some] <;> rfl), by repeat (first | (with_reducible first | exact HB.out | apply below_alloc | apply pw_below_drewN | apply below_drew1 | refine below_set ?_ GE331.out) | exact HB.out)⟩
  · replace c5 := Bool.eq_false_iff.mpr c5
    subst c5
    have H1 : (some false) = some r := by rw [if_neg (show ¬ (false = true) by decide)] at H; exact H
    clear H
    have H := H1
    clear H1
    exact absurd (Option.some.inj H) (by rw [HR_.out]; simp)

end Go.Proofs.YtpikebpjlhccbaaGreatDoor.PAll
