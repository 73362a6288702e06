-- Laid by a program of this session (wip/pp in the repo) out of the translation. Lean checks it.
import Derived.Test.YtpikebpjlhccbaaGreatDoorPAllx0
import Derived.Test.YtpikebpjlhccbaaGreatDoorPAllx1
import Derived.Test.YtpikebpjlhccbaaGreatDoorPAllx7
import Derived.Test.YtpikebpjlhccbaaGreatDoorPAllx16
import Derived.Test.YtpikebpjlhccbaaGreatDoorGiveRead
namespace Go.Proofs.YtpikebpjlhccbaaGreatDoor.PAll
open Go.RowKit Go.Proofs.YtpikebpjlhccbaaGreatDoorW.PrintWords Go.Proofs.YtpikebpjlhccbaaGreatDoorW.PrintLast Go.Proofs.YtpikebpjlhccbaaGreatDoorW.PrintMore
attribute [local go_sem] max2_int min2_int max_two min_two max_three min_three max_four min_four   -- for this text's walks alone
set_option linter.unusedVariables false
set_option linter.unusedSimpArgs false

attribute [local go_sem high] eqA24
/-! ### pennantlaw22_HttpMany: function 7 -/
mutual
def pennantlaw22_HttpMany.l0 : Nat → ByteArray → List (S24) → List (S24) → Int → Int → Option (Bool)
  | 0, _, _, _, _, _ => none
  | k + 1, x3, x4, x19, x20, x21 => if x21 < x20 then (if 0 ≤ x21 then (if x21 < (x19.length : Int) then ((http_WriteRequest.f k ((rd_T24 x19 x21).f0) ((rd_T24 x19 x21).f1) ((rd_T24 x19 x21).f2) ((rd_T24 x19 x21).f3) ((rd_T24 x19 x21).f4)).bind fun bt400 => (if bt400.2 = 0 then (if x3.size + bt400.1.size ≤ 9223372036854775807 then (if x4.length < 1759218604441 then (pennantlaw22_HttpMany.l0 k (x3 ++ bt400.1) (x4 ++ [(⟨(rd_T24 x19 x21).f0, (rd_T24 x19 x21).f1, (rd_T24 x19 x21).f2, (rd_T24 x19 x21).f3, (rd_T24 x19 x21).f4⟩ : S24)]) x19 x20 (wrap64 (x21 + 1))) else (none)) else (none)) else (pennantlaw22_HttpMany.l0 k x3 x4 x19 x20 (wrap64 (x21 + 1))))) else (none)) else (none)) else (pennantlaw22_HttpMany.l1 k x3 x4 (x4.length : Int) 0)
def pennantlaw22_HttpMany.l1 : Nat → ByteArray → List (S24) → Int → Int → Option (Bool)
  | 0, _, _, _, _ => none
  | k + 1, x3, x40, x41, x42 => if x42 < x41 then (if 0 ≤ x42 then (if x42 < (x40.length : Int) then ((http_ReadRequest.f k x3).bind fun bt407 => (if bt407.2.2.2.2.2.2 = 0 then (if (!(bt407.1.toList == (((rd_T24 x40 x42).f0).toList)) || (!(bt407.2.1.toList == (((rd_T24 x40 x42).f1).toList)) || (!(bt407.2.2.1.toList == (((rd_T24 x40 x42).f2).toList)) || (!(bt407.2.2.2.1.toList == (((rd_T24 x40 x42).f3).toList)) || (!(bt407.2.2.2.2.1.toList == (((rd_T24 x40 x42).f4).toList))))))) = true then (some false) else (if bt407.2.2.2.2.2.1 < 1 then (some false) else (if bt407.2.2.2.2.2.1 > (x3.size : Int) then (some false) else (if 0 ≤ bt407.2.2.2.2.2.1 then (if bt407.2.2.2.2.2.1 ≤ (x3.size : Int) then (pennantlaw22_HttpMany.l1 k (x3.extract (bt407.2.2.2.2.2.1 : Int).toNat x3.size) x40 x41 (wrap64 (x42 + 1))) else (none)) else (none))))) else (some false))) else (none)) else (none)) else (some (x3.toList == ([] : List UInt8)))
end
def pennantlaw22_HttpMany.f (k : Nat) (l0 : List (S24)) : Option (Bool) := (pennantlaw22_awake.f k).bind fun t397 => (if t397 = true then (if (l0.length : Int) > 8 then (some true) else (pennantlaw22_HttpMany.l0 k (⟨#[]⟩ : ByteArray) ([] : List (S24)) l0 (l0.length : Int) 0)) else (some false))
theorem pennantlaw22_HttpMany.mono_l : ∀ k, (∀ y0 y1 y2 y3 y4, LeO (pennantlaw22_HttpMany.l0 k y0 y1 y2 y3 y4) (pennantlaw22_HttpMany.l0 (k + 1) y0 y1 y2 y3 y4)) ∧ (∀ y0 y1 y2 y3, LeO (pennantlaw22_HttpMany.l1 k y0 y1 y2 y3) (pennantlaw22_HttpMany.l1 (k + 1) y0 y1 y2 y3))
  | 0 => ⟨fun _ _ _ _ _ r h => by simp [pennantlaw22_HttpMany.l0] at h, fun _ _ _ _ r h => by simp [pennantlaw22_HttpMany.l1] at h⟩
  | k + 1 => by
    obtain ⟨ih0, ih1⟩ := pennantlaw22_HttpMany.mono_l k
    refine ⟨?_, ?_⟩
    · intro y0 y1 y2 y3 y4
      unfold pennantlaw22_HttpMany.l0
      repeat' first
      | (with_reducible exact ih0 _ _ _ _ _)
      | (with_reducible exact ih1 _ _ _ _)
      | (with_reducible exact http_ReadRequest.mono _ _)
      | (with_reducible exact http_WriteRequest.mono _ _ _ _ _ _)
      | (with_reducible exact pennantlaw22_awake.mono _)
      | (with_reducible exact LeO.refl _)
      | (with_reducible exact LeO.none _)
      | (with_reducible refine LeO.ite ?_ ?_)
      | (with_reducible refine LeO.bind ?_ (fun _ => ?_))
      | exact ih0 _ _ _ _ _
      | exact ih1 _ _ _ _
      | exact http_ReadRequest.mono _ _
      | exact http_WriteRequest.mono _ _ _ _ _ _
      | exact pennantlaw22_awake.mono _
      | exact LeO.none _
      | refine LeO.ite ?_ ?_
      | refine LeO.bind ?_ (fun _ => ?_)
    · intro y0 y1 y2 y3
      unfold pennantlaw22_HttpMany.l1
      repeat' first
      | (with_reducible exact ih0 _ _ _ _ _)
      | (with_reducible exact ih1 _ _ _ _)
      | (with_reducible exact http_ReadRequest.mono _ _)
      | (with_reducible exact http_WriteRequest.mono _ _ _ _ _ _)
      | (with_reducible exact pennantlaw22_awake.mono _)
      | (with_reducible exact LeO.refl _)
      | (with_reducible exact LeO.none _)
      | (with_reducible refine LeO.ite ?_ ?_)
      | (with_reducible refine LeO.bind ?_ (fun _ => ?_))
      | exact ih0 _ _ _ _ _
      | exact ih1 _ _ _ _
      | exact http_ReadRequest.mono _ _
      | exact http_WriteRequest.mono _ _ _ _ _ _
      | exact pennantlaw22_awake.mono _
      | exact LeO.none _
      | refine LeO.ite ?_ ?_
      | refine LeO.bind ?_ (fun _ => ?_)
theorem pennantlaw22_HttpMany.mono : ∀ a0 k, LeO (pennantlaw22_HttpMany.f k a0) (pennantlaw22_HttpMany.f (k + 1) a0) := by
  intro a0 k
  obtain ⟨ih0, ih1⟩ := pennantlaw22_HttpMany.mono_l k
  unfold pennantlaw22_HttpMany.f
  repeat' first
      | (with_reducible exact ih0 _ _ _ _ _)
      | (with_reducible exact ih1 _ _ _ _)
      | (with_reducible exact http_ReadRequest.mono _ _)
      | (with_reducible exact http_WriteRequest.mono _ _ _ _ _ _)
      | (with_reducible exact pennantlaw22_awake.mono _)
      | (with_reducible exact LeO.refl _)
      | (with_reducible exact LeO.none _)
      | (with_reducible refine LeO.ite ?_ ?_)
      | (with_reducible refine LeO.bind ?_ (fun _ => ?_))
      | exact ih0 _ _ _ _ _
      | exact ih1 _ _ _ _
      | exact http_ReadRequest.mono _ _
      | exact http_WriteRequest.mono _ _ _ _ _ _
      | exact pennantlaw22_awake.mono _
      | exact LeO.none _
      | refine LeO.ite ?_ ?_
      | refine LeO.bind ?_ (fun _ => ?_)
set_option maxHeartbeats 8000000 in
set_option maxRecDepth 100000 in
theorem pennantlaw22_HttpMany.calls (k : Nat) (A0 : Option Addr) (c0 : Nat) (l0 : List (S24)) (r : Bool) (w : World) (hr0 : Kd.C k24 w A0 l0.length l0) (hc0 : l0.length ≤ c0) (hT : Aside0 (TabsOk w)) (h : pennantlaw22_HttpMany.f k l0 = some r) (hr_ : r = true := by rfl) :
    Calls Tryz.prog 7 #[.slice A0 l0.length c0] w fun e w' => e = .returned (.bool r) ∧ Below w.heap.size w w' := by
  have hu24 := Tryz.underlying24
  have HR_ := Aside0.mk hr_
  clear hr_
  have HR0 := Aside0.mk hr0
  have HC0 := Aside0.mk hc0
  clear hr0 hc0
  have HB := Aside0.mk (Below.refl w.heap.size w)
  have H : ((pennantlaw22_awake.f k).bind fun t397 => (if t397 = true then (if (l0.length : Int) > 8 then (some true) else (pennantlaw22_HttpMany.l0 k (⟨#[]⟩ : ByteArray) ([] : List (S24)) l0 (l0.length : Int) 0)) else (some false))) = some r := h
  clear h
  replace H := Option.bind_eq_some_iff.mp H
  obtain ⟨t397, A20, H⟩ := H
  replace H : (if t397 = true then (if (l0.length : Int) > 8 then (some true) else (pennantlaw22_HttpMany.l0 k (⟨#[]⟩ : ByteArray) ([] : List (S24)) l0 (l0.length : Int) 0)) else (some false)) = some r := H
  have A2 := Aside0.mk A20
  clear A20
  by_cases c3 : t397 = true
  · subst c3
    have H1 : (if (l0.length : Int) > 8 then (some true) else (pennantlaw22_HttpMany.l0 k (⟨#[]⟩ : ByteArray) ([] : List (S24)) l0 (l0.length : Int) 0)) = some r := by rw [if_pos rfl] at H; exact H
    clear H
    have H := H1
    clear H1
    by_cases c4 : (l0.length : Int) > 8
    · rw [if_pos c4] at H
      have c4b0 : decide (8 < (l0.length : Int)) = true := decide_eq_true c4
      have c4b1 : decide (8 < l0.length) = true := decide_eq_true (by omega)
      clear c4
      obtain rfl := Option.some.inj H
      go_enter Tryz.func7, Tryz.ntmps7
      go_wp2_with (first | ((with_reducible refine gate_callee (f := 9) rfl ?_); refine goesL_ (some 14) rfl rfl Tryz.func9 (by kernel_rfl) rfl #[] rfl (by (try simp only [List.map_toArray, List.map_cons, List.map_nil]); first | done | rfl | (simp only [List.length_drop, List.length_take]; rfl)) ?_; (with_reducible refine (pennantlaw22_awake.calls k  true _ ?side1 A2.out).mono ?_); (case side1 => exact ⟨TabsOk.below hT.out (by repeat (first | (with_reducible first | exact HB.out | apply below_alloc | apply pw_below_drewN | apply below_drew1) | exact HB.out))⟩); rintro e w5 ⟨rfl, hb⟩; refine ⟨_, rfl, ?_⟩; have n0_ := Aside0.mk (below_step (by repeat (first | (with_reducible first | exact HB.out | apply below_alloc | apply pw_below_drewN | apply below_drew1) | exact HB.out)) hb); clear HB; have HB := n0_; clear n0_; (try clear hb); (try clear hb2); (try clear hk); (try clear hi)))
      go_ret
      exact ⟨by first | rfl | (simp [errW_none, errW_some] <;> rfl) | (simp [*, errW_none, errW_some] <;> rfl), by repeat (first | (with_reducible first | exact HB.out | apply below_alloc | apply pw_below_drewN | apply below_drew1) | exact HB.out)⟩
    · rw [if_neg c4] at H
      have c4b0 : decide (8 < (l0.length : Int)) = false := decide_eq_false c4
      have c4b1 : decide (8 < l0.length) = false := decide_eq_false (by omega)
      clear c4
      have H' := Aside0.mk H
      clear H
      go_enter Tryz.func7, Tryz.ntmps7
      go_wp2_with (first | ((with_reducible refine gate_callee (f := 9) rfl ?_); refine goesL_ (some 14) rfl rfl Tryz.func9 (by kernel_rfl) rfl #[] rfl (by (try simp only [List.map_toArray, List.map_cons, List.map_nil]); first | done | rfl | (simp only [List.length_drop, List.length_take]; rfl)) ?_; (with_reducible refine (pennantlaw22_awake.calls k  true _ ?side1 A2.out).mono ?_); (case side1 => exact ⟨TabsOk.below hT.out (by repeat (first | (with_reducible first | exact HB.out | apply below_alloc | apply pw_below_drewN | apply below_drew1) | exact HB.out))⟩); rintro e w6 ⟨rfl, hb⟩; refine ⟨_, rfl, ?_⟩; have n0_ := Aside0.mk (below_step (by repeat (first | (with_reducible first | exact HB.out | apply below_alloc | apply pw_below_drewN | apply below_drew1) | exact HB.out)) hb); clear HB; have HB := n0_; clear n0_; (try clear hb); (try clear hb2); (try clear hk); (try clear hi)))
      go_loopg [3, 4, 21] k (fun kq v3 v4 v21 w' => ∃ (x3_1 : ByteArray) (x4_1 : List (S24)) (x21_1 : Int), v3 = .string x3_1 ∧ v21 = .int .i64 x21_1 ∧ Aside0 (pennantlaw22_HttpMany.l0 kq x3_1 x4_1 l0 (l0.length : Int) x21_1 = some r) ∧ Aside0 (kq ≤ k) ∧ Aside0 (Kd.R k24 24 w' w.heap.size (fun _ => True) v4 x4_1) ∧ Aside0 (Below w.heap.size w w'))
      case atStart => exact ⟨((⟨#[]⟩ : ByteArray)), (([] : List (S24))), (0), (by first | rfl | (simp; done) | (simp [*]; done)), (by first | rfl | (simp; done) | (simp [*]; done)), H', ⟨Nat.le_refl _⟩, ⟨by first | exact Kd.R_nil _ _ _ _ _ | exact Kd.N_nil _ _ _ _ _ | exact Kd.V_nil _ _ _ _ _ | exact Kd.Q_nil _ _ _ _ _ | exact Kd.S_nil _ _ _ _ _⟩, ⟨by repeat (first | (with_reducible first | exact HB.out | apply below_alloc | apply pw_below_drewN | apply below_drew1) | exact HB.out)⟩⟩
      case round =>
        clear H'
        try clear p2
        try clear c3
        try clear c4
        try clear c4b0
        try clear c4b1
        obtain ⟨x3_1, x4_1, x21_1, rfl, rfl, HA, HK1, HO_4, HB⟩ := hrel
        cases gk with
        | zero => exact absurd HA.out (by simp [pennantlaw22_HttpMany.l0])
        | succ k1 =>
          have H := HA.out
          clear HA
          simp only [pennantlaw22_HttpMany.l0] at H
          by_cases c7 : x21_1 < (l0.length : Int)
          · rw [if_pos c7] at H
            have c7b0 : decide (x21_1 < (l0.length : Int)) = true := decide_eq_true c7
            clear c7
            by_cases c8 : 0 ≤ x21_1
            · rw [if_pos c8] at H
              have c8b0 : decide (0 ≤ x21_1) = true := decide_eq_true c8
              clear c8
              by_cases c9 : x21_1 < (l0.length : Int)
              · rw [if_pos c9] at H
                have c9b0 : decide (x21_1 < (l0.length : Int)) = true := decide_eq_true c9
                clear c9
                replace H := Option.bind_eq_some_iff.mp H
                obtain ⟨⟨t400, t401⟩, A100, H⟩ := H
                replace H : (if t401 = 0 then (if x3_1.size + t400.size ≤ 9223372036854775807 then (if x4_1.length < 1759218604441 then (pennantlaw22_HttpMany.l0 k1 (x3_1 ++ t400) (x4_1 ++ [(⟨(rd_T24 l0 x21_1).f0, (rd_T24 l0 x21_1).f1, (rd_T24 l0 x21_1).f2, (rd_T24 l0 x21_1).f3, (rd_T24 l0 x21_1).f4⟩ : S24)]) l0 (l0.length : Int) (wrap64 (x21_1 + 1))) else (none)) else (none)) else (pennantlaw22_HttpMany.l0 k1 x3_1 x4_1 l0 (l0.length : Int) (wrap64 (x21_1 + 1)))) = some r := H
                have A10 := Aside0.mk A100
                clear A100
                by_cases c11 : t401 = 0
                · rw [if_pos c11] at H
                  have c11b0 : (t401 == 0) = true := beq_iff_eq.mpr c11
                  have c11b1 : (t401 != 0) = false := bne_eq_false_iff_eq.mpr c11
                  clear c11
                  by_cases c12 : x3_1.size + t400.size ≤ 9223372036854775807
                  · rw [if_pos c12] at H
                    have c12b0 := eq_true c12
                    have c12b1 : decide (x3_1.size + t400.size ≤ 9223372036854775807) = true := decide_eq_true c12
                    try have c12b2 : (9223372036854775807 < x3_1.size + t400.size) = False := eq_false (Nat.not_lt.2 c12)
                    by_cases c13 : x4_1.length < 1759218604441
                    · rw [if_pos c13] at H
                      have LMc13 := Aside0.mk c13
                      clear c13
                      obtain ⟨y402, hy402⟩ : ∃ y_ : List (S24), y_ = (x4_1 ++ [(⟨(rd_T24 l0 x21_1).f0, (rd_T24 l0 x21_1).f1, (rd_T24 l0 x21_1).f2, (rd_T24 l0 x21_1).f3, (rd_T24 l0 x21_1).f4⟩ : S24)]) := ⟨_, rfl⟩
                      replace H : (pennantlaw22_HttpMany.l0 k1 (x3_1 ++ t400) y402 l0 (l0.length : Int) (wrap64 (x21_1 + 1))) = some r := by first | (rw [hy402]; with_reducible exact H) | (have H2_ := (Option.bind_some _ _).symm.trans H; rw [hy402]; with_reducible exact H2_) | (have H2_ := (Option.bind_some _ _).symm.trans H; with_reducible exact H2_) | with_reducible exact H | (rw [hy402]; exact H) | exact H
                      have Ny402 := Aside0.mk hy402
                      clear hy402
                      have H' := Aside0.mk H
                      clear H
                      have p398 : 0 ≤ (x21_1 : Int) := of_decide_eq_true (by first | (with_reducible assumption) | assumption)
                      have q398 : x21_1 < (l0.length : Int) := of_decide_eq_true (by first | (with_reducible assumption) | assumption)
                      obtain ⟨ad398, e398, hx398_0, hx398_1, hx398_2, hx398_3, hx398_4⟩ := at_T24 HR0.out x21_1 p398 q398
                      cases e398
                      replace hx398_0 := (HB.out.cell (World.block_lt_of_cell? w _ hx398_0)).trans hx398_0
                      replace hx398_1 := (HB.out.cell (World.block_lt_of_cell? w _ hx398_1)).trans hx398_1
                      replace hx398_2 := (HB.out.cell (World.block_lt_of_cell? w _ hx398_2)).trans hx398_2
                      replace hx398_3 := (HB.out.cell (World.block_lt_of_cell? w _ hx398_3)).trans hx398_3
                      replace hx398_4 := (HB.out.cell (World.block_lt_of_cell? w _ hx398_4)).trans hx398_4
                      replace p398 := eq_true p398
                      replace q398 := eq_true q398
                      go_wp2_with (first | ((with_reducible refine gate_dst (N := 6) rfl ?_); (try (refine gate_guard (by rfl) ?_; dsimp only)); refine box_event ?hg (N := 6) ?hd (cs := #[.string (⟨#[]⟩ : ByteArray), .string (⟨#[]⟩ : ByteArray), .string (⟨#[]⟩ : ByteArray), .string (⟨#[]⟩ : ByteArray), .string (⟨#[]⟩ : ByteArray)]) (t := 24) ?hr ?_; (case hd => rfl); (case hg => rfl); (case hr => first | (go_simp; done) | (go_simp; rfl)); intro gb399 hg w14 hbox hb; have n0_ := Aside0.mk (Kd.R_below (Kd.R_elderB (by (with_reducible repeat (first | apply Kd.R_alloc | apply Kd.R_drewN | apply Kd.R_drew)); exact HO_4.out) gb399 (Nat.le_of_eq hg.symm)) hb); have n1_ := Aside0.mk (below_step (by repeat (first | (with_reducible first | exact HB.out | apply below_alloc | apply pw_below_drewN | apply below_drew1) | exact HB.out)) hb); have n2_ := Aside0.mk (hbox); have n3_ := Aside0.mk ((by rw [hg]; exact (below_size (by repeat (first | (with_reducible first | exact HB.out | apply below_alloc | apply pw_below_drewN | apply below_drew1) | exact HB.out))) : w.heap.size ≤ gb399)); have n4_ := Aside0.mk ((by rw [hg]; exact (below_size (by repeat (first | (with_reducible first | exact HB.out | apply below_alloc | apply pw_below_drewN | apply below_drew1) | exact HB.out))) : w.heap.size ≤ gb399)); clear HO_4; clear HB; have HO_4 := n0_; have HB := n1_; have BK399 := n2_; have GW399 := n3_; have GE399 := n4_; clear n0_ n1_ n2_ n3_ n4_; clear hb hbox hg; have hcz15_0 : w14.cell? ⟨gb399, 0, none⟩ = some (.string (⟨#[]⟩ : ByteArray)) := (blk_cell BK399.out 0).trans rfl; have hcz15_1 : w14.cell? ⟨gb399, 1, none⟩ = some (.string (⟨#[]⟩ : ByteArray)) := (blk_cell BK399.out 1).trans rfl; have hcz15_2 : w14.cell? ⟨gb399, 2, none⟩ = some (.string (⟨#[]⟩ : ByteArray)) := (blk_cell BK399.out 2).trans rfl; have hcz15_3 : w14.cell? ⟨gb399, 3, none⟩ = some (.string (⟨#[]⟩ : ByteArray)) := (blk_cell BK399.out 3).trans rfl; have hcz15_4 : w14.cell? ⟨gb399, 4, none⟩ = some (.string (⟨#[]⟩ : ByteArray)) := (blk_cell BK399.out 4).trans rfl; have hfz15_0 := blk_frozen BK399.out 0; have hfz15_1 := blk_frozen BK399.out 1; have hfz15_2 := blk_frozen BK399.out 2; have hfz15_3 := blk_frozen BK399.out 3; have hfz15_4 := blk_frozen BK399.out 4) | ((with_reducible refine gate_callee (f := 14) rfl ?_); refine goesL_ (some 27) rfl rfl Tryz.func14 (by kernel_rfl) rfl #[.agg #[.string ((rd_T24 l0 x21_1).f0), .string ((rd_T24 l0 x21_1).f1), .string ((rd_T24 l0 x21_1).f2), .string ((rd_T24 l0 x21_1).f3), .string ((rd_T24 l0 x21_1).f4)]] rfl (by (try simp only [List.map_toArray, List.map_cons, List.map_nil]); first | done | rfl | (simp only [List.length_drop, List.length_take]; rfl)) ?_; (with_reducible refine (http_WriteRequest.calls k1 ((rd_T24 l0 x21_1).f0) ((rd_T24 l0 x21_1).f1) ((rd_T24 l0 x21_1).f2) ((rd_T24 l0 x21_1).f3) ((rd_T24 l0 x21_1).f4) t400 t401 _ ?side1 A10.out).mono ?_); (case side1 => exact ⟨TabsOk.below hT.out (by repeat (first | (with_reducible first | exact HB.out | apply below_alloc | apply pw_below_drewN | apply below_drew1 | refine below_set ?_ GE399.out) | exact HB.out))⟩); rintro e w16 ⟨rfl, hb⟩; refine ⟨_, rfl, ?_⟩; have n0_ := Aside0.mk (Kd.R_below (by (with_reducible repeat (first | apply Kd.R_alloc | apply Kd.R_drewN | apply Kd.R_drew)); exact (Kd.R_mono (Kd.R_far (p := ⟨gb399, 4, none⟩) (Kd.R_far (p := ⟨gb399, 3, none⟩) (Kd.R_far (p := ⟨gb399, 2, none⟩) (Kd.R_far (p := ⟨gb399, 1, none⟩) (Kd.R_far (p := ⟨gb399, 0, none⟩) (Kd.R_mono HO_4.out (fun k_ hk => (⟨hk, hk.2⟩ : _ ∧ k_ ≠ gb399))) (fun _ hk => hk.2) (.string ((rd_T24 l0 x21_1).f0))) (fun _ hk => hk.2) (.string ((rd_T24 l0 x21_1).f1))) (fun _ hk => hk.2) (.string ((rd_T24 l0 x21_1).f2))) (fun _ hk => hk.2) (.string ((rd_T24 l0 x21_1).f3))) (fun _ hk => hk.2) (.string ((rd_T24 l0 x21_1).f4))) (fun _ h_ => h_.1))) hb); have n1_ := Aside0.mk (blk_below (g := gb399) (o := .cells #[.string ((rd_T24 l0 x21_1).f0), .string ((rd_T24 l0 x21_1).f1), .string ((rd_T24 l0 x21_1).f2), .string ((rd_T24 l0 x21_1).f3), .string ((rd_T24 l0 x21_1).f4)] 24 (0, 0)) (by (with_reducible repeat (first | refine blk_drewN ?_ _ | refine blk_drew ?_ | refine blk_alloc ?_ _)); refine blk_put (cs := #[.string ((rd_T24 l0 x21_1).f0), .string ((rd_T24 l0 x21_1).f1), .string ((rd_T24 l0 x21_1).f2), .string ((rd_T24 l0 x21_1).f3), .string (⟨#[]⟩ : ByteArray)]) ?_ 4 _ rfl; (with_reducible repeat (first | refine blk_drewN ?_ _ | refine blk_drew ?_ | refine blk_alloc ?_ _)); refine blk_put (cs := #[.string ((rd_T24 l0 x21_1).f0), .string ((rd_T24 l0 x21_1).f1), .string ((rd_T24 l0 x21_1).f2), .string (⟨#[]⟩ : ByteArray), .string (⟨#[]⟩ : ByteArray)]) ?_ 3 _ rfl; (with_reducible repeat (first | refine blk_drewN ?_ _ | refine blk_drew ?_ | refine blk_alloc ?_ _)); refine blk_put (cs := #[.string ((rd_T24 l0 x21_1).f0), .string ((rd_T24 l0 x21_1).f1), .string (⟨#[]⟩ : ByteArray), .string (⟨#[]⟩ : ByteArray), .string (⟨#[]⟩ : ByteArray)]) ?_ 2 _ rfl; (with_reducible repeat (first | refine blk_drewN ?_ _ | refine blk_drew ?_ | refine blk_alloc ?_ _)); refine blk_put (cs := #[.string ((rd_T24 l0 x21_1).f0), .string (⟨#[]⟩ : ByteArray), .string (⟨#[]⟩ : ByteArray), .string (⟨#[]⟩ : ByteArray), .string (⟨#[]⟩ : ByteArray)]) ?_ 1 _ rfl; (with_reducible repeat (first | refine blk_drewN ?_ _ | refine blk_drew ?_ | refine blk_alloc ?_ _)); refine blk_put (cs := #[.string (⟨#[]⟩ : ByteArray), .string (⟨#[]⟩ : ByteArray), .string (⟨#[]⟩ : ByteArray), .string (⟨#[]⟩ : ByteArray), .string (⟨#[]⟩ : ByteArray)]) ?_ 0 _ rfl; (with_reducible repeat (first | refine blk_drewN ?_ _ | refine blk_drew ?_ | refine blk_alloc ?_ _)); exact BK399.out) hb); have n2_ := Aside0.mk (below_step (by repeat (first | (with_reducible first | exact HB.out | apply below_alloc | apply pw_below_drewN | apply below_drew1 | refine below_set ?_ GE399.out) | exact HB.out)) hb); clear HO_4; clear BK399; clear HB; have HO_4 := n0_; have BK399 := n1_; have HB := n2_; clear n0_ n1_ n2_; (try clear hb); (try clear hb2); (try clear hk); (try clear hi); have hcz17_0 : w16.cell? ⟨gb399, 0, none⟩ = some (.string ((rd_T24 l0 x21_1).f0)) := (blk_cell BK399.out 0).trans rfl; have hcz17_1 : w16.cell? ⟨gb399, 1, none⟩ = some (.string ((rd_T24 l0 x21_1).f1)) := (blk_cell BK399.out 1).trans rfl; have hcz17_2 : w16.cell? ⟨gb399, 2, none⟩ = some (.string ((rd_T24 l0 x21_1).f2)) := (blk_cell BK399.out 2).trans rfl; have hcz17_3 : w16.cell? ⟨gb399, 3, none⟩ = some (.string ((rd_T24 l0 x21_1).f3)) := (blk_cell BK399.out 3).trans rfl; have hcz17_4 : w16.cell? ⟨gb399, 4, none⟩ = some (.string ((rd_T24 l0 x21_1).f4)) := (blk_cell BK399.out 4).trans rfl; have hfz17_0 := blk_frozen BK399.out 0; have hfz17_1 := blk_frozen BK399.out 1; have hfz17_2 := blk_frozen BK399.out 2; have hfz17_3 := blk_frozen BK399.out 3; have hfz17_4 := blk_frozen BK399.out 4) | ((with_reducible refine gate_builtin (b := .append) (xs := #[.tmp 35, .tmp 37]) rfl ?_); (try (refine gate_guard (by rfl) ?_; dsimp only)); at_builtin; refine Kd.R_append k24 (w0 := w) w.heap.size rfl (.tmp 35) (.tmp 37) 47 24 (.agg #[(.string ⟨#[]⟩), (.string ⟨#[]⟩), (.string ⟨#[]⟩), (.string ⟨#[]⟩), (.string ⟨#[]⟩)]) 80 rfl Tryz.underlying47 info24 rfl (by decide) (by omega) u4 x4_1 (⟨(rd_T24 l0 x21_1).f0, (rd_T24 l0 x21_1).f1, (rd_T24 l0 x21_1).f2, (rd_T24 l0 x21_1).f3, (rd_T24 l0 x21_1).f4⟩ : S24) [.string ((rd_T24 l0 x21_1).f0), .string ((rd_T24 l0 x21_1).f1), .string ((rd_T24 l0 x21_1).f2), .string ((rd_T24 l0 x21_1).f3), .string ((rd_T24 l0 x21_1).f4)] (fun k_ => k_ ≠ gb399) (fun _ => False) rfl rfl ?aP (fun _ hk => hk.elim) ?aF ?aO ?aB ?aS ?aL ?_; (case aP => exact k24_mkM _ _ _ (⟨(rd_T24 l0 x21_1).f0, (rd_T24 l0 x21_1).f1, (rd_T24 l0 x21_1).f2, (rd_T24 l0 x21_1).f3, (rd_T24 l0 x21_1).f4⟩ : S24)); (case aB => exact (by repeat (first | (with_reducible first | exact HB.out | apply below_alloc | apply pw_below_drewN | apply below_drew1 | refine below_set ?_ GE399.out) | exact HB.out))); (case aF => exact (fun k_ hk => Kd.freshB (g := gb399) (o := .cells #[.string ((rd_T24 l0 x21_1).f0), .string ((rd_T24 l0 x21_1).f1), .string ((rd_T24 l0 x21_1).f2), .string ((rd_T24 l0 x21_1).f3), .string ((rd_T24 l0 x21_1).f4)] 24 (0, 0)) (by (with_reducible repeat (first | refine blk_drewN ?_ _ | refine blk_drew ?_ | refine blk_alloc ?_ _)); exact BK399.out) k_ hk)); (case aO => exact (by (with_reducible repeat (first | apply Kd.R_alloc | apply Kd.R_drewN | apply Kd.R_drew)); exact Kd.R_mono HO_4.out (fun _ hk => hk.2))); (case aS => exact (below_size (by repeat (first | (with_reducible first | exact HB.out | apply below_alloc | apply pw_below_drewN | apply below_drew1 | refine below_set ?_ GE399.out) | exact HB.out)))); (case aL => have := LMc13.out; omega); intro v403 w18 ho hb hg hat; rw [← Ny402.out] at ho; have n0_ := Aside0.mk (blk_grown (g := gb399) (o := .cells #[.string ((rd_T24 l0 x21_1).f0), .string ((rd_T24 l0 x21_1).f1), .string ((rd_T24 l0 x21_1).f2), .string ((rd_T24 l0 x21_1).f3), .string ((rd_T24 l0 x21_1).f4)] 24 (0, 0)) (by (with_reducible repeat (first | refine blk_drewN ?_ _ | refine blk_drew ?_ | refine blk_alloc ?_ _)); exact BK399.out) hg (Kd.R_away HO_4.out (fun _ hk => hk.2))); have n1_ := Aside0.mk (hb); have n2_ := Aside0.mk (ho); clear BK399; clear HB; clear HO_4; have BK399 := n0_; have HB := n1_; have HO404 := n2_; clear n0_ n1_ n2_; clear ho hb hg hat))
                      go_roundg k1
                      case measure => have := HK1.out; omega
                      case rel => exact ⟨(x3_1 ++ t400), (y402), (wrap64 (x21_1 + 1)), (by first | rfl | (simp; done) | (simp [*]; done)), (by first | rfl | (simp; done) | (simp [*]; done)), H', ⟨by have := HK1.out; omega⟩, ⟨by (with_reducible repeat (first | apply Kd.R_alloc | apply Kd.R_drewN | apply Kd.R_drew)); exact Kd.R_mono HO404.out (fun _ hk => trivial)⟩, ⟨by repeat (first | (with_reducible first | exact HB.out | apply below_alloc | apply pw_below_drewN | apply below_drew1 | refine below_set ?_ GE399.out) | exact HB.out)⟩⟩
                    · rw [if_neg c13] at H
                      exact absurd H (by simp)
                  · rw [if_neg c12] at H
                    exact absurd H (by simp)
                · rw [if_neg c11] at H
                  have c11b0 : (t401 == 0) = false := beq_eq_false_iff_ne.mpr c11
                  have c11b1 : (t401 != 0) = true := bne_iff_ne.mpr c11
                  have H' := Aside0.mk H
                  clear H
                  have p398 : 0 ≤ (x21_1 : Int) := of_decide_eq_true (by first | (with_reducible assumption) | assumption)
                  have q398 : x21_1 < (l0.length : Int) := of_decide_eq_true (by first | (with_reducible assumption) | assumption)
                  obtain ⟨ad398, e398, hx398_0, hx398_1, hx398_2, hx398_3, hx398_4⟩ := at_T24 HR0.out x21_1 p398 q398
                  cases e398
                  replace hx398_0 := (HB.out.cell (World.block_lt_of_cell? w _ hx398_0)).trans hx398_0
                  replace hx398_1 := (HB.out.cell (World.block_lt_of_cell? w _ hx398_1)).trans hx398_1
                  replace hx398_2 := (HB.out.cell (World.block_lt_of_cell? w _ hx398_2)).trans hx398_2
                  replace hx398_3 := (HB.out.cell (World.block_lt_of_cell? w _ hx398_3)).trans hx398_3
                  replace hx398_4 := (HB.out.cell (World.block_lt_of_cell? w _ hx398_4)).trans hx398_4
                  replace p398 := eq_true p398
                  replace q398 := eq_true q398
                  go_wp2_with (first | ((with_reducible refine gate_dst (N := 6) rfl ?_); (try (refine gate_guard (by rfl) ?_; dsimp only)); refine box_event ?hg (N := 6) ?hd (cs := #[.string (⟨#[]⟩ : ByteArray), .string (⟨#[]⟩ : ByteArray), .string (⟨#[]⟩ : ByteArray), .string (⟨#[]⟩ : ByteArray), .string (⟨#[]⟩ : ByteArray)]) (t := 24) ?hr ?_; (case hd => rfl); (case hg => rfl); (case hr => first | (go_simp; done) | (go_simp; rfl)); intro gb399 hg w19 hbox hb; have n0_ := Aside0.mk (Kd.R_below (Kd.R_elderB (by (with_reducible repeat (first | apply Kd.R_alloc | apply Kd.R_drewN | apply Kd.R_drew)); exact HO_4.out) gb399 (Nat.le_of_eq hg.symm)) hb); have n1_ := Aside0.mk (below_step (by repeat (first | (with_reducible first | exact HB.out | apply below_alloc | apply pw_below_drewN | apply below_drew1) | exact HB.out)) hb); have n2_ := Aside0.mk (hbox); have n3_ := Aside0.mk ((by rw [hg]; exact (below_size (by repeat (first | (with_reducible first | exact HB.out | apply below_alloc | apply pw_below_drewN | apply below_drew1) | exact HB.out))) : w.heap.size ≤ gb399)); have n4_ := Aside0.mk ((by rw [hg]; exact (below_size (by repeat (first | (with_reducible first | exact HB.out | apply below_alloc | apply pw_below_drewN | apply below_drew1) | exact HB.out))) : w.heap.size ≤ gb399)); clear HO_4; clear HB; have HO_4 := n0_; have HB := n1_; have BK399 := n2_; have GW399 := n3_; have GE399 := n4_; clear n0_ n1_ n2_ n3_ n4_; clear hb hbox hg; have hcz20_0 : w19.cell? ⟨gb399, 0, none⟩ = some (.string (⟨#[]⟩ : ByteArray)) := (blk_cell BK399.out 0).trans rfl; have hcz20_1 : w19.cell? ⟨gb399, 1, none⟩ = some (.string (⟨#[]⟩ : ByteArray)) := (blk_cell BK399.out 1).trans rfl; have hcz20_2 : w19.cell? ⟨gb399, 2, none⟩ = some (.string (⟨#[]⟩ : ByteArray)) := (blk_cell BK399.out 2).trans rfl; have hcz20_3 : w19.cell? ⟨gb399, 3, none⟩ = some (.string (⟨#[]⟩ : ByteArray)) := (blk_cell BK399.out 3).trans rfl; have hcz20_4 : w19.cell? ⟨gb399, 4, none⟩ = some (.string (⟨#[]⟩ : ByteArray)) := (blk_cell BK399.out 4).trans rfl; have hfz20_0 := blk_frozen BK399.out 0; have hfz20_1 := blk_frozen BK399.out 1; have hfz20_2 := blk_frozen BK399.out 2; have hfz20_3 := blk_frozen BK399.out 3; have hfz20_4 := blk_frozen BK399.out 4) | ((with_reducible refine gate_callee (f := 14) rfl ?_); refine goesL_ (some 27) rfl rfl Tryz.func14 (by kernel_rfl) rfl #[.agg #[.string ((rd_T24 l0 x21_1).f0), .string ((rd_T24 l0 x21_1).f1), .string ((rd_T24 l0 x21_1).f2), .string ((rd_T24 l0 x21_1).f3), .string ((rd_T24 l0 x21_1).f4)]] rfl (by (try simp only [List.map_toArray, List.map_cons, List.map_nil]); first | done | rfl | (simp only [List.length_drop, List.length_take]; rfl)) ?_; (with_reducible refine (http_WriteRequest.calls k1 ((rd_T24 l0 x21_1).f0) ((rd_T24 l0 x21_1).f1) ((rd_T24 l0 x21_1).f2) ((rd_T24 l0 x21_1).f3) ((rd_T24 l0 x21_1).f4) t400 t401 _ ?side1 A10.out).mono ?_); (case side1 => exact ⟨TabsOk.below hT.out (by repeat (first | (with_reducible first | exact HB.out | apply below_alloc | apply pw_below_drewN | apply below_drew1 | refine below_set ?_ GE399.out) | exact HB.out))⟩); rintro e w21 ⟨rfl, hb⟩; refine ⟨_, rfl, ?_⟩; have n0_ := Aside0.mk (Kd.R_below (by (with_reducible repeat (first | apply Kd.R_alloc | apply Kd.R_drewN | apply Kd.R_drew)); exact (Kd.R_mono (Kd.R_far (p := ⟨gb399, 4, none⟩) (Kd.R_far (p := ⟨gb399, 3, none⟩) (Kd.R_far (p := ⟨gb399, 2, none⟩) (Kd.R_far (p := ⟨gb399, 1, none⟩) (Kd.R_far (p := ⟨gb399, 0, none⟩) (Kd.R_mono HO_4.out (fun k_ hk => (⟨hk, hk.2⟩ : _ ∧ k_ ≠ gb399))) (fun _ hk => hk.2) (.string ((rd_T24 l0 x21_1).f0))) (fun _ hk => hk.2) (.string ((rd_T24 l0 x21_1).f1))) (fun _ hk => hk.2) (.string ((rd_T24 l0 x21_1).f2))) (fun _ hk => hk.2) (.string ((rd_T24 l0 x21_1).f3))) (fun _ hk => hk.2) (.string ((rd_T24 l0 x21_1).f4))) (fun _ h_ => h_.1))) hb); have n1_ := Aside0.mk (blk_below (g := gb399) (o := .cells #[.string ((rd_T24 l0 x21_1).f0), .string ((rd_T24 l0 x21_1).f1), .string ((rd_T24 l0 x21_1).f2), .string ((rd_T24 l0 x21_1).f3), .string ((rd_T24 l0 x21_1).f4)] 24 (0, 0)) (by (with_reducible repeat (first | refine blk_drewN ?_ _ | refine blk_drew ?_ | refine blk_alloc ?_ _)); refine blk_put (cs := #[.string ((rd_T24 l0 x21_1).f0), .string ((rd_T24 l0 x21_1).f1), .string ((rd_T24 l0 x21_1).f2), .string ((rd_T24 l0 x21_1).f3), .string (⟨#[]⟩ : ByteArray)]) ?_ 4 _ rfl; (with_reducible repeat (first | refine blk_drewN ?_ _ | refine blk_drew ?_ | refine blk_alloc ?_ _)); refine blk_put (cs := #[.string ((rd_T24 l0 x21_1).f0), .string ((rd_T24 l0 x21_1).f1), .string ((rd_T24 l0 x21_1).f2), .string (⟨#[]⟩ : ByteArray), .string (⟨#[]⟩ : ByteArray)]) ?_ 3 _ rfl; (with_reducible repeat (first | refine blk_drewN ?_ _ | refine blk_drew ?_ | refine blk_alloc ?_ _)); refine blk_put (cs := #[.string ((rd_T24 l0 x21_1).f0), .string ((rd_T24 l0 x21_1).f1), .string (⟨#[]⟩ : ByteArray), .string (⟨#[]⟩ : ByteArray), .string (⟨#[]⟩ : ByteArray)]) ?_ 2 _ rfl; (with_reducible repeat (first | refine blk_drewN ?_ _ | refine blk_drew ?_ | refine blk_alloc ?_ _)); refine blk_put (cs := #[.string ((rd_T24 l0 x21_1).f0), .string (⟨#[]⟩ : ByteArray), .string (⟨#[]⟩ : ByteArray), .string (⟨#[]⟩ : ByteArray), .string (⟨#[]⟩ : ByteArray)]) ?_ 1 _ rfl; (with_reducible repeat (first | refine blk_drewN ?_ _ | refine blk_drew ?_ | refine blk_alloc ?_ _)); refine blk_put (cs := #[.string (⟨#[]⟩ : ByteArray), .string (⟨#[]⟩ : ByteArray), .string (⟨#[]⟩ : ByteArray), .string (⟨#[]⟩ : ByteArray), .string (⟨#[]⟩ : ByteArray)]) ?_ 0 _ rfl; (with_reducible repeat (first | refine blk_drewN ?_ _ | refine blk_drew ?_ | refine blk_alloc ?_ _)); exact BK399.out) hb); have n2_ := Aside0.mk (below_step (by repeat (first | (with_reducible first | exact HB.out | apply below_alloc | apply pw_below_drewN | apply below_drew1 | refine below_set ?_ GE399.out) | exact HB.out)) hb); clear HO_4; clear BK399; clear HB; have HO_4 := n0_; have BK399 := n1_; have HB := n2_; clear n0_ n1_ n2_; (try clear hb); (try clear hb2); (try clear hk); (try clear hi)))
                  go_roundg k1
                  case measure => have := HK1.out; omega
                  case rel => exact ⟨(x3_1), (x4_1), (wrap64 (x21_1 + 1)), (by first | rfl | (simp; done) | (simp [*]; done)), (by first | rfl | (simp; done) | (simp [*]; done)), H', ⟨by have := HK1.out; omega⟩, ⟨by (with_reducible repeat (first | apply Kd.R_alloc | apply Kd.R_drewN | apply Kd.R_drew)); exact Kd.R_mono HO_4.out (fun _ hk => trivial)⟩, ⟨by repeat (first | (with_reducible first | exact HB.out | apply below_alloc | apply pw_below_drewN | apply below_drew1 | refine below_set ?_ GE399.out) | exact HB.out)⟩⟩
              · rw [if_neg c9] at H
                exact absurd H (by simp)
            · rw [if_neg c8] at H
              exact absurd H (by simp)
          · rw [if_neg c7] at H
            have c7b0 : decide (x21_1 < (l0.length : Int)) = false := decide_eq_false c7
            clear c7
            have H' := Aside0.mk H
            clear H
            obtain ⟨Ao22, co22, eo22⟩ := Kd.R_slice HO_4.out
            subst eo22
            go_wp2
            go_loopg [3, 42] k1 (fun kq v3 v42 w' => ∃ (x3_2 : ByteArray) (x42_2 : Int), v3 = .string x3_2 ∧ v42 = .int .i64 x42_2 ∧ Aside0 (pennantlaw22_HttpMany.l1 kq x3_2 x4_1 (x4_1.length : Int) x42_2 = some r) ∧ Aside0 (kq ≤ k1) ∧ Aside0 (Kd.R k24 24 w' w.heap.size (fun _ => True) (.slice Ao22 x4_1.length co22) x4_1) ∧ Aside0 (Below w.heap.size w w'))
            case atStart => exact ⟨(x3_1), (0), (by first | rfl | (simp; done) | (simp [*]; done)), (by first | rfl | (simp; done) | (simp [*]; done)), H', ⟨Nat.le_refl _⟩, ⟨by (with_reducible repeat (first | apply Kd.R_alloc | apply Kd.R_drewN | apply Kd.R_drew)); exact HO_4.out⟩, ⟨by repeat (first | (with_reducible first | exact HB.out | apply below_alloc | apply pw_below_drewN | apply below_drew1) | exact HB.out)⟩⟩
            case round =>
              clear H'
              try clear c1
              try clear p2
              try clear c3
              try clear p3
              try clear q3
              try clear hx3
              try clear c4
              try clear c4b0
              try clear c4b1
              try clear p6
              try clear c7
              try clear c7b0
              try clear c8
              try clear c8b0
              try clear c9
              try clear c9b0
              try clear c11
              try clear c11b0
              try clear c11b1
              try clear c12
              try clear c12b0
              try clear c12b1
              try clear c12b2
              try clear c13
              try clear c14
              try clear hcz15_0
              try clear hcz15_1
              try clear hcz15_2
              try clear hcz15_3
              try clear hcz15_4
              try clear hcz17_0
              try clear hcz17_1
              try clear hcz17_2
              try clear hcz17_3
              try clear hcz17_4
              try clear hcz20_0
              try clear hcz20_1
              try clear hcz20_2
              try clear hcz20_3
              try clear hcz20_4
              try clear hfz15_0
              try clear hfz15_1
              try clear hfz15_2
              try clear hfz15_3
              try clear hfz15_4
              try clear hfz17_0
              try clear hfz17_1
              try clear hfz17_2
              try clear hfz17_3
              try clear hfz17_4
              try clear hfz20_0
              try clear hfz20_1
              try clear hfz20_2
              try clear hfz20_3
              try clear hfz20_4
              try clear hx398_0
              try clear hx398_1
              try clear hx398_2
              try clear hx398_3
              try clear hx398_4
              try clear p2
              try clear p398
              try clear q398
              obtain ⟨x3_2, x42_2, rfl, rfl, HA, HK2, HO_40, HB⟩ := hrel
              cases gk with
              | zero => exact absurd HA.out (by simp [pennantlaw22_HttpMany.l1])
              | succ k2 =>
                have H := HA.out
                clear HA
                simp only [pennantlaw22_HttpMany.l1] at H
                by_cases c23 : x42_2 < (x4_1.length : Int)
                · rw [if_pos c23] at H
                  have c23b0 : decide (x42_2 < (x4_1.length : Int)) = true := decide_eq_true c23
                  clear c23
                  by_cases c24 : 0 ≤ x42_2
                  · rw [if_pos c24] at H
                    have c24b0 : decide (0 ≤ x42_2) = true := decide_eq_true c24
                    clear c24
                    by_cases c25 : x42_2 < (x4_1.length : Int)
                    · rw [if_pos c25] at H
                      have c25b0 : decide (x42_2 < (x4_1.length : Int)) = true := decide_eq_true c25
                      clear c25
                      replace H := Option.bind_eq_some_iff.mp H
                      obtain ⟨⟨t407, t408, t409, t410, t411, t412, t413⟩, A260, H⟩ := H
                      replace H : (if t413 = 0 then (if (!(t407.toList == (((rd_T24 x4_1 x42_2).f0).toList)) || (!(t408.toList == (((rd_T24 x4_1 x42_2).f1).toList)) || (!(t409.toList == (((rd_T24 x4_1 x42_2).f2).toList)) || (!(t410.toList == (((rd_T24 x4_1 x42_2).f3).toList)) || (!(t411.toList == (((rd_T24 x4_1 x42_2).f4).toList))))))) = true then (some false) else (if t412 < 1 then (some false) else (if t412 > (x3_2.size : Int) then (some false) else (if 0 ≤ t412 then (if t412 ≤ (x3_2.size : Int) then (pennantlaw22_HttpMany.l1 k2 (x3_2.extract (t412 : Int).toNat x3_2.size) x4_1 (x4_1.length : Int) (wrap64 (x42_2 + 1))) else (none)) else (none))))) else (some false)) = some r := H
                      have A26 := Aside0.mk A260
                      clear A260
                      by_cases c27 : t413 = 0
                      · rw [if_pos c27] at H
                        have c27b0 : (t413 == 0) = true := beq_iff_eq.mpr c27
                        have c27b1 : (t413 != 0) = false := bne_eq_false_iff_eq.mpr c27
                        clear c27
                        by_cases c28 : (!(t407.toList == (((rd_T24 x4_1 x42_2).f0).toList)) || (!(t408.toList == (((rd_T24 x4_1 x42_2).f1).toList)) || (!(t409.toList == (((rd_T24 x4_1 x42_2).f2).toList)) || (!(t410.toList == (((rd_T24 x4_1 x42_2).f3).toList)) || (!(t411.toList == (((rd_T24 x4_1 x42_2).f4).toList))))))) = true
                        · rw [if_pos c28] at H
                          have c28b0 : (!(t407.toList == (((rd_T24 x4_1 x42_2).f0).toList)) || (!(t408.toList == (((rd_T24 x4_1 x42_2).f1).toList)) || (!(t409.toList == (((rd_T24 x4_1 x42_2).f2).toList)) || (!(t410.toList == (((rd_T24 x4_1 x42_2).f3).toList)) || (!(t411.toList == (((rd_T24 x4_1 x42_2).f4).toList))))))) = true := c28
                          clear c28
                          exact absurd (Option.some.inj H) (by rw [HR_.out]; simp)
                        · rw [if_neg c28] at H
                          have c28b0 : (!(t407.toList == (((rd_T24 x4_1 x42_2).f0).toList)) || (!(t408.toList == (((rd_T24 x4_1 x42_2).f1).toList)) || (!(t409.toList == (((rd_T24 x4_1 x42_2).f2).toList)) || (!(t410.toList == (((rd_T24 x4_1 x42_2).f3).toList)) || (!(t411.toList == (((rd_T24 x4_1 x42_2).f4).toList))))))) = false := by simpa using c28
                          clear c28
                          by_cases c29 : t412 < 1
                          · rw [if_pos c29] at H
                            have c29b0 : decide (t412 < 1) = true := decide_eq_true c29
                            clear c29
                            exact absurd (Option.some.inj H) (by rw [HR_.out]; simp)
                          · rw [if_neg c29] at H
                            have c29b0 : decide (t412 < 1) = false := decide_eq_false c29
                            clear c29
                            by_cases c30 : t412 > (x3_2.size : Int)
                            · rw [if_pos c30] at H
                              have c30b0 : decide ((x3_2.size : Int) < t412) = true := decide_eq_true c30
                              clear c30
                              exact absurd (Option.some.inj H) (by rw [HR_.out]; simp)
                            · rw [if_neg c30] at H
                              have c30b0 : decide ((x3_2.size : Int) < t412) = false := decide_eq_false c30
                              clear c30
                              by_cases c31 : 0 ≤ t412
                              · rw [if_pos c31] at H
                                have c31b0 := eq_true c31
                                have c31b1 : decide (0 ≤ t412) = true := decide_eq_true c31
                                clear c31
                                by_cases c32 : t412 ≤ (x3_2.size : Int)
                                · rw [if_pos c32] at H
                                  have c32b0 := eq_true c32
                                  have c32b1 : decide (t412 ≤ (x3_2.size : Int)) = true := decide_eq_true c32
                                  clear c32
                                  have H' := Aside0.mk H
                                  clear H
                                  have p405 : 0 ≤ (x42_2 : Int) := of_decide_eq_true (by first | (with_reducible assumption) | assumption)
                                  have q405 : x42_2 < (x4_1.length : Int) := of_decide_eq_true (by first | (with_reducible assumption) | assumption)
                                  obtain ⟨ad405, e405, hx405_0, hx405_1, hx405_2, hx405_3, hx405_4⟩ := at_T24 (Kd.R_reads' HO_40.out).2.2 x42_2 p405 q405
                                  cases e405
                                  replace p405 := eq_true p405
                                  replace q405 := eq_true q405
                                  go_wp2_with (first | ((with_reducible refine gate_dst (N := 10) rfl ?_); (try (refine gate_guard (by rfl) ?_; dsimp only)); refine box_event ?hg (N := 10) ?hd (cs := #[.string (⟨#[]⟩ : ByteArray), .string (⟨#[]⟩ : ByteArray), .string (⟨#[]⟩ : ByteArray), .string (⟨#[]⟩ : ByteArray), .string (⟨#[]⟩ : ByteArray)]) (t := 24) ?hr ?_; (case hd => rfl); (case hg => rfl); (case hr => first | (go_simp; done) | (go_simp; rfl)); intro gb406 hg w33 hbox hb; have n0_ := Aside0.mk (Kd.R_below (Kd.R_elderB (by (with_reducible repeat (first | apply Kd.R_alloc | apply Kd.R_drewN | apply Kd.R_drew)); exact HO_40.out) gb406 (Nat.le_of_eq hg.symm)) hb); have n1_ := Aside0.mk (below_step (by repeat (first | (with_reducible first | exact HB.out | apply below_alloc | apply pw_below_drewN | apply below_drew1) | exact HB.out)) hb); have n2_ := Aside0.mk (hbox); have n3_ := Aside0.mk ((by rw [hg]; exact (below_size (by repeat (first | (with_reducible first | exact HB.out | apply below_alloc | apply pw_below_drewN | apply below_drew1) | exact HB.out))) : w.heap.size ≤ gb406)); have n4_ := Aside0.mk ((by rw [hg]; exact (below_size (by repeat (first | (with_reducible first | exact HB.out | apply below_alloc | apply pw_below_drewN | apply below_drew1) | exact HB.out))) : w.heap.size ≤ gb406)); clear HO_40; clear HB; have HO_40 := n0_; have HB := n1_; have BK406 := n2_; have GW406 := n3_; have GE406 := n4_; clear n0_ n1_ n2_ n3_ n4_; clear hb hbox hg; have hcz34_0 : w33.cell? ⟨gb406, 0, none⟩ = some (.string (⟨#[]⟩ : ByteArray)) := (blk_cell BK406.out 0).trans rfl; have hcz34_1 : w33.cell? ⟨gb406, 1, none⟩ = some (.string (⟨#[]⟩ : ByteArray)) := (blk_cell BK406.out 1).trans rfl; have hcz34_2 : w33.cell? ⟨gb406, 2, none⟩ = some (.string (⟨#[]⟩ : ByteArray)) := (blk_cell BK406.out 2).trans rfl; have hcz34_3 : w33.cell? ⟨gb406, 3, none⟩ = some (.string (⟨#[]⟩ : ByteArray)) := (blk_cell BK406.out 3).trans rfl; have hcz34_4 : w33.cell? ⟨gb406, 4, none⟩ = some (.string (⟨#[]⟩ : ByteArray)) := (blk_cell BK406.out 4).trans rfl; have hfz34_0 := blk_frozen BK406.out 0; have hfz34_1 := blk_frozen BK406.out 1; have hfz34_2 := blk_frozen BK406.out 2; have hfz34_3 := blk_frozen BK406.out 3; have hfz34_4 := blk_frozen BK406.out 4) | ((with_reducible refine gate_callee (f := 10) rfl ?_); refine goesL_ (some 48) rfl rfl Tryz.func10 (by kernel_rfl) rfl #[.string x3_2] rfl (by (try simp only [List.map_toArray, List.map_cons, List.map_nil]); first | done | rfl | (simp only [List.length_drop, List.length_take]; rfl)) ?_; (with_reducible refine (http_ReadRequest.calls k2 x3_2 t407 t408 t409 t410 t411 t412 t413 _ ?side1 A26.out).mono ?_); (case side1 => exact ⟨TabsOk.below hT.out (by repeat (first | (with_reducible first | exact HB.out | apply below_alloc | apply pw_below_drewN | apply below_drew1 | refine below_set ?_ GE406.out) | exact HB.out))⟩); rintro e w35 ⟨rfl, hb⟩; refine ⟨_, rfl, ?_⟩; have n0_ := Aside0.mk (Kd.R_below (by (with_reducible repeat (first | apply Kd.R_alloc | apply Kd.R_drewN | apply Kd.R_drew)); exact (Kd.R_mono (Kd.R_far (p := ⟨gb406, 4, none⟩) (Kd.R_far (p := ⟨gb406, 3, none⟩) (Kd.R_far (p := ⟨gb406, 2, none⟩) (Kd.R_far (p := ⟨gb406, 1, none⟩) (Kd.R_far (p := ⟨gb406, 0, none⟩) (Kd.R_mono HO_40.out (fun k_ hk => (⟨hk, hk.2⟩ : _ ∧ k_ ≠ gb406))) (fun _ hk => hk.2) (.string ((rd_T24 x4_1 x42_2).f0))) (fun _ hk => hk.2) (.string ((rd_T24 x4_1 x42_2).f1))) (fun _ hk => hk.2) (.string ((rd_T24 x4_1 x42_2).f2))) (fun _ hk => hk.2) (.string ((rd_T24 x4_1 x42_2).f3))) (fun _ hk => hk.2) (.string ((rd_T24 x4_1 x42_2).f4))) (fun _ h_ => h_.1))) hb); have n1_ := Aside0.mk (blk_below (g := gb406) (o := .cells #[.string ((rd_T24 x4_1 x42_2).f0), .string ((rd_T24 x4_1 x42_2).f1), .string ((rd_T24 x4_1 x42_2).f2), .string ((rd_T24 x4_1 x42_2).f3), .string ((rd_T24 x4_1 x42_2).f4)] 24 (0, 0)) (by (with_reducible repeat (first | refine blk_drewN ?_ _ | refine blk_drew ?_ | refine blk_alloc ?_ _)); refine blk_put (cs := #[.string ((rd_T24 x4_1 x42_2).f0), .string ((rd_T24 x4_1 x42_2).f1), .string ((rd_T24 x4_1 x42_2).f2), .string ((rd_T24 x4_1 x42_2).f3), .string (⟨#[]⟩ : ByteArray)]) ?_ 4 _ rfl; (with_reducible repeat (first | refine blk_drewN ?_ _ | refine blk_drew ?_ | refine blk_alloc ?_ _)); refine blk_put (cs := #[.string ((rd_T24 x4_1 x42_2).f0), .string ((rd_T24 x4_1 x42_2).f1), .string ((rd_T24 x4_1 x42_2).f2), .string (⟨#[]⟩ : ByteArray), .string (⟨#[]⟩ : ByteArray)]) ?_ 3 _ rfl; (with_reducible repeat (first | refine blk_drewN ?_ _ | refine blk_drew ?_ | refine blk_alloc ?_ _)); refine blk_put (cs := #[.string ((rd_T24 x4_1 x42_2).f0), .string ((rd_T24 x4_1 x42_2).f1), .string (⟨#[]⟩ : ByteArray), .string (⟨#[]⟩ : ByteArray), .string (⟨#[]⟩ : ByteArray)]) ?_ 2 _ rfl; (with_reducible repeat (first | refine blk_drewN ?_ _ | refine blk_drew ?_ | refine blk_alloc ?_ _)); refine blk_put (cs := #[.string ((rd_T24 x4_1 x42_2).f0), .string (⟨#[]⟩ : ByteArray), .string (⟨#[]⟩ : ByteArray), .string (⟨#[]⟩ : ByteArray), .string (⟨#[]⟩ : ByteArray)]) ?_ 1 _ rfl; (with_reducible repeat (first | refine blk_drewN ?_ _ | refine blk_drew ?_ | refine blk_alloc ?_ _)); refine blk_put (cs := #[.string (⟨#[]⟩ : ByteArray), .string (⟨#[]⟩ : ByteArray), .string (⟨#[]⟩ : ByteArray), .string (⟨#[]⟩ : ByteArray), .string (⟨#[]⟩ : ByteArray)]) ?_ 0 _ rfl; (with_reducible repeat (first | refine blk_drewN ?_ _ | refine blk_drew ?_ | refine blk_alloc ?_ _)); exact BK406.out) hb); have n2_ := Aside0.mk (below_step (by repeat (first | (with_reducible first | exact HB.out | apply below_alloc | apply pw_below_drewN | apply below_drew1 | refine below_set ?_ GE406.out) | exact HB.out)) hb); clear HO_40; clear BK406; clear HB; have HO_40 := n0_; have BK406 := n1_; have HB := n2_; clear n0_ n1_ n2_; (try clear hb); (try clear hb2); (try clear hk); (try clear hi)) | ((with_reducible refine gate_dst (N := 11) rfl ?_); (try (refine gate_guard (by rfl) ?_; dsimp only)); refine box_event ?hg (N := 11) ?hd (cs := #[.string (⟨#[]⟩ : ByteArray), .string (⟨#[]⟩ : ByteArray), .string (⟨#[]⟩ : ByteArray), .string (⟨#[]⟩ : ByteArray), .string (⟨#[]⟩ : ByteArray)]) (t := 24) ?hr ?_; (case hd => rfl); (case hg => rfl); (case hr => first | (go_simp; done) | (go_simp; rfl)); intro gb414 hg w36 hbox hb; have n0_ := Aside0.mk (Kd.R_below (Kd.R_elderB (by (with_reducible repeat (first | apply Kd.R_alloc | apply Kd.R_drewN | apply Kd.R_drew)); exact HO_40.out) gb414 (Nat.le_of_eq hg.symm)) hb); have n1_ := Aside0.mk (blk_below (g := gb406) (o := .cells #[.string ((rd_T24 x4_1 x42_2).f0), .string ((rd_T24 x4_1 x42_2).f1), .string ((rd_T24 x4_1 x42_2).f2), .string ((rd_T24 x4_1 x42_2).f3), .string ((rd_T24 x4_1 x42_2).f4)] 24 (0, 0)) (by (with_reducible repeat (first | refine blk_drewN ?_ _ | refine blk_drew ?_ | refine blk_alloc ?_ _)); exact BK406.out) hb); have n2_ := Aside0.mk (below_step (by repeat (first | (with_reducible first | exact HB.out | apply below_alloc | apply pw_below_drewN | apply below_drew1 | refine below_set ?_ GE406.out) | exact HB.out)) hb); have n3_ := Aside0.mk (hbox); have n4_ := Aside0.mk ((by rw [hg]; exact (below_size (by repeat (first | (with_reducible first | exact HB.out | apply below_alloc | apply pw_below_drewN | apply below_drew1 | refine below_set ?_ GE406.out) | exact HB.out))) : w.heap.size ≤ gb414)); have n5_ := Aside0.mk ((by rw [hg]; exact (below_size (by repeat (first | (with_reducible first | exact HB.out | apply below_alloc | apply pw_below_drewN | apply below_drew1 | refine below_set ?_ GE406.out) | exact HB.out))) : w.heap.size ≤ gb414)); have n6_ := Aside0.mk ((by rw [hg]; exact Nat.ne_of_lt (blk_lt (g := gb406) (o := .cells #[.string ((rd_T24 x4_1 x42_2).f0), .string ((rd_T24 x4_1 x42_2).f1), .string ((rd_T24 x4_1 x42_2).f2), .string ((rd_T24 x4_1 x42_2).f3), .string ((rd_T24 x4_1 x42_2).f4)] 24 (0, 0)) (by (with_reducible repeat (first | refine blk_drewN ?_ _ | refine blk_drew ?_ | refine blk_alloc ?_ _)); exact BK406.out)) : gb406 ≠ gb414)); have n7_ := Aside0.mk ((by rw [hg]; exact Nat.ne_of_gt (blk_lt (g := gb406) (o := .cells #[.string ((rd_T24 x4_1 x42_2).f0), .string ((rd_T24 x4_1 x42_2).f1), .string ((rd_T24 x4_1 x42_2).f2), .string ((rd_T24 x4_1 x42_2).f3), .string ((rd_T24 x4_1 x42_2).f4)] 24 (0, 0)) (by (with_reducible repeat (first | refine blk_drewN ?_ _ | refine blk_drew ?_ | refine blk_alloc ?_ _)); exact BK406.out)) : gb414 ≠ gb406)); clear HO_40; clear BK406; clear HB; have HO_40 := n0_; have BK406 := n1_; have HB := n2_; have BK414 := n3_; have GW414 := n4_; have GE414 := n5_; have NB406_414 := n6_; have NB414_406 := n7_; clear n0_ n1_ n2_ n3_ n4_ n5_ n6_ n7_; clear hb hbox hg; have hnb37 := NB414_406.out; have hnc37 := NB406_414.out; have hcz38_0 : w36.cell? ⟨gb414, 0, none⟩ = some (.string (⟨#[]⟩ : ByteArray)) := (blk_cell BK414.out 0).trans rfl; have hcz38_1 : w36.cell? ⟨gb414, 1, none⟩ = some (.string (⟨#[]⟩ : ByteArray)) := (blk_cell BK414.out 1).trans rfl; have hcz38_2 : w36.cell? ⟨gb414, 2, none⟩ = some (.string (⟨#[]⟩ : ByteArray)) := (blk_cell BK414.out 2).trans rfl; have hcz38_3 : w36.cell? ⟨gb414, 3, none⟩ = some (.string (⟨#[]⟩ : ByteArray)) := (blk_cell BK414.out 3).trans rfl; have hcz38_4 : w36.cell? ⟨gb414, 4, none⟩ = some (.string (⟨#[]⟩ : ByteArray)) := (blk_cell BK414.out 4).trans rfl; have hfz38_0 := blk_frozen BK414.out 0; have hfz38_1 := blk_frozen BK414.out 1; have hfz38_2 := blk_frozen BK414.out 2; have hfz38_3 := blk_frozen BK414.out 3; have hfz38_4 := blk_frozen BK414.out 4; have hcz39_0 : w36.cell? ⟨gb406, 0, none⟩ = some (.string ((rd_T24 x4_1 x42_2).f0)) := (blk_cell BK406.out 0).trans rfl; have hcz39_1 : w36.cell? ⟨gb406, 1, none⟩ = some (.string ((rd_T24 x4_1 x42_2).f1)) := (blk_cell BK406.out 1).trans rfl; have hcz39_2 : w36.cell? ⟨gb406, 2, none⟩ = some (.string ((rd_T24 x4_1 x42_2).f2)) := (blk_cell BK406.out 2).trans rfl; have hcz39_3 : w36.cell? ⟨gb406, 3, none⟩ = some (.string ((rd_T24 x4_1 x42_2).f3)) := (blk_cell BK406.out 3).trans rfl; have hcz39_4 : w36.cell? ⟨gb406, 4, none⟩ = some (.string ((rd_T24 x4_1 x42_2).f4)) := (blk_cell BK406.out 4).trans rfl; have hfz39_0 := blk_frozen BK406.out 0; have hfz39_1 := blk_frozen BK406.out 1; have hfz39_2 := blk_frozen BK406.out 2; have hfz39_3 := blk_frozen BK406.out 3; have hfz39_4 := blk_frozen BK406.out 4))
                                  go_roundg k2
                                  case measure => have := HK1.out; have := HK2.out; omega
                                  case rel => exact ⟨(x3_2.extract (t412 : Int).toNat x3_2.size), (wrap64 (x42_2 + 1)), (by first | rfl | (simp; done) | (simp [*]; done)), (by first | rfl | (simp; done) | (simp [*]; done)), H', ⟨by have := HK1.out; have := HK2.out; omega⟩, ⟨by (with_reducible repeat (first | apply Kd.R_alloc | apply Kd.R_drewN | apply Kd.R_drew)); exact Kd.R_mono (Kd.R_far (p := ⟨gb414, 4, none⟩) (Kd.R_far (p := ⟨gb414, 3, none⟩) (Kd.R_far (p := ⟨gb414, 2, none⟩) (Kd.R_far (p := ⟨gb414, 1, none⟩) (Kd.R_far (p := ⟨gb414, 0, none⟩) (Kd.R_mono HO_40.out (fun k_ hk => (⟨hk, hk.2⟩ : _ ∧ k_ ≠ gb414))) (fun _ hk => hk.2) (.string t407)) (fun _ hk => hk.2) (.string t408)) (fun _ hk => hk.2) (.string t409)) (fun _ hk => hk.2) (.string t410)) (fun _ hk => hk.2) (.string t411)) (fun _ hk => trivial)⟩, ⟨by repeat (first | (with_reducible first | exact HB.out | apply below_alloc | apply pw_below_drewN | apply below_drew1 | refine below_set ?_ GE406.out | refine below_set ?_ GE414.out) | exact HB.out)⟩⟩
                                · rw [if_neg c32] at H
                                  exact absurd H (by simp)
                              · rw [if_neg c31] at H
                                exact absurd H (by simp)
                      · rw [if_neg c27] at H
                        have c27b0 : (t413 == 0) = false := beq_eq_false_iff_ne.mpr c27
                        have c27b1 : (t413 != 0) = true := bne_iff_ne.mpr c27
                        exact absurd (Option.some.inj H) (by rw [HR_.out]; simp)
                    · rw [if_neg c25] at H
                      exact absurd H (by simp)
                  · rw [if_neg c24] at H
                    exact absurd H (by simp)
                · rw [if_neg c23] at H
                  have c23b0 : decide (x42_2 < (x4_1.length : Int)) = false := decide_eq_false c23
                  clear c23
                  obtain rfl := Option.some.inj H
                  go_wp2
                  go_ret
                  exact ⟨by first | rfl | (simp [errW_none, errW_some] <;> rfl) | (simp [*, errW_none, errW_some] <;> rfl), by repeat (first | (with_reducible first | exact HB.out | apply below_alloc | apply pw_below_drewN | apply below_drew1) | exact HB.out)⟩
  · replace c3 := Bool.eq_false_iff.mpr c3
    subst c3
    have H1 : (some false) = some r := by rw [if_neg (show ¬ (false = true) by decide)] at H; exact H
    clear H
    have H := H1
    clear H1
    exact absurd (Option.some.inj H) (by rw [HR_.out]; simp)

end Go.Proofs.YtpikebpjlhccbaaGreatDoor.PAll
