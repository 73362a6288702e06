-- Laid by a program of this session (wip/pp in the repo) out of the translation. Lean checks it.
import Derived.Test.YtpikebpjlhccbaaGreatDoorPAllx0
import Derived.Test.YtpikebpjlhccbaaGreatDoorPAllx1
import Derived.Test.YtpikebpjlhccbaaGreatDoorPAllx7
import Derived.Test.YtpikebpjlhccbaaGreatDoorPAllx8
import Derived.Test.YtpikebpjlhccbaaGreatDoorPAllx16
import Derived.Test.YtpikebpjlhccbaaGreatDoorGiveRead
namespace Go.Proofs.YtpikebpjlhccbaaGreatDoor.PAll
open Go.RowKit Go.Proofs.YtpikebpjlhccbaaGreatDoorW.PrintWords Go.Proofs.YtpikebpjlhccbaaGreatDoorW.PrintLast Go.Proofs.YtpikebpjlhccbaaGreatDoorW.PrintMore
attribute [local go_sem] max2_int min2_int max_two min_two max_three min_three max_four min_four   -- for this text's walks alone
set_option linter.unusedVariables false
set_option linter.unusedSimpArgs false

attribute [local go_sem high] eqA24
/-! ### pennantlaw22_HttpBodies: function 8 -/
def pennantlaw22_HttpBodies.l0 : Nat → Int → List Int → Int → Int → Option (Bool)
  | 0, _, _, _, _ => none
  | k + 1, x1, x5, x26, x27 => if x27 < x26 then (if 0 ≤ x27 then (if x27 < (x5.length : Int) then (pennantlaw22_HttpBodies.l0 k x1 (x5.set (x27 : Int).toNat x1) x26 (wrap64 (x27 + 1))) else (none)) else (none)) else ((http_WriteRequest.f k (⟨#[80, 79, 83, 84]⟩ : ByteArray) (⟨#[47]⟩ : ByteArray) (⟨#[104]⟩ : ByteArray) (⟨#[]⟩ : ByteArray) (strOfNums x5)).bind fun bt421 => ((http_WriteResponse.f k 200 (strOfNums x5)).bind fun bt423 => (if (x5.length : Int) > 4096 then (if bt421.2 = 1 then (if bt423.2 = 1 then (if bt421.1.toList = ([] : List UInt8) then (some (bt423.1.toList == ([] : List UInt8))) else (some false)) else (some false)) else (some false)) else ((http_ReadRequest.f k bt421.1).bind fun bt425 => ((http_ReadResponse.f k bt423.1).bind fun bt433 => (if bt421.2 = 0 then (if bt423.2 = 0 then (if bt425.2.2.2.2.2.2 = 0 then (if bt433.2.2.2 = 0 then (if (bt425.1.toList == ([80, 79, 83, 84] : List UInt8) && (bt425.2.1.toList == ([47] : List UInt8) && (bt425.2.2.1.toList == ([104] : List UInt8) && (bt425.2.2.2.1.toList == ([] : List UInt8) && (bt425.2.2.2.2.1.toList == ((strOfNums x5).toList)))))) = true then (if bt425.2.2.2.2.2.1 = (bt421.1.size : Int) then (if bt433.2.2.1 = (bt423.1.size : Int) then (if bt433.2.1.toList = (strOfNums x5).toList then (some (bt433.1 == 200)) else (some false)) else (some false)) else (some false)) else (some false)) else (some false)) else (some false)) else (some false)) else (some false)))))))
def pennantlaw22_HttpBodies.f (k : Nat) (a0 : Int) (a1 : Int) : Option (Bool) := (pennantlaw22_awake.f k).bind fun t415 => (if t415 = true then (if 0 ≤ (wrap64 (4090 + (wrap64 (Int.tmod a0 12)))) then (if (wrap64 (4090 + (wrap64 (Int.tmod a0 12))) : Int).toNat ≤ 281474976710656 then ((some (List.replicate (wrap64 (4090 + (wrap64 (Int.tmod a0 12))) : Int).toNat 0 : List Int)).bind fun y416 => (pennantlaw22_HttpBodies.l0 k a1 y416 (y416.length : Int) 0)) else (none)) else (none)) else (some false))
theorem pennantlaw22_HttpBodies.mono_l : ∀ k, (∀ y0 y1 y2 y3, LeO (pennantlaw22_HttpBodies.l0 k y0 y1 y2 y3) (pennantlaw22_HttpBodies.l0 (k + 1) y0 y1 y2 y3))
  | 0 => fun _ _ _ _ r h => by simp [pennantlaw22_HttpBodies.l0] at h
  | k + 1 => by
    have ih0 := pennantlaw22_HttpBodies.mono_l k
    · intro y0 y1 y2 y3
      unfold pennantlaw22_HttpBodies.l0
      repeat' first
      | (with_reducible exact ih0 _ _ _ _)
      | (with_reducible exact http_ReadRequest.mono _ _)
      | (with_reducible exact http_ReadResponse.mono _ _)
      | (with_reducible exact http_WriteRequest.mono _ _ _ _ _ _)
      | (with_reducible exact http_WriteResponse.mono _ _ _)
      | (with_reducible exact pennantlaw22_awake.mono _)
      | (with_reducible exact LeO.refl _)
      | (with_reducible exact LeO.none _)
      | (with_reducible refine LeO.ite ?_ ?_)
      | (with_reducible refine LeO.bind ?_ (fun _ => ?_))
      | exact ih0 _ _ _ _
      | exact http_ReadRequest.mono _ _
      | exact http_ReadResponse.mono _ _
      | exact http_WriteRequest.mono _ _ _ _ _ _
      | exact http_WriteResponse.mono _ _ _
      | exact pennantlaw22_awake.mono _
      | exact LeO.none _
      | refine LeO.ite ?_ ?_
      | refine LeO.bind ?_ (fun _ => ?_)
theorem pennantlaw22_HttpBodies.mono : ∀ a0 a1 k, LeO (pennantlaw22_HttpBodies.f k a0 a1) (pennantlaw22_HttpBodies.f (k + 1) a0 a1) := by
  intro a0 a1 k
  have ih0 := pennantlaw22_HttpBodies.mono_l k
  unfold pennantlaw22_HttpBodies.f
  repeat' first
      | (with_reducible exact ih0 _ _ _ _)
      | (with_reducible exact http_ReadRequest.mono _ _)
      | (with_reducible exact http_ReadResponse.mono _ _)
      | (with_reducible exact http_WriteRequest.mono _ _ _ _ _ _)
      | (with_reducible exact http_WriteResponse.mono _ _ _)
      | (with_reducible exact pennantlaw22_awake.mono _)
      | (with_reducible exact LeO.refl _)
      | (with_reducible exact LeO.none _)
      | (with_reducible refine LeO.ite ?_ ?_)
      | (with_reducible refine LeO.bind ?_ (fun _ => ?_))
      | exact ih0 _ _ _ _
      | exact http_ReadRequest.mono _ _
      | exact http_ReadResponse.mono _ _
      | exact http_WriteRequest.mono _ _ _ _ _ _
      | exact http_WriteResponse.mono _ _ _
      | exact pennantlaw22_awake.mono _
      | exact LeO.none _
      | refine LeO.ite ?_ ?_
      | refine LeO.bind ?_ (fun _ => ?_)
set_option maxHeartbeats 8000000 in
set_option maxRecDepth 100000 in
theorem pennantlaw22_HttpBodies.calls (k : Nat) (a0 : Int) (a1 : Int) (r : Bool) (w : World) (hT : Aside0 (TabsOk w)) (h : pennantlaw22_HttpBodies.f k a0 a1 = some r) (hr_ : r = true := by rfl) :
    Calls Tryz.prog 8 #[.int .u8 a0, .int .u8 a1] w fun e w' => e = .returned (.bool r) ∧ Below w.heap.size w w' := by
  have hu24 := Tryz.underlying24
  have hu31 := Tryz.underlying31
  have HR_ := Aside0.mk hr_
  clear hr_
  have HB := Aside0.mk (Below.refl w.heap.size w)
  have H : ((pennantlaw22_awake.f k).bind fun t415 => (if t415 = true then (if 0 ≤ (wrap64 (4090 + (wrap64 (Int.tmod a0 12)))) then (if (wrap64 (4090 + (wrap64 (Int.tmod a0 12))) : Int).toNat ≤ 281474976710656 then ((some (List.replicate (wrap64 (4090 + (wrap64 (Int.tmod a0 12))) : Int).toNat 0 : List Int)).bind fun y416 => (pennantlaw22_HttpBodies.l0 k a1 y416 (y416.length : Int) 0)) else (none)) else (none)) else (some false))) = some r := h
  clear h
  replace H := Option.bind_eq_some_iff.mp H
  obtain ⟨t415, A30, H⟩ := H
  replace H : (if t415 = true then (if 0 ≤ (wrap64 (4090 + (wrap64 (Int.tmod a0 12)))) then (if (wrap64 (4090 + (wrap64 (Int.tmod a0 12))) : Int).toNat ≤ 281474976710656 then ((some (List.replicate (wrap64 (4090 + (wrap64 (Int.tmod a0 12))) : Int).toNat 0 : List Int)).bind fun y416 => (pennantlaw22_HttpBodies.l0 k a1 y416 (y416.length : Int) 0)) else (none)) else (none)) else (some false)) = some r := H
  have A3 := Aside0.mk A30
  clear A30
  by_cases c4 : t415 = true
  · subst c4
    have H1 : (if 0 ≤ (wrap64 (4090 + (wrap64 (Int.tmod a0 12)))) then (if (wrap64 (4090 + (wrap64 (Int.tmod a0 12))) : Int).toNat ≤ 281474976710656 then ((some (List.replicate (wrap64 (4090 + (wrap64 (Int.tmod a0 12))) : Int).toNat 0 : List Int)).bind fun y416 => (pennantlaw22_HttpBodies.l0 k a1 y416 (y416.length : Int) 0)) else (none)) else (none)) = some r := by rw [if_pos rfl] at H; exact H
    clear H
    have H := H1
    clear H1
    obtain ⟨ji5, hji5⟩ : ∃ j_ : Int, (wrap64 (4090 + (wrap64 (Int.tmod a0 12)))) = j_ := ⟨_, rfl⟩
    replace H : (if 0 ≤ (ji5) then (if (ji5 : Int).toNat ≤ 281474976710656 then ((some (List.replicate (ji5 : Int).toNat 0 : List Int)).bind fun y416 => (pennantlaw22_HttpBodies.l0 k a1 y416 (y416.length : Int) 0)) else (none)) else (none)) = some r := by first | (rw [hji5] at H; exact H) | (simp only [hji5] at H ⊢; exact H)
    (try rw [hji5] at A3)
    have hji5w : (IntKind.i64.wrap (4090 + (wrap64 (Int.tmod a0 12)))) = ji5 := (i64_w _).trans hji5
    by_cases c6 : 0 ≤ (ji5)
    · rw [if_pos c6] at H
      have c6b0 := eq_true c6
      have c6b1 : decide (0 ≤ (ji5)) = true := decide_eq_true c6
      clear c6
      by_cases c7 : (ji5 : Int).toNat ≤ 281474976710656
      · rw [if_pos c7] at H
        have c7b0 := eq_true c7
        have c7b1 : decide ((ji5 : Int).toNat ≤ 281474976710656) = true := decide_eq_true c7
        clear c7
        obtain ⟨y416, hy416⟩ : ∃ y_ : List Int, y_ = (List.replicate (ji5 : Int).toNat 0) := ⟨_, rfl⟩
        replace H : (pennantlaw22_HttpBodies.l0 k a1 y416 (y416.length : Int) 0) = some r := by first | (rw [hy416]; with_reducible exact H) | (have H2_ := (Option.bind_some _ _).symm.trans H; rw [hy416]; with_reducible exact H2_) | (have H2_ := (Option.bind_some _ _).symm.trans H; with_reducible exact H2_) | with_reducible exact H | (rw [hy416]; exact H) | exact H
        have Ny416 := Aside0.mk hy416
        clear hy416
        have H' := Aside0.mk H
        clear H
        go_enter Tryz.func8, Tryz.ntmps8
        go_wp2_with (first | ((with_reducible refine gate_callee (f := 9) rfl ?_); refine goesL_ (some 18) rfl rfl Tryz.func9 (by kernel_rfl) rfl #[] rfl (by (try simp only [List.map_toArray, List.map_cons, List.map_nil]); first | done | rfl | (simp only [List.length_drop, List.length_take]; rfl)) ?_; (with_reducible refine (pennantlaw22_awake.calls k  true _ ?side1 A3.out).mono ?_); (case side1 => exact ⟨TabsOk.below hT.out (by repeat (first | (with_reducible first | exact HB.out | apply below_alloc | apply pw_below_drewN | apply below_drew1) | exact HB.out))⟩); rintro e w8 ⟨rfl, hb⟩; refine ⟨_, rfl, ?_⟩; have n0_ := Aside0.mk (below_step (by repeat (first | (with_reducible first | exact HB.out | apply below_alloc | apply pw_below_drewN | apply below_drew1) | exact HB.out)) hb); clear HB; have HB := n0_; clear n0_; (try clear hb); (try clear hb2); (try clear hk); (try clear hi)) | ((with_reducible refine gate_dst (N := 24) rfl ?_); (try (refine gate_guard (by rfl) ?_; dsimp only)); refine Kd.R_make (Kd.int .u8) _ 5 rfl (N := 24) rfl 49 _ _ rfl ji5 rfl rfl Tryz.underlying49 (.int .u8 0) 1 info5 rfl (by decide) (by omega) 0 (ok := fun _ => True) (okp := fun _ => True) rfl (fun _ hk => hk) trivial (of_decide_eq_true (by first | (with_reducible assumption) | assumption)) (Nat.le_trans (Nat.mul_le_mul_right _ (of_decide_eq_true (by first | (with_reducible assumption) | assumption) : ji5.toNat ≤ 281474976710656)) (by omega)) (Below.refl _ _) (Nat.le_refl _) ?_; intro v417 w9 ho10 hb hg_ hnew_; clear hg_ hnew_; (first | rw [← Ny416.out] at ho10 | (simp only [Int.reduceToNat] at ho10; rw [← Ny416.out] at ho10)); have n0_ := Aside0.mk (Kd.R_lower ho10 (below_size (by repeat (first | (with_reducible first | exact HB.out | apply below_alloc | apply pw_below_drewN | apply below_drew1) | exact HB.out)))); have n1_ := Aside0.mk (below_step (by repeat (first | (with_reducible first | exact HB.out | apply below_alloc | apply pw_below_drewN | apply below_drew1) | exact HB.out)) hb); clear HB; have HO418 := n0_; have HB := n1_; clear n0_ n1_; clear hb ho10; obtain ⟨Ao11, co11, eo11⟩ := Kd.R_slice HO418.out; subst eo11))
        go_loopg [27] k (fun kq v27 w' => ∃ (x5_1 : List Int) (x27_1 : Int), v27 = .int .i64 x27_1 ∧ Aside0 (pennantlaw22_HttpBodies.l0 kq a1 x5_1 (y416.length : Int) x27_1 = some r) ∧ Aside0 (kq ≤ k) ∧ Aside0 (Kd.R (Kd.int .u8) 5 w' w.heap.size (fun _ => True) (.slice Ao11 y416.length co11) x5_1) ∧ Aside0 (Below w.heap.size w w'))
        case atStart => exact ⟨(y416), (0), (by first | rfl | (simp; done) | (simp [*]; done)), H', ⟨Nat.le_refl _⟩, ⟨by (with_reducible repeat (first | apply Kd.R_alloc | apply Kd.R_drewN | apply Kd.R_drew)); exact HO418.out⟩, ⟨by repeat (first | (with_reducible first | exact HB.out | apply below_alloc | apply pw_below_drewN | apply below_drew1) | exact HB.out)⟩⟩
        case round =>
          clear H'
          try clear p2
          try clear c4
          try clear c6
          try clear c6b0
          try clear c6b1
          try clear p6
          try clear c7
          try clear c7b0
          try clear c7b1
          try clear c8
          try clear c9
          obtain ⟨x5_1, x27_1, rfl, HA, HK1, HO_5, HB⟩ := hrel
          have hl5_1 := (Kd.R_reads' HO_5.out).1
          rw [hl5_1] at HO_5
          (try simp only [hl5_1])
          cases gk with
          | zero => exact absurd HA.out (by simp [pennantlaw22_HttpBodies.l0])
          | succ k1 =>
            have H := HA.out
            clear HA
            simp only [pennantlaw22_HttpBodies.l0] at H
            by_cases c12 : x27_1 < (y416.length : Int)
            · rw [if_pos c12] at H
              have c12b0 : decide (x27_1 < (y416.length : Int)) = true := decide_eq_true c12
              clear c12
              by_cases c13 : 0 ≤ x27_1
              · rw [if_pos c13] at H
                have c13b0 : decide (0 ≤ x27_1) = true := decide_eq_true c13
                clear c13
                by_cases c14 : x27_1 < (x5_1.length : Int)
                · rw [if_pos c14] at H
                  have c14b0 : decide (x27_1 < (x5_1.length : Int)) = true := decide_eq_true c14
                  clear c14
                  obtain ⟨y419, hy419⟩ : ∃ y_ : List Int, y_ = (x5_1.set (x27_1 : Int).toNat a1) := ⟨_, rfl⟩
                  replace H : (pennantlaw22_HttpBodies.l0 k1 a1 y419 (y416.length : Int) (wrap64 (x27_1 + 1))) = some r := by first | (rw [hy419]; with_reducible exact H) | (have H2_ := (Option.bind_some _ _).symm.trans H; rw [hy419]; with_reducible exact H2_) | (have H2_ := (Option.bind_some _ _).symm.trans H; with_reducible exact H2_) | with_reducible exact H | (rw [hy419]; exact H) | exact H
                  have Ny419 := Aside0.mk hy419
                  clear hy419
                  have H' := Aside0.mk H
                  clear H
                  have p15 : 0 ≤ (x27_1 : Int) := of_decide_eq_true (by first | (with_reducible assumption) | assumption)
                  have q15 : (x27_1 : Int) < ((x5_1.length : Int) : Int) := of_decide_eq_true (by first | (with_reducible assumption) | assumption)
                  obtain ⟨go15, co15, eo15, gb15, gl15, cl15, HG15⟩ := Kd.R_form HO_5.out (by omega)
                  (first | cases eo15 | (injection eo15 with ea_ en_ ec_; (first | subst ea_ | (injection ea_ with ea_; subst ea_)); subst ec_; clear en_))
                  have GB15 := Aside0.mk gb15
                  have GG15 := Aside0.mk HG15
                  clear gb15 gl15 HG15
                  obtain ⟨hx15_0, hf15_0⟩ := Kd.R_celln 0 HO_5.out (x27_1 : Int) p15 q15
                  replace p15 := eq_true p15
                  replace q15 := eq_true q15
                  have HP16 := Kd.R_putg HO_5.out (x27_1 : Int) a1
                  go_wp2_with (first | ((with_reducible refine gate_store (t := 5) (p := 33) rfl ?_); refine store_event (t := 5) (p := 33) (v := ?vo_w17) (w1 := (wr.setCell ⟨go15, (x27_1 : Int).toNat, none⟩ (.int .u8 a1))) ?hg ?ho ?hn ?hr ?_; (case ho => rfl); (case hg => rfl); (case hn => rfl); (case hr => first | (go_simp; done) | (go_simp; rfl)); intro w17 hw; have hg : wr.grownBy w17 (some go15) := (by rw [hw]; exact HP16.2); have hp_ : Kd.R (Kd.int .u8) 5 w17 w.heap.size (fun _ => True) (.slice (some ⟨go15, 0, none⟩) x5_1.length co11) y419 := (by rw [hw, Ny419.out]; exact HP16.1); clear HP16; have n0_ := Aside0.mk (hp_); have n1_ := Aside0.mk ((by rw [hw]; exact below_set (HB.out) GB15.out : Below w.heap.size w w17)); clear HO_5; clear HB; have HO_5 := n0_; have HB := n1_; clear n0_ n1_; clear hg hw hp_))
                  (try simp only [← hl5_1])
                  go_roundg k1
                  case measure => have := HK1.out; omega
                  case rel => exact ⟨(y419), (wrap64 (x27_1 + 1)), (by first | rfl | (simp; done) | (simp [*]; done)), H', ⟨by have := HK1.out; omega⟩, ⟨by (try simp only [hl5_1]); (with_reducible repeat (first | apply Kd.R_alloc | apply Kd.R_drewN | apply Kd.R_drew)); exact HO_5.out⟩, ⟨by repeat (first | (with_reducible first | exact HB.out | apply below_alloc | apply pw_below_drewN | apply below_drew1) | exact HB.out)⟩⟩
                · rw [if_neg c14] at H
                  exact absurd H (by simp)
              · rw [if_neg c13] at H
                exact absurd H (by simp)
            · rw [if_neg c12] at H
              have c12b0 : decide (x27_1 < (y416.length : Int)) = false := decide_eq_false c12
              have c12b7 : decide (x27_1 < (x5_1.length : Int)) = false := by rw [← hl5_1]; exact c12b0
              clear c12
              replace H := Option.bind_eq_some_iff.mp H
              obtain ⟨⟨t421, t422⟩, A180, H⟩ := H
              replace H : ((http_WriteResponse.f k1 200 (strOfNums x5_1)).bind fun bt423 => (if (x5_1.length : Int) > 4096 then (if t422 = 1 then (if bt423.2 = 1 then (if t421.toList = ([] : List UInt8) then (some (bt423.1.toList == ([] : List UInt8))) else (some false)) else (some false)) else (some false)) else ((http_ReadRequest.f k1 t421).bind fun bt425 => ((http_ReadResponse.f k1 bt423.1).bind fun bt433 => (if t422 = 0 then (if bt423.2 = 0 then (if bt425.2.2.2.2.2.2 = 0 then (if bt433.2.2.2 = 0 then (if (bt425.1.toList == ([80, 79, 83, 84] : List UInt8) && (bt425.2.1.toList == ([47] : List UInt8) && (bt425.2.2.1.toList == ([104] : List UInt8) && (bt425.2.2.2.1.toList == ([] : List UInt8) && (bt425.2.2.2.2.1.toList == ((strOfNums x5_1).toList)))))) = true then (if bt425.2.2.2.2.2.1 = (t421.size : Int) then (if bt433.2.2.1 = (bt423.1.size : Int) then (if bt433.2.1.toList = (strOfNums x5_1).toList then (some (bt433.1 == 200)) else (some false)) else (some false)) else (some false)) else (some false)) else (some false)) else (some false)) else (some false)) else (some false)))))) = some r := H
              have A18 := Aside0.mk A180
              clear A180
              replace H := Option.bind_eq_some_iff.mp H
              obtain ⟨⟨t423, t424⟩, A190, H⟩ := H
              replace H : (if (x5_1.length : Int) > 4096 then (if t422 = 1 then (if t424 = 1 then (if t421.toList = ([] : List UInt8) then (some (t423.toList == ([] : List UInt8))) else (some false)) else (some false)) else (some false)) else ((http_ReadRequest.f k1 t421).bind fun bt425 => ((http_ReadResponse.f k1 t423).bind fun bt433 => (if t422 = 0 then (if t424 = 0 then (if bt425.2.2.2.2.2.2 = 0 then (if bt433.2.2.2 = 0 then (if (bt425.1.toList == ([80, 79, 83, 84] : List UInt8) && (bt425.2.1.toList == ([47] : List UInt8) && (bt425.2.2.1.toList == ([104] : List UInt8) && (bt425.2.2.2.1.toList == ([] : List UInt8) && (bt425.2.2.2.2.1.toList == ((strOfNums x5_1).toList)))))) = true then (if bt425.2.2.2.2.2.1 = (t421.size : Int) then (if bt433.2.2.1 = (t423.size : Int) then (if bt433.2.1.toList = (strOfNums x5_1).toList then (some (bt433.1 == 200)) else (some false)) else (some false)) else (some false)) else (some false)) else (some false)) else (some false)) else (some false)) else (some false))))) = some r := H
              have A19 := Aside0.mk A190
              clear A190
              by_cases c20 : (x5_1.length : Int) > 4096
              · rw [if_pos c20] at H
                have c20b0 : decide (4096 < (x5_1.length : Int)) = true := decide_eq_true c20
                have c20b1 : decide (4096 < x5_1.length) = true := decide_eq_true (by omega)
                clear c20
                by_cases c21 : t422 = 1
                · rw [if_pos c21] at H
                  have c21b0 : (t422 == 1) = true := beq_iff_eq.mpr c21
                  have c21b1 : (t422 != 1) = false := bne_eq_false_iff_eq.mpr c21
                  clear c21
                  by_cases c22 : t424 = 1
                  · rw [if_pos c22] at H
                    have c22b0 : (t424 == 1) = true := beq_iff_eq.mpr c22
                    have c22b1 : (t424 != 1) = false := bne_eq_false_iff_eq.mpr c22
                    clear c22
                    by_cases c23 : t421.toList = ([] : List UInt8)
                    · rw [if_pos c23] at H
                      have c23b0 : (t421.toList == ([] : List UInt8)) = true := beq_iff_eq.mpr c23
                      have c23b1 : (t421.toList != ([] : List UInt8)) = false := bne_eq_false_iff_eq.mpr c23
                      have c23b2 : t421.toList.isEmpty = true := List.isEmpty_iff.mpr c23
                      clear c23
                      obtain rfl := Option.some.inj H
                      have hcv24 := own_string (P := Tryz.prog) Tryz.underlying49 Tryz.underlying5 Tryz.underlying9 (Kd.own_of_R HO_5.out)
                      go_wp2_with (first | ((with_reducible refine gate_dst (N := 7) rfl ?_); (try (refine gate_guard (by rfl) ?_; dsimp only)); refine box_event ?hg (N := 7) ?hd (cs := #[.string (⟨#[]⟩ : ByteArray), .string (⟨#[]⟩ : ByteArray), .string (⟨#[]⟩ : ByteArray), .string (⟨#[]⟩ : ByteArray), .string (⟨#[]⟩ : ByteArray)]) (t := 24) ?hr ?_; (case hd => rfl); (case hg => rfl); (case hr => first | (go_simp; done) | (go_simp; rfl)); intro gb420 hg w25 hbox hb; have n0_ := Aside0.mk (Kd.R_below (by (with_reducible repeat (first | apply Kd.R_alloc | apply Kd.R_drewN | apply Kd.R_drew)); exact HO_5.out) hb); have n1_ := Aside0.mk (below_step (by repeat (first | (with_reducible first | exact HB.out | apply below_alloc | apply pw_below_drewN | apply below_drew1) | exact HB.out)) hb); have n2_ := Aside0.mk (hbox); have n3_ := Aside0.mk ((by rw [hg]; exact (below_size (by repeat (first | (with_reducible first | exact HB.out | apply below_alloc | apply pw_below_drewN | apply below_drew1) | exact HB.out))) : w.heap.size ≤ gb420)); have n4_ := Aside0.mk ((by rw [hg]; exact (below_size (by repeat (first | (with_reducible first | exact HB.out | apply below_alloc | apply pw_below_drewN | apply below_drew1) | exact HB.out))) : w.heap.size ≤ gb420)); clear HO_5; clear HB; have HO_5 := n0_; have HB := n1_; have BK420 := n2_; have GW420 := n3_; have GE420 := n4_; clear n0_ n1_ n2_ n3_ n4_; clear hb hbox hg; have hcz26_0 : w25.cell? ⟨gb420, 0, none⟩ = some (.string (⟨#[]⟩ : ByteArray)) := (blk_cell BK420.out 0).trans rfl; have hcz26_1 : w25.cell? ⟨gb420, 1, none⟩ = some (.string (⟨#[]⟩ : ByteArray)) := (blk_cell BK420.out 1).trans rfl; have hcz26_2 : w25.cell? ⟨gb420, 2, none⟩ = some (.string (⟨#[]⟩ : ByteArray)) := (blk_cell BK420.out 2).trans rfl; have hcz26_3 : w25.cell? ⟨gb420, 3, none⟩ = some (.string (⟨#[]⟩ : ByteArray)) := (blk_cell BK420.out 3).trans rfl; have hcz26_4 : w25.cell? ⟨gb420, 4, none⟩ = some (.string (⟨#[]⟩ : ByteArray)) := (blk_cell BK420.out 4).trans rfl; have hfz26_0 := blk_frozen BK420.out 0; have hfz26_1 := blk_frozen BK420.out 1; have hfz26_2 := blk_frozen BK420.out 2; have hfz26_3 := blk_frozen BK420.out 3; have hfz26_4 := blk_frozen BK420.out 4) | ((with_reducible refine gate_callee (f := 14) rfl ?_); refine goesL_ (some 40) rfl rfl Tryz.func14 (by kernel_rfl) rfl #[.agg #[.string (⟨#[80, 79, 83, 84]⟩ : ByteArray), .string (⟨#[47]⟩ : ByteArray), .string (⟨#[104]⟩ : ByteArray), .string (⟨#[]⟩ : ByteArray), .string (strOfNums x5_1)]] rfl (by (try simp only [List.map_toArray, List.map_cons, List.map_nil]); first | done | rfl | (simp only [List.length_drop, List.length_take]; rfl)) ?_; (with_reducible refine (http_WriteRequest.calls k1 (⟨#[80, 79, 83, 84]⟩ : ByteArray) (⟨#[47]⟩ : ByteArray) (⟨#[104]⟩ : ByteArray) (⟨#[]⟩ : ByteArray) (strOfNums x5_1) t421 t422 _ ?side1 A18.out).mono ?_); (case side1 => exact ⟨TabsOk.below hT.out (by repeat (first | (with_reducible first | exact HB.out | apply below_alloc | apply pw_below_drewN | apply below_drew1 | refine below_set ?_ GE420.out) | exact HB.out))⟩); rintro e w27 ⟨rfl, hb⟩; refine ⟨_, rfl, ?_⟩; have n0_ := Aside0.mk (Kd.R_below (by (with_reducible repeat (first | apply Kd.R_alloc | apply Kd.R_drewN | apply Kd.R_drew)); exact (Kd.R_mono (Kd.R_far (p := ⟨gb420, 4, none⟩) (Kd.R_far (p := ⟨gb420, 3, none⟩) (Kd.R_far (p := ⟨gb420, 2, none⟩) (Kd.R_far (p := ⟨gb420, 1, none⟩) (Kd.R_far (p := ⟨gb420, 0, none⟩) (Kd.R_types HO_5.out BK420.out (by decide)) (fun _ hk => hk.2) (.string (⟨#[80, 79, 83, 84]⟩ : ByteArray))) (fun _ hk => hk.2) (.string (⟨#[47]⟩ : ByteArray))) (fun _ hk => hk.2) (.string (⟨#[104]⟩ : ByteArray))) (fun _ hk => hk.2) (.string (⟨#[]⟩ : ByteArray))) (fun _ hk => hk.2) (.string (strOfNums x5_1))) (fun _ h_ => h_.1))) hb); have n1_ := Aside0.mk (blk_below (g := gb420) (o := .cells #[.string (⟨#[80, 79, 83, 84]⟩ : ByteArray), .string (⟨#[47]⟩ : ByteArray), .string (⟨#[104]⟩ : ByteArray), .string (⟨#[]⟩ : ByteArray), .string (strOfNums x5_1)] 24 (0, 0)) (by (with_reducible repeat (first | refine blk_drewN ?_ _ | refine blk_drew ?_ | refine blk_alloc ?_ _)); refine blk_put (cs := #[.string (⟨#[80, 79, 83, 84]⟩ : ByteArray), .string (⟨#[47]⟩ : ByteArray), .string (⟨#[104]⟩ : ByteArray), .string (⟨#[]⟩ : ByteArray), .string (⟨#[]⟩ : ByteArray)]) ?_ 4 _ rfl; (with_reducible repeat (first | refine blk_drewN ?_ _ | refine blk_drew ?_ | refine blk_alloc ?_ _)); refine blk_put (cs := #[.string (⟨#[80, 79, 83, 84]⟩ : ByteArray), .string (⟨#[47]⟩ : ByteArray), .string (⟨#[104]⟩ : ByteArray), .string (⟨#[]⟩ : ByteArray), .string (⟨#[]⟩ : ByteArray)]) ?_ 3 _ rfl; (with_reducible repeat (first | refine blk_drewN ?_ _ | refine blk_drew ?_ | refine blk_alloc ?_ _)); refine blk_put (cs := #[.string (⟨#[80, 79, 83, 84]⟩ : ByteArray), .string (⟨#[47]⟩ : ByteArray), .string (⟨#[]⟩ : ByteArray), .string (⟨#[]⟩ : ByteArray), .string (⟨#[]⟩ : ByteArray)]) ?_ 2 _ rfl; (with_reducible repeat (first | refine blk_drewN ?_ _ | refine blk_drew ?_ | refine blk_alloc ?_ _)); refine blk_put (cs := #[.string (⟨#[80, 79, 83, 84]⟩ : ByteArray), .string (⟨#[]⟩ : ByteArray), .string (⟨#[]⟩ : ByteArray), .string (⟨#[]⟩ : ByteArray), .string (⟨#[]⟩ : ByteArray)]) ?_ 1 _ rfl; (with_reducible repeat (first | refine blk_drewN ?_ _ | refine blk_drew ?_ | refine blk_alloc ?_ _)); refine blk_put (cs := #[.string (⟨#[]⟩ : ByteArray), .string (⟨#[]⟩ : ByteArray), .string (⟨#[]⟩ : ByteArray), .string (⟨#[]⟩ : ByteArray), .string (⟨#[]⟩ : ByteArray)]) ?_ 0 _ rfl; (with_reducible repeat (first | refine blk_drewN ?_ _ | refine blk_drew ?_ | refine blk_alloc ?_ _)); exact BK420.out) hb); have n2_ := Aside0.mk (below_step (by repeat (first | (with_reducible first | exact HB.out | apply below_alloc | apply pw_below_drewN | apply below_drew1 | refine below_set ?_ GE420.out) | exact HB.out)) hb); clear HO_5; clear BK420; clear HB; have HO_5 := n0_; have BK420 := n1_; have HB := n2_; clear n0_ n1_ n2_; (try clear hb); (try clear hb2); (try clear hk); (try clear hi); have hcv28 := own_string (P := Tryz.prog) Tryz.underlying49 Tryz.underlying5 Tryz.underlying9 (Kd.own_of_R HO_5.out)) | ((with_reducible refine gate_callee (f := 16) rfl ?_); refine goesL_ (some 47) rfl rfl Tryz.func16 (by kernel_rfl) rfl #[.agg #[.int .i64 200, .string (strOfNums x5_1)]] rfl (by (try simp only [List.map_toArray, List.map_cons, List.map_nil]); first | done | rfl | (simp only [List.length_drop, List.length_take]; rfl)) ?_; (with_reducible refine (http_WriteResponse.calls k1 200 (strOfNums x5_1) t423 t424 _ ?side1 A19.out).mono ?_); (case side1 => exact ⟨TabsOk.below hT.out (by repeat (first | (with_reducible first | exact HB.out | apply below_alloc | apply pw_below_drewN | apply below_drew1 | refine below_set ?_ GE420.out) | exact HB.out))⟩); rintro e w29 ⟨rfl, hb⟩; refine ⟨_, rfl, ?_⟩; have n0_ := Aside0.mk (Kd.R_below (by (with_reducible repeat (first | apply Kd.R_alloc | apply Kd.R_drewN | apply Kd.R_drew)); exact HO_5.out) hb); have n1_ := Aside0.mk (blk_below (g := gb420) (o := .cells #[.string (⟨#[80, 79, 83, 84]⟩ : ByteArray), .string (⟨#[47]⟩ : ByteArray), .string (⟨#[104]⟩ : ByteArray), .string (⟨#[]⟩ : ByteArray), .string (strOfNums x5_1)] 24 (0, 0)) (by (with_reducible repeat (first | refine blk_drewN ?_ _ | refine blk_drew ?_ | refine blk_alloc ?_ _)); exact BK420.out) hb); have n2_ := Aside0.mk (below_step (by repeat (first | (with_reducible first | exact HB.out | apply below_alloc | apply pw_below_drewN | apply below_drew1 | refine below_set ?_ GE420.out) | exact HB.out)) hb); clear HO_5; clear BK420; clear HB; have HO_5 := n0_; have BK420 := n1_; have HB := n2_; clear n0_ n1_ n2_; (try clear hb); (try clear hb2); (try clear hk); (try clear hi)))
                      go_ret
                      exact ⟨by first | rfl | (simp [errW_none, errW_some] <;> rfl) | (simp only [← hji5]; first | rfl | (simp [errW_none, errW_some] <;> rfl)) | (simp [*, errW_none, errW_some] <;> rfl), by repeat (first | (with_reducible first | exact HB.out | apply below_alloc | apply pw_below_drewN | apply below_drew1 | refine below_set ?_ GE420.out) | exact HB.out)⟩
                    · rw [if_neg c23] at H
                      have c23b0 : (t421.toList == ([] : List UInt8)) = false := beq_eq_false_iff_ne.mpr c23
                      have c23b1 : (t421.toList != ([] : List UInt8)) = true := bne_iff_ne.mpr c23
                      have c23b2 : t421.toList.isEmpty = false := List.isEmpty_eq_false_iff.mpr c23
                      exact absurd (Option.some.inj H) (by rw [HR_.out]; simp)
                  · rw [if_neg c22] at H
                    have c22b0 : (t424 == 1) = false := beq_eq_false_iff_ne.mpr c22
                    have c22b1 : (t424 != 1) = true := bne_iff_ne.mpr c22
                    exact absurd (Option.some.inj H) (by rw [HR_.out]; simp)
                · rw [if_neg c21] at H
                  have c21b0 : (t422 == 1) = false := beq_eq_false_iff_ne.mpr c21
                  have c21b1 : (t422 != 1) = true := bne_iff_ne.mpr c21
                  exact absurd (Option.some.inj H) (by rw [HR_.out]; simp)
              · rw [if_neg c20] at H
                have c20b0 : decide (4096 < (x5_1.length : Int)) = false := decide_eq_false c20
                have c20b1 : decide (4096 < x5_1.length) = false := decide_eq_false (by omega)
                clear c20
                replace H := Option.bind_eq_some_iff.mp H
                obtain ⟨⟨t425, t426, t427, t428, t429, t430, t431⟩, A300, H⟩ := H
                replace H : ((http_ReadResponse.f k1 t423).bind fun bt433 => (if t422 = 0 then (if t424 = 0 then (if t431 = 0 then (if bt433.2.2.2 = 0 then (if (t425.toList == ([80, 79, 83, 84] : List UInt8) && (t426.toList == ([47] : List UInt8) && (t427.toList == ([104] : List UInt8) && (t428.toList == ([] : List UInt8) && (t429.toList == ((strOfNums x5_1).toList)))))) = true then (if t430 = (t421.size : Int) then (if bt433.2.2.1 = (t423.size : Int) then (if bt433.2.1.toList = (strOfNums x5_1).toList then (some (bt433.1 == 200)) else (some false)) else (some false)) else (some false)) else (some false)) else (some false)) else (some false)) else (some false)) else (some false))) = some r := H
                have A30 := Aside0.mk A300
                clear A300
                replace H := Option.bind_eq_some_iff.mp H
                obtain ⟨⟨t433, t434, t435, t436⟩, A310, H⟩ := H
                replace H : (if t422 = 0 then (if t424 = 0 then (if t431 = 0 then (if t436 = 0 then (if (t425.toList == ([80, 79, 83, 84] : List UInt8) && (t426.toList == ([47] : List UInt8) && (t427.toList == ([104] : List UInt8) && (t428.toList == ([] : List UInt8) && (t429.toList == ((strOfNums x5_1).toList)))))) = true then (if t430 = (t421.size : Int) then (if t435 = (t423.size : Int) then (if t434.toList = (strOfNums x5_1).toList then (some (t433 == 200)) else (some false)) else (some false)) else (some false)) else (some false)) else (some false)) else (some false)) else (some false)) else (some false)) = some r := H
                have A31 := Aside0.mk A310
                clear A310
                by_cases c32 : t422 = 0
                · rw [if_pos c32] at H
                  have c32b0 : (t422 == 0) = true := beq_iff_eq.mpr c32
                  have c32b1 : (t422 != 0) = false := bne_eq_false_iff_eq.mpr c32
                  clear c32
                  by_cases c33 : t424 = 0
                  · rw [if_pos c33] at H
                    have c33b0 : (t424 == 0) = true := beq_iff_eq.mpr c33
                    have c33b1 : (t424 != 0) = false := bne_eq_false_iff_eq.mpr c33
                    clear c33
                    by_cases c34 : t431 = 0
                    · rw [if_pos c34] at H
                      have c34b0 : (t431 == 0) = true := beq_iff_eq.mpr c34
                      have c34b1 : (t431 != 0) = false := bne_eq_false_iff_eq.mpr c34
                      clear c34
                      by_cases c35 : t436 = 0
                      · rw [if_pos c35] at H
                        have c35b0 : (t436 == 0) = true := beq_iff_eq.mpr c35
                        have c35b1 : (t436 != 0) = false := bne_eq_false_iff_eq.mpr c35
                        clear c35
                        by_cases c36 : (t425.toList == ([80, 79, 83, 84] : List UInt8) && (t426.toList == ([47] : List UInt8) && (t427.toList == ([104] : List UInt8) && (t428.toList == ([] : List UInt8) && (t429.toList == ((strOfNums x5_1).toList)))))) = true
                        · rw [if_pos c36] at H
                          have c36b0 : (t425.toList == ([80, 79, 83, 84] : List UInt8) && (t426.toList == ([47] : List UInt8) && (t427.toList == ([104] : List UInt8) && (t428.toList == ([] : List UInt8) && (t429.toList == ((strOfNums x5_1).toList)))))) = true := c36
                          (try (have c36b1 : decide (t425.toList = ([80, 79, 83, 84] : List UInt8) && (t426.toList == ([47] : List UInt8) && (t427.toList == ([104] : List UInt8) && (t428.toList == ([] : List UInt8) && (t429.toList == ((strOfNums x5_1).toList)))))) = true := by simpa using c36))
                          (try (have c36b2 : (t425.toList == ([80, 79, 83, 84] : List UInt8) && (t426.toList == ([47] : List UInt8) && (t427.toList == ([104] : List UInt8) && (t428.toList == ([] : List UInt8) && (t429.toList == ((strOfNums x5_1).toList)))))) = true := by simpa using c36))
                          clear c36
                          by_cases c37 : t430 = (t421.size : Int)
                          · rw [if_pos c37] at H
                            have c37b0 : (t430 == (t421.size : Int)) = true := beq_iff_eq.mpr c37
                            have c37b1 : (t430 != (t421.size : Int)) = false := bne_eq_false_iff_eq.mpr c37
                            clear c37
                            by_cases c38 : t435 = (t423.size : Int)
                            · rw [if_pos c38] at H
                              have c38b0 : (t435 == (t423.size : Int)) = true := beq_iff_eq.mpr c38
                              have c38b1 : (t435 != (t423.size : Int)) = false := bne_eq_false_iff_eq.mpr c38
                              clear c38
                              by_cases c39 : t434.toList = (strOfNums x5_1).toList
                              · rw [if_pos c39] at H
                                have c39b0 : (t434.toList == (strOfNums x5_1).toList) = true := beq_iff_eq.mpr c39
                                have c39b1 : (t434.toList != (strOfNums x5_1).toList) = false := bne_eq_false_iff_eq.mpr c39
                                clear c39
                                obtain rfl := Option.some.inj H
                                have hcv40 := own_string (P := Tryz.prog) Tryz.underlying49 Tryz.underlying5 Tryz.underlying9 (Kd.own_of_R HO_5.out)
                                go_wp2_with (first | ((with_reducible refine gate_dst (N := 7) rfl ?_); (try (refine gate_guard (by rfl) ?_; dsimp only)); refine box_event ?hg (N := 7) ?hd (cs := #[.string (⟨#[]⟩ : ByteArray), .string (⟨#[]⟩ : ByteArray), .string (⟨#[]⟩ : ByteArray), .string (⟨#[]⟩ : ByteArray), .string (⟨#[]⟩ : ByteArray)]) (t := 24) ?hr ?_; (case hd => rfl); (case hg => rfl); (case hr => first | (go_simp; done) | (go_simp; rfl)); intro gb420 hg w41 hbox hb; have n0_ := Aside0.mk (Kd.R_below (by (with_reducible repeat (first | apply Kd.R_alloc | apply Kd.R_drewN | apply Kd.R_drew)); exact HO_5.out) hb); have n1_ := Aside0.mk (below_step (by repeat (first | (with_reducible first | exact HB.out | apply below_alloc | apply pw_below_drewN | apply below_drew1) | exact HB.out)) hb); have n2_ := Aside0.mk (hbox); have n3_ := Aside0.mk ((by rw [hg]; exact (below_size (by repeat (first | (with_reducible first | exact HB.out | apply below_alloc | apply pw_below_drewN | apply below_drew1) | exact HB.out))) : w.heap.size ≤ gb420)); have n4_ := Aside0.mk ((by rw [hg]; exact (below_size (by repeat (first | (with_reducible first | exact HB.out | apply below_alloc | apply pw_below_drewN | apply below_drew1) | exact HB.out))) : w.heap.size ≤ gb420)); clear HO_5; clear HB; have HO_5 := n0_; have HB := n1_; have BK420 := n2_; have GW420 := n3_; have GE420 := n4_; clear n0_ n1_ n2_ n3_ n4_; clear hb hbox hg; have hcz42_0 : w41.cell? ⟨gb420, 0, none⟩ = some (.string (⟨#[]⟩ : ByteArray)) := (blk_cell BK420.out 0).trans rfl; have hcz42_1 : w41.cell? ⟨gb420, 1, none⟩ = some (.string (⟨#[]⟩ : ByteArray)) := (blk_cell BK420.out 1).trans rfl; have hcz42_2 : w41.cell? ⟨gb420, 2, none⟩ = some (.string (⟨#[]⟩ : ByteArray)) := (blk_cell BK420.out 2).trans rfl; have hcz42_3 : w41.cell? ⟨gb420, 3, none⟩ = some (.string (⟨#[]⟩ : ByteArray)) := (blk_cell BK420.out 3).trans rfl; have hcz42_4 : w41.cell? ⟨gb420, 4, none⟩ = some (.string (⟨#[]⟩ : ByteArray)) := (blk_cell BK420.out 4).trans rfl; have hfz42_0 := blk_frozen BK420.out 0; have hfz42_1 := blk_frozen BK420.out 1; have hfz42_2 := blk_frozen BK420.out 2; have hfz42_3 := blk_frozen BK420.out 3; have hfz42_4 := blk_frozen BK420.out 4) | ((with_reducible refine gate_callee (f := 14) rfl ?_); refine goesL_ (some 40) rfl rfl Tryz.func14 (by kernel_rfl) rfl #[.agg #[.string (⟨#[80, 79, 83, 84]⟩ : ByteArray), .string (⟨#[47]⟩ : ByteArray), .string (⟨#[104]⟩ : ByteArray), .string (⟨#[]⟩ : ByteArray), .string (strOfNums x5_1)]] rfl (by (try simp only [List.map_toArray, List.map_cons, List.map_nil]); first | done | rfl | (simp only [List.length_drop, List.length_take]; rfl)) ?_; (with_reducible refine (http_WriteRequest.calls k1 (⟨#[80, 79, 83, 84]⟩ : ByteArray) (⟨#[47]⟩ : ByteArray) (⟨#[104]⟩ : ByteArray) (⟨#[]⟩ : ByteArray) (strOfNums x5_1) t421 t422 _ ?side1 A18.out).mono ?_); (case side1 => exact ⟨TabsOk.below hT.out (by repeat (first | (with_reducible first | exact HB.out | apply below_alloc | apply pw_below_drewN | apply below_drew1 | refine below_set ?_ GE420.out) | exact HB.out))⟩); rintro e w43 ⟨rfl, hb⟩; refine ⟨_, rfl, ?_⟩; have n0_ := Aside0.mk (Kd.R_below (by (with_reducible repeat (first | apply Kd.R_alloc | apply Kd.R_drewN | apply Kd.R_drew)); exact (Kd.R_mono (Kd.R_far (p := ⟨gb420, 4, none⟩) (Kd.R_far (p := ⟨gb420, 3, none⟩) (Kd.R_far (p := ⟨gb420, 2, none⟩) (Kd.R_far (p := ⟨gb420, 1, none⟩) (Kd.R_far (p := ⟨gb420, 0, none⟩) (Kd.R_types HO_5.out BK420.out (by decide)) (fun _ hk => hk.2) (.string (⟨#[80, 79, 83, 84]⟩ : ByteArray))) (fun _ hk => hk.2) (.string (⟨#[47]⟩ : ByteArray))) (fun _ hk => hk.2) (.string (⟨#[104]⟩ : ByteArray))) (fun _ hk => hk.2) (.string (⟨#[]⟩ : ByteArray))) (fun _ hk => hk.2) (.string (strOfNums x5_1))) (fun _ h_ => h_.1))) hb); have n1_ := Aside0.mk (blk_below (g := gb420) (o := .cells #[.string (⟨#[80, 79, 83, 84]⟩ : ByteArray), .string (⟨#[47]⟩ : ByteArray), .string (⟨#[104]⟩ : ByteArray), .string (⟨#[]⟩ : ByteArray), .string (strOfNums x5_1)] 24 (0, 0)) (by (with_reducible repeat (first | refine blk_drewN ?_ _ | refine blk_drew ?_ | refine blk_alloc ?_ _)); refine blk_put (cs := #[.string (⟨#[80, 79, 83, 84]⟩ : ByteArray), .string (⟨#[47]⟩ : ByteArray), .string (⟨#[104]⟩ : ByteArray), .string (⟨#[]⟩ : ByteArray), .string (⟨#[]⟩ : ByteArray)]) ?_ 4 _ rfl; (with_reducible repeat (first | refine blk_drewN ?_ _ | refine blk_drew ?_ | refine blk_alloc ?_ _)); refine blk_put (cs := #[.string (⟨#[80, 79, 83, 84]⟩ : ByteArray), .string (⟨#[47]⟩ : ByteArray), .string (⟨#[104]⟩ : ByteArray), .string (⟨#[]⟩ : ByteArray), .string (⟨#[]⟩ : ByteArray)]) ?_ 3 _ rfl; (with_reducible repeat (first | refine blk_drewN ?_ _ | refine blk_drew ?_ | refine blk_alloc ?_ _)); refine blk_put (cs := #[.string (⟨#[80, 79, 83, 84]⟩ : ByteArray), .string (⟨#[47]⟩ : ByteArray), .string (⟨#[]⟩ : ByteArray), .string (⟨#[]⟩ : ByteArray), .string (⟨#[]⟩ : ByteArray)]) ?_ 2 _ rfl; (with_reducible repeat (first | refine blk_drewN ?_ _ | refine blk_drew ?_ | refine blk_alloc ?_ _)); refine blk_put (cs := #[.string (⟨#[80, 79, 83, 84]⟩ : ByteArray), .string (⟨#[]⟩ : ByteArray), .string (⟨#[]⟩ : ByteArray), .string (⟨#[]⟩ : ByteArray), .string (⟨#[]⟩ : ByteArray)]) ?_ 1 _ rfl; (with_reducible repeat (first | refine blk_drewN ?_ _ | refine blk_drew ?_ | refine blk_alloc ?_ _)); refine blk_put (cs := #[.string (⟨#[]⟩ : ByteArray), .string (⟨#[]⟩ : ByteArray), .string (⟨#[]⟩ : ByteArray), .string (⟨#[]⟩ : ByteArray), .string (⟨#[]⟩ : ByteArray)]) ?_ 0 _ rfl; (with_reducible repeat (first | refine blk_drewN ?_ _ | refine blk_drew ?_ | refine blk_alloc ?_ _)); exact BK420.out) hb); have n2_ := Aside0.mk (below_step (by repeat (first | (with_reducible first | exact HB.out | apply below_alloc | apply pw_below_drewN | apply below_drew1 | refine below_set ?_ GE420.out) | exact HB.out)) hb); clear HO_5; clear BK420; clear HB; have HO_5 := n0_; have BK420 := n1_; have HB := n2_; clear n0_ n1_ n2_; (try clear hb); (try clear hb2); (try clear hk); (try clear hi); have hcv44 := own_string (P := Tryz.prog) Tryz.underlying49 Tryz.underlying5 Tryz.underlying9 (Kd.own_of_R HO_5.out)) | ((with_reducible refine gate_callee (f := 16) rfl ?_); refine goesL_ (some 47) rfl rfl Tryz.func16 (by kernel_rfl) rfl #[.agg #[.int .i64 200, .string (strOfNums x5_1)]] rfl (by (try simp only [List.map_toArray, List.map_cons, List.map_nil]); first | done | rfl | (simp only [List.length_drop, List.length_take]; rfl)) ?_; (with_reducible refine (http_WriteResponse.calls k1 200 (strOfNums x5_1) t423 t424 _ ?side1 A19.out).mono ?_); (case side1 => exact ⟨TabsOk.below hT.out (by repeat (first | (with_reducible first | exact HB.out | apply below_alloc | apply pw_below_drewN | apply below_drew1 | refine below_set ?_ GE420.out) | exact HB.out))⟩); rintro e w45 ⟨rfl, hb⟩; refine ⟨_, rfl, ?_⟩; have n0_ := Aside0.mk (Kd.R_below (by (with_reducible repeat (first | apply Kd.R_alloc | apply Kd.R_drewN | apply Kd.R_drew)); exact HO_5.out) hb); have n1_ := Aside0.mk (blk_below (g := gb420) (o := .cells #[.string (⟨#[80, 79, 83, 84]⟩ : ByteArray), .string (⟨#[47]⟩ : ByteArray), .string (⟨#[104]⟩ : ByteArray), .string (⟨#[]⟩ : ByteArray), .string (strOfNums x5_1)] 24 (0, 0)) (by (with_reducible repeat (first | refine blk_drewN ?_ _ | refine blk_drew ?_ | refine blk_alloc ?_ _)); exact BK420.out) hb); have n2_ := Aside0.mk (below_step (by repeat (first | (with_reducible first | exact HB.out | apply below_alloc | apply pw_below_drewN | apply below_drew1 | refine below_set ?_ GE420.out) | exact HB.out)) hb); clear HO_5; clear BK420; clear HB; have HO_5 := n0_; have BK420 := n1_; have HB := n2_; clear n0_ n1_ n2_; (try clear hb); (try clear hb2); (try clear hk); (try clear hi)) | ((with_reducible refine gate_callee (f := 10) rfl ?_); refine goesL_ (some 69) rfl rfl Tryz.func10 (by kernel_rfl) rfl #[.string t421] rfl (by (try simp only [List.map_toArray, List.map_cons, List.map_nil]); first | done | rfl | (simp only [List.length_drop, List.length_take]; rfl)) ?_; (with_reducible refine (http_ReadRequest.calls k1 t421 t425 t426 t427 t428 t429 t430 t431 _ ?side1 A30.out).mono ?_); (case side1 => exact ⟨TabsOk.below hT.out (by repeat (first | (with_reducible first | exact HB.out | apply below_alloc | apply pw_below_drewN | apply below_drew1 | refine below_set ?_ GE420.out) | exact HB.out))⟩); rintro e w46 ⟨rfl, hb⟩; refine ⟨_, rfl, ?_⟩; have n0_ := Aside0.mk (Kd.R_below (by (with_reducible repeat (first | apply Kd.R_alloc | apply Kd.R_drewN | apply Kd.R_drew)); exact HO_5.out) hb); have n1_ := Aside0.mk (blk_below (g := gb420) (o := .cells #[.string (⟨#[80, 79, 83, 84]⟩ : ByteArray), .string (⟨#[47]⟩ : ByteArray), .string (⟨#[104]⟩ : ByteArray), .string (⟨#[]⟩ : ByteArray), .string (strOfNums x5_1)] 24 (0, 0)) (by (with_reducible repeat (first | refine blk_drewN ?_ _ | refine blk_drew ?_ | refine blk_alloc ?_ _)); exact BK420.out) hb); have n2_ := Aside0.mk (below_step (by repeat (first | (with_reducible first | exact HB.out | apply below_alloc | apply pw_below_drewN | apply below_drew1 | refine below_set ?_ GE420.out) | exact HB.out)) hb); clear HO_5; clear BK420; clear HB; have HO_5 := n0_; have BK420 := n1_; have HB := n2_; clear n0_ n1_ n2_; (try clear hb); (try clear hb2); (try clear hk); (try clear hi)) | ((with_reducible refine gate_dst (N := 12) rfl ?_); (try (refine gate_guard (by rfl) ?_; dsimp only)); refine box_event ?hg (N := 12) ?hd (cs := #[.string (⟨#[]⟩ : ByteArray), .string (⟨#[]⟩ : ByteArray), .string (⟨#[]⟩ : ByteArray), .string (⟨#[]⟩ : ByteArray), .string (⟨#[]⟩ : ByteArray)]) (t := 24) ?hr ?_; (case hd => rfl); (case hg => rfl); (case hr => first | (go_simp; done) | (go_simp; rfl)); intro gb432 hg w47 hbox hb; have n0_ := Aside0.mk (Kd.R_below (by (with_reducible repeat (first | apply Kd.R_alloc | apply Kd.R_drewN | apply Kd.R_drew)); exact HO_5.out) hb); have n1_ := Aside0.mk (blk_below (g := gb420) (o := .cells #[.string (⟨#[80, 79, 83, 84]⟩ : ByteArray), .string (⟨#[47]⟩ : ByteArray), .string (⟨#[104]⟩ : ByteArray), .string (⟨#[]⟩ : ByteArray), .string (strOfNums x5_1)] 24 (0, 0)) (by (with_reducible repeat (first | refine blk_drewN ?_ _ | refine blk_drew ?_ | refine blk_alloc ?_ _)); exact BK420.out) hb); have n2_ := Aside0.mk (below_step (by repeat (first | (with_reducible first | exact HB.out | apply below_alloc | apply pw_below_drewN | apply below_drew1 | refine below_set ?_ GE420.out) | exact HB.out)) hb); have n3_ := Aside0.mk (hbox); have n4_ := Aside0.mk ((by rw [hg]; exact (below_size (by repeat (first | (with_reducible first | exact HB.out | apply below_alloc | apply pw_below_drewN | apply below_drew1 | refine below_set ?_ GE420.out) | exact HB.out))) : w.heap.size ≤ gb432)); have n5_ := Aside0.mk ((by rw [hg]; exact (below_size (by repeat (first | (with_reducible first | exact HB.out | apply below_alloc | apply pw_below_drewN | apply below_drew1 | refine below_set ?_ GE420.out) | exact HB.out))) : w.heap.size ≤ gb432)); have n6_ := Aside0.mk ((by rw [hg]; exact Nat.ne_of_lt (blk_lt (g := gb420) (o := .cells #[.string (⟨#[80, 79, 83, 84]⟩ : ByteArray), .string (⟨#[47]⟩ : ByteArray), .string (⟨#[104]⟩ : ByteArray), .string (⟨#[]⟩ : ByteArray), .string (strOfNums x5_1)] 24 (0, 0)) (by (with_reducible repeat (first | refine blk_drewN ?_ _ | refine blk_drew ?_ | refine blk_alloc ?_ _)); exact BK420.out)) : gb420 ≠ gb432)); have n7_ := Aside0.mk ((by rw [hg]; exact Nat.ne_of_gt (blk_lt (g := gb420) (o := .cells #[.string (⟨#[80, 79, 83, 84]⟩ : ByteArray), .string (⟨#[47]⟩ : ByteArray), .string (⟨#[104]⟩ : ByteArray), .string (⟨#[]⟩ : ByteArray), .string (strOfNums x5_1)] 24 (0, 0)) (by (with_reducible repeat (first | refine blk_drewN ?_ _ | refine blk_drew ?_ | refine blk_alloc ?_ _)); exact BK420.out)) : gb432 ≠ gb420)); clear HO_5; clear BK420; clear HB; have HO_5 := n0_; have BK420 := n1_; have HB := n2_; have BK432 := n3_; have GW432 := n4_; have GE432 := n5_; have NB420_432 := n6_; have NB432_420 := n7_; clear n0_ n1_ n2_ n3_ n4_ n5_ n6_ n7_; clear hb hbox hg; have hnb48 := NB432_420.out; have hnc48 := NB420_432.out; have hcz49_0 : w47.cell? ⟨gb432, 0, none⟩ = some (.string (⟨#[]⟩ : ByteArray)) := (blk_cell BK432.out 0).trans rfl; have hcz49_1 : w47.cell? ⟨gb432, 1, none⟩ = some (.string (⟨#[]⟩ : ByteArray)) := (blk_cell BK432.out 1).trans rfl; have hcz49_2 : w47.cell? ⟨gb432, 2, none⟩ = some (.string (⟨#[]⟩ : ByteArray)) := (blk_cell BK432.out 2).trans rfl; have hcz49_3 : w47.cell? ⟨gb432, 3, none⟩ = some (.string (⟨#[]⟩ : ByteArray)) := (blk_cell BK432.out 3).trans rfl; have hcz49_4 : w47.cell? ⟨gb432, 4, none⟩ = some (.string (⟨#[]⟩ : ByteArray)) := (blk_cell BK432.out 4).trans rfl; have hfz49_0 := blk_frozen BK432.out 0; have hfz49_1 := blk_frozen BK432.out 1; have hfz49_2 := blk_frozen BK432.out 2; have hfz49_3 := blk_frozen BK432.out 3; have hfz49_4 := blk_frozen BK432.out 4) | ((with_reducible refine gate_callee (f := 12) rfl ?_); refine goesL_ (some 75) rfl rfl Tryz.func12 (by kernel_rfl) rfl #[.string t423] rfl (by (try simp only [List.map_toArray, List.map_cons, List.map_nil]); first | done | rfl | (simp only [List.length_drop, List.length_take]; rfl)) ?_; (with_reducible refine (http_ReadResponse.calls k1 t423 t433 t434 t435 t436 _ ?side1 A31.out).mono ?_); (case side1 => exact ⟨TabsOk.below hT.out (by repeat (first | (with_reducible first | exact HB.out | apply below_alloc | apply pw_below_drewN | apply below_drew1 | refine below_set ?_ GE420.out | refine below_set ?_ GE432.out) | exact HB.out))⟩); rintro e w50 ⟨rfl, hb⟩; refine ⟨_, rfl, ?_⟩; have n0_ := Aside0.mk (Kd.R_below (by (with_reducible repeat (first | apply Kd.R_alloc | apply Kd.R_drewN | apply Kd.R_drew)); exact (Kd.R_mono (Kd.R_far (p := ⟨gb432, 4, none⟩) (Kd.R_far (p := ⟨gb432, 3, none⟩) (Kd.R_far (p := ⟨gb432, 2, none⟩) (Kd.R_far (p := ⟨gb432, 1, none⟩) (Kd.R_far (p := ⟨gb432, 0, none⟩) (Kd.R_types HO_5.out BK432.out (by decide)) (fun _ hk => hk.2) (.string t425)) (fun _ hk => hk.2) (.string t426)) (fun _ hk => hk.2) (.string t427)) (fun _ hk => hk.2) (.string t428)) (fun _ hk => hk.2) (.string t429)) (fun _ h_ => h_.1))) hb); have n1_ := Aside0.mk (blk_below (g := gb420) (o := .cells #[.string (⟨#[80, 79, 83, 84]⟩ : ByteArray), .string (⟨#[47]⟩ : ByteArray), .string (⟨#[104]⟩ : ByteArray), .string (⟨#[]⟩ : ByteArray), .string (strOfNums x5_1)] 24 (0, 0)) (by (with_reducible repeat (first | refine blk_drewN ?_ _ | refine blk_drew ?_ | refine blk_alloc ?_ _)); refine blk_far ?_ NB420_432.out _; (with_reducible repeat (first | refine blk_drewN ?_ _ | refine blk_drew ?_ | refine blk_alloc ?_ _)); refine blk_far ?_ NB420_432.out _; (with_reducible repeat (first | refine blk_drewN ?_ _ | refine blk_drew ?_ | refine blk_alloc ?_ _)); refine blk_far ?_ NB420_432.out _; (with_reducible repeat (first | refine blk_drewN ?_ _ | refine blk_drew ?_ | refine blk_alloc ?_ _)); refine blk_far ?_ NB420_432.out _; (with_reducible repeat (first | refine blk_drewN ?_ _ | refine blk_drew ?_ | refine blk_alloc ?_ _)); refine blk_far ?_ NB420_432.out _; (with_reducible repeat (first | refine blk_drewN ?_ _ | refine blk_drew ?_ | refine blk_alloc ?_ _)); exact BK420.out) hb); have n2_ := Aside0.mk (blk_below (g := gb432) (o := .cells #[.string t425, .string t426, .string t427, .string t428, .string t429] 24 (0, 0)) (by (with_reducible repeat (first | refine blk_drewN ?_ _ | refine blk_drew ?_ | refine blk_alloc ?_ _)); refine blk_put (cs := #[.string t425, .string t426, .string t427, .string t428, .string (⟨#[]⟩ : ByteArray)]) ?_ 4 _ rfl; (with_reducible repeat (first | refine blk_drewN ?_ _ | refine blk_drew ?_ | refine blk_alloc ?_ _)); refine blk_put (cs := #[.string t425, .string t426, .string t427, .string (⟨#[]⟩ : ByteArray), .string (⟨#[]⟩ : ByteArray)]) ?_ 3 _ rfl; (with_reducible repeat (first | refine blk_drewN ?_ _ | refine blk_drew ?_ | refine blk_alloc ?_ _)); refine blk_put (cs := #[.string t425, .string t426, .string (⟨#[]⟩ : ByteArray), .string (⟨#[]⟩ : ByteArray), .string (⟨#[]⟩ : ByteArray)]) ?_ 2 _ rfl; (with_reducible repeat (first | refine blk_drewN ?_ _ | refine blk_drew ?_ | refine blk_alloc ?_ _)); refine blk_put (cs := #[.string t425, .string (⟨#[]⟩ : ByteArray), .string (⟨#[]⟩ : ByteArray), .string (⟨#[]⟩ : ByteArray), .string (⟨#[]⟩ : ByteArray)]) ?_ 1 _ rfl; (with_reducible repeat (first | refine blk_drewN ?_ _ | refine blk_drew ?_ | refine blk_alloc ?_ _)); refine blk_put (cs := #[.string (⟨#[]⟩ : ByteArray), .string (⟨#[]⟩ : ByteArray), .string (⟨#[]⟩ : ByteArray), .string (⟨#[]⟩ : ByteArray), .string (⟨#[]⟩ : ByteArray)]) ?_ 0 _ rfl; (with_reducible repeat (first | refine blk_drewN ?_ _ | refine blk_drew ?_ | refine blk_alloc ?_ _)); exact BK432.out) hb); have n3_ := Aside0.mk (below_step (by repeat (first | (with_reducible first | exact HB.out | apply below_alloc | apply pw_below_drewN | apply below_drew1 | refine below_set ?_ GE420.out | refine below_set ?_ GE432.out) | exact HB.out)) hb); clear HO_5; clear BK420; clear BK432; clear HB; have HO_5 := n0_; have BK420 := n1_; have BK432 := n2_; have HB := n3_; clear n0_ n1_ n2_ n3_; (try clear hb); (try clear hb2); (try clear hk); (try clear hi)) | ((with_reducible refine gate_dst (N := 15) rfl ?_); (try (refine gate_guard (by rfl) ?_; dsimp only)); refine box_event ?hg (N := 15) ?hd (cs := #[.int .i64 0, .string (⟨#[]⟩ : ByteArray)]) (t := 31) ?hr ?_; (case hd => rfl); (case hg => rfl); (case hr => first | (go_simp; done) | (go_simp; rfl)); intro gb437 hg w51 hbox hb; have n0_ := Aside0.mk (Kd.R_below (by (with_reducible repeat (first | apply Kd.R_alloc | apply Kd.R_drewN | apply Kd.R_drew)); exact HO_5.out) hb); have n1_ := Aside0.mk (blk_below (g := gb420) (o := .cells #[.string (⟨#[80, 79, 83, 84]⟩ : ByteArray), .string (⟨#[47]⟩ : ByteArray), .string (⟨#[104]⟩ : ByteArray), .string (⟨#[]⟩ : ByteArray), .string (strOfNums x5_1)] 24 (0, 0)) (by (with_reducible repeat (first | refine blk_drewN ?_ _ | refine blk_drew ?_ | refine blk_alloc ?_ _)); exact BK420.out) hb); have n2_ := Aside0.mk (blk_below (g := gb432) (o := .cells #[.string t425, .string t426, .string t427, .string t428, .string t429] 24 (0, 0)) (by (with_reducible repeat (first | refine blk_drewN ?_ _ | refine blk_drew ?_ | refine blk_alloc ?_ _)); exact BK432.out) hb); have n3_ := Aside0.mk (below_step (by repeat (first | (with_reducible first | exact HB.out | apply below_alloc | apply pw_below_drewN | apply below_drew1 | refine below_set ?_ GE420.out | refine below_set ?_ GE432.out) | exact HB.out)) hb); have n4_ := Aside0.mk (hbox); have n5_ := Aside0.mk ((by rw [hg]; exact (below_size (by repeat (first | (with_reducible first | exact HB.out | apply below_alloc | apply pw_below_drewN | apply below_drew1 | refine below_set ?_ GE420.out | refine below_set ?_ GE432.out) | exact HB.out))) : w.heap.size ≤ gb437)); have n6_ := Aside0.mk ((by rw [hg]; exact (below_size (by repeat (first | (with_reducible first | exact HB.out | apply below_alloc | apply pw_below_drewN | apply below_drew1 | refine below_set ?_ GE420.out | refine below_set ?_ GE432.out) | exact HB.out))) : w.heap.size ≤ gb437)); have n7_ := Aside0.mk ((by rw [hg]; exact Nat.ne_of_lt (blk_lt (g := gb420) (o := .cells #[.string (⟨#[80, 79, 83, 84]⟩ : ByteArray), .string (⟨#[47]⟩ : ByteArray), .string (⟨#[104]⟩ : ByteArray), .string (⟨#[]⟩ : ByteArray), .string (strOfNums x5_1)] 24 (0, 0)) (by (with_reducible repeat (first | refine blk_drewN ?_ _ | refine blk_drew ?_ | refine blk_alloc ?_ _)); exact BK420.out)) : gb420 ≠ gb437)); have n8_ := Aside0.mk ((by rw [hg]; exact Nat.ne_of_gt (blk_lt (g := gb420) (o := .cells #[.string (⟨#[80, 79, 83, 84]⟩ : ByteArray), .string (⟨#[47]⟩ : ByteArray), .string (⟨#[104]⟩ : ByteArray), .string (⟨#[]⟩ : ByteArray), .string (strOfNums x5_1)] 24 (0, 0)) (by (with_reducible repeat (first | refine blk_drewN ?_ _ | refine blk_drew ?_ | refine blk_alloc ?_ _)); exact BK420.out)) : gb437 ≠ gb420)); have n9_ := Aside0.mk ((by rw [hg]; exact Nat.ne_of_lt (blk_lt (g := gb432) (o := .cells #[.string t425, .string t426, .string t427, .string t428, .string t429] 24 (0, 0)) (by (with_reducible repeat (first | refine blk_drewN ?_ _ | refine blk_drew ?_ | refine blk_alloc ?_ _)); exact BK432.out)) : gb432 ≠ gb437)); have n10_ := Aside0.mk ((by rw [hg]; exact Nat.ne_of_gt (blk_lt (g := gb432) (o := .cells #[.string t425, .string t426, .string t427, .string t428, .string t429] 24 (0, 0)) (by (with_reducible repeat (first | refine blk_drewN ?_ _ | refine blk_drew ?_ | refine blk_alloc ?_ _)); exact BK432.out)) : gb437 ≠ gb432)); clear HO_5; clear BK420; clear BK432; clear HB; have HO_5 := n0_; have BK420 := n1_; have BK432 := n2_; have HB := n3_; have BK437 := n4_; have GW437 := n5_; have GE437 := n6_; have NB420_437 := n7_; have NB437_420 := n8_; have NB432_437 := n9_; have NB437_432 := n10_; clear n0_ n1_ n2_ n3_ n4_ n5_ n6_ n7_ n8_ n9_ n10_; clear hb hbox hg; have hnb52 := NB437_420.out; have hnc52 := NB420_437.out; have hnb53 := NB437_432.out; have hnc53 := NB432_437.out; have hcz54_0 : w51.cell? ⟨gb437, 0, none⟩ = some (.int .i64 0) := (blk_cell BK437.out 0).trans rfl; have hcz54_1 : w51.cell? ⟨gb437, 1, none⟩ = some (.string (⟨#[]⟩ : ByteArray)) := (blk_cell BK437.out 1).trans rfl; have hfz54_0 := blk_frozen BK437.out 0; have hfz54_1 := blk_frozen BK437.out 1; have hcz55_0 : w51.cell? ⟨gb432, 0, none⟩ = some (.string t425) := (blk_cell BK432.out 0).trans rfl; have hcz55_1 : w51.cell? ⟨gb432, 1, none⟩ = some (.string t426) := (blk_cell BK432.out 1).trans rfl; have hcz55_2 : w51.cell? ⟨gb432, 2, none⟩ = some (.string t427) := (blk_cell BK432.out 2).trans rfl; have hcz55_3 : w51.cell? ⟨gb432, 3, none⟩ = some (.string t428) := (blk_cell BK432.out 3).trans rfl; have hcz55_4 : w51.cell? ⟨gb432, 4, none⟩ = some (.string t429) := (blk_cell BK432.out 4).trans rfl; have hfz55_0 := blk_frozen BK432.out 0; have hfz55_1 := blk_frozen BK432.out 1; have hfz55_2 := blk_frozen BK432.out 2; have hfz55_3 := blk_frozen BK432.out 3; have hfz55_4 := blk_frozen BK432.out 4; have hcz56_0 : w51.cell? ⟨gb420, 0, none⟩ = some (.string (⟨#[80, 79, 83, 84]⟩ : ByteArray)) := (blk_cell BK420.out 0).trans rfl; have hcz56_1 : w51.cell? ⟨gb420, 1, none⟩ = some (.string (⟨#[47]⟩ : ByteArray)) := (blk_cell BK420.out 1).trans rfl; have hcz56_2 : w51.cell? ⟨gb420, 2, none⟩ = some (.string (⟨#[104]⟩ : ByteArray)) := (blk_cell BK420.out 2).trans rfl; have hcz56_3 : w51.cell? ⟨gb420, 3, none⟩ = some (.string (⟨#[]⟩ : ByteArray)) := (blk_cell BK420.out 3).trans rfl; have hcz56_4 : w51.cell? ⟨gb420, 4, none⟩ = some (.string (strOfNums x5_1)) := (blk_cell BK420.out 4).trans rfl; have hfz56_0 := blk_frozen BK420.out 0; have hfz56_1 := blk_frozen BK420.out 1; have hfz56_2 := blk_frozen BK420.out 2; have hfz56_3 := blk_frozen BK420.out 3; have hfz56_4 := blk_frozen BK420.out 4))
                                go_ret
                                exact ⟨by first | rfl | (simp [errW_none, errW_some] <;> rfl) | (simp only [← hji5]; first | rfl | (simp [errW_none, errW_some] <;> rfl)) | (simp [*, errW_none, errW_some] <;> rfl), by repeat (first | (with_reducible first | exact HB.out | apply below_alloc | apply pw_below_drewN | apply below_drew1 | refine below_set ?_ GE420.out | refine below_set ?_ GE432.out | refine below_set ?_ GE437.out) | exact HB.out)⟩
                                all_goals (exfalso; rename_i h_; exact h_ (by simpa using c36b0))
                              · rw [if_neg c39] at H
                                have c39b0 : (t434.toList == (strOfNums x5_1).toList) = false := beq_eq_false_iff_ne.mpr c39
                                have c39b1 : (t434.toList != (strOfNums x5_1).toList) = true := bne_iff_ne.mpr c39
                                exact absurd (Option.some.inj H) (by rw [HR_.out]; simp)
                            · rw [if_neg c38] at H
                              have c38b0 : (t435 == (t423.size : Int)) = false := beq_eq_false_iff_ne.mpr c38
                              have c38b1 : (t435 != (t423.size : Int)) = true := bne_iff_ne.mpr c38
                              exact absurd (Option.some.inj H) (by rw [HR_.out]; simp)
                          · rw [if_neg c37] at H
                            have c37b0 : (t430 == (t421.size : Int)) = false := beq_eq_false_iff_ne.mpr c37
                            have c37b1 : (t430 != (t421.size : Int)) = true := bne_iff_ne.mpr c37
                            exact absurd (Option.some.inj H) (by rw [HR_.out]; simp)
                        · rw [if_neg c36] at H
                          have c36b0 : (t425.toList == ([80, 79, 83, 84] : List UInt8) && (t426.toList == ([47] : List UInt8) && (t427.toList == ([104] : List UInt8) && (t428.toList == ([] : List UInt8) && (t429.toList == ((strOfNums x5_1).toList)))))) = false := by simpa using c36
                          (try (have c36b1 : decide (t425.toList = ([80, 79, 83, 84] : List UInt8) && (t426.toList == ([47] : List UInt8) && (t427.toList == ([104] : List UInt8) && (t428.toList == ([] : List UInt8) && (t429.toList == ((strOfNums x5_1).toList)))))) = false := by simpa using c36))
                          (try (have c36b2 : (t425.toList == ([80, 79, 83, 84] : List UInt8) && (t426.toList == ([47] : List UInt8) && (t427.toList == ([104] : List UInt8) && (t428.toList == ([] : List UInt8) && (t429.toList == ((strOfNums x5_1).toList)))))) = false := by simpa using c36))
                          (try (have c36b3 : ¬ (t425.toList = ([80, 79, 83, 84] : List UInt8) && (t426.toList == ([47] : List UInt8) && (t427.toList == ([104] : List UInt8) && (t428.toList == ([] : List UInt8) && (t429.toList == ((strOfNums x5_1).toList)))))) := by simpa using c36))
                          clear c36
                          exact absurd (Option.some.inj H) (by rw [HR_.out]; simp)
                      · rw [if_neg c35] at H
                        have c35b0 : (t436 == 0) = false := beq_eq_false_iff_ne.mpr c35
                        have c35b1 : (t436 != 0) = true := bne_iff_ne.mpr c35
                        exact absurd (Option.some.inj H) (by rw [HR_.out]; simp)
                    · rw [if_neg c34] at H
                      have c34b0 : (t431 == 0) = false := beq_eq_false_iff_ne.mpr c34
                      have c34b1 : (t431 != 0) = true := bne_iff_ne.mpr c34
                      exact absurd (Option.some.inj H) (by rw [HR_.out]; simp)
                  · rw [if_neg c33] at H
                    have c33b0 : (t424 == 0) = false := beq_eq_false_iff_ne.mpr c33
                    have c33b1 : (t424 != 0) = true := bne_iff_ne.mpr c33
                    exact absurd (Option.some.inj H) (by rw [HR_.out]; simp)
                · rw [if_neg c32] at H
                  have c32b0 : (t422 == 0) = false := beq_eq_false_iff_ne.mpr c32
                  have c32b1 : (t422 != 0) = true := bne_iff_ne.mpr c32
                  exact absurd (Option.some.inj H) (by rw [HR_.out]; simp)
      · rw [if_neg c7] at H
        exact absurd H (by simp)
    · rw [if_neg c6] at H
      exact absurd H (by simp)
  · replace c4 := Bool.eq_false_iff.mpr c4
    subst c4
    have H1 : (some false) = some r := by rw [if_neg (show ¬ (false = true) by decide)] at H; exact H
    clear H
    have H := H1
    clear H1
    exact absurd (Option.some.inj H) (by rw [HR_.out]; simp)

end Go.Proofs.YtpikebpjlhccbaaGreatDoor.PAll
