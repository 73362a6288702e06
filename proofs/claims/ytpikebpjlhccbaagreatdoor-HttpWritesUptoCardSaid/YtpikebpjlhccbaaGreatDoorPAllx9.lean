-- Laid by a program of this session (wip/pp in the repo) out of the translation. Lean checks it.
import Derived.Test.YtpikebpjlhccbaaGreatDoorShort
import Derived.Test.YtpikebpjlhccbaaGreatDoorPAllx0
import Derived.Test.YtpikebpjlhccbaaGreatDoorPAllx8
namespace Go.Proofs.YtpikebpjlhccbaaGreatDoor.PAll
open Go.RowKit Go.Proofs.YtpikebpjlhccbaaGreatDoorW.PrintWords Go.Proofs.YtpikebpjlhccbaaGreatDoorW.PrintLast Go.Proofs.YtpikebpjlhccbaaGreatDoorW.PrintMore
attribute [local go_sem] max2_int min2_int max_two min_two max_three min_three max_four min_four   -- for this text's walks alone
set_option linter.unusedVariables false
set_option linter.unusedSimpArgs false

/-! ### pennantref22_Token: function 43 -/
mutual
def pennantref22_Token.l0 : Nat → ByteArray → Int → Option (Bool)
 | 0, _, _ => none
 | k + 1, x0, x3 => if x3 < (x0.size : Int) then (if 0 ≤ x3 then (if (bt x0 x3) ≥ 97 then (if (bt x0 x3) ≤ 122 then (pennantref22_Token.j1 k x0 x3 (bt x0 x3) true) else (if (bt x0 x3) ≥ 65 then (if (bt x0 x3) ≤ 90 then (pennantref22_Token.j1 k x0 x3 (bt x0 x3) true) else (if (bt x0 x3) ≥ 48 then (pennantref22_Token.j1 k x0 x3 (bt x0 x3) (decide ((bt x0 x3) ≤ 57))) else (pennantref22_Token.j1 k x0 x3 (bt x0 x3) false))) else (if (bt x0 x3) ≥ 48 then (pennantref22_Token.j1 k x0 x3 (bt x0 x3) (decide ((bt x0 x3) ≤ 57))) else (pennantref22_Token.j1 k x0 x3 (bt x0 x3) false)))) else (if (bt x0 x3) ≥ 65 then (if (bt x0 x3) ≤ 90 then (pennantref22_Token.j1 k x0 x3 (bt x0 x3) true) else (if (bt x0 x3) ≥ 48 then (pennantref22_Token.j1 k x0 x3 (bt x0 x3) (decide ((bt x0 x3) ≤ 57))) else (pennantref22_Token.j1 k x0 x3 (bt x0 x3) false))) else (if (bt x0 x3) ≥ 48 then (pennantref22_Token.j1 k x0 x3 (bt x0 x3) (decide ((bt x0 x3) ≤ 57))) else (pennantref22_Token.j1 k x0 x3 (bt x0 x3) false)))) else (none)) else (if (x0.size : Int) > 0 then (some (decide ((x0.size : Int) ≤ 64))) else (some false))
def pennantref22_Token.j1 : Nat → ByteArray → Int → Int → Bool → Option (Bool)
 | 0, _, _, _, _ => none
 | k + 1, x0, x3, x4, x5 => pennantref22_Token.l1 k x0 x3 x4 x5 0
def pennantref22_Token.l1 : Nat → ByteArray → Int → Int → Bool → Int → Option (Bool)
 | 0, _, _, _, _, _ => none
 | k + 1, x0, x3, x4, x5, x6 => if x6 < 15 then (if x5 = true then (pennantref22_Token.l1 k x0 x3 x4 true (wrap64 (x6 + 1))) else (if 0 ≤ x6 then (pennantref22_Token.l1 k x0 x3 x4 ((bt (⟨#[33, 35, 36, 37, 38, 39, 42, 43, 45, 46, 94, 95, 96, 124, 126]⟩ : ByteArray) x6) == x4) (wrap64 (x6 + 1))) else (none))) else (if x5 = true then (pennantref22_Token.l0 k x0 (wrap64 (x3 + 1))) else (some false))
end
def pennantref22_Token.f (k : Nat) (a0 : ByteArray) : Option (Bool) := pennantref22_Token.l0 k a0 0
theorem pennantref22_Token.mono_l : ∀ k, (∀ y0 y1, LeO (pennantref22_Token.l0 k y0 y1) (pennantref22_Token.l0 (k + 1) y0 y1)) ∧ (∀ y0 y1 y2 y3, LeO (pennantref22_Token.j1 k y0 y1 y2 y3) (pennantref22_Token.j1 (k + 1) y0 y1 y2 y3)) ∧ (∀ y0 y1 y2 y3 y4, LeO (pennantref22_Token.l1 k y0 y1 y2 y3 y4) (pennantref22_Token.l1 (k + 1) y0 y1 y2 y3 y4))
 | 0 => ⟨fun _ _ r h => by simp [pennantref22_Token.l0] at h, fun _ _ _ _ r h => by simp [pennantref22_Token.j1] at h, fun _ _ _ _ _ r h => by simp [pennantref22_Token.l1] at h⟩
 | k + 1 => by
  obtain ⟨ih0, ih1, ih2⟩ := pennantref22_Token.mono_l k
  refine ⟨?_, ?_, ?_⟩
  ·
   intro y0 y1
   unfold pennantref22_Token.l0
   repeat' first
   | (with_reducible exact ih0 _ _)
   | (with_reducible exact ih1 _ _ _ _)
   | (with_reducible exact ih2 _ _ _ _ _)
   | (with_reducible exact LeO.refl _)
   | (with_reducible exact LeO.none _)
   | (with_reducible refine LeO.ite ?_ ?_)
   | (with_reducible refine LeO.bind ?_ (fun _ => ?_))
   | exact ih0 _ _
   | exact ih1 _ _ _ _
   | exact ih2 _ _ _ _ _
   | exact LeO.none _
   | refine LeO.ite ?_ ?_
   | refine LeO.bind ?_ (fun _ => ?_)
  ·
   intro y0 y1 y2 y3
   unfold pennantref22_Token.j1
   repeat' first
   | (with_reducible exact ih0 _ _)
   | (with_reducible exact ih1 _ _ _ _)
   | (with_reducible exact ih2 _ _ _ _ _)
   | (with_reducible exact LeO.refl _)
   | (with_reducible exact LeO.none _)
   | (with_reducible refine LeO.ite ?_ ?_)
   | (with_reducible refine LeO.bind ?_ (fun _ => ?_))
   | exact ih0 _ _
   | exact ih1 _ _ _ _
   | exact ih2 _ _ _ _ _
   | exact LeO.none _
   | refine LeO.ite ?_ ?_
   | refine LeO.bind ?_ (fun _ => ?_)
  ·
   intro y0 y1 y2 y3 y4
   unfold pennantref22_Token.l1
   repeat' first
   | (with_reducible exact ih0 _ _)
   | (with_reducible exact ih1 _ _ _ _)
   | (with_reducible exact ih2 _ _ _ _ _)
   | (with_reducible exact LeO.refl _)
   | (with_reducible exact LeO.none _)
   | (with_reducible refine LeO.ite ?_ ?_)
   | (with_reducible refine LeO.bind ?_ (fun _ => ?_))
   | exact ih0 _ _
   | exact ih1 _ _ _ _
   | exact ih2 _ _ _ _ _
   | exact LeO.none _
   | refine LeO.ite ?_ ?_
   | refine LeO.bind ?_ (fun _ => ?_)
theorem pennantref22_Token.mono : ∀ a0 k, LeO (pennantref22_Token.f k a0) (pennantref22_Token.f (k + 1) a0) := by
 intro a0 k
 obtain ⟨ih0, ih1, ih2⟩ := pennantref22_Token.mono_l k
 unfold pennantref22_Token.f
 repeat' first
   | (with_reducible exact ih0 _ _)
   | (with_reducible exact ih1 _ _ _ _)
   | (with_reducible exact ih2 _ _ _ _ _)
   | (with_reducible exact LeO.refl _)
   | (with_reducible exact LeO.none _)
   | (with_reducible refine LeO.ite ?_ ?_)
   | (with_reducible refine LeO.bind ?_ (fun _ => ?_))
   | exact ih0 _ _
   | exact ih1 _ _ _ _
   | exact ih2 _ _ _ _ _
   | exact LeO.none _
   | refine LeO.ite ?_ ?_
   | refine LeO.bind ?_ (fun _ => ?_)
set_option maxHeartbeats 8000000 in
set_option maxRecDepth 100000 in
theorem pennantref22_Token.calls (k : Nat) (a0 : ByteArray) (r : Bool) (w : World) (h : pennantref22_Token.f k a0 = some r) :
  Calls Tryz.prog 43 #[.string a0] w fun e w' => e = .returned (.bool r) ∧ Drawn0 w w' := by
 have H : (pennantref22_Token.l0 k a0 0) = some r := h
 clear h
 have H' := zM H
 clear H
 go_enter Tryz.func43, Tryz.ntmps43
 go_wp2
 go_loopg [3] k (fun kq v3 w' => ∃ (x3_1 : Int), v3 = .int .i64 x3_1 ∧ Aside0 (pennantref22_Token.l0 kq a0 x3_1 = some r) ∧ Aside0 (kq ≤ k) ∧ Drawn0 w w')
 case atStart => exact ⟨(0), (by first | rfl | (simp; done) | (simp [*]; done)), H', ⟨Nat.le_refl _⟩, by repeat (first | exact Drawn0.refl _ | apply Drawn0.step)⟩
 case round =>
  clear H'
  obtain ⟨x3_1, rfl, HA, HK1, ⟨m1, rfl⟩⟩ := hrel
  cases gk with
  | zero => exact absurd HA.out (by simp [pennantref22_Token.l0])
  | succ k1 =>
   have H := HA.out
   clear HA
   simp only [pennantref22_Token.l0] at H
   by_cases c2 : x3_1 < (a0.size : Int)
   ·
    rw [if_pos c2] at H; (have c2b0 : decide (x3_1 < (a0.size : Int)) = true := decide_eq_true c2); clear c2; by_cases c3 : 0 ≤ x3_1
    ·
     rw [if_pos c3] at H; (have c3b0 : decide (0 ≤ x3_1) = true := decide_eq_true c3); clear c3; (have HC5 := zM H); clear H; (have p4 : 0 ≤ (x3_1 : Int) := of_decide_eq_true (by assumption)); (have q4 : x3_1 < (a0.size : Int) := of_decide_eq_true (by assumption)); (have hx4 := bt_at a0 x3_1); (replace p4 := eq_true p4); (replace q4 := eq_true q4); (go_upto_region 5 with (fail)); go_cut [5] (fun v5 wc => ∃ (kq : Nat) (x5_4 : Bool), v5 = .bool x5_4 ∧ Aside0 (pennantref22_Token.j1 kq a0 x3_1 (bt a0 x3_1) x5_4 = some r) ∧ Aside0 (kq ≤ k1) ∧ Drawn0 w wc)
     case first =>
      (have H := HC5.out); clear HC5; by_cases c6 : (bt a0 x3_1) ≥ 97
      ·
       rw [if_pos c6] at H; (have c6b0 : decide (97 ≤ (bt a0 x3_1)) = true := decide_eq_true c6); clear c6; (first | rw [c6b0] | (simp only [i64_w, i32_w]; rw [c6b0]) | skip); by_cases c7 : (bt a0 x3_1) ≤ 122
       ·
        rw [if_pos c7] at H; (have c7b0 : decide ((bt a0 x3_1) ≤ 122) = true := decide_eq_true c7); clear c7; (have H' := zM H); clear H; (go_wp2); go_meet
        case rel => exact ⟨_, (true), (by first | rfl | (simp; done) | (simp [*]; done)), H', ⟨by have := HK1.out; first | omega | exact Nat.le_refl _⟩, by repeat (first | exact Drawn0.refl _ | apply Drawn0.step)⟩
       ·
        rw [if_neg c7] at H; (have c7b0 : decide ((bt a0 x3_1) ≤ 122) = false := decide_eq_false c7); clear c7; by_cases c8 : (bt a0 x3_1) ≥ 65
        ·
         rw [if_pos c8] at H; (have c8b0 : decide (65 ≤ (bt a0 x3_1)) = true := decide_eq_true c8); clear c8; by_cases c9 : (bt a0 x3_1) ≤ 90
         ·
          rw [if_pos c9] at H; (have c9b0 : decide ((bt a0 x3_1) ≤ 90) = true := decide_eq_true c9); clear c9; (have H' := zM H); clear H; (go_wp2); go_meet
          case rel => exact ⟨_, (true), (by first | rfl | (simp; done) | (simp [*]; done)), H', ⟨by have := HK1.out; first | omega | exact Nat.le_refl _⟩, by repeat (first | exact Drawn0.refl _ | apply Drawn0.step)⟩
         ·
          rw [if_neg c9] at H; (have c9b0 : decide ((bt a0 x3_1) ≤ 90) = false := decide_eq_false c9); clear c9; by_cases c10 : (bt a0 x3_1) ≥ 48
          ·
           rw [if_pos c10] at H; (have c10b0 : decide (48 ≤ (bt a0 x3_1)) = true := decide_eq_true c10); clear c10; (have H' := zM H); clear H; (go_wp2); go_meet
           case rel => exact ⟨_, (decide ((bt a0 x3_1) ≤ 57)), (by first | rfl | (simp; done) | (simp [*]; done)), H', ⟨by have := HK1.out; first | omega | exact Nat.le_refl _⟩, by repeat (first | exact Drawn0.refl _ | apply Drawn0.step)⟩
          ·
           rw [if_neg c10] at H; (have c10b0 : decide (48 ≤ (bt a0 x3_1)) = false := decide_eq_false c10); clear c10; (have H' := zM H); clear H; (go_wp2); go_meet
           case rel => exact ⟨_, (false), (by first | rfl | (simp; done) | (simp [*]; done)), H', ⟨by have := HK1.out; first | omega | exact Nat.le_refl _⟩, by repeat (first | exact Drawn0.refl _ | apply Drawn0.step)⟩
        ·
         rw [if_neg c8] at H; (have c8b0 : decide (65 ≤ (bt a0 x3_1)) = false := decide_eq_false c8); clear c8; by_cases c11 : (bt a0 x3_1) ≥ 48
         ·
          rw [if_pos c11] at H; (have c11b0 : decide (48 ≤ (bt a0 x3_1)) = true := decide_eq_true c11); clear c11; (have H' := zM H); clear H; (go_wp2); go_meet
          case rel => exact ⟨_, (decide ((bt a0 x3_1) ≤ 57)), (by first | rfl | (simp; done) | (simp [*]; done)), H', ⟨by have := HK1.out; first | omega | exact Nat.le_refl _⟩, by repeat (first | exact Drawn0.refl _ | apply Drawn0.step)⟩
         ·
          rw [if_neg c11] at H; (have c11b0 : decide (48 ≤ (bt a0 x3_1)) = false := decide_eq_false c11); clear c11; (have H' := zM H); clear H; (go_wp2); go_meet
          case rel => exact ⟨_, (false), (by first | rfl | (simp; done) | (simp [*]; done)), H', ⟨by have := HK1.out; first | omega | exact Nat.le_refl _⟩, by repeat (first | exact Drawn0.refl _ | apply Drawn0.step)⟩
      ·
       rw [if_neg c6] at H; (have c6b0 : decide (97 ≤ (bt a0 x3_1)) = false := decide_eq_false c6); clear c6; (first | rw [c6b0] | (simp only [i64_w, i32_w]; rw [c6b0]) | skip); by_cases c12 : (bt a0 x3_1) ≥ 65
       ·
        rw [if_pos c12] at H; (have c12b0 : decide (65 ≤ (bt a0 x3_1)) = true := decide_eq_true c12); clear c12; by_cases c13 : (bt a0 x3_1) ≤ 90
        ·
         rw [if_pos c13] at H; (have c13b0 : decide ((bt a0 x3_1) ≤ 90) = true := decide_eq_true c13); clear c13; (have H' := zM H); clear H; (go_wp2); go_meet
         case rel => exact ⟨_, (true), (by first | rfl | (simp; done) | (simp [*]; done)), H', ⟨by have := HK1.out; first | omega | exact Nat.le_refl _⟩, by repeat (first | exact Drawn0.refl _ | apply Drawn0.step)⟩
        ·
         rw [if_neg c13] at H; (have c13b0 : decide ((bt a0 x3_1) ≤ 90) = false := decide_eq_false c13); clear c13; by_cases c14 : (bt a0 x3_1) ≥ 48
         ·
          rw [if_pos c14] at H; (have c14b0 : decide (48 ≤ (bt a0 x3_1)) = true := decide_eq_true c14); clear c14; (have H' := zM H); clear H; (go_wp2); go_meet
          case rel => exact ⟨_, (decide ((bt a0 x3_1) ≤ 57)), (by first | rfl | (simp; done) | (simp [*]; done)), H', ⟨by have := HK1.out; first | omega | exact Nat.le_refl _⟩, by repeat (first | exact Drawn0.refl _ | apply Drawn0.step)⟩
         ·
          rw [if_neg c14] at H; (have c14b0 : decide (48 ≤ (bt a0 x3_1)) = false := decide_eq_false c14); clear c14; (have H' := zM H); clear H; (go_wp2); go_meet
          case rel => exact ⟨_, (false), (by first | rfl | (simp; done) | (simp [*]; done)), H', ⟨by have := HK1.out; first | omega | exact Nat.le_refl _⟩, by repeat (first | exact Drawn0.refl _ | apply Drawn0.step)⟩
       ·
        rw [if_neg c12] at H; (have c12b0 : decide (65 ≤ (bt a0 x3_1)) = false := decide_eq_false c12); clear c12; by_cases c15 : (bt a0 x3_1) ≥ 48
        ·
         rw [if_pos c15] at H; (have c15b0 : decide (48 ≤ (bt a0 x3_1)) = true := decide_eq_true c15); clear c15; (have H' := zM H); clear H; (go_wp2); go_meet
         case rel => exact ⟨_, (decide ((bt a0 x3_1) ≤ 57)), (by first | rfl | (simp; done) | (simp [*]; done)), H', ⟨by have := HK1.out; first | omega | exact Nat.le_refl _⟩, by repeat (first | exact Drawn0.refl _ | apply Drawn0.step)⟩
        ·
         rw [if_neg c15] at H; (have c15b0 : decide (48 ≤ (bt a0 x3_1)) = false := decide_eq_false c15); clear c15; (have H' := zM H); clear H; (go_wp2); go_meet
         case rel => exact ⟨_, (false), (by first | rfl | (simp; done) | (simp [*]; done)), H', ⟨by have := HK1.out; first | omega | exact Nat.le_refl _⟩, by repeat (first | exact Drawn0.refl _ | apply Drawn0.step)⟩
     case rest =>
      clear HC5; (try clear c1); (try clear c2); (try clear c2b0); (try clear p2); (try clear c3); (try clear c3b0); (try clear c4); (try clear p4); (try clear q4); (try clear hx4); (try clear c6); (try clear c6b0); (try clear c7); (try clear c7b0); (try clear c8); (try clear c8b0); (try clear c9); (try clear c9b0); (try clear c10); (try clear c10b0); (try clear c11); (try clear c11b0); (try clear c12); (try clear c12b0); (try clear c13); (try clear c13b0); (try clear c14); (try clear c14b0); (try clear c15); (try clear c15b0); (try clear p4); (try clear q4); obtain ⟨kq, x5_4, rfl, HA, HJ4, ⟨mc4, rfl⟩⟩ := hcut
      cases kq with
      | zero => exact absurd HA.out (by simp [pennantref22_Token.j1])
      | succ kj4 =>
       (have H := HA.out); clear HA; simp only [pennantref22_Token.j1] at H; (have H' := zM H); clear H; (go_wp2); go_loopg [5, 6] kj4 (fun kq v5 v6 w' => ∃ (x5_3 : Bool) (x6_3 : Int), v5 = .bool x5_3 ∧ v6 = .int .i64 x6_3 ∧ Aside0 (pennantref22_Token.l1 kq a0 x3_1 (bt a0 x3_1) x5_3 x6_3 = some r) ∧ Aside0 (kq ≤ kj4) ∧ Drawn0 w w')
       case atStart => exact ⟨(x5_4), (0), (by first | rfl | (simp; done) | (simp [*]; done)), (by first | rfl | (simp; done) | (simp [*]; done)), H', ⟨Nat.le_refl _⟩, by repeat (first | exact Drawn0.refl _ | apply Drawn0.step)⟩
       case round =>
        clear H'; (try clear c1); (try clear c2); (try clear c2b0); (try clear p2); (try clear c3); (try clear c3b0); (try clear c4); (try clear p4); (try clear q4); (try clear hx4); (try clear c6); (try clear c6b0); (try clear c7); (try clear c7b0); (try clear c8); (try clear c8b0); (try clear c9); (try clear c9b0); (try clear c10); (try clear c10b0); (try clear c11); (try clear c11b0); (try clear c12); (try clear c12b0); (try clear c13); (try clear c13b0); (try clear c14); (try clear c14b0); (try clear c15); (try clear c15b0); (try clear p2); (try clear p4); (try clear q4); obtain ⟨x5_3, x6_3, rfl, rfl, HA, HK3, ⟨m3, rfl⟩⟩ := hrel
        cases gk with
        | zero => exact absurd HA.out (by simp [pennantref22_Token.l1])
        | succ k3 =>
         (have H := HA.out); clear HA; simp only [pennantref22_Token.l1] at H; by_cases c16 : x6_3 < 15
         ·
          rw [if_pos c16] at H; (have c16b0 : decide (x6_3 < 15) = true := decide_eq_true c16); clear c16; by_cases c17 : x5_3 = true
          ·
           subst c17; (have H1 : (pennantref22_Token.l1 k3 a0 x3_1 (bt a0 x3_1) true (wrap64 (x6_3 + 1))) = some r := by rw [if_pos rfl] at H; exact H); clear H; (have H := H1); clear H1; (have H' := zM H); clear H; (go_wp2); go_roundg k3
           case measure => have := HK1.out; have := HJ4.out; have := HK3.out; omega
           case rel => exact ⟨(true), (wrap64 (x6_3 + 1)), (by first | rfl | (simp; done) | (simp [*]; done)), (by first | rfl | (simp; done) | (simp [*]; done)), H', ⟨by have := HK1.out; have := HJ4.out; have := HK3.out; omega⟩, by repeat (first | exact Drawn0.refl _ | apply Drawn0.step)⟩
          ·
           (replace c17 := Bool.eq_false_iff.mpr c17); subst c17; (have H1 : (if 0 ≤ x6_3 then (pennantref22_Token.l1 k3 a0 x3_1 (bt a0 x3_1) ((bt (⟨#[33, 35, 36, 37, 38, 39, 42, 43, 45, 46, 94, 95, 96, 124, 126]⟩ : ByteArray) x6_3) == (bt a0 x3_1)) (wrap64 (x6_3 + 1))) else (none)) = some r := by rw [if_neg (show ¬ (false = true) by decide)] at H; exact H); clear H; (have H := H1); clear H1; by_cases c18 : 0 ≤ x6_3
           ·
            rw [if_pos c18] at H; (have c18b0 : decide (0 ≤ x6_3) = true := decide_eq_true c18); clear c18; (have H' := zM H); clear H; (have p19 : 0 ≤ (x6_3 : Int) := of_decide_eq_true (by assumption)); (have q19 : x6_3 < (15 : Int) := of_decide_eq_true (by assumption)); (have hx19 := bt_at (⟨#[33, 35, 36, 37, 38, 39, 42, 43, 45, 46, 94, 95, 96, 124, 126]⟩ : ByteArray) x6_3); (replace p19 := eq_true p19); (replace q19 := eq_true q19); (go_wp2); go_roundg k3
            case measure => have := HK1.out; have := HJ4.out; have := HK3.out; omega
            case rel => exact ⟨(((bt (⟨#[33, 35, 36, 37, 38, 39, 42, 43, 45, 46, 94, 95, 96, 124, 126]⟩ : ByteArray) x6_3) == (bt a0 x3_1))), (wrap64 (x6_3 + 1)), (by first | rfl | (simp; done) | (simp [*]; done)), (by first | rfl | (simp; done) | (simp [*]; done)), H', ⟨by have := HK1.out; have := HJ4.out; have := HK3.out; omega⟩, by repeat (first | exact Drawn0.refl _ | apply Drawn0.step)⟩
           ·
            rw [if_neg c18] at H; exact absurd H (by simp)
         ·
          rw [if_neg c16] at H; (have c16b0 : decide (x6_3 < 15) = false := decide_eq_false c16); clear c16; by_cases c20 : x5_3 = true
          ·
           subst c20; (have H1 : (pennantref22_Token.l0 k3 a0 (wrap64 (x3_1 + 1))) = some r := by rw [if_pos rfl] at H; exact H); clear H; (have H := H1); clear H1; (have H' := zM H); clear H; (go_wp2); go_roundg k3
           case measure => have := HK1.out; have := HJ4.out; have := HK3.out; omega
           case rel => exact ⟨(wrap64 (x3_1 + 1)), (by first | rfl | (simp; done) | (simp [*]; done)), H', ⟨by have := HK1.out; have := HJ4.out; have := HK3.out; omega⟩, by repeat (first | exact Drawn0.refl _ | apply Drawn0.step)⟩
          ·
           (replace c20 := Bool.eq_false_iff.mpr c20); subst c20; (have H1 : (some false) = some r := by rw [if_neg (show ¬ (false = true) by decide)] at H; exact H); clear H; (have H := H1); clear H1; (obtain rfl := Option.some.inj H); (go_wp2); (go_ret); exact ⟨by first | rfl | (simp; done) | (simp [*]; done), by repeat (first | exact Drawn0.refl _ | apply Drawn0.step)⟩
    ·
     rw [if_neg c3] at H; exact absurd H (by simp)
   ·
    rw [if_neg c2] at H; (have c2b0 : decide (x3_1 < (a0.size : Int)) = false := decide_eq_false c2); clear c2; by_cases c21 : (a0.size : Int) > 0
    ·
     rw [if_pos c21] at H; (have c21b0 : decide (0 < (a0.size : Int)) = true := decide_eq_true c21); (have c21b1 : decide (0 < a0.size) = true := decide_eq_true (by omega)); clear c21; (obtain rfl := Option.some.inj H); (go_wp2); (go_ret); exact ⟨by first | rfl | (simp; done) | (simp [*]; done), by repeat (first | exact Drawn0.refl _ | apply Drawn0.step)⟩
    ·
     rw [if_neg c21] at H; (have c21b0 : decide (0 < (a0.size : Int)) = false := decide_eq_false c21); (have c21b1 : decide (0 < a0.size) = false := decide_eq_false (by omega)); clear c21; (obtain rfl := Option.some.inj H); (go_wp2); (go_ret); exact ⟨by first | rfl | (simp; done) | (simp [*]; done), by repeat (first | exact Drawn0.refl _ | apply Drawn0.step)⟩

/-! ### pennantref22_Target: function 48 -/
def pennantref22_Target.l0 : Nat → ByteArray → Int → Option (Bool)
 | 0, _, _ => none
 | k + 1, x0, x3 => if x3 < (x0.size : Int) then (if 0 ≤ x3 then (if (bt x0 x3) < 33 then (some false) else (if (bt x0 x3) > 126 then (some false) else (pennantref22_Target.l0 k x0 (wrap64 (x3 + 1))))) else (none)) else (if (x0.size : Int) > 0 then (if (x0.size : Int) ≤ 256 then (if 0 < (x0.size : Int) then (some ((bt x0 0) == 47)) else (none)) else (some false)) else (some false))
def pennantref22_Target.f (k : Nat) (a0 : ByteArray) : Option (Bool) := pennantref22_Target.l0 k a0 0
theorem pennantref22_Target.mono_l : ∀ k, (∀ y0 y1, LeO (pennantref22_Target.l0 k y0 y1) (pennantref22_Target.l0 (k + 1) y0 y1))
 | 0 => fun _ _ r h => by simp [pennantref22_Target.l0] at h
 | k + 1 => by
  have ih0 := pennantref22_Target.mono_l k
  ·
   intro y0 y1
   unfold pennantref22_Target.l0
   repeat' first
   | (with_reducible exact ih0 _ _)
   | (with_reducible exact LeO.refl _)
   | (with_reducible exact LeO.none _)
   | (with_reducible refine LeO.ite ?_ ?_)
   | (with_reducible refine LeO.bind ?_ (fun _ => ?_))
   | exact ih0 _ _
   | exact LeO.none _
   | refine LeO.ite ?_ ?_
   | refine LeO.bind ?_ (fun _ => ?_)
theorem pennantref22_Target.mono : ∀ a0 k, LeO (pennantref22_Target.f k a0) (pennantref22_Target.f (k + 1) a0) := by
 intro a0 k
 have ih0 := pennantref22_Target.mono_l k
 unfold pennantref22_Target.f
 repeat' first
   | (with_reducible exact ih0 _ _)
   | (with_reducible exact LeO.refl _)
   | (with_reducible exact LeO.none _)
   | (with_reducible refine LeO.ite ?_ ?_)
   | (with_reducible refine LeO.bind ?_ (fun _ => ?_))
   | exact ih0 _ _
   | exact LeO.none _
   | refine LeO.ite ?_ ?_
   | refine LeO.bind ?_ (fun _ => ?_)
set_option maxHeartbeats 8000000 in
set_option maxRecDepth 100000 in
theorem pennantref22_Target.calls (k : Nat) (a0 : ByteArray) (r : Bool) (w : World) (h : pennantref22_Target.f k a0 = some r) :
  Calls Tryz.prog 48 #[.string a0] w fun e w' => e = .returned (.bool r) ∧ Drawn0 w w' := by
 have H : (pennantref22_Target.l0 k a0 0) = some r := h
 clear h
 have H' := zM H
 clear H
 go_enter Tryz.func48, Tryz.ntmps48
 go_wp2
 go_loopg [3] k (fun kq v3 w' => ∃ (x3_1 : Int), v3 = .int .i64 x3_1 ∧ Aside0 (pennantref22_Target.l0 kq a0 x3_1 = some r) ∧ Aside0 (kq ≤ k) ∧ Drawn0 w w')
 case atStart => exact ⟨(0), (by first | rfl | (simp; done) | (simp [*]; done)), H', ⟨Nat.le_refl _⟩, by repeat (first | exact Drawn0.refl _ | apply Drawn0.step)⟩
 case round =>
  clear H'
  obtain ⟨x3_1, rfl, HA, HK1, ⟨m1, rfl⟩⟩ := hrel
  cases gk with
  | zero => exact absurd HA.out (by simp [pennantref22_Target.l0])
  | succ k1 =>
   have H := HA.out
   clear HA
   simp only [pennantref22_Target.l0] at H
   by_cases c2 : x3_1 < (a0.size : Int)
   ·
    rw [if_pos c2] at H; (have c2b0 : decide (x3_1 < (a0.size : Int)) = true := decide_eq_true c2); clear c2; by_cases c3 : 0 ≤ x3_1
    ·
     rw [if_pos c3] at H; (have c3b0 : decide (0 ≤ x3_1) = true := decide_eq_true c3); clear c3; by_cases c5 : (bt a0 x3_1) < 33
     ·
      rw [if_pos c5] at H; (have c5b0 : decide ((bt a0 x3_1) < 33) = true := decide_eq_true c5); clear c5; (obtain rfl := Option.some.inj H); (have p4 : 0 ≤ (x3_1 : Int) := of_decide_eq_true (by assumption)); (have q4 : x3_1 < (a0.size : Int) := of_decide_eq_true (by assumption)); (have hx4 := bt_at a0 x3_1); (replace p4 := eq_true p4); (replace q4 := eq_true q4); (go_wp2); (go_ret); exact ⟨by first | rfl | (simp; done) | (simp [*]; done), by repeat (first | exact Drawn0.refl _ | apply Drawn0.step)⟩
     ·
      rw [if_neg c5] at H; (have c5b0 : decide ((bt a0 x3_1) < 33) = false := decide_eq_false c5); clear c5; by_cases c7 : (bt a0 x3_1) > 126
      ·
       rw [if_pos c7] at H; (have c7b0 : decide (126 < (bt a0 x3_1)) = true := decide_eq_true c7); clear c7; (obtain rfl := Option.some.inj H); (have p4 : 0 ≤ (x3_1 : Int) := of_decide_eq_true (by assumption)); (have q4 : x3_1 < (a0.size : Int) := of_decide_eq_true (by assumption)); (have hx4 := bt_at a0 x3_1); (replace p4 := eq_true p4); (replace q4 := eq_true q4); (have p6 : 0 ≤ (x3_1 : Int) := of_decide_eq_true (by assumption)); (have q6 : x3_1 < (a0.size : Int) := of_decide_eq_true (by assumption)); (have hx6 := bt_at a0 x3_1); (replace p6 := eq_true p6); (replace q6 := eq_true q6); (go_wp2); (go_ret); exact ⟨by first | rfl | (simp; done) | (simp [*]; done), by repeat (first | exact Drawn0.refl _ | apply Drawn0.step)⟩
      ·
       rw [if_neg c7] at H; (have c7b0 : decide (126 < (bt a0 x3_1)) = false := decide_eq_false c7); clear c7; (have H' := zM H); clear H; (have p4 : 0 ≤ (x3_1 : Int) := of_decide_eq_true (by assumption)); (have q4 : x3_1 < (a0.size : Int) := of_decide_eq_true (by assumption)); (have hx4 := bt_at a0 x3_1); (replace p4 := eq_true p4); (replace q4 := eq_true q4); (have p6 : 0 ≤ (x3_1 : Int) := of_decide_eq_true (by assumption)); (have q6 : x3_1 < (a0.size : Int) := of_decide_eq_true (by assumption)); (have hx6 := bt_at a0 x3_1); (replace p6 := eq_true p6); (replace q6 := eq_true q6); (go_wp2); go_roundg k1
       case measure => have := HK1.out; omega
       case rel => exact ⟨(wrap64 (x3_1 + 1)), (by first | rfl | (simp; done) | (simp [*]; done)), H', ⟨by have := HK1.out; omega⟩, by repeat (first | exact Drawn0.refl _ | apply Drawn0.step)⟩
    ·
     rw [if_neg c3] at H; exact absurd H (by simp)
   ·
    rw [if_neg c2] at H; (have c2b0 : decide (x3_1 < (a0.size : Int)) = false := decide_eq_false c2); clear c2; by_cases c8 : (a0.size : Int) > 0
    ·
     rw [if_pos c8] at H; (have c8b0 : decide (0 < (a0.size : Int)) = true := decide_eq_true c8); (have c8b1 : decide (0 < a0.size) = true := decide_eq_true (by omega)); clear c8; by_cases c9 : (a0.size : Int) ≤ 256
     ·
      rw [if_pos c9] at H; (have c9b0 : decide ((a0.size : Int) ≤ 256) = true := decide_eq_true c9); (have c9b1 : decide (a0.size ≤ 256) = true := decide_eq_true (by omega)); clear c9; by_cases c10 : 0 < (a0.size : Int)
      ·
       rw [if_pos c10] at H; (have c10b0 : decide (0 < (a0.size : Int)) = true := decide_eq_true c10); (have c10b1 : decide (0 < a0.size) = true := decide_eq_true (by omega)); clear c10; (obtain rfl := Option.some.inj H); (have p11 : 0 ≤ (0 : Int) := (by omega)); (have q11 : 0 < a0.size := (by have : (0 : Int) < (a0.size : Int) := of_decide_eq_true (by assumption); omega)); (have hx11 : ∀ h : 0 < a0.size, ((a0[0]'h).toNat : Int) = bt a0 0 := bt_at a0 0); clear p11; (have qi11 : (0 < (a0.size : Int)) = True := eq_true (of_decide_eq_true (by assumption))); (replace q11 := eq_true q11); (go_wp2); (go_ret); exact ⟨by first | rfl | (simp; done) | (simp [*]; done), by repeat (first | exact Drawn0.refl _ | apply Drawn0.step)⟩
      ·
       rw [if_neg c10] at H; exact absurd H (by simp)
     ·
      rw [if_neg c9] at H; (have c9b0 : decide ((a0.size : Int) ≤ 256) = false := decide_eq_false c9); (have c9b1 : decide (a0.size ≤ 256) = false := decide_eq_false (by omega)); clear c9; (obtain rfl := Option.some.inj H); (go_wp2); (go_ret); exact ⟨by first | rfl | (simp; done) | (simp [*]; done), by repeat (first | exact Drawn0.refl _ | apply Drawn0.step)⟩
    ·
     rw [if_neg c8] at H; (have c8b0 : decide (0 < (a0.size : Int)) = false := decide_eq_false c8); (have c8b1 : decide (0 < a0.size) = false := decide_eq_false (by omega)); clear c8; (obtain rfl := Option.some.inj H); (go_wp2); (go_ret); exact ⟨by first | rfl | (simp; done) | (simp [*]; done), by repeat (first | exact Drawn0.refl _ | apply Drawn0.step)⟩

/-! ### pennantref22_Request: function 24 -/
def pennantref22_Request.j0 : Nat → List ByteArray → Bool → Option (ByteArray × ByteArray × Bool)
 | 0, _, _ => none
 | k + 1, x5, x30 => if x30 = true then (some ((⟨#[]⟩ : ByteArray), (⟨#[]⟩ : ByteArray), false)) else (if 0 < (x5.length : Int) then (if 1 < (x5.length : Int) then (some (rdOf ByteArray.empty x5 0, rdOf ByteArray.empty x5 1, true)) else (none)) else (none))
def pennantref22_Request.f (k : Nat) (a0 : ByteArray) : Option (ByteArray × ByteArray × Bool) := (pennantref22_Split.f k a0 (⟨#[32]⟩ : ByteArray)).bind fun t107 => (if (t107.length : Int) = 3 then (if 0 < (t107.length : Int) then ((pennantref22_Token.f k (rdOf ByteArray.empty t107 0)).bind fun t111 => (if t111 = true then (if 1 < (t107.length : Int) then ((pennantref22_Target.f k (rdOf ByteArray.empty t107 1)).bind fun t113 => (if t113 = true then (if 2 < (t107.length : Int) then (pennantref22_Request.j0 k t107 ((rdOf ByteArray.empty t107 2).toList != ([72, 84, 84, 80, 47, 49, 46, 49] : List UInt8))) else (none)) else (pennantref22_Request.j0 k t107 true))) else (none)) else (pennantref22_Request.j0 k t107 true))) else (none)) else (pennantref22_Request.j0 k t107 true))
theorem pennantref22_Request.mono_l : ∀ k, (∀ y0 y1, LeO (pennantref22_Request.j0 k y0 y1) (pennantref22_Request.j0 (k + 1) y0 y1))
 | 0 => fun _ _ r h => by simp [pennantref22_Request.j0] at h
 | k + 1 => by
  have ih0 := pennantref22_Request.mono_l k
  ·
   intro y0 y1
   unfold pennantref22_Request.j0
   repeat' first
   | (with_reducible exact ih0 _ _)
   | (with_reducible exact pennantref22_Split.mono _ _ _)
   | (with_reducible exact pennantref22_Target.mono _ _)
   | (with_reducible exact pennantref22_Token.mono _ _)
   | (with_reducible exact LeO.refl _)
   | (with_reducible exact LeO.none _)
   | (with_reducible refine LeO.ite ?_ ?_)
   | (with_reducible refine LeO.bind ?_ (fun _ => ?_))
   | exact ih0 _ _
   | exact pennantref22_Split.mono _ _ _
   | exact pennantref22_Target.mono _ _
   | exact pennantref22_Token.mono _ _
   | exact LeO.none _
   | refine LeO.ite ?_ ?_
   | refine LeO.bind ?_ (fun _ => ?_)
theorem pennantref22_Request.mono : ∀ a0 k, LeO (pennantref22_Request.f k a0) (pennantref22_Request.f (k + 1) a0) := by
 intro a0 k
 have ih0 := pennantref22_Request.mono_l k
 unfold pennantref22_Request.f
 repeat' first
   | (with_reducible exact ih0 _ _)
   | (with_reducible exact pennantref22_Split.mono _ _ _)
   | (with_reducible exact pennantref22_Target.mono _ _)
   | (with_reducible exact pennantref22_Token.mono _ _)
   | (with_reducible exact LeO.refl _)
   | (with_reducible exact LeO.none _)
   | (with_reducible refine LeO.ite ?_ ?_)
   | (with_reducible refine LeO.bind ?_ (fun _ => ?_))
   | exact ih0 _ _
   | exact pennantref22_Split.mono _ _ _
   | exact pennantref22_Target.mono _ _
   | exact pennantref22_Token.mono _ _
   | exact LeO.none _
   | refine LeO.ite ?_ ?_
   | refine LeO.bind ?_ (fun _ => ?_)
set_option maxHeartbeats 8000000 in
set_option maxRecDepth 100000 in
theorem pennantref22_Request.calls (k : Nat) (a0 : ByteArray) (r1 : ByteArray) (r2 : ByteArray) (r3 : Bool) (w : World) (h : pennantref22_Request.f k a0 = some (r1, r2, r3)) :
  Calls Tryz.prog 24 #[.string a0] w fun e w' => e = .returned (.tuple #[.string r1, .string r2, .bool r3]) ∧ Below w.heap.size w w' := by
 have HB := zM (Below.refl w.heap.size w)
 have H : ((pennantref22_Split.f k a0 (⟨#[32]⟩ : ByteArray)).bind fun t107 => (if (t107.length : Int) = 3 then (if 0 < (t107.length : Int) then ((pennantref22_Token.f k (rdOf ByteArray.empty t107 0)).bind fun t111 => (if t111 = true then (if 1 < (t107.length : Int) then ((pennantref22_Target.f k (rdOf ByteArray.empty t107 1)).bind fun t113 => (if t113 = true then (if 2 < (t107.length : Int) then (pennantref22_Request.j0 k t107 ((rdOf ByteArray.empty t107 2).toList != ([72, 84, 84, 80, 47, 49, 46, 49] : List UInt8))) else (none)) else (pennantref22_Request.j0 k t107 true))) else (none)) else (pennantref22_Request.j0 k t107 true))) else (none)) else (pennantref22_Request.j0 k t107 true))) = some (r1, r2, r3) := h
 clear h
 replace H := Option.bind_eq_some_iff.mp H
 obtain ⟨t107, A20, H⟩ := H
 replace H : (if (t107.length : Int) = 3 then (if 0 < (t107.length : Int) then ((pennantref22_Token.f k (rdOf ByteArray.empty t107 0)).bind fun t111 => (if t111 = true then (if 1 < (t107.length : Int) then ((pennantref22_Target.f k (rdOf ByteArray.empty t107 1)).bind fun t113 => (if t113 = true then (if 2 < (t107.length : Int) then (pennantref22_Request.j0 k t107 ((rdOf ByteArray.empty t107 2).toList != ([72, 84, 84, 80, 47, 49, 46, 49] : List UInt8))) else (none)) else (pennantref22_Request.j0 k t107 true))) else (none)) else (pennantref22_Request.j0 k t107 true))) else (none)) else (pennantref22_Request.j0 k t107 true)) = some (r1, r2, r3) := H
 have A2 := zM A20
 clear A20
 have HC3 := zM H
 clear H
 go_enter Tryz.func24, Tryz.ntmps24
 go_upto_region 2 with (first | (go_at_call 42; (with_reducible refine (pennantref22_Split.calls k a0 (⟨#[32]⟩ : ByteArray) t107 _ A2.out).mono ?_); rintro e w4 ⟨v108, rfl, ho0, hb⟩; have n0_ := zM (Kd.R_lower ho0 (below_size (by repeat (first | exact HB.out | apply zA | apply zN | apply z1)))); have n1_ := zM (below_step (by repeat (first | exact HB.out | apply zA | apply zN | apply z1)) hb); clear HB; have HO109 := n0_; have HB := n1_; clear n0_ n1_; (try clear hb); (try clear hb2); (try clear hk); (try clear hi); (try clear ho0)))
 repeat (go_quiet (first | (go_at_call 42; (with_reducible refine (pennantref22_Split.calls k a0 (⟨#[32]⟩ : ByteArray) t107 _ A2.out).mono ?_); rintro e w4 ⟨v108, rfl, ho0, hb⟩; have n0_ := zM (Kd.R_lower ho0 (below_size (by repeat (first | exact HB.out | apply zA | apply zN | apply z1)))); have n1_ := zM (below_step (by repeat (first | exact HB.out | apply zA | apply zN | apply z1)) hb); clear HB; have HO109 := n0_; have HB := n1_; clear n0_ n1_; (try clear hb); (try clear hb2); (try clear hk); (try clear hi); (try clear ho0))); go_upto_region 2 with (first | (go_at_call 42; (with_reducible refine (pennantref22_Split.calls k a0 (⟨#[32]⟩ : ByteArray) t107 _ A2.out).mono ?_); rintro e w4 ⟨v108, rfl, ho0, hb⟩; have n0_ := zM (Kd.R_lower ho0 (below_size (by repeat (first | exact HB.out | apply zA | apply zN | apply z1)))); have n1_ := zM (below_step (by repeat (first | exact HB.out | apply zA | apply zN | apply z1)) hb); clear HB; have HO109 := n0_; have HB := n1_; clear n0_ n1_; (try clear hb); (try clear hb2); (try clear hk); (try clear hi); (try clear ho0))))
 (try simp only [Act.put, zS])
 go_cut [30] (fun v30 wc => ∃ (kq : Nat) (x30_2 : Bool), v30 = .bool x30_2 ∧ Aside0 (pennantref22_Request.j0 kq t107 x30_2 = some (r1, r2, r3)) ∧ Aside0 (kq ≤ k) ∧ Aside0 (Kd.R Kd.string 9 wc w.heap.size (fun _ => True) v108 t107) ∧ Aside0 (Below w.heap.size w wc))
 case first =>
  have H := HC3.out
  clear HC3
  by_cases c5 : (t107.length : Int) = 3
  ·
   rw [if_pos c5] at H
   have c5b0 : ((t107.length : Int) == 3) = true := beq_iff_eq.mpr c5
   have c5b1 : ((t107.length : Int) != 3) = false := bne_eq_false_iff_eq.mpr c5
   clear c5
   (first | rw [c5b0] | (simp only [i64_w, i32_w]; rw [c5b0]) | skip)
   by_cases c6 : 0 < (t107.length : Int)
   ·
    rw [if_pos c6] at H; (have c6b0 : decide (0 < (t107.length : Int)) = true := decide_eq_true c6); (have c6b1 : decide (0 < t107.length) = true := decide_eq_true (by omega)); clear c6; (replace H := Option.bind_eq_some_iff.mp H); (obtain ⟨t111, A70, H⟩ := H); replace H : (if t111 = true then (if 1 < (t107.length : Int) then ((pennantref22_Target.f k (rdOf ByteArray.empty t107 1)).bind fun t113 => (if t113 = true then (if 2 < (t107.length : Int) then (pennantref22_Request.j0 k t107 ((rdOf ByteArray.empty t107 2).toList != ([72, 84, 84, 80, 47, 49, 46, 49] : List UInt8))) else (none)) else (pennantref22_Request.j0 k t107 true))) else (none)) else (pennantref22_Request.j0 k t107 true)) = some (r1, r2, r3) := H; (have A7 := zM A70); clear A70; by_cases c8 : t111 = true
    ·
     subst c8; (have H1 : (if 1 < (t107.length : Int) then ((pennantref22_Target.f k (rdOf ByteArray.empty t107 1)).bind fun t113 => (if t113 = true then (if 2 < (t107.length : Int) then (pennantref22_Request.j0 k t107 ((rdOf ByteArray.empty t107 2).toList != ([72, 84, 84, 80, 47, 49, 46, 49] : List UInt8))) else (none)) else (pennantref22_Request.j0 k t107 true))) else (none)) = some (r1, r2, r3) := by rw [if_pos rfl] at H; exact H); clear H; (have H := H1); clear H1; by_cases c9 : 1 < (t107.length : Int)
     ·
      rw [if_pos c9] at H; (have c9b0 : decide (1 < (t107.length : Int)) = true := decide_eq_true c9); (have c9b1 : decide (1 < t107.length) = true := decide_eq_true (by omega)); clear c9; (replace H := Option.bind_eq_some_iff.mp H); (obtain ⟨t113, A100, H⟩ := H); replace H : (if t113 = true then (if 2 < (t107.length : Int) then (pennantref22_Request.j0 k t107 ((rdOf ByteArray.empty t107 2).toList != ([72, 84, 84, 80, 47, 49, 46, 49] : List UInt8))) else (none)) else (pennantref22_Request.j0 k t107 true)) = some (r1, r2, r3) := H; (have A10 := zM A100); clear A100; by_cases c11 : t113 = true
      ·
       subst c11; (have H1 : (if 2 < (t107.length : Int) then (pennantref22_Request.j0 k t107 ((rdOf ByteArray.empty t107 2).toList != ([72, 84, 84, 80, 47, 49, 46, 49] : List UInt8))) else (none)) = some (r1, r2, r3) := by rw [if_pos rfl] at H; exact H); clear H; (have H := H1); clear H1; by_cases c12 : 2 < (t107.length : Int)
       ·
        rw [if_pos c12] at H; (have c12b0 : decide (2 < (t107.length : Int)) = true := decide_eq_true c12); (have c12b1 : decide (2 < t107.length) = true := decide_eq_true (by omega)); clear c12; (have H' := zM H); clear H; (obtain ⟨Ao13, co13, eo13⟩ := Kd.R_slice HO109.out); subst eo13; (have p110 : 0 ≤ (0 : Int) := (by omega)); (have q110 : 0 < (t107.length : Int) := of_decide_eq_true (by assumption)); obtain ⟨ad110, e110, hx110_0⟩ := Kd.at_string (Kd.R_reads' HO109.out).2.2 0 p110 q110
        cases e110
        (have qi110 : (0 < t107.length) = True := eq_true (by omega)); (try rw [show ((0 : Int)).toNat = 0 from rfl] at hx110_0); (try rw [Addr.add_zero'] at hx110_0); (replace p110 := eq_true p110); (replace q110 := eq_true q110); (go_wp2_with (first | (go_at_call 43; (with_reducible refine (pennantref22_Token.calls k (rdOf ByteArray.empty t107 0) true _ A7.out).mono ?_); rintro e w' ⟨rfl, ⟨nd, rfl⟩⟩; (try first | exact ⟨rfl, _, World.drewN_drewN _ _ _⟩ | exact ⟨rfl, _, Eq.trans (World.drewN_drewN _ _ _) (congrArg (World.drewN _) (Nat.add_assoc _ _ _))⟩); have p112 : 0 ≤ (1 : Int) := (by omega); have q112 : 1 < (t107.length : Int) := of_decide_eq_true (by assumption); obtain ⟨ad112, e112, hx112_0⟩ := Kd.at_string (Kd.R_reads' HO109.out).2.2 1 p112 q112; obtain rfl : ad110 = ad112 := (by injection e112); (try simp only [show (1 : Int).toNat = 1 from rfl, Nat.reduceMul, Nat.reduceEqDiff, Go.Addr.add, ↓reduceIte] at hx112_0); have qi112 : (1 < t107.length) = True := eq_true (by omega); (try rw [show ((1 : Int)).toNat = 1 from rfl] at hx112_0); replace p112 := eq_true p112; replace q112 := eq_true q112) | (go_at_call 48; (with_reducible refine (pennantref22_Target.calls k (rdOf ByteArray.empty t107 1) true _ A10.out).mono ?_); rintro e w' ⟨rfl, ⟨nd, rfl⟩⟩; (try first | exact ⟨rfl, _, World.drewN_drewN _ _ _⟩ | exact ⟨rfl, _, Eq.trans (World.drewN_drewN _ _ _) (congrArg (World.drewN _) (Nat.add_assoc _ _ _))⟩); have p114 : 0 ≤ (2 : Int) := (by omega); have q114 : 2 < (t107.length : Int) := of_decide_eq_true (by assumption); obtain ⟨ad114, e114, hx114_0⟩ := Kd.at_string (Kd.R_reads' HO109.out).2.2 2 p114 q114; obtain rfl : ad110 = ad114 := (by injection e114); (try simp only [show (2 : Int).toNat = 2 from rfl, Nat.reduceMul, Nat.reduceEqDiff, Go.Addr.add, ↓reduceIte] at hx114_0); have qi114 : (2 < t107.length) = True := eq_true (by omega); (try rw [show ((2 : Int)).toNat = 2 from rfl] at hx114_0); replace p114 := eq_true p114; replace q114 := eq_true q114))); (repeat (go_quiet (first | (go_at_call 43; (with_reducible refine (pennantref22_Token.calls k (rdOf ByteArray.empty t107 0) true _ A7.out).mono ?_); rintro e w' ⟨rfl, ⟨nd, rfl⟩⟩; (try first | exact ⟨rfl, _, World.drewN_drewN _ _ _⟩ | exact ⟨rfl, _, Eq.trans (World.drewN_drewN _ _ _) (congrArg (World.drewN _) (Nat.add_assoc _ _ _))⟩); have p112 : 0 ≤ (1 : Int) := (by omega); have q112 : 1 < (t107.length : Int) := of_decide_eq_true (by assumption); obtain ⟨ad112, e112, hx112_0⟩ := Kd.at_string (Kd.R_reads' HO109.out).2.2 1 p112 q112; obtain rfl : ad110 = ad112 := (by injection e112); (try simp only [show (1 : Int).toNat = 1 from rfl, Nat.reduceMul, Nat.reduceEqDiff, Go.Addr.add, ↓reduceIte] at hx112_0); have qi112 : (1 < t107.length) = True := eq_true (by omega); (try rw [show ((1 : Int)).toNat = 1 from rfl] at hx112_0); replace p112 := eq_true p112; replace q112 := eq_true q112) | (go_at_call 48; (with_reducible refine (pennantref22_Target.calls k (rdOf ByteArray.empty t107 1) true _ A10.out).mono ?_); rintro e w' ⟨rfl, ⟨nd, rfl⟩⟩; (try first | exact ⟨rfl, _, World.drewN_drewN _ _ _⟩ | exact ⟨rfl, _, Eq.trans (World.drewN_drewN _ _ _) (congrArg (World.drewN _) (Nat.add_assoc _ _ _))⟩); have p114 : 0 ≤ (2 : Int) := (by omega); have q114 : 2 < (t107.length : Int) := of_decide_eq_true (by assumption); obtain ⟨ad114, e114, hx114_0⟩ := Kd.at_string (Kd.R_reads' HO109.out).2.2 2 p114 q114; obtain rfl : ad110 = ad114 := (by injection e114); (try simp only [show (2 : Int).toNat = 2 from rfl, Nat.reduceMul, Nat.reduceEqDiff, Go.Addr.add, ↓reduceIte] at hx114_0); have qi114 : (2 < t107.length) = True := eq_true (by omega); (try rw [show ((2 : Int)).toNat = 2 from rfl] at hx114_0); replace p114 := eq_true p114; replace q114 := eq_true q114)); try go_wp2_with (first | (go_at_call 43; (with_reducible refine (pennantref22_Token.calls k (rdOf ByteArray.empty t107 0) true _ A7.out).mono ?_); rintro e w' ⟨rfl, ⟨nd, rfl⟩⟩; (try first | exact ⟨rfl, _, World.drewN_drewN _ _ _⟩ | exact ⟨rfl, _, Eq.trans (World.drewN_drewN _ _ _) (congrArg (World.drewN _) (Nat.add_assoc _ _ _))⟩); have p112 : 0 ≤ (1 : Int) := (by omega); have q112 : 1 < (t107.length : Int) := of_decide_eq_true (by assumption); obtain ⟨ad112, e112, hx112_0⟩ := Kd.at_string (Kd.R_reads' HO109.out).2.2 1 p112 q112; obtain rfl : ad110 = ad112 := (by injection e112); (try simp only [show (1 : Int).toNat = 1 from rfl, Nat.reduceMul, Nat.reduceEqDiff, Go.Addr.add, ↓reduceIte] at hx112_0); have qi112 : (1 < t107.length) = True := eq_true (by omega); (try rw [show ((1 : Int)).toNat = 1 from rfl] at hx112_0); replace p112 := eq_true p112; replace q112 := eq_true q112) | (go_at_call 48; (with_reducible refine (pennantref22_Target.calls k (rdOf ByteArray.empty t107 1) true _ A10.out).mono ?_); rintro e w' ⟨rfl, ⟨nd, rfl⟩⟩; (try first | exact ⟨rfl, _, World.drewN_drewN _ _ _⟩ | exact ⟨rfl, _, Eq.trans (World.drewN_drewN _ _ _) (congrArg (World.drewN _) (Nat.add_assoc _ _ _))⟩); have p114 : 0 ≤ (2 : Int) := (by omega); have q114 : 2 < (t107.length : Int) := of_decide_eq_true (by assumption); obtain ⟨ad114, e114, hx114_0⟩ := Kd.at_string (Kd.R_reads' HO109.out).2.2 2 p114 q114; obtain rfl : ad110 = ad114 := (by injection e114); (try simp only [show (2 : Int).toNat = 2 from rfl, Nat.reduceMul, Nat.reduceEqDiff, Go.Addr.add, ↓reduceIte] at hx114_0); have qi114 : (2 < t107.length) = True := eq_true (by omega); (try rw [show ((2 : Int)).toNat = 2 from rfl] at hx114_0); replace p114 := eq_true p114; replace q114 := eq_true q114)))); go_meet
        case rel => exact ⟨_, (((rdOf ByteArray.empty t107 2).toList != ([72, 84, 84, 80, 47, 49, 46, 49] : List UInt8))), (by first | rfl | (simp; done) | (simp [*]; done)), H', ⟨by first | omega | exact Nat.le_refl _⟩, ⟨by (with_reducible repeat (first | apply Kd.R_alloc | apply Kd.R_drewN | apply Kd.R_drew)); exact HO109.out⟩, ⟨by repeat (first | exact HB.out | apply zA | apply zN | apply z1)⟩⟩
       ·
        rw [if_neg c12] at H; exact absurd H (by simp)
      ·
       (replace c11 := Bool.eq_false_iff.mpr c11); subst c11; (have H1 : (pennantref22_Request.j0 k t107 true) = some (r1, r2, r3) := by rw [if_neg (show ¬ (false = true) by decide)] at H; exact H); clear H; (have H := H1); clear H1; (have H' := zM H); clear H; (obtain ⟨Ao14, co14, eo14⟩ := Kd.R_slice HO109.out); subst eo14; (have p110 : 0 ≤ (0 : Int) := (by omega)); (have q110 : 0 < (t107.length : Int) := of_decide_eq_true (by assumption)); obtain ⟨ad110, e110, hx110_0⟩ := Kd.at_string (Kd.R_reads' HO109.out).2.2 0 p110 q110
       cases e110
       (have qi110 : (0 < t107.length) = True := eq_true (by omega)); (try rw [show ((0 : Int)).toNat = 0 from rfl] at hx110_0); (try rw [Addr.add_zero'] at hx110_0); (replace p110 := eq_true p110); (replace q110 := eq_true q110); (go_wp2_with (first | (go_at_call 43; (with_reducible refine (pennantref22_Token.calls k (rdOf ByteArray.empty t107 0) true _ A7.out).mono ?_); rintro e w' ⟨rfl, ⟨nd, rfl⟩⟩; (try first | exact ⟨rfl, _, World.drewN_drewN _ _ _⟩ | exact ⟨rfl, _, Eq.trans (World.drewN_drewN _ _ _) (congrArg (World.drewN _) (Nat.add_assoc _ _ _))⟩); have p112 : 0 ≤ (1 : Int) := (by omega); have q112 : 1 < (t107.length : Int) := of_decide_eq_true (by assumption); obtain ⟨ad112, e112, hx112_0⟩ := Kd.at_string (Kd.R_reads' HO109.out).2.2 1 p112 q112; obtain rfl : ad110 = ad112 := (by injection e112); (try simp only [show (1 : Int).toNat = 1 from rfl, Nat.reduceMul, Nat.reduceEqDiff, Go.Addr.add, ↓reduceIte] at hx112_0); have qi112 : (1 < t107.length) = True := eq_true (by omega); (try rw [show ((1 : Int)).toNat = 1 from rfl] at hx112_0); replace p112 := eq_true p112; replace q112 := eq_true q112) | (go_at_call 48; (with_reducible refine (pennantref22_Target.calls k (rdOf ByteArray.empty t107 1) false _ A10.out).mono ?_); rintro e w' ⟨rfl, ⟨nd, rfl⟩⟩; (try first | exact ⟨rfl, _, World.drewN_drewN _ _ _⟩ | exact ⟨rfl, _, Eq.trans (World.drewN_drewN _ _ _) (congrArg (World.drewN _) (Nat.add_assoc _ _ _))⟩)))); (repeat (go_quiet (first | (go_at_call 43; (with_reducible refine (pennantref22_Token.calls k (rdOf ByteArray.empty t107 0) true _ A7.out).mono ?_); rintro e w' ⟨rfl, ⟨nd, rfl⟩⟩; (try first | exact ⟨rfl, _, World.drewN_drewN _ _ _⟩ | exact ⟨rfl, _, Eq.trans (World.drewN_drewN _ _ _) (congrArg (World.drewN _) (Nat.add_assoc _ _ _))⟩); have p112 : 0 ≤ (1 : Int) := (by omega); have q112 : 1 < (t107.length : Int) := of_decide_eq_true (by assumption); obtain ⟨ad112, e112, hx112_0⟩ := Kd.at_string (Kd.R_reads' HO109.out).2.2 1 p112 q112; obtain rfl : ad110 = ad112 := (by injection e112); (try simp only [show (1 : Int).toNat = 1 from rfl, Nat.reduceMul, Nat.reduceEqDiff, Go.Addr.add, ↓reduceIte] at hx112_0); have qi112 : (1 < t107.length) = True := eq_true (by omega); (try rw [show ((1 : Int)).toNat = 1 from rfl] at hx112_0); replace p112 := eq_true p112; replace q112 := eq_true q112) | (go_at_call 48; (with_reducible refine (pennantref22_Target.calls k (rdOf ByteArray.empty t107 1) false _ A10.out).mono ?_); rintro e w' ⟨rfl, ⟨nd, rfl⟩⟩; (try first | exact ⟨rfl, _, World.drewN_drewN _ _ _⟩ | exact ⟨rfl, _, Eq.trans (World.drewN_drewN _ _ _) (congrArg (World.drewN _) (Nat.add_assoc _ _ _))⟩))); try go_wp2_with (first | (go_at_call 43; (with_reducible refine (pennantref22_Token.calls k (rdOf ByteArray.empty t107 0) true _ A7.out).mono ?_); rintro e w' ⟨rfl, ⟨nd, rfl⟩⟩; (try first | exact ⟨rfl, _, World.drewN_drewN _ _ _⟩ | exact ⟨rfl, _, Eq.trans (World.drewN_drewN _ _ _) (congrArg (World.drewN _) (Nat.add_assoc _ _ _))⟩); have p112 : 0 ≤ (1 : Int) := (by omega); have q112 : 1 < (t107.length : Int) := of_decide_eq_true (by assumption); obtain ⟨ad112, e112, hx112_0⟩ := Kd.at_string (Kd.R_reads' HO109.out).2.2 1 p112 q112; obtain rfl : ad110 = ad112 := (by injection e112); (try simp only [show (1 : Int).toNat = 1 from rfl, Nat.reduceMul, Nat.reduceEqDiff, Go.Addr.add, ↓reduceIte] at hx112_0); have qi112 : (1 < t107.length) = True := eq_true (by omega); (try rw [show ((1 : Int)).toNat = 1 from rfl] at hx112_0); replace p112 := eq_true p112; replace q112 := eq_true q112) | (go_at_call 48; (with_reducible refine (pennantref22_Target.calls k (rdOf ByteArray.empty t107 1) false _ A10.out).mono ?_); rintro e w' ⟨rfl, ⟨nd, rfl⟩⟩; (try first | exact ⟨rfl, _, World.drewN_drewN _ _ _⟩ | exact ⟨rfl, _, Eq.trans (World.drewN_drewN _ _ _) (congrArg (World.drewN _) (Nat.add_assoc _ _ _))⟩))))); go_meet
       case rel => exact ⟨_, (true), (by first | rfl | (simp; done) | (simp [*]; done)), H', ⟨by first | omega | exact Nat.le_refl _⟩, ⟨by (with_reducible repeat (first | apply Kd.R_alloc | apply Kd.R_drewN | apply Kd.R_drew)); exact HO109.out⟩, ⟨by repeat (first | exact HB.out | apply zA | apply zN | apply z1)⟩⟩
     ·
      rw [if_neg c9] at H; exact absurd H (by simp)
    ·
     (replace c8 := Bool.eq_false_iff.mpr c8); subst c8; (have H1 : (pennantref22_Request.j0 k t107 true) = some (r1, r2, r3) := by rw [if_neg (show ¬ (false = true) by decide)] at H; exact H); clear H; (have H := H1); clear H1; (have H' := zM H); clear H; (obtain ⟨Ao15, co15, eo15⟩ := Kd.R_slice HO109.out); subst eo15; (have p110 : 0 ≤ (0 : Int) := (by omega)); (have q110 : 0 < (t107.length : Int) := of_decide_eq_true (by assumption)); obtain ⟨ad110, e110, hx110_0⟩ := Kd.at_string (Kd.R_reads' HO109.out).2.2 0 p110 q110
     cases e110
     (have qi110 : (0 < t107.length) = True := eq_true (by omega)); (try rw [show ((0 : Int)).toNat = 0 from rfl] at hx110_0); (try rw [Addr.add_zero'] at hx110_0); (replace p110 := eq_true p110); (replace q110 := eq_true q110); (go_wp2_with (first | (go_at_call 43; (with_reducible refine (pennantref22_Token.calls k (rdOf ByteArray.empty t107 0) false _ A7.out).mono ?_); rintro e w' ⟨rfl, ⟨nd, rfl⟩⟩; (try first | exact ⟨rfl, _, World.drewN_drewN _ _ _⟩ | exact ⟨rfl, _, Eq.trans (World.drewN_drewN _ _ _) (congrArg (World.drewN _) (Nat.add_assoc _ _ _))⟩)))); (repeat (go_quiet (first | (go_at_call 43; (with_reducible refine (pennantref22_Token.calls k (rdOf ByteArray.empty t107 0) false _ A7.out).mono ?_); rintro e w' ⟨rfl, ⟨nd, rfl⟩⟩; (try first | exact ⟨rfl, _, World.drewN_drewN _ _ _⟩ | exact ⟨rfl, _, Eq.trans (World.drewN_drewN _ _ _) (congrArg (World.drewN _) (Nat.add_assoc _ _ _))⟩))); try go_wp2_with (first | (go_at_call 43; (with_reducible refine (pennantref22_Token.calls k (rdOf ByteArray.empty t107 0) false _ A7.out).mono ?_); rintro e w' ⟨rfl, ⟨nd, rfl⟩⟩; (try first | exact ⟨rfl, _, World.drewN_drewN _ _ _⟩ | exact ⟨rfl, _, Eq.trans (World.drewN_drewN _ _ _) (congrArg (World.drewN _) (Nat.add_assoc _ _ _))⟩))))); go_meet
     case rel => exact ⟨_, (true), (by first | rfl | (simp; done) | (simp [*]; done)), H', ⟨by first | omega | exact Nat.le_refl _⟩, ⟨by (with_reducible repeat (first | apply Kd.R_alloc | apply Kd.R_drewN | apply Kd.R_drew)); exact HO109.out⟩, ⟨by repeat (first | exact HB.out | apply zA | apply zN | apply z1)⟩⟩
   ·
    rw [if_neg c6] at H; exact absurd H (by simp)
  ·
   rw [if_neg c5] at H
   have c5b0 : ((t107.length : Int) == 3) = false := beq_eq_false_iff_ne.mpr c5
   have c5b1 : ((t107.length : Int) != 3) = true := bne_iff_ne.mpr c5
   (first | rw [c5b0] | (simp only [i64_w, i32_w]; rw [c5b0]) | skip)
   have H' := zM H
   clear H
   obtain ⟨Ao16, co16, eo16⟩ := Kd.R_slice HO109.out
   subst eo16
   go_wp2
   repeat (go_quiet (fail); try go_wp2)
   go_meet
   case rel => exact ⟨_, (true), (by first | rfl | (simp; done) | (simp [*]; done)), H', ⟨by first | omega | exact Nat.le_refl _⟩, ⟨by (with_reducible repeat (first | apply Kd.R_alloc | apply Kd.R_drewN | apply Kd.R_drew)); exact HO109.out⟩, ⟨by repeat (first | exact HB.out | apply zA | apply zN | apply z1)⟩⟩
 case rest =>
  clear HC3
  try clear c1
  try clear p1
  try clear q1
  try clear hx1
  try clear qi1
  try clear c2
  try clear p2
  try clear c5
  try clear c5b0
  try clear c5b1
  try clear c6
  try clear c6b0
  try clear c6b1
  try clear c8
  try clear c9
  try clear c9b0
  try clear c9b1
  try clear c11
  try clear p11
  try clear q11
  try clear hx11
  try clear qi11
  try clear c12
  try clear c12b0
  try clear c12b1
  try clear hx110_0
  try clear hx112_0
  try clear hx114_0
  try clear p110
  try clear p112
  try clear p114
  try clear q110
  try clear q112
  try clear q114
  obtain ⟨kq, x30_2, rfl, HA, HJ2, HO_5, HB⟩ := hcut
  cases kq with
  | zero => exact absurd HA.out (by simp [pennantref22_Request.j0])
  | succ kj2 =>
   have H := HA.out
   clear HA
   simp only [pennantref22_Request.j0] at H
   by_cases c17 : x30_2 = true
   ·
    subst c17; (have H1 : (some ((⟨#[]⟩ : ByteArray), (⟨#[]⟩ : ByteArray), false)) = some (r1, r2, r3) := by rw [if_pos rfl] at H; exact H); clear H; (have H := H1); clear H1; simp only [Option.some.injEq, Prod.mk.injEq] at H; (obtain ⟨rfl, rfl, rfl⟩ := H); (go_wp2); (repeat (go_quiet (fail); try go_wp2)); (go_ret3); exact ⟨by first | rfl | (simp [errW_none, errW_some] <;> rfl) | (simp [*, errW_none, errW_some] <;> rfl), by repeat (first | exact HB.out | apply zA | apply zN | apply z1)⟩
   ·
    (replace c17 := Bool.eq_false_iff.mpr c17); subst c17; (have H1 : (if 0 < (t107.length : Int) then (if 1 < (t107.length : Int) then (some (rdOf ByteArray.empty t107 0, rdOf ByteArray.empty t107 1, true)) else (none)) else (none)) = some (r1, r2, r3) := by rw [if_neg (show ¬ (false = true) by decide)] at H; exact H); clear H; (have H := H1); clear H1; by_cases c18 : 0 < (t107.length : Int)
    ·
     rw [if_pos c18] at H; (have c18b0 : decide (0 < (t107.length : Int)) = true := decide_eq_true c18); (have c18b1 : decide (0 < t107.length) = true := decide_eq_true (by omega)); clear c18; by_cases c19 : 1 < (t107.length : Int)
     ·
      rw [if_pos c19] at H; (have c19b0 : decide (1 < (t107.length : Int)) = true := decide_eq_true c19); (have c19b1 : decide (1 < t107.length) = true := decide_eq_true (by omega)); clear c19; simp only [Option.some.injEq, Prod.mk.injEq] at H; (obtain ⟨rfl, rfl, rfl⟩ := H); (obtain ⟨Ao20, co20, eo20⟩ := Kd.R_slice HO_5.out); subst eo20; (have p115 : 0 ≤ (0 : Int) := (by omega)); (have q115 : 0 < (t107.length : Int) := of_decide_eq_true (by assumption)); obtain ⟨ad115, e115, hx115_0⟩ := Kd.at_string (Kd.R_reads' HO_5.out).2.2 0 p115 q115
      cases e115
      (have qi115 : (0 < t107.length) = True := eq_true (by omega)); (try rw [show ((0 : Int)).toNat = 0 from rfl] at hx115_0); (try rw [Addr.add_zero'] at hx115_0); (replace p115 := eq_true p115); (replace q115 := eq_true q115); (have p116 : 0 ≤ (1 : Int) := (by omega)); (have q116 : 1 < (t107.length : Int) := of_decide_eq_true (by assumption)); (obtain ⟨ad116, e116, hx116_0⟩ := Kd.at_string (Kd.R_reads' HO_5.out).2.2 1 p116 q116); (obtain rfl : ad115 = ad116 := (by injection e116)); (try simp only [show (1 : Int).toNat = 1 from rfl, Nat.reduceMul, Nat.reduceEqDiff, Go.Addr.add, ↓reduceIte] at hx116_0); (have qi116 : (1 < t107.length) = True := eq_true (by omega)); (try rw [show ((1 : Int)).toNat = 1 from rfl] at hx116_0); (replace p116 := eq_true p116); (replace q116 := eq_true q116); (go_wp2); (repeat (go_quiet (fail); try go_wp2)); (go_ret3); exact ⟨by first | rfl | (simp [errW_none, errW_some] <;> rfl) | (simp [*, errW_none, errW_some] <;> rfl), by repeat (first | exact HB.out | apply zA | apply zN | apply z1)⟩
     ·
      rw [if_neg c19] at H; exact absurd H (by simp)
    ·
     rw [if_neg c18] at H; exact absurd H (by simp)

end Go.Proofs.YtpikebpjlhccbaaGreatDoor.PAll
