-- Laid by a program of this session (wip/pp in the repo) out of the translation. Lean checks it.
import Derived.Test.YtpikebpjlhccbaaGreatDoorPAllx0
import Derived.Test.YtpikebpjlhccbaaGreatDoorPAllx8
namespace Go.Proofs.YtpikebpjlhccbaaGreatDoor.PAll
open Go.RowKit Go.Proofs.YtpikebpjlhccbaaGreatDoorW.PrintWords Go.Proofs.YtpikebpjlhccbaaGreatDoorW.PrintLast Go.Proofs.YtpikebpjlhccbaaGreatDoorW.PrintMore
attribute [local go_sem] max2_int min2_int max_two min_two max_three min_three max_four min_four   -- for this text's walks alone
set_option linter.unusedVariables false
set_option linter.unusedSimpArgs false

/-! ### pennantref22_Token: function 43 -/
mutual
def pennantref22_Token.l0 : Nat → ByteArray → Int → Option (Bool)
 | 0, _, _ => none
 | k + 1, x0, x3 => if x3 < (x0.size : Int) then (if 0 ≤ x3 then (if (bt x0 x3) ≥ 97 then (if (bt x0 x3) ≤ 122 then (pennantref22_Token.j1 k x0 x3 (bt x0 x3) true) else (if (bt x0 x3) ≥ 65 then (if (bt x0 x3) ≤ 90 then (pennantref22_Token.j1 k x0 x3 (bt x0 x3) true) else (if (bt x0 x3) ≥ 48 then (pennantref22_Token.j1 k x0 x3 (bt x0 x3) (decide ((bt x0 x3) ≤ 57))) else (pennantref22_Token.j1 k x0 x3 (bt x0 x3) false))) else (if (bt x0 x3) ≥ 48 then (pennantref22_Token.j1 k x0 x3 (bt x0 x3) (decide ((bt x0 x3) ≤ 57))) else (pennantref22_Token.j1 k x0 x3 (bt x0 x3) false)))) else (if (bt x0 x3) ≥ 65 then (if (bt x0 x3) ≤ 90 then (pennantref22_Token.j1 k x0 x3 (bt x0 x3) true) else (if (bt x0 x3) ≥ 48 then (pennantref22_Token.j1 k x0 x3 (bt x0 x3) (decide ((bt x0 x3) ≤ 57))) else (pennantref22_Token.j1 k x0 x3 (bt x0 x3) false))) else (if (bt x0 x3) ≥ 48 then (pennantref22_Token.j1 k x0 x3 (bt x0 x3) (decide ((bt x0 x3) ≤ 57))) else (pennantref22_Token.j1 k x0 x3 (bt x0 x3) false)))) else (none)) else (if (x0.size : Int) > 0 then (some (decide ((x0.size : Int) ≤ 64))) else (some false))
def pennantref22_Token.j1 : Nat → ByteArray → Int → Int → Bool → Option (Bool)
 | 0, _, _, _, _ => none
 | k + 1, x0, x3, x4, x5 => pennantref22_Token.l1 k x0 x3 x4 x5 0
def pennantref22_Token.l1 : Nat → ByteArray → Int → Int → Bool → Int → Option (Bool)
 | 0, _, _, _, _, _ => none
 | k + 1, x0, x3, x4, x5, x6 => if x6 < 15 then (if x5 = true then (pennantref22_Token.l1 k x0 x3 x4 true (wrap64 (x6 + 1))) else (if 0 ≤ x6 then (pennantref22_Token.l1 k x0 x3 x4 ((bt (⟨#[33, 35, 36, 37, 38, 39, 42, 43, 45, 46, 94, 95, 96, 124, 126]⟩ : ByteArray) x6) == x4) (wrap64 (x6 + 1))) else (none))) else (if x5 = true then (pennantref22_Token.l0 k x0 (wrap64 (x3 + 1))) else (some false))
end
def pennantref22_Token.f (k : Nat) (a0 : ByteArray) : Option (Bool) := pennantref22_Token.l0 k a0 0
theorem pennantref22_Token.mono_l : ∀ k, (∀ y0 y1, LeO (pennantref22_Token.l0 k y0 y1) (pennantref22_Token.l0 (k + 1) y0 y1)) ∧ (∀ y0 y1 y2 y3, LeO (pennantref22_Token.j1 k y0 y1 y2 y3) (pennantref22_Token.j1 (k + 1) y0 y1 y2 y3)) ∧ (∀ y0 y1 y2 y3 y4, LeO (pennantref22_Token.l1 k y0 y1 y2 y3 y4) (pennantref22_Token.l1 (k + 1) y0 y1 y2 y3 y4))
 | 0 => ⟨fun _ _ r h => by simp [pennantref22_Token.l0] at h, fun _ _ _ _ r h => by simp [pennantref22_Token.j1] at h, fun _ _ _ _ _ r h => by simp [pennantref22_Token.l1] at h⟩
 | k + 1 => by
  obtain ⟨ih0, ih1, ih2⟩ := pennantref22_Token.mono_l k
  refine ⟨?_, ?_, ?_⟩
  ·
   intro y0 y1
   unfold pennantref22_Token.l0
   repeat' first
   | (with_reducible exact ih0 _ _)
   | (with_reducible exact ih1 _ _ _ _)
   | (with_reducible exact ih2 _ _ _ _ _)
   | (with_reducible exact LeO.refl _)
   | (with_reducible exact LeO.none _)
   | (with_reducible refine LeO.ite ?_ ?_)
   | (with_reducible refine LeO.bind ?_ (fun _ => ?_))
   | exact ih0 _ _
   | exact ih1 _ _ _ _
   | exact ih2 _ _ _ _ _
   | exact LeO.none _
   | refine LeO.ite ?_ ?_
   | refine LeO.bind ?_ (fun _ => ?_)
  ·
   intro y0 y1 y2 y3
   unfold pennantref22_Token.j1
   repeat' first
   | (with_reducible exact ih0 _ _)
   | (with_reducible exact ih1 _ _ _ _)
   | (with_reducible exact ih2 _ _ _ _ _)
   | (with_reducible exact LeO.refl _)
   | (with_reducible exact LeO.none _)
   | (with_reducible refine LeO.ite ?_ ?_)
   | (with_reducible refine LeO.bind ?_ (fun _ => ?_))
   | exact ih0 _ _
   | exact ih1 _ _ _ _
   | exact ih2 _ _ _ _ _
   | exact LeO.none _
   | refine LeO.ite ?_ ?_
   | refine LeO.bind ?_ (fun _ => ?_)
  ·
   intro y0 y1 y2 y3 y4
   unfold pennantref22_Token.l1
   repeat' first
   | (with_reducible exact ih0 _ _)
   | (with_reducible exact ih1 _ _ _ _)
   | (with_reducible exact ih2 _ _ _ _ _)
   | (with_reducible exact LeO.refl _)
   | (with_reducible exact LeO.none _)
   | (with_reducible refine LeO.ite ?_ ?_)
   | (with_reducible refine LeO.bind ?_ (fun _ => ?_))
   | exact ih0 _ _
   | exact ih1 _ _ _ _
   | exact ih2 _ _ _ _ _
   | exact LeO.none _
   | refine LeO.ite ?_ ?_
   | refine LeO.bind ?_ (fun _ => ?_)
theorem pennantref22_Token.mono : ∀ a0 k, LeO (pennantref22_Token.f k a0) (pennantref22_Token.f (k + 1) a0) := by
 intro a0 k
 obtain ⟨ih0, ih1, ih2⟩ := pennantref22_Token.mono_l k
 unfold pennantref22_Token.f
 repeat' first
   | (with_reducible exact ih0 _ _)
   | (with_reducible exact ih1 _ _ _ _)
   | (with_reducible exact ih2 _ _ _ _ _)
   | (with_reducible exact LeO.refl _)
   | (with_reducible exact LeO.none _)
   | (with_reducible refine LeO.ite ?_ ?_)
   | (with_reducible refine LeO.bind ?_ (fun _ => ?_))
   | exact ih0 _ _
   | exact ih1 _ _ _ _
   | exact ih2 _ _ _ _ _
   | exact LeO.none _
   | refine LeO.ite ?_ ?_
   | refine LeO.bind ?_ (fun _ => ?_)
set_option maxHeartbeats 8000000 in
set_option maxRecDepth 100000 in
theorem pennantref22_Token.calls (k : Nat) (a0 : ByteArray) (r : Bool) (w : World) (h : pennantref22_Token.f k a0 = some r) :
  Calls Tryz.prog 43 #[.string a0] w fun e w' => e = .returned (.bool r) ∧ Drawn0 w w' := by
 have H : (pennantref22_Token.l0 k a0 0) = some r := h
 clear h
 have H' := Aside0.mk H
 clear H
 go_enter Tryz.func43, Tryz.ntmps43
 go_wp2
 go_loopg [3] k (fun kq v3 w' => ∃ (x3_1 : Int), v3 = .int .i64 x3_1 ∧ Aside0 (pennantref22_Token.l0 kq a0 x3_1 = some r) ∧ Aside0 (kq ≤ k) ∧ Drawn0 w w')
 case atStart => exact ⟨(0), (by first | rfl | (simp; done) | (simp [*]; done)), H', ⟨Nat.le_refl _⟩, by repeat (first | exact Drawn0.refl _ | apply Drawn0.step)⟩
 case round =>
  clear H'
  obtain ⟨x3_1, rfl, HA, HK1, ⟨m1, rfl⟩⟩ := hrel
  cases gk with
  | zero => exact absurd HA.out (by simp [pennantref22_Token.l0])
  | succ k1 =>
   have H := HA.out
   clear HA
   simp only [pennantref22_Token.l0] at H
   by_cases c2 : x3_1 < (a0.size : Int)
   ·
    rw [if_pos c2] at H
    have c2b0 : decide (x3_1 < (a0.size : Int)) = true := decide_eq_true c2
    clear c2
    by_cases c3 : 0 ≤ x3_1
    ·
     rw [if_pos c3] at H
     have c3b0 : decide (0 ≤ x3_1) = true := decide_eq_true c3
     clear c3
     have HC5 := Aside0.mk H
     clear H
     have p4 : 0 ≤ (x3_1 : Int) := of_decide_eq_true (by first | (with_reducible assumption) | assumption)
     have q4 : x3_1 < (a0.size : Int) := of_decide_eq_true (by first | (with_reducible assumption) | assumption)
     have hx4 := bt_at a0 x3_1
     replace p4 := eq_true p4
     replace q4 := eq_true q4
     go_upto_region 5 with (fail)
     go_cut [5] (fun v5 wc => ∃ (kq : Nat) (x5_4 : Bool), v5 = .bool x5_4 ∧ Aside0 (pennantref22_Token.j1 kq a0 x3_1 (bt a0 x3_1) x5_4 = some r) ∧ Aside0 (kq ≤ k1) ∧ Drawn0 w wc)
     case first =>
      have H := HC5.out
      clear HC5
      by_cases c6 : (bt a0 x3_1) ≥ 97
      ·
       rw [if_pos c6] at H
       have c6b0 : decide (97 ≤ (bt a0 x3_1)) = true := decide_eq_true c6
       clear c6
       (first | rw [c6b0] | (simp only [i64_w, i32_w]; rw [c6b0]) | skip)
       by_cases c7 : (bt a0 x3_1) ≤ 122
       ·
        rw [if_pos c7] at H
        have c7b0 : decide ((bt a0 x3_1) ≤ 122) = true := decide_eq_true c7
        clear c7
        have H' := Aside0.mk H
        clear H
        go_wp2
        go_meet
        case rel => exact ⟨_, (true), (by first | rfl | (simp; done) | (simp [*]; done)), H', ⟨by have := HK1.out; first | omega | exact Nat.le_refl _⟩, by repeat (first | exact Drawn0.refl _ | apply Drawn0.step)⟩
       ·
        rw [if_neg c7] at H
        have c7b0 : decide ((bt a0 x3_1) ≤ 122) = false := decide_eq_false c7
        clear c7
        by_cases c8 : (bt a0 x3_1) ≥ 65
        ·
         rw [if_pos c8] at H
         have c8b0 : decide (65 ≤ (bt a0 x3_1)) = true := decide_eq_true c8
         clear c8
         by_cases c9 : (bt a0 x3_1) ≤ 90
         ·
          rw [if_pos c9] at H
          have c9b0 : decide ((bt a0 x3_1) ≤ 90) = true := decide_eq_true c9
          clear c9
          have H' := Aside0.mk H
          clear H
          go_wp2
          go_meet
          case rel => exact ⟨_, (true), (by first | rfl | (simp; done) | (simp [*]; done)), H', ⟨by have := HK1.out; first | omega | exact Nat.le_refl _⟩, by repeat (first | exact Drawn0.refl _ | apply Drawn0.step)⟩
         ·
          rw [if_neg c9] at H
          have c9b0 : decide ((bt a0 x3_1) ≤ 90) = false := decide_eq_false c9
          clear c9
          by_cases c10 : (bt a0 x3_1) ≥ 48
          ·
           rw [if_pos c10] at H
           have c10b0 : decide (48 ≤ (bt a0 x3_1)) = true := decide_eq_true c10
           clear c10
           have H' := Aside0.mk H
           clear H
           go_wp2
           go_meet
           case rel => exact ⟨_, (decide ((bt a0 x3_1) ≤ 57)), (by first | rfl | (simp; done) | (simp [*]; done)), H', ⟨by have := HK1.out; first | omega | exact Nat.le_refl _⟩, by repeat (first | exact Drawn0.refl _ | apply Drawn0.step)⟩
          ·
           rw [if_neg c10] at H
           have c10b0 : decide (48 ≤ (bt a0 x3_1)) = false := decide_eq_false c10
           clear c10
           have H' := Aside0.mk H
           clear H
           go_wp2
           go_meet
           case rel => exact ⟨_, (false), (by first | rfl | (simp; done) | (simp [*]; done)), H', ⟨by have := HK1.out; first | omega | exact Nat.le_refl _⟩, by repeat (first | exact Drawn0.refl _ | apply Drawn0.step)⟩
        ·
         rw [if_neg c8] at H
         have c8b0 : decide (65 ≤ (bt a0 x3_1)) = false := decide_eq_false c8
         clear c8
         by_cases c11 : (bt a0 x3_1) ≥ 48
         ·
          rw [if_pos c11] at H
          have c11b0 : decide (48 ≤ (bt a0 x3_1)) = true := decide_eq_true c11
          clear c11
          have H' := Aside0.mk H
          clear H
          go_wp2
          go_meet
          case rel => exact ⟨_, (decide ((bt a0 x3_1) ≤ 57)), (by first | rfl | (simp; done) | (simp [*]; done)), H', ⟨by have := HK1.out; first | omega | exact Nat.le_refl _⟩, by repeat (first | exact Drawn0.refl _ | apply Drawn0.step)⟩
         ·
          rw [if_neg c11] at H
          have c11b0 : decide (48 ≤ (bt a0 x3_1)) = false := decide_eq_false c11
          clear c11
          have H' := Aside0.mk H
          clear H
          go_wp2
          go_meet
          case rel => exact ⟨_, (false), (by first | rfl | (simp; done) | (simp [*]; done)), H', ⟨by have := HK1.out; first | omega | exact Nat.le_refl _⟩, by repeat (first | exact Drawn0.refl _ | apply Drawn0.step)⟩
      ·
       rw [if_neg c6] at H
       have c6b0 : decide (97 ≤ (bt a0 x3_1)) = false := decide_eq_false c6
       clear c6
       (first | rw [c6b0] | (simp only [i64_w, i32_w]; rw [c6b0]) | skip)
       by_cases c12 : (bt a0 x3_1) ≥ 65
       ·
        rw [if_pos c12] at H
        have c12b0 : decide (65 ≤ (bt a0 x3_1)) = true := decide_eq_true c12
        clear c12
        by_cases c13 : (bt a0 x3_1) ≤ 90
        ·
         rw [if_pos c13] at H
         have c13b0 : decide ((bt a0 x3_1) ≤ 90) = true := decide_eq_true c13
         clear c13
         have H' := Aside0.mk H
         clear H
         go_wp2
         go_meet
         case rel => exact ⟨_, (true), (by first | rfl | (simp; done) | (simp [*]; done)), H', ⟨by have := HK1.out; first | omega | exact Nat.le_refl _⟩, by repeat (first | exact Drawn0.refl _ | apply Drawn0.step)⟩
        ·
         rw [if_neg c13] at H
         have c13b0 : decide ((bt a0 x3_1) ≤ 90) = false := decide_eq_false c13
         clear c13
         by_cases c14 : (bt a0 x3_1) ≥ 48
         ·
          rw [if_pos c14] at H
          have c14b0 : decide (48 ≤ (bt a0 x3_1)) = true := decide_eq_true c14
          clear c14
          have H' := Aside0.mk H
          clear H
          go_wp2
          go_meet
          case rel => exact ⟨_, (decide ((bt a0 x3_1) ≤ 57)), (by first | rfl | (simp; done) | (simp [*]; done)), H', ⟨by have := HK1.out; first | omega | exact Nat.le_refl _⟩, by repeat (first | exact Drawn0.refl _ | apply Drawn0.step)⟩
         ·
          rw [if_neg c14] at H
          have c14b0 : decide (48 ≤ (bt a0 x3_1)) = false := decide_eq_false c14
          clear c14
          have H' := Aside0.mk H
          clear H
          go_wp2
          go_meet
          case rel => exact ⟨_, (false), (by first | rfl | (simp; done) | (simp [*]; done)), H', ⟨by have := HK1.out; first | omega | exact Nat.le_refl _⟩, by repeat (first | exact Drawn0.refl _ | apply Drawn0.step)⟩
       ·
        rw [if_neg c12] at H
        have c12b0 : decide (65 ≤ (bt a0 x3_1)) = false := decide_eq_false c12
        clear c12
        by_cases c15 : (bt a0 x3_1) ≥ 48
        ·
         rw [if_pos c15] at H
         have c15b0 : decide (48 ≤ (bt a0 x3_1)) = true := decide_eq_true c15
         clear c15
         have H' := Aside0.mk H
         clear H
         go_wp2
         go_meet
         case rel => exact ⟨_, (decide ((bt a0 x3_1) ≤ 57)), (by first | rfl | (simp; done) | (simp [*]; done)), H', ⟨by have := HK1.out; first | omega | exact Nat.le_refl _⟩, by repeat (first | exact Drawn0.refl _ | apply Drawn0.step)⟩
        ·
         rw [if_neg c15] at H
         have c15b0 : decide (48 ≤ (bt a0 x3_1)) = false := decide_eq_false c15
         clear c15
         have H' := Aside0.mk H
         clear H
         go_wp2
         go_meet
         case rel => exact ⟨_, (false), (by first | rfl | (simp; done) | (simp [*]; done)), H', ⟨by have := HK1.out; first | omega | exact Nat.le_refl _⟩, by repeat (first | exact Drawn0.refl _ | apply Drawn0.step)⟩
     case rest =>
      clear HC5
      try clear c1
      try clear c2
      try clear c2b0
      try clear p2
      try clear c3
      try clear c3b0
      try clear c4
      try clear p4
      try clear q4
      try clear hx4
      try clear c6
      try clear c6b0
      try clear c7
      try clear c7b0
      try clear c8
      try clear c8b0
      try clear c9
      try clear c9b0
      try clear c10
      try clear c10b0
      try clear c11
      try clear c11b0
      try clear c12
      try clear c12b0
      try clear c13
      try clear c13b0
      try clear c14
      try clear c14b0
      try clear c15
      try clear c15b0
      try clear p4
      try clear q4
      obtain ⟨kq, x5_4, rfl, HA, HJ4, ⟨mc4, rfl⟩⟩ := hcut
      cases kq with
      | zero => exact absurd HA.out (by simp [pennantref22_Token.j1])
      | succ kj4 =>
       have H := HA.out
       clear HA
       simp only [pennantref22_Token.j1] at H
       have H' := Aside0.mk H
       clear H
       go_wp2
       go_loopg [5, 6] kj4 (fun kq v5 v6 w' => ∃ (x5_3 : Bool) (x6_3 : Int), v5 = .bool x5_3 ∧ v6 = .int .i64 x6_3 ∧ Aside0 (pennantref22_Token.l1 kq a0 x3_1 (bt a0 x3_1) x5_3 x6_3 = some r) ∧ Aside0 (kq ≤ kj4) ∧ Drawn0 w w')
       case atStart => exact ⟨(x5_4), (0), (by first | rfl | (simp; done) | (simp [*]; done)), (by first | rfl | (simp; done) | (simp [*]; done)), H', ⟨Nat.le_refl _⟩, by repeat (first | exact Drawn0.refl _ | apply Drawn0.step)⟩
       case round =>
        clear H'
        try clear c1
        try clear c2
        try clear c2b0
        try clear p2
        try clear c3
        try clear c3b0
        try clear c4
        try clear p4
        try clear q4
        try clear hx4
        try clear c6
        try clear c6b0
        try clear c7
        try clear c7b0
        try clear c8
        try clear c8b0
        try clear c9
        try clear c9b0
        try clear c10
        try clear c10b0
        try clear c11
        try clear c11b0
        try clear c12
        try clear c12b0
        try clear c13
        try clear c13b0
        try clear c14
        try clear c14b0
        try clear c15
        try clear c15b0
        try clear p2
        try clear p4
        try clear q4
        obtain ⟨x5_3, x6_3, rfl, rfl, HA, HK3, ⟨m3, rfl⟩⟩ := hrel
        cases gk with
        | zero => exact absurd HA.out (by simp [pennantref22_Token.l1])
        | succ k3 =>
         have H := HA.out
         clear HA
         simp only [pennantref22_Token.l1] at H
         by_cases c16 : x6_3 < 15
         ·
          rw [if_pos c16] at H
          have c16b0 : decide (x6_3 < 15) = true := decide_eq_true c16
          clear c16
          by_cases c17 : x5_3 = true
          ·
           subst c17
           have H1 : (pennantref22_Token.l1 k3 a0 x3_1 (bt a0 x3_1) true (wrap64 (x6_3 + 1))) = some r := by rw [if_pos rfl] at H; exact H
           clear H
           have H := H1
           clear H1
           have H' := Aside0.mk H
           clear H
           go_wp2
           go_roundg k3
           case measure => have := HK1.out; have := HJ4.out; have := HK3.out; omega
           case rel => exact ⟨(true), (wrap64 (x6_3 + 1)), (by first | rfl | (simp; done) | (simp [*]; done)), (by first | rfl | (simp; done) | (simp [*]; done)), H', ⟨by have := HK1.out; have := HJ4.out; have := HK3.out; omega⟩, by repeat (first | exact Drawn0.refl _ | apply Drawn0.step)⟩
          ·
           replace c17 := Bool.eq_false_iff.mpr c17
           subst c17
           have H1 : (if 0 ≤ x6_3 then (pennantref22_Token.l1 k3 a0 x3_1 (bt a0 x3_1) ((bt (⟨#[33, 35, 36, 37, 38, 39, 42, 43, 45, 46, 94, 95, 96, 124, 126]⟩ : ByteArray) x6_3) == (bt a0 x3_1)) (wrap64 (x6_3 + 1))) else (none)) = some r := by rw [if_neg (show ¬ (false = true) by decide)] at H; exact H
           clear H
           have H := H1
           clear H1
           by_cases c18 : 0 ≤ x6_3
           ·
            rw [if_pos c18] at H
            have c18b0 : decide (0 ≤ x6_3) = true := decide_eq_true c18
            clear c18
            have H' := Aside0.mk H
            clear H
            have p19 : 0 ≤ (x6_3 : Int) := of_decide_eq_true (by first | (with_reducible assumption) | assumption)
            have q19 : x6_3 < (15 : Int) := of_decide_eq_true (by first | (with_reducible assumption) | assumption)
            have hx19 := bt_at (⟨#[33, 35, 36, 37, 38, 39, 42, 43, 45, 46, 94, 95, 96, 124, 126]⟩ : ByteArray) x6_3
            replace p19 := eq_true p19
            replace q19 := eq_true q19
            go_wp2
            go_roundg k3
            case measure => have := HK1.out; have := HJ4.out; have := HK3.out; omega
            case rel => exact ⟨(((bt (⟨#[33, 35, 36, 37, 38, 39, 42, 43, 45, 46, 94, 95, 96, 124, 126]⟩ : ByteArray) x6_3) == (bt a0 x3_1))), (wrap64 (x6_3 + 1)), (by first | rfl | (simp; done) | (simp [*]; done)), (by first | rfl | (simp; done) | (simp [*]; done)), H', ⟨by have := HK1.out; have := HJ4.out; have := HK3.out; omega⟩, by repeat (first | exact Drawn0.refl _ | apply Drawn0.step)⟩
           ·
            rw [if_neg c18] at H
            exact absurd H (by simp)
         ·
          rw [if_neg c16] at H
          have c16b0 : decide (x6_3 < 15) = false := decide_eq_false c16
          clear c16
          by_cases c20 : x5_3 = true
          ·
           subst c20
           have H1 : (pennantref22_Token.l0 k3 a0 (wrap64 (x3_1 + 1))) = some r := by rw [if_pos rfl] at H; exact H
           clear H
           have H := H1
           clear H1
           have H' := Aside0.mk H
           clear H
           go_wp2
           go_roundg k3
           case measure => have := HK1.out; have := HJ4.out; have := HK3.out; omega
           case rel => exact ⟨(wrap64 (x3_1 + 1)), (by first | rfl | (simp; done) | (simp [*]; done)), H', ⟨by have := HK1.out; have := HJ4.out; have := HK3.out; omega⟩, by repeat (first | exact Drawn0.refl _ | apply Drawn0.step)⟩
          ·
           replace c20 := Bool.eq_false_iff.mpr c20
           subst c20
           have H1 : (some false) = some r := by rw [if_neg (show ¬ (false = true) by decide)] at H; exact H
           clear H
           have H := H1
           clear H1
           obtain rfl := Option.some.inj H
           go_wp2
           go_ret
           exact ⟨by first | rfl | (simp; done) | (simp [*]; done), by repeat (first | exact Drawn0.refl _ | apply Drawn0.step)⟩
    ·
     rw [if_neg c3] at H
     exact absurd H (by simp)
   ·
    rw [if_neg c2] at H
    have c2b0 : decide (x3_1 < (a0.size : Int)) = false := decide_eq_false c2
    clear c2
    by_cases c21 : (a0.size : Int) > 0
    ·
     rw [if_pos c21] at H
     have c21b0 : decide (0 < (a0.size : Int)) = true := decide_eq_true c21
     have c21b1 : decide (0 < a0.size) = true := decide_eq_true (by omega)
     clear c21
     obtain rfl := Option.some.inj H
     go_wp2
     go_ret
     exact ⟨by first | rfl | (simp; done) | (simp [*]; done), by repeat (first | exact Drawn0.refl _ | apply Drawn0.step)⟩
    ·
     rw [if_neg c21] at H
     have c21b0 : decide (0 < (a0.size : Int)) = false := decide_eq_false c21
     have c21b1 : decide (0 < a0.size) = false := decide_eq_false (by omega)
     clear c21
     obtain rfl := Option.some.inj H
     go_wp2
     go_ret
     exact ⟨by first | rfl | (simp; done) | (simp [*]; done), by repeat (first | exact Drawn0.refl _ | apply Drawn0.step)⟩

/-! ### pennantref22_Target: function 48 -/
def pennantref22_Target.l0 : Nat → ByteArray → Int → Option (Bool)
 | 0, _, _ => none
 | k + 1, x0, x3 => if x3 < (x0.size : Int) then (if 0 ≤ x3 then (if (bt x0 x3) < 33 then (some false) else (if (bt x0 x3) > 126 then (some false) else (pennantref22_Target.l0 k x0 (wrap64 (x3 + 1))))) else (none)) else (if (x0.size : Int) > 0 then (if (x0.size : Int) ≤ 256 then (if 0 < (x0.size : Int) then (some ((bt x0 0) == 47)) else (none)) else (some false)) else (some false))
def pennantref22_Target.f (k : Nat) (a0 : ByteArray) : Option (Bool) := pennantref22_Target.l0 k a0 0
theorem pennantref22_Target.mono_l : ∀ k, (∀ y0 y1, LeO (pennantref22_Target.l0 k y0 y1) (pennantref22_Target.l0 (k + 1) y0 y1))
 | 0 => fun _ _ r h => by simp [pennantref22_Target.l0] at h
 | k + 1 => by
  have ih0 := pennantref22_Target.mono_l k
  ·
   intro y0 y1
   unfold pennantref22_Target.l0
   repeat' first
   | (with_reducible exact ih0 _ _)
   | (with_reducible exact LeO.refl _)
   | (with_reducible exact LeO.none _)
   | (with_reducible refine LeO.ite ?_ ?_)
   | (with_reducible refine LeO.bind ?_ (fun _ => ?_))
   | exact ih0 _ _
   | exact LeO.none _
   | refine LeO.ite ?_ ?_
   | refine LeO.bind ?_ (fun _ => ?_)
theorem pennantref22_Target.mono : ∀ a0 k, LeO (pennantref22_Target.f k a0) (pennantref22_Target.f (k + 1) a0) := by
 intro a0 k
 have ih0 := pennantref22_Target.mono_l k
 unfold pennantref22_Target.f
 repeat' first
   | (with_reducible exact ih0 _ _)
   | (with_reducible exact LeO.refl _)
   | (with_reducible exact LeO.none _)
   | (with_reducible refine LeO.ite ?_ ?_)
   | (with_reducible refine LeO.bind ?_ (fun _ => ?_))
   | exact ih0 _ _
   | exact LeO.none _
   | refine LeO.ite ?_ ?_
   | refine LeO.bind ?_ (fun _ => ?_)
set_option maxHeartbeats 8000000 in
set_option maxRecDepth 100000 in
theorem pennantref22_Target.calls (k : Nat) (a0 : ByteArray) (r : Bool) (w : World) (h : pennantref22_Target.f k a0 = some r) :
  Calls Tryz.prog 48 #[.string a0] w fun e w' => e = .returned (.bool r) ∧ Drawn0 w w' := by
 have H : (pennantref22_Target.l0 k a0 0) = some r := h
 clear h
 have H' := Aside0.mk H
 clear H
 go_enter Tryz.func48, Tryz.ntmps48
 go_wp2
 go_loopg [3] k (fun kq v3 w' => ∃ (x3_1 : Int), v3 = .int .i64 x3_1 ∧ Aside0 (pennantref22_Target.l0 kq a0 x3_1 = some r) ∧ Aside0 (kq ≤ k) ∧ Drawn0 w w')
 case atStart => exact ⟨(0), (by first | rfl | (simp; done) | (simp [*]; done)), H', ⟨Nat.le_refl _⟩, by repeat (first | exact Drawn0.refl _ | apply Drawn0.step)⟩
 case round =>
  clear H'
  obtain ⟨x3_1, rfl, HA, HK1, ⟨m1, rfl⟩⟩ := hrel
  cases gk with
  | zero => exact absurd HA.out (by simp [pennantref22_Target.l0])
  | succ k1 =>
   have H := HA.out
   clear HA
   simp only [pennantref22_Target.l0] at H
   by_cases c2 : x3_1 < (a0.size : Int)
   ·
    rw [if_pos c2] at H
    have c2b0 : decide (x3_1 < (a0.size : Int)) = true := decide_eq_true c2
    clear c2
    by_cases c3 : 0 ≤ x3_1
    ·
     rw [if_pos c3] at H
     have c3b0 : decide (0 ≤ x3_1) = true := decide_eq_true c3
     clear c3
     by_cases c5 : (bt a0 x3_1) < 33
     ·
      rw [if_pos c5] at H
      have c5b0 : decide ((bt a0 x3_1) < 33) = true := decide_eq_true c5
      clear c5
      obtain rfl := Option.some.inj H
      have p4 : 0 ≤ (x3_1 : Int) := of_decide_eq_true (by first | (with_reducible assumption) | assumption)
      have q4 : x3_1 < (a0.size : Int) := of_decide_eq_true (by first | (with_reducible assumption) | assumption)
      have hx4 := bt_at a0 x3_1
      replace p4 := eq_true p4
      replace q4 := eq_true q4
      go_wp2
      go_ret
      exact ⟨by first | rfl | (simp; done) | (simp [*]; done), by repeat (first | exact Drawn0.refl _ | apply Drawn0.step)⟩
     ·
      rw [if_neg c5] at H
      have c5b0 : decide ((bt a0 x3_1) < 33) = false := decide_eq_false c5
      clear c5
      by_cases c7 : (bt a0 x3_1) > 126
      ·
       rw [if_pos c7] at H
       have c7b0 : decide (126 < (bt a0 x3_1)) = true := decide_eq_true c7
       clear c7
       obtain rfl := Option.some.inj H
       have p4 : 0 ≤ (x3_1 : Int) := of_decide_eq_true (by first | (with_reducible assumption) | assumption)
       have q4 : x3_1 < (a0.size : Int) := of_decide_eq_true (by first | (with_reducible assumption) | assumption)
       have hx4 := bt_at a0 x3_1
       replace p4 := eq_true p4
       replace q4 := eq_true q4
       have p6 : 0 ≤ (x3_1 : Int) := of_decide_eq_true (by first | (with_reducible assumption) | assumption)
       have q6 : x3_1 < (a0.size : Int) := of_decide_eq_true (by first | (with_reducible assumption) | assumption)
       have hx6 := bt_at a0 x3_1
       replace p6 := eq_true p6
       replace q6 := eq_true q6
       go_wp2
       go_ret
       exact ⟨by first | rfl | (simp; done) | (simp [*]; done), by repeat (first | exact Drawn0.refl _ | apply Drawn0.step)⟩
      ·
       rw [if_neg c7] at H
       have c7b0 : decide (126 < (bt a0 x3_1)) = false := decide_eq_false c7
       clear c7
       have H' := Aside0.mk H
       clear H
       have p4 : 0 ≤ (x3_1 : Int) := of_decide_eq_true (by first | (with_reducible assumption) | assumption)
       have q4 : x3_1 < (a0.size : Int) := of_decide_eq_true (by first | (with_reducible assumption) | assumption)
       have hx4 := bt_at a0 x3_1
       replace p4 := eq_true p4
       replace q4 := eq_true q4
       have p6 : 0 ≤ (x3_1 : Int) := of_decide_eq_true (by first | (with_reducible assumption) | assumption)
       have q6 : x3_1 < (a0.size : Int) := of_decide_eq_true (by first | (with_reducible assumption) | assumption)
       have hx6 := bt_at a0 x3_1
       replace p6 := eq_true p6
       replace q6 := eq_true q6
       go_wp2
       go_roundg k1
       case measure => have := HK1.out; omega
       case rel => exact ⟨(wrap64 (x3_1 + 1)), (by first | rfl | (simp; done) | (simp [*]; done)), H', ⟨by have := HK1.out; omega⟩, by repeat (first | exact Drawn0.refl _ | apply Drawn0.step)⟩
    ·
     rw [if_neg c3] at H
     exact absurd H (by simp)
   ·
    rw [if_neg c2] at H
    have c2b0 : decide (x3_1 < (a0.size : Int)) = false := decide_eq_false c2
    clear c2
    by_cases c8 : (a0.size : Int) > 0
    ·
     rw [if_pos c8] at H
     have c8b0 : decide (0 < (a0.size : Int)) = true := decide_eq_true c8
     have c8b1 : decide (0 < a0.size) = true := decide_eq_true (by omega)
     clear c8
     by_cases c9 : (a0.size : Int) ≤ 256
     ·
      rw [if_pos c9] at H
      have c9b0 : decide ((a0.size : Int) ≤ 256) = true := decide_eq_true c9
      have c9b1 : decide (a0.size ≤ 256) = true := decide_eq_true (by omega)
      clear c9
      by_cases c10 : 0 < (a0.size : Int)
      ·
       rw [if_pos c10] at H
       have c10b0 : decide (0 < (a0.size : Int)) = true := decide_eq_true c10
       have c10b1 : decide (0 < a0.size) = true := decide_eq_true (by omega)
       clear c10
       obtain rfl := Option.some.inj H
       have p11 : 0 ≤ (0 : Int) := (by omega)
       have q11 : 0 < a0.size := (by have : (0 : Int) < (a0.size : Int) := of_decide_eq_true (by first | (with_reducible assumption) | assumption); omega)
       have hx11 : ∀ h : 0 < a0.size, ((a0[0]'h).toNat : Int) = bt a0 0 := bt_at a0 0
       clear p11
       have qi11 : (0 < (a0.size : Int)) = True := eq_true (of_decide_eq_true (by first | (with_reducible assumption) | assumption))
       replace q11 := eq_true q11
       go_wp2
       go_ret
       exact ⟨by first | rfl | (simp; done) | (simp [*]; done), by repeat (first | exact Drawn0.refl _ | apply Drawn0.step)⟩
      ·
       rw [if_neg c10] at H
       exact absurd H (by simp)
     ·
      rw [if_neg c9] at H
      have c9b0 : decide ((a0.size : Int) ≤ 256) = false := decide_eq_false c9
      have c9b1 : decide (a0.size ≤ 256) = false := decide_eq_false (by omega)
      clear c9
      obtain rfl := Option.some.inj H
      go_wp2
      go_ret
      exact ⟨by first | rfl | (simp; done) | (simp [*]; done), by repeat (first | exact Drawn0.refl _ | apply Drawn0.step)⟩
    ·
     rw [if_neg c8] at H
     have c8b0 : decide (0 < (a0.size : Int)) = false := decide_eq_false c8
     have c8b1 : decide (0 < a0.size) = false := decide_eq_false (by omega)
     clear c8
     obtain rfl := Option.some.inj H
     go_wp2
     go_ret
     exact ⟨by first | rfl | (simp; done) | (simp [*]; done), by repeat (first | exact Drawn0.refl _ | apply Drawn0.step)⟩

/-! ### pennantref22_Request: function 24 -/
def pennantref22_Request.f (k : Nat) (a0 : ByteArray) : Option (ByteArray × ByteArray × Bool) := (pennantref22_Split.f k a0 (⟨#[32]⟩ : ByteArray)).bind fun t153 => (if (t153.length : Int) = 3 then (if 0 < (t153.length : Int) then ((pennantref22_Token.f k (rdOf ByteArray.empty t153 0)).bind fun t157 => (if t157 = true then (if 1 < (t153.length : Int) then ((pennantref22_Target.f k (rdOf ByteArray.empty t153 1)).bind fun t159 => (if t159 = true then (if 2 < (t153.length : Int) then (if (rdOf ByteArray.empty t153 2).toList = ([72, 84, 84, 80, 47, 49, 46, 49] : List UInt8) then (some (rdOf ByteArray.empty t153 0, rdOf ByteArray.empty t153 1, true)) else (some ((⟨#[]⟩ : ByteArray), (⟨#[]⟩ : ByteArray), false))) else (none)) else (some ((⟨#[]⟩ : ByteArray), (⟨#[]⟩ : ByteArray), false)))) else (none)) else (some ((⟨#[]⟩ : ByteArray), (⟨#[]⟩ : ByteArray), false)))) else (none)) else (some ((⟨#[]⟩ : ByteArray), (⟨#[]⟩ : ByteArray), false)))
theorem pennantref22_Request.mono : ∀ a0 k, LeO (pennantref22_Request.f k a0) (pennantref22_Request.f (k + 1) a0) := by
 intro a0 k
 unfold pennantref22_Request.f
 repeat' first
   | (with_reducible exact pennantref22_Split.mono _ _ _)
   | (with_reducible exact pennantref22_Target.mono _ _)
   | (with_reducible exact pennantref22_Token.mono _ _)
   | (with_reducible exact LeO.refl _)
   | (with_reducible exact LeO.none _)
   | (with_reducible refine LeO.ite ?_ ?_)
   | (with_reducible refine LeO.bind ?_ (fun _ => ?_))
   | exact pennantref22_Split.mono _ _ _
   | exact pennantref22_Target.mono _ _
   | exact pennantref22_Token.mono _ _
   | exact LeO.none _
   | refine LeO.ite ?_ ?_
   | refine LeO.bind ?_ (fun _ => ?_)
set_option maxHeartbeats 8000000 in
set_option maxRecDepth 100000 in
theorem pennantref22_Request.calls (k : Nat) (a0 : ByteArray) (r1 : ByteArray) (r2 : ByteArray) (r3 : Bool) (w : World) (h : pennantref22_Request.f k a0 = some (r1, r2, r3)) :
  Calls Tryz.prog 24 #[.string a0] w fun e w' => e = .returned (.tuple #[.string r1, .string r2, .bool r3]) ∧ Below w.heap.size w w' := by
 have HB := Aside0.mk (Below.refl w.heap.size w)
 have H : ((pennantref22_Split.f k a0 (⟨#[32]⟩ : ByteArray)).bind fun t153 => (if (t153.length : Int) = 3 then (if 0 < (t153.length : Int) then ((pennantref22_Token.f k (rdOf ByteArray.empty t153 0)).bind fun t157 => (if t157 = true then (if 1 < (t153.length : Int) then ((pennantref22_Target.f k (rdOf ByteArray.empty t153 1)).bind fun t159 => (if t159 = true then (if 2 < (t153.length : Int) then (if (rdOf ByteArray.empty t153 2).toList = ([72, 84, 84, 80, 47, 49, 46, 49] : List UInt8) then (some (rdOf ByteArray.empty t153 0, rdOf ByteArray.empty t153 1, true)) else (some ((⟨#[]⟩ : ByteArray), (⟨#[]⟩ : ByteArray), false))) else (none)) else (some ((⟨#[]⟩ : ByteArray), (⟨#[]⟩ : ByteArray), false)))) else (none)) else (some ((⟨#[]⟩ : ByteArray), (⟨#[]⟩ : ByteArray), false)))) else (none)) else (some ((⟨#[]⟩ : ByteArray), (⟨#[]⟩ : ByteArray), false)))) = some (r1, r2, r3) := h
 clear h
 replace H := Option.bind_eq_some_iff.mp H
 obtain ⟨t153, A20, H⟩ := H
 replace H : (if (t153.length : Int) = 3 then (if 0 < (t153.length : Int) then ((pennantref22_Token.f k (rdOf ByteArray.empty t153 0)).bind fun t157 => (if t157 = true then (if 1 < (t153.length : Int) then ((pennantref22_Target.f k (rdOf ByteArray.empty t153 1)).bind fun t159 => (if t159 = true then (if 2 < (t153.length : Int) then (if (rdOf ByteArray.empty t153 2).toList = ([72, 84, 84, 80, 47, 49, 46, 49] : List UInt8) then (some (rdOf ByteArray.empty t153 0, rdOf ByteArray.empty t153 1, true)) else (some ((⟨#[]⟩ : ByteArray), (⟨#[]⟩ : ByteArray), false))) else (none)) else (some ((⟨#[]⟩ : ByteArray), (⟨#[]⟩ : ByteArray), false)))) else (none)) else (some ((⟨#[]⟩ : ByteArray), (⟨#[]⟩ : ByteArray), false)))) else (none)) else (some ((⟨#[]⟩ : ByteArray), (⟨#[]⟩ : ByteArray), false))) = some (r1, r2, r3) := H
 have A2 := Aside0.mk A20
 clear A20
 by_cases c3 : (t153.length : Int) = 3
 ·
  rw [if_pos c3] at H
  have c3b0 : ((t153.length : Int) == 3) = true := beq_iff_eq.mpr c3
  have c3b1 : ((t153.length : Int) != 3) = false := bne_eq_false_iff_eq.mpr c3
  clear c3
  by_cases c4 : 0 < (t153.length : Int)
  ·
   rw [if_pos c4] at H
   have c4b0 : decide (0 < (t153.length : Int)) = true := decide_eq_true c4
   have c4b1 : decide (0 < t153.length) = true := decide_eq_true (by omega)
   clear c4
   replace H := Option.bind_eq_some_iff.mp H
   obtain ⟨t157, A50, H⟩ := H
   replace H : (if t157 = true then (if 1 < (t153.length : Int) then ((pennantref22_Target.f k (rdOf ByteArray.empty t153 1)).bind fun t159 => (if t159 = true then (if 2 < (t153.length : Int) then (if (rdOf ByteArray.empty t153 2).toList = ([72, 84, 84, 80, 47, 49, 46, 49] : List UInt8) then (some (rdOf ByteArray.empty t153 0, rdOf ByteArray.empty t153 1, true)) else (some ((⟨#[]⟩ : ByteArray), (⟨#[]⟩ : ByteArray), false))) else (none)) else (some ((⟨#[]⟩ : ByteArray), (⟨#[]⟩ : ByteArray), false)))) else (none)) else (some ((⟨#[]⟩ : ByteArray), (⟨#[]⟩ : ByteArray), false))) = some (r1, r2, r3) := H
   have A5 := Aside0.mk A50
   clear A50
   by_cases c6 : t157 = true
   ·
    subst c6
    have H1 : (if 1 < (t153.length : Int) then ((pennantref22_Target.f k (rdOf ByteArray.empty t153 1)).bind fun t159 => (if t159 = true then (if 2 < (t153.length : Int) then (if (rdOf ByteArray.empty t153 2).toList = ([72, 84, 84, 80, 47, 49, 46, 49] : List UInt8) then (some (rdOf ByteArray.empty t153 0, rdOf ByteArray.empty t153 1, true)) else (some ((⟨#[]⟩ : ByteArray), (⟨#[]⟩ : ByteArray), false))) else (none)) else (some ((⟨#[]⟩ : ByteArray), (⟨#[]⟩ : ByteArray), false)))) else (none)) = some (r1, r2, r3) := by rw [if_pos rfl] at H; exact H
    clear H
    have H := H1
    clear H1
    by_cases c7 : 1 < (t153.length : Int)
    ·
     rw [if_pos c7] at H
     have c7b0 : decide (1 < (t153.length : Int)) = true := decide_eq_true c7
     have c7b1 : decide (1 < t153.length) = true := decide_eq_true (by omega)
     clear c7
     replace H := Option.bind_eq_some_iff.mp H
     obtain ⟨t159, A80, H⟩ := H
     replace H : (if t159 = true then (if 2 < (t153.length : Int) then (if (rdOf ByteArray.empty t153 2).toList = ([72, 84, 84, 80, 47, 49, 46, 49] : List UInt8) then (some (rdOf ByteArray.empty t153 0, rdOf ByteArray.empty t153 1, true)) else (some ((⟨#[]⟩ : ByteArray), (⟨#[]⟩ : ByteArray), false))) else (none)) else (some ((⟨#[]⟩ : ByteArray), (⟨#[]⟩ : ByteArray), false))) = some (r1, r2, r3) := H
     have A8 := Aside0.mk A80
     clear A80
     by_cases c9 : t159 = true
     ·
      subst c9
      have H1 : (if 2 < (t153.length : Int) then (if (rdOf ByteArray.empty t153 2).toList = ([72, 84, 84, 80, 47, 49, 46, 49] : List UInt8) then (some (rdOf ByteArray.empty t153 0, rdOf ByteArray.empty t153 1, true)) else (some ((⟨#[]⟩ : ByteArray), (⟨#[]⟩ : ByteArray), false))) else (none)) = some (r1, r2, r3) := by rw [if_pos rfl] at H; exact H
      clear H
      have H := H1
      clear H1
      by_cases c10 : 2 < (t153.length : Int)
      ·
       rw [if_pos c10] at H
       have c10b0 : decide (2 < (t153.length : Int)) = true := decide_eq_true c10
       have c10b1 : decide (2 < t153.length) = true := decide_eq_true (by omega)
       clear c10
       by_cases c11 : (rdOf ByteArray.empty t153 2).toList = ([72, 84, 84, 80, 47, 49, 46, 49] : List UInt8)
       ·
        rw [if_pos c11] at H
        have c11b0 : ((rdOf ByteArray.empty t153 2).toList == ([72, 84, 84, 80, 47, 49, 46, 49] : List UInt8)) = true := beq_iff_eq.mpr c11
        have c11b1 : ((rdOf ByteArray.empty t153 2).toList != ([72, 84, 84, 80, 47, 49, 46, 49] : List UInt8)) = false := bne_eq_false_iff_eq.mpr c11
        clear c11
        simp only [Option.some.injEq, Prod.mk.injEq] at H
        obtain ⟨rfl, rfl, rfl⟩ := H
        go_enter Tryz.func24, Tryz.ntmps24
        go_wp2_with (first | (go_at_call 42; (with_reducible refine (pennantref22_Split.calls k a0 (⟨#[32]⟩ : ByteArray) t153 _ A2.out).mono ?_); rintro e w12 ⟨v154, rfl, ho0, hb⟩; have n0_ := Aside0.mk (Kd.R_lower ho0 (below_size (by repeat (first | (with_reducible first | exact HB.out | apply below_alloc | apply pw_below_drewN | apply below_drew1) | exact HB.out)))); have n1_ := Aside0.mk (below_step (by repeat (first | (with_reducible first | exact HB.out | apply below_alloc | apply pw_below_drewN | apply below_drew1) | exact HB.out)) hb); clear HB; have HO155 := n0_; have HB := n1_; clear n0_ n1_; (try clear hb); (try clear hb2); (try clear hk); (try clear hi); (try clear ho0); obtain ⟨Ao13, co13, eo13⟩ := Kd.R_slice HO155.out; subst eo13; have p156 : 0 ≤ (0 : Int) := (by omega); have q156 : 0 < (t153.length : Int) := of_decide_eq_true (by first | (with_reducible assumption) | assumption); obtain ⟨ad156, e156, hx156_0⟩ := Kd.at_string (Kd.R_reads' HO155.out).2.2 0 p156 q156; cases e156; have qi156 : (0 < t153.length) = True := eq_true (by omega); (try rw [show ((0 : Int)).toNat = 0 from rfl] at hx156_0); (try rw [Addr.add_zero'] at hx156_0); replace p156 := eq_true p156; replace q156 := eq_true q156) | (go_at_call 43; (with_reducible refine (pennantref22_Token.calls k (rdOf ByteArray.empty t153 0) true _ A5.out).mono ?_); rintro e w' ⟨rfl, ⟨nd, rfl⟩⟩; (try first | exact ⟨rfl, _, World.drewN_drewN _ _ _⟩ | exact ⟨rfl, _, Eq.trans (World.drewN_drewN _ _ _) (congrArg (World.drewN _) (Nat.add_assoc _ _ _))⟩); have p158 : 0 ≤ (1 : Int) := (by omega); have q158 : 1 < (t153.length : Int) := of_decide_eq_true (by first | (with_reducible assumption) | assumption); obtain ⟨ad158, e158, hx158_0⟩ := Kd.at_string (Kd.R_reads' HO155.out).2.2 1 p158 q158; obtain rfl : ad156 = ad158 := (by injection e158); (try simp only [show (1 : Int).toNat = 1 from rfl, Nat.reduceMul, Nat.reduceEqDiff, Go.Addr.add, ↓reduceIte] at hx158_0); have qi158 : (1 < t153.length) = True := eq_true (by omega); (try rw [show ((1 : Int)).toNat = 1 from rfl] at hx158_0); replace p158 := eq_true p158; replace q158 := eq_true q158) | (go_at_call 48; (with_reducible refine (pennantref22_Target.calls k (rdOf ByteArray.empty t153 1) true _ A8.out).mono ?_); rintro e w' ⟨rfl, ⟨nd, rfl⟩⟩; (try first | exact ⟨rfl, _, World.drewN_drewN _ _ _⟩ | exact ⟨rfl, _, Eq.trans (World.drewN_drewN _ _ _) (congrArg (World.drewN _) (Nat.add_assoc _ _ _))⟩); have p160 : 0 ≤ (2 : Int) := (by omega); have q160 : 2 < (t153.length : Int) := of_decide_eq_true (by first | (with_reducible assumption) | assumption); obtain ⟨ad160, e160, hx160_0⟩ := Kd.at_string (Kd.R_reads' HO155.out).2.2 2 p160 q160; obtain rfl : ad156 = ad160 := (by injection e160); (try simp only [show (2 : Int).toNat = 2 from rfl, Nat.reduceMul, Nat.reduceEqDiff, Go.Addr.add, ↓reduceIte] at hx160_0); have qi160 : (2 < t153.length) = True := eq_true (by omega); (try rw [show ((2 : Int)).toNat = 2 from rfl] at hx160_0); replace p160 := eq_true p160; replace q160 := eq_true q160; have p161 : 0 ≤ (0 : Int) := (by omega); have q161 : 0 < (t153.length : Int) := of_decide_eq_true (by first | (with_reducible assumption) | assumption); obtain ⟨ad161, e161, hx161_0⟩ := Kd.at_string (Kd.R_reads' HO155.out).2.2 0 p161 q161; obtain rfl : ad156 = ad161 := (by injection e161); have qi161 : (0 < t153.length) = True := eq_true (by omega); (try rw [show ((0 : Int)).toNat = 0 from rfl] at hx161_0); (try rw [Addr.add_zero'] at hx161_0); replace p161 := eq_true p161; replace q161 := eq_true q161; have p162 : 0 ≤ (1 : Int) := (by omega); have q162 : 1 < (t153.length : Int) := of_decide_eq_true (by first | (with_reducible assumption) | assumption); obtain ⟨ad162, e162, hx162_0⟩ := Kd.at_string (Kd.R_reads' HO155.out).2.2 1 p162 q162; obtain rfl : ad156 = ad162 := (by injection e162); (try simp only [show (1 : Int).toNat = 1 from rfl, Nat.reduceMul, Nat.reduceEqDiff, Go.Addr.add, ↓reduceIte] at hx162_0); have qi162 : (1 < t153.length) = True := eq_true (by omega); (try rw [show ((1 : Int)).toNat = 1 from rfl] at hx162_0); replace p162 := eq_true p162; replace q162 := eq_true q162))
        repeat (go_quiet (first | (go_at_call 42; (with_reducible refine (pennantref22_Split.calls k a0 (⟨#[32]⟩ : ByteArray) t153 _ A2.out).mono ?_); rintro e w12 ⟨v154, rfl, ho0, hb⟩; have n0_ := Aside0.mk (Kd.R_lower ho0 (below_size (by repeat (first | (with_reducible first | exact HB.out | apply below_alloc | apply pw_below_drewN | apply below_drew1) | exact HB.out)))); have n1_ := Aside0.mk (below_step (by repeat (first | (with_reducible first | exact HB.out | apply below_alloc | apply pw_below_drewN | apply below_drew1) | exact HB.out)) hb); clear HB; have HO155 := n0_; have HB := n1_; clear n0_ n1_; (try clear hb); (try clear hb2); (try clear hk); (try clear hi); (try clear ho0); obtain ⟨Ao13, co13, eo13⟩ := Kd.R_slice HO155.out; subst eo13; have p156 : 0 ≤ (0 : Int) := (by omega); have q156 : 0 < (t153.length : Int) := of_decide_eq_true (by first | (with_reducible assumption) | assumption); obtain ⟨ad156, e156, hx156_0⟩ := Kd.at_string (Kd.R_reads' HO155.out).2.2 0 p156 q156; cases e156; have qi156 : (0 < t153.length) = True := eq_true (by omega); (try rw [show ((0 : Int)).toNat = 0 from rfl] at hx156_0); (try rw [Addr.add_zero'] at hx156_0); replace p156 := eq_true p156; replace q156 := eq_true q156) | (go_at_call 43; (with_reducible refine (pennantref22_Token.calls k (rdOf ByteArray.empty t153 0) true _ A5.out).mono ?_); rintro e w' ⟨rfl, ⟨nd, rfl⟩⟩; (try first | exact ⟨rfl, _, World.drewN_drewN _ _ _⟩ | exact ⟨rfl, _, Eq.trans (World.drewN_drewN _ _ _) (congrArg (World.drewN _) (Nat.add_assoc _ _ _))⟩); have p158 : 0 ≤ (1 : Int) := (by omega); have q158 : 1 < (t153.length : Int) := of_decide_eq_true (by first | (with_reducible assumption) | assumption); obtain ⟨ad158, e158, hx158_0⟩ := Kd.at_string (Kd.R_reads' HO155.out).2.2 1 p158 q158; obtain rfl : ad156 = ad158 := (by injection e158); (try simp only [show (1 : Int).toNat = 1 from rfl, Nat.reduceMul, Nat.reduceEqDiff, Go.Addr.add, ↓reduceIte] at hx158_0); have qi158 : (1 < t153.length) = True := eq_true (by omega); (try rw [show ((1 : Int)).toNat = 1 from rfl] at hx158_0); replace p158 := eq_true p158; replace q158 := eq_true q158) | (go_at_call 48; (with_reducible refine (pennantref22_Target.calls k (rdOf ByteArray.empty t153 1) true _ A8.out).mono ?_); rintro e w' ⟨rfl, ⟨nd, rfl⟩⟩; (try first | exact ⟨rfl, _, World.drewN_drewN _ _ _⟩ | exact ⟨rfl, _, Eq.trans (World.drewN_drewN _ _ _) (congrArg (World.drewN _) (Nat.add_assoc _ _ _))⟩); have p160 : 0 ≤ (2 : Int) := (by omega); have q160 : 2 < (t153.length : Int) := of_decide_eq_true (by first | (with_reducible assumption) | assumption); obtain ⟨ad160, e160, hx160_0⟩ := Kd.at_string (Kd.R_reads' HO155.out).2.2 2 p160 q160; obtain rfl : ad156 = ad160 := (by injection e160); (try simp only [show (2 : Int).toNat = 2 from rfl, Nat.reduceMul, Nat.reduceEqDiff, Go.Addr.add, ↓reduceIte] at hx160_0); have qi160 : (2 < t153.length) = True := eq_true (by omega); (try rw [show ((2 : Int)).toNat = 2 from rfl] at hx160_0); replace p160 := eq_true p160; replace q160 := eq_true q160; have p161 : 0 ≤ (0 : Int) := (by omega); have q161 : 0 < (t153.length : Int) := of_decide_eq_true (by first | (with_reducible assumption) | assumption); obtain ⟨ad161, e161, hx161_0⟩ := Kd.at_string (Kd.R_reads' HO155.out).2.2 0 p161 q161; obtain rfl : ad156 = ad161 := (by injection e161); have qi161 : (0 < t153.length) = True := eq_true (by omega); (try rw [show ((0 : Int)).toNat = 0 from rfl] at hx161_0); (try rw [Addr.add_zero'] at hx161_0); replace p161 := eq_true p161; replace q161 := eq_true q161; have p162 : 0 ≤ (1 : Int) := (by omega); have q162 : 1 < (t153.length : Int) := of_decide_eq_true (by first | (with_reducible assumption) | assumption); obtain ⟨ad162, e162, hx162_0⟩ := Kd.at_string (Kd.R_reads' HO155.out).2.2 1 p162 q162; obtain rfl : ad156 = ad162 := (by injection e162); (try simp only [show (1 : Int).toNat = 1 from rfl, Nat.reduceMul, Nat.reduceEqDiff, Go.Addr.add, ↓reduceIte] at hx162_0); have qi162 : (1 < t153.length) = True := eq_true (by omega); (try rw [show ((1 : Int)).toNat = 1 from rfl] at hx162_0); replace p162 := eq_true p162; replace q162 := eq_true q162)); try go_wp2_with (first | (go_at_call 42; (with_reducible refine (pennantref22_Split.calls k a0 (⟨#[32]⟩ : ByteArray) t153 _ A2.out).mono ?_); rintro e w12 ⟨v154, rfl, ho0, hb⟩; have n0_ := Aside0.mk (Kd.R_lower ho0 (below_size (by repeat (first | (with_reducible first | exact HB.out | apply below_alloc | apply pw_below_drewN | apply below_drew1) | exact HB.out)))); have n1_ := Aside0.mk (below_step (by repeat (first | (with_reducible first | exact HB.out | apply below_alloc | apply pw_below_drewN | apply below_drew1) | exact HB.out)) hb); clear HB; have HO155 := n0_; have HB := n1_; clear n0_ n1_; (try clear hb); (try clear hb2); (try clear hk); (try clear hi); (try clear ho0); obtain ⟨Ao13, co13, eo13⟩ := Kd.R_slice HO155.out; subst eo13; have p156 : 0 ≤ (0 : Int) := (by omega); have q156 : 0 < (t153.length : Int) := of_decide_eq_true (by first | (with_reducible assumption) | assumption); obtain ⟨ad156, e156, hx156_0⟩ := Kd.at_string (Kd.R_reads' HO155.out).2.2 0 p156 q156; cases e156; have qi156 : (0 < t153.length) = True := eq_true (by omega); (try rw [show ((0 : Int)).toNat = 0 from rfl] at hx156_0); (try rw [Addr.add_zero'] at hx156_0); replace p156 := eq_true p156; replace q156 := eq_true q156) | (go_at_call 43; (with_reducible refine (pennantref22_Token.calls k (rdOf ByteArray.empty t153 0) true _ A5.out).mono ?_); rintro e w' ⟨rfl, ⟨nd, rfl⟩⟩; (try first | exact ⟨rfl, _, World.drewN_drewN _ _ _⟩ | exact ⟨rfl, _, Eq.trans (World.drewN_drewN _ _ _) (congrArg (World.drewN _) (Nat.add_assoc _ _ _))⟩); have p158 : 0 ≤ (1 : Int) := (by omega); have q158 : 1 < (t153.length : Int) := of_decide_eq_true (by first | (with_reducible assumption) | assumption); obtain ⟨ad158, e158, hx158_0⟩ := Kd.at_string (Kd.R_reads' HO155.out).2.2 1 p158 q158; obtain rfl : ad156 = ad158 := (by injection e158); (try simp only [show (1 : Int).toNat = 1 from rfl, Nat.reduceMul, Nat.reduceEqDiff, Go.Addr.add, ↓reduceIte] at hx158_0); have qi158 : (1 < t153.length) = True := eq_true (by omega); (try rw [show ((1 : Int)).toNat = 1 from rfl] at hx158_0); replace p158 := eq_true p158; replace q158 := eq_true q158) | (go_at_call 48; (with_reducible refine (pennantref22_Target.calls k (rdOf ByteArray.empty t153 1) true _ A8.out).mono ?_); rintro e w' ⟨rfl, ⟨nd, rfl⟩⟩; (try first | exact ⟨rfl, _, World.drewN_drewN _ _ _⟩ | exact ⟨rfl, _, Eq.trans (World.drewN_drewN _ _ _) (congrArg (World.drewN _) (Nat.add_assoc _ _ _))⟩); have p160 : 0 ≤ (2 : Int) := (by omega); have q160 : 2 < (t153.length : Int) := of_decide_eq_true (by first | (with_reducible assumption) | assumption); obtain ⟨ad160, e160, hx160_0⟩ := Kd.at_string (Kd.R_reads' HO155.out).2.2 2 p160 q160; obtain rfl : ad156 = ad160 := (by injection e160); (try simp only [show (2 : Int).toNat = 2 from rfl, Nat.reduceMul, Nat.reduceEqDiff, Go.Addr.add, ↓reduceIte] at hx160_0); have qi160 : (2 < t153.length) = True := eq_true (by omega); (try rw [show ((2 : Int)).toNat = 2 from rfl] at hx160_0); replace p160 := eq_true p160; replace q160 := eq_true q160; have p161 : 0 ≤ (0 : Int) := (by omega); have q161 : 0 < (t153.length : Int) := of_decide_eq_true (by first | (with_reducible assumption) | assumption); obtain ⟨ad161, e161, hx161_0⟩ := Kd.at_string (Kd.R_reads' HO155.out).2.2 0 p161 q161; obtain rfl : ad156 = ad161 := (by injection e161); have qi161 : (0 < t153.length) = True := eq_true (by omega); (try rw [show ((0 : Int)).toNat = 0 from rfl] at hx161_0); (try rw [Addr.add_zero'] at hx161_0); replace p161 := eq_true p161; replace q161 := eq_true q161; have p162 : 0 ≤ (1 : Int) := (by omega); have q162 : 1 < (t153.length : Int) := of_decide_eq_true (by first | (with_reducible assumption) | assumption); obtain ⟨ad162, e162, hx162_0⟩ := Kd.at_string (Kd.R_reads' HO155.out).2.2 1 p162 q162; obtain rfl : ad156 = ad162 := (by injection e162); (try simp only [show (1 : Int).toNat = 1 from rfl, Nat.reduceMul, Nat.reduceEqDiff, Go.Addr.add, ↓reduceIte] at hx162_0); have qi162 : (1 < t153.length) = True := eq_true (by omega); (try rw [show ((1 : Int)).toNat = 1 from rfl] at hx162_0); replace p162 := eq_true p162; replace q162 := eq_true q162)))
        go_ret3
        exact ⟨by first | rfl | (simp [errW_none, errW_some] <;> rfl) | (simp [*, errW_none, errW_some] <;> rfl), by repeat (first | (with_reducible first | exact HB.out | apply below_alloc | apply pw_below_drewN | apply below_drew1) | exact HB.out)⟩
       ·
        rw [if_neg c11] at H
        have c11b0 : ((rdOf ByteArray.empty t153 2).toList == ([72, 84, 84, 80, 47, 49, 46, 49] : List UInt8)) = false := beq_eq_false_iff_ne.mpr c11
        have c11b1 : ((rdOf ByteArray.empty t153 2).toList != ([72, 84, 84, 80, 47, 49, 46, 49] : List UInt8)) = true := bne_iff_ne.mpr c11
        simp only [Option.some.injEq, Prod.mk.injEq] at H
        obtain ⟨rfl, rfl, rfl⟩ := H
        go_enter Tryz.func24, Tryz.ntmps24
        go_wp2_with (first | (go_at_call 42; (with_reducible refine (pennantref22_Split.calls k a0 (⟨#[32]⟩ : ByteArray) t153 _ A2.out).mono ?_); rintro e w14 ⟨v154, rfl, ho0, hb⟩; have n0_ := Aside0.mk (Kd.R_lower ho0 (below_size (by repeat (first | (with_reducible first | exact HB.out | apply below_alloc | apply pw_below_drewN | apply below_drew1) | exact HB.out)))); have n1_ := Aside0.mk (below_step (by repeat (first | (with_reducible first | exact HB.out | apply below_alloc | apply pw_below_drewN | apply below_drew1) | exact HB.out)) hb); clear HB; have HO155 := n0_; have HB := n1_; clear n0_ n1_; (try clear hb); (try clear hb2); (try clear hk); (try clear hi); (try clear ho0); obtain ⟨Ao15, co15, eo15⟩ := Kd.R_slice HO155.out; subst eo15; have p156 : 0 ≤ (0 : Int) := (by omega); have q156 : 0 < (t153.length : Int) := of_decide_eq_true (by first | (with_reducible assumption) | assumption); obtain ⟨ad156, e156, hx156_0⟩ := Kd.at_string (Kd.R_reads' HO155.out).2.2 0 p156 q156; cases e156; have qi156 : (0 < t153.length) = True := eq_true (by omega); (try rw [show ((0 : Int)).toNat = 0 from rfl] at hx156_0); (try rw [Addr.add_zero'] at hx156_0); replace p156 := eq_true p156; replace q156 := eq_true q156) | (go_at_call 43; (with_reducible refine (pennantref22_Token.calls k (rdOf ByteArray.empty t153 0) true _ A5.out).mono ?_); rintro e w' ⟨rfl, ⟨nd, rfl⟩⟩; (try first | exact ⟨rfl, _, World.drewN_drewN _ _ _⟩ | exact ⟨rfl, _, Eq.trans (World.drewN_drewN _ _ _) (congrArg (World.drewN _) (Nat.add_assoc _ _ _))⟩); have p158 : 0 ≤ (1 : Int) := (by omega); have q158 : 1 < (t153.length : Int) := of_decide_eq_true (by first | (with_reducible assumption) | assumption); obtain ⟨ad158, e158, hx158_0⟩ := Kd.at_string (Kd.R_reads' HO155.out).2.2 1 p158 q158; obtain rfl : ad156 = ad158 := (by injection e158); (try simp only [show (1 : Int).toNat = 1 from rfl, Nat.reduceMul, Nat.reduceEqDiff, Go.Addr.add, ↓reduceIte] at hx158_0); have qi158 : (1 < t153.length) = True := eq_true (by omega); (try rw [show ((1 : Int)).toNat = 1 from rfl] at hx158_0); replace p158 := eq_true p158; replace q158 := eq_true q158) | (go_at_call 48; (with_reducible refine (pennantref22_Target.calls k (rdOf ByteArray.empty t153 1) true _ A8.out).mono ?_); rintro e w' ⟨rfl, ⟨nd, rfl⟩⟩; (try first | exact ⟨rfl, _, World.drewN_drewN _ _ _⟩ | exact ⟨rfl, _, Eq.trans (World.drewN_drewN _ _ _) (congrArg (World.drewN _) (Nat.add_assoc _ _ _))⟩); have p160 : 0 ≤ (2 : Int) := (by omega); have q160 : 2 < (t153.length : Int) := of_decide_eq_true (by first | (with_reducible assumption) | assumption); obtain ⟨ad160, e160, hx160_0⟩ := Kd.at_string (Kd.R_reads' HO155.out).2.2 2 p160 q160; obtain rfl : ad156 = ad160 := (by injection e160); (try simp only [show (2 : Int).toNat = 2 from rfl, Nat.reduceMul, Nat.reduceEqDiff, Go.Addr.add, ↓reduceIte] at hx160_0); have qi160 : (2 < t153.length) = True := eq_true (by omega); (try rw [show ((2 : Int)).toNat = 2 from rfl] at hx160_0); replace p160 := eq_true p160; replace q160 := eq_true q160))
        repeat (go_quiet (first | (go_at_call 42; (with_reducible refine (pennantref22_Split.calls k a0 (⟨#[32]⟩ : ByteArray) t153 _ A2.out).mono ?_); rintro e w14 ⟨v154, rfl, ho0, hb⟩; have n0_ := Aside0.mk (Kd.R_lower ho0 (below_size (by repeat (first | (with_reducible first | exact HB.out | apply below_alloc | apply pw_below_drewN | apply below_drew1) | exact HB.out)))); have n1_ := Aside0.mk (below_step (by repeat (first | (with_reducible first | exact HB.out | apply below_alloc | apply pw_below_drewN | apply below_drew1) | exact HB.out)) hb); clear HB; have HO155 := n0_; have HB := n1_; clear n0_ n1_; (try clear hb); (try clear hb2); (try clear hk); (try clear hi); (try clear ho0); obtain ⟨Ao15, co15, eo15⟩ := Kd.R_slice HO155.out; subst eo15; have p156 : 0 ≤ (0 : Int) := (by omega); have q156 : 0 < (t153.length : Int) := of_decide_eq_true (by first | (with_reducible assumption) | assumption); obtain ⟨ad156, e156, hx156_0⟩ := Kd.at_string (Kd.R_reads' HO155.out).2.2 0 p156 q156; cases e156; have qi156 : (0 < t153.length) = True := eq_true (by omega); (try rw [show ((0 : Int)).toNat = 0 from rfl] at hx156_0); (try rw [Addr.add_zero'] at hx156_0); replace p156 := eq_true p156; replace q156 := eq_true q156) | (go_at_call 43; (with_reducible refine (pennantref22_Token.calls k (rdOf ByteArray.empty t153 0) true _ A5.out).mono ?_); rintro e w' ⟨rfl, ⟨nd, rfl⟩⟩; (try first | exact ⟨rfl, _, World.drewN_drewN _ _ _⟩ | exact ⟨rfl, _, Eq.trans (World.drewN_drewN _ _ _) (congrArg (World.drewN _) (Nat.add_assoc _ _ _))⟩); have p158 : 0 ≤ (1 : Int) := (by omega); have q158 : 1 < (t153.length : Int) := of_decide_eq_true (by first | (with_reducible assumption) | assumption); obtain ⟨ad158, e158, hx158_0⟩ := Kd.at_string (Kd.R_reads' HO155.out).2.2 1 p158 q158; obtain rfl : ad156 = ad158 := (by injection e158); (try simp only [show (1 : Int).toNat = 1 from rfl, Nat.reduceMul, Nat.reduceEqDiff, Go.Addr.add, ↓reduceIte] at hx158_0); have qi158 : (1 < t153.length) = True := eq_true (by omega); (try rw [show ((1 : Int)).toNat = 1 from rfl] at hx158_0); replace p158 := eq_true p158; replace q158 := eq_true q158) | (go_at_call 48; (with_reducible refine (pennantref22_Target.calls k (rdOf ByteArray.empty t153 1) true _ A8.out).mono ?_); rintro e w' ⟨rfl, ⟨nd, rfl⟩⟩; (try first | exact ⟨rfl, _, World.drewN_drewN _ _ _⟩ | exact ⟨rfl, _, Eq.trans (World.drewN_drewN _ _ _) (congrArg (World.drewN _) (Nat.add_assoc _ _ _))⟩); have p160 : 0 ≤ (2 : Int) := (by omega); have q160 : 2 < (t153.length : Int) := of_decide_eq_true (by first | (with_reducible assumption) | assumption); obtain ⟨ad160, e160, hx160_0⟩ := Kd.at_string (Kd.R_reads' HO155.out).2.2 2 p160 q160; obtain rfl : ad156 = ad160 := (by injection e160); (try simp only [show (2 : Int).toNat = 2 from rfl, Nat.reduceMul, Nat.reduceEqDiff, Go.Addr.add, ↓reduceIte] at hx160_0); have qi160 : (2 < t153.length) = True := eq_true (by omega); (try rw [show ((2 : Int)).toNat = 2 from rfl] at hx160_0); replace p160 := eq_true p160; replace q160 := eq_true q160)); try go_wp2_with (first | (go_at_call 42; (with_reducible refine (pennantref22_Split.calls k a0 (⟨#[32]⟩ : ByteArray) t153 _ A2.out).mono ?_); rintro e w14 ⟨v154, rfl, ho0, hb⟩; have n0_ := Aside0.mk (Kd.R_lower ho0 (below_size (by repeat (first | (with_reducible first | exact HB.out | apply below_alloc | apply pw_below_drewN | apply below_drew1) | exact HB.out)))); have n1_ := Aside0.mk (below_step (by repeat (first | (with_reducible first | exact HB.out | apply below_alloc | apply pw_below_drewN | apply below_drew1) | exact HB.out)) hb); clear HB; have HO155 := n0_; have HB := n1_; clear n0_ n1_; (try clear hb); (try clear hb2); (try clear hk); (try clear hi); (try clear ho0); obtain ⟨Ao15, co15, eo15⟩ := Kd.R_slice HO155.out; subst eo15; have p156 : 0 ≤ (0 : Int) := (by omega); have q156 : 0 < (t153.length : Int) := of_decide_eq_true (by first | (with_reducible assumption) | assumption); obtain ⟨ad156, e156, hx156_0⟩ := Kd.at_string (Kd.R_reads' HO155.out).2.2 0 p156 q156; cases e156; have qi156 : (0 < t153.length) = True := eq_true (by omega); (try rw [show ((0 : Int)).toNat = 0 from rfl] at hx156_0); (try rw [Addr.add_zero'] at hx156_0); replace p156 := eq_true p156; replace q156 := eq_true q156) | (go_at_call 43; (with_reducible refine (pennantref22_Token.calls k (rdOf ByteArray.empty t153 0) true _ A5.out).mono ?_); rintro e w' ⟨rfl, ⟨nd, rfl⟩⟩; (try first | exact ⟨rfl, _, World.drewN_drewN _ _ _⟩ | exact ⟨rfl, _, Eq.trans (World.drewN_drewN _ _ _) (congrArg (World.drewN _) (Nat.add_assoc _ _ _))⟩); have p158 : 0 ≤ (1 : Int) := (by omega); have q158 : 1 < (t153.length : Int) := of_decide_eq_true (by first | (with_reducible assumption) | assumption); obtain ⟨ad158, e158, hx158_0⟩ := Kd.at_string (Kd.R_reads' HO155.out).2.2 1 p158 q158; obtain rfl : ad156 = ad158 := (by injection e158); (try simp only [show (1 : Int).toNat = 1 from rfl, Nat.reduceMul, Nat.reduceEqDiff, Go.Addr.add, ↓reduceIte] at hx158_0); have qi158 : (1 < t153.length) = True := eq_true (by omega); (try rw [show ((1 : Int)).toNat = 1 from rfl] at hx158_0); replace p158 := eq_true p158; replace q158 := eq_true q158) | (go_at_call 48; (with_reducible refine (pennantref22_Target.calls k (rdOf ByteArray.empty t153 1) true _ A8.out).mono ?_); rintro e w' ⟨rfl, ⟨nd, rfl⟩⟩; (try first | exact ⟨rfl, _, World.drewN_drewN _ _ _⟩ | exact ⟨rfl, _, Eq.trans (World.drewN_drewN _ _ _) (congrArg (World.drewN _) (Nat.add_assoc _ _ _))⟩); have p160 : 0 ≤ (2 : Int) := (by omega); have q160 : 2 < (t153.length : Int) := of_decide_eq_true (by first | (with_reducible assumption) | assumption); obtain ⟨ad160, e160, hx160_0⟩ := Kd.at_string (Kd.R_reads' HO155.out).2.2 2 p160 q160; obtain rfl : ad156 = ad160 := (by injection e160); (try simp only [show (2 : Int).toNat = 2 from rfl, Nat.reduceMul, Nat.reduceEqDiff, Go.Addr.add, ↓reduceIte] at hx160_0); have qi160 : (2 < t153.length) = True := eq_true (by omega); (try rw [show ((2 : Int)).toNat = 2 from rfl] at hx160_0); replace p160 := eq_true p160; replace q160 := eq_true q160)))
        go_ret3
        exact ⟨by first | rfl | (simp [errW_none, errW_some] <;> rfl) | (simp [*, errW_none, errW_some] <;> rfl), by repeat (first | (with_reducible first | exact HB.out | apply below_alloc | apply pw_below_drewN | apply below_drew1) | exact HB.out)⟩
      ·
       rw [if_neg c10] at H
       exact absurd H (by simp)
     ·
      replace c9 := Bool.eq_false_iff.mpr c9
      subst c9
      have H1 : (some ((⟨#[]⟩ : ByteArray), (⟨#[]⟩ : ByteArray), false)) = some (r1, r2, r3) := by rw [if_neg (show ¬ (false = true) by decide)] at H; exact H
      clear H
      have H := H1
      clear H1
      simp only [Option.some.injEq, Prod.mk.injEq] at H
      obtain ⟨rfl, rfl, rfl⟩ := H
      go_enter Tryz.func24, Tryz.ntmps24
      go_wp2_with (first | (go_at_call 42; (with_reducible refine (pennantref22_Split.calls k a0 (⟨#[32]⟩ : ByteArray) t153 _ A2.out).mono ?_); rintro e w16 ⟨v154, rfl, ho0, hb⟩; have n0_ := Aside0.mk (Kd.R_lower ho0 (below_size (by repeat (first | (with_reducible first | exact HB.out | apply below_alloc | apply pw_below_drewN | apply below_drew1) | exact HB.out)))); have n1_ := Aside0.mk (below_step (by repeat (first | (with_reducible first | exact HB.out | apply below_alloc | apply pw_below_drewN | apply below_drew1) | exact HB.out)) hb); clear HB; have HO155 := n0_; have HB := n1_; clear n0_ n1_; (try clear hb); (try clear hb2); (try clear hk); (try clear hi); (try clear ho0); obtain ⟨Ao17, co17, eo17⟩ := Kd.R_slice HO155.out; subst eo17; have p156 : 0 ≤ (0 : Int) := (by omega); have q156 : 0 < (t153.length : Int) := of_decide_eq_true (by first | (with_reducible assumption) | assumption); obtain ⟨ad156, e156, hx156_0⟩ := Kd.at_string (Kd.R_reads' HO155.out).2.2 0 p156 q156; cases e156; have qi156 : (0 < t153.length) = True := eq_true (by omega); (try rw [show ((0 : Int)).toNat = 0 from rfl] at hx156_0); (try rw [Addr.add_zero'] at hx156_0); replace p156 := eq_true p156; replace q156 := eq_true q156) | (go_at_call 43; (with_reducible refine (pennantref22_Token.calls k (rdOf ByteArray.empty t153 0) true _ A5.out).mono ?_); rintro e w' ⟨rfl, ⟨nd, rfl⟩⟩; (try first | exact ⟨rfl, _, World.drewN_drewN _ _ _⟩ | exact ⟨rfl, _, Eq.trans (World.drewN_drewN _ _ _) (congrArg (World.drewN _) (Nat.add_assoc _ _ _))⟩); have p158 : 0 ≤ (1 : Int) := (by omega); have q158 : 1 < (t153.length : Int) := of_decide_eq_true (by first | (with_reducible assumption) | assumption); obtain ⟨ad158, e158, hx158_0⟩ := Kd.at_string (Kd.R_reads' HO155.out).2.2 1 p158 q158; obtain rfl : ad156 = ad158 := (by injection e158); (try simp only [show (1 : Int).toNat = 1 from rfl, Nat.reduceMul, Nat.reduceEqDiff, Go.Addr.add, ↓reduceIte] at hx158_0); have qi158 : (1 < t153.length) = True := eq_true (by omega); (try rw [show ((1 : Int)).toNat = 1 from rfl] at hx158_0); replace p158 := eq_true p158; replace q158 := eq_true q158) | (go_at_call 48; (with_reducible refine (pennantref22_Target.calls k (rdOf ByteArray.empty t153 1) false _ A8.out).mono ?_); rintro e w' ⟨rfl, ⟨nd, rfl⟩⟩; (try first | exact ⟨rfl, _, World.drewN_drewN _ _ _⟩ | exact ⟨rfl, _, Eq.trans (World.drewN_drewN _ _ _) (congrArg (World.drewN _) (Nat.add_assoc _ _ _))⟩)))
      repeat (go_quiet (first | (go_at_call 42; (with_reducible refine (pennantref22_Split.calls k a0 (⟨#[32]⟩ : ByteArray) t153 _ A2.out).mono ?_); rintro e w16 ⟨v154, rfl, ho0, hb⟩; have n0_ := Aside0.mk (Kd.R_lower ho0 (below_size (by repeat (first | (with_reducible first | exact HB.out | apply below_alloc | apply pw_below_drewN | apply below_drew1) | exact HB.out)))); have n1_ := Aside0.mk (below_step (by repeat (first | (with_reducible first | exact HB.out | apply below_alloc | apply pw_below_drewN | apply below_drew1) | exact HB.out)) hb); clear HB; have HO155 := n0_; have HB := n1_; clear n0_ n1_; (try clear hb); (try clear hb2); (try clear hk); (try clear hi); (try clear ho0); obtain ⟨Ao17, co17, eo17⟩ := Kd.R_slice HO155.out; subst eo17; have p156 : 0 ≤ (0 : Int) := (by omega); have q156 : 0 < (t153.length : Int) := of_decide_eq_true (by first | (with_reducible assumption) | assumption); obtain ⟨ad156, e156, hx156_0⟩ := Kd.at_string (Kd.R_reads' HO155.out).2.2 0 p156 q156; cases e156; have qi156 : (0 < t153.length) = True := eq_true (by omega); (try rw [show ((0 : Int)).toNat = 0 from rfl] at hx156_0); (try rw [Addr.add_zero'] at hx156_0); replace p156 := eq_true p156; replace q156 := eq_true q156) | (go_at_call 43; (with_reducible refine (pennantref22_Token.calls k (rdOf ByteArray.empty t153 0) true _ A5.out).mono ?_); rintro e w' ⟨rfl, ⟨nd, rfl⟩⟩; (try first | exact ⟨rfl, _, World.drewN_drewN _ _ _⟩ | exact ⟨rfl, _, Eq.trans (World.drewN_drewN _ _ _) (congrArg (World.drewN _) (Nat.add_assoc _ _ _))⟩); have p158 : 0 ≤ (1 : Int) := (by omega); have q158 : 1 < (t153.length : Int) := of_decide_eq_true (by first | (with_reducible assumption) | assumption); obtain ⟨ad158, e158, hx158_0⟩ := Kd.at_string (Kd.R_reads' HO155.out).2.2 1 p158 q158; obtain rfl : ad156 = ad158 := (by injection e158); (try simp only [show (1 : Int).toNat = 1 from rfl, Nat.reduceMul, Nat.reduceEqDiff, Go.Addr.add, ↓reduceIte] at hx158_0); have qi158 : (1 < t153.length) = True := eq_true (by omega); (try rw [show ((1 : Int)).toNat = 1 from rfl] at hx158_0); replace p158 := eq_true p158; replace q158 := eq_true q158) | (go_at_call 48; (with_reducible refine (pennantref22_Target.calls k (rdOf ByteArray.empty t153 1) false _ A8.out).mono ?_); rintro e w' ⟨rfl, ⟨nd, rfl⟩⟩; (try first | exact ⟨rfl, _, World.drewN_drewN _ _ _⟩ | exact ⟨rfl, _, Eq.trans (World.drewN_drewN _ _ _) (congrArg (World.drewN _) (Nat.add_assoc _ _ _))⟩))); try go_wp2_with (first | (go_at_call 42; (with_reducible refine (pennantref22_Split.calls k a0 (⟨#[32]⟩ : ByteArray) t153 _ A2.out).mono ?_); rintro e w16 ⟨v154, rfl, ho0, hb⟩; have n0_ := Aside0.mk (Kd.R_lower ho0 (below_size (by repeat (first | (with_reducible first | exact HB.out | apply below_alloc | apply pw_below_drewN | apply below_drew1) | exact HB.out)))); have n1_ := Aside0.mk (below_step (by repeat (first | (with_reducible first | exact HB.out | apply below_alloc | apply pw_below_drewN | apply below_drew1) | exact HB.out)) hb); clear HB; have HO155 := n0_; have HB := n1_; clear n0_ n1_; (try clear hb); (try clear hb2); (try clear hk); (try clear hi); (try clear ho0); obtain ⟨Ao17, co17, eo17⟩ := Kd.R_slice HO155.out; subst eo17; have p156 : 0 ≤ (0 : Int) := (by omega); have q156 : 0 < (t153.length : Int) := of_decide_eq_true (by first | (with_reducible assumption) | assumption); obtain ⟨ad156, e156, hx156_0⟩ := Kd.at_string (Kd.R_reads' HO155.out).2.2 0 p156 q156; cases e156; have qi156 : (0 < t153.length) = True := eq_true (by omega); (try rw [show ((0 : Int)).toNat = 0 from rfl] at hx156_0); (try rw [Addr.add_zero'] at hx156_0); replace p156 := eq_true p156; replace q156 := eq_true q156) | (go_at_call 43; (with_reducible refine (pennantref22_Token.calls k (rdOf ByteArray.empty t153 0) true _ A5.out).mono ?_); rintro e w' ⟨rfl, ⟨nd, rfl⟩⟩; (try first | exact ⟨rfl, _, World.drewN_drewN _ _ _⟩ | exact ⟨rfl, _, Eq.trans (World.drewN_drewN _ _ _) (congrArg (World.drewN _) (Nat.add_assoc _ _ _))⟩); have p158 : 0 ≤ (1 : Int) := (by omega); have q158 : 1 < (t153.length : Int) := of_decide_eq_true (by first | (with_reducible assumption) | assumption); obtain ⟨ad158, e158, hx158_0⟩ := Kd.at_string (Kd.R_reads' HO155.out).2.2 1 p158 q158; obtain rfl : ad156 = ad158 := (by injection e158); (try simp only [show (1 : Int).toNat = 1 from rfl, Nat.reduceMul, Nat.reduceEqDiff, Go.Addr.add, ↓reduceIte] at hx158_0); have qi158 : (1 < t153.length) = True := eq_true (by omega); (try rw [show ((1 : Int)).toNat = 1 from rfl] at hx158_0); replace p158 := eq_true p158; replace q158 := eq_true q158) | (go_at_call 48; (with_reducible refine (pennantref22_Target.calls k (rdOf ByteArray.empty t153 1) false _ A8.out).mono ?_); rintro e w' ⟨rfl, ⟨nd, rfl⟩⟩; (try first | exact ⟨rfl, _, World.drewN_drewN _ _ _⟩ | exact ⟨rfl, _, Eq.trans (World.drewN_drewN _ _ _) (congrArg (World.drewN _) (Nat.add_assoc _ _ _))⟩))))
      go_ret3
      exact ⟨by first | rfl | (simp [errW_none, errW_some] <;> rfl) | (simp [*, errW_none, errW_some] <;> rfl), by repeat (first | (with_reducible first | exact HB.out | apply below_alloc | apply pw_below_drewN | apply below_drew1) | exact HB.out)⟩
    ·
     rw [if_neg c7] at H
     exact absurd H (by simp)
   ·
    replace c6 := Bool.eq_false_iff.mpr c6
    subst c6
    have H1 : (some ((⟨#[]⟩ : ByteArray), (⟨#[]⟩ : ByteArray), false)) = some (r1, r2, r3) := by rw [if_neg (show ¬ (false = true) by decide)] at H; exact H
    clear H
    have H := H1
    clear H1
    simp only [Option.some.injEq, Prod.mk.injEq] at H
    obtain ⟨rfl, rfl, rfl⟩ := H
    go_enter Tryz.func24, Tryz.ntmps24
    go_wp2_with (first | (go_at_call 42; (with_reducible refine (pennantref22_Split.calls k a0 (⟨#[32]⟩ : ByteArray) t153 _ A2.out).mono ?_); rintro e w18 ⟨v154, rfl, ho0, hb⟩; have n0_ := Aside0.mk (Kd.R_lower ho0 (below_size (by repeat (first | (with_reducible first | exact HB.out | apply below_alloc | apply pw_below_drewN | apply below_drew1) | exact HB.out)))); have n1_ := Aside0.mk (below_step (by repeat (first | (with_reducible first | exact HB.out | apply below_alloc | apply pw_below_drewN | apply below_drew1) | exact HB.out)) hb); clear HB; have HO155 := n0_; have HB := n1_; clear n0_ n1_; (try clear hb); (try clear hb2); (try clear hk); (try clear hi); (try clear ho0); obtain ⟨Ao19, co19, eo19⟩ := Kd.R_slice HO155.out; subst eo19; have p156 : 0 ≤ (0 : Int) := (by omega); have q156 : 0 < (t153.length : Int) := of_decide_eq_true (by first | (with_reducible assumption) | assumption); obtain ⟨ad156, e156, hx156_0⟩ := Kd.at_string (Kd.R_reads' HO155.out).2.2 0 p156 q156; cases e156; have qi156 : (0 < t153.length) = True := eq_true (by omega); (try rw [show ((0 : Int)).toNat = 0 from rfl] at hx156_0); (try rw [Addr.add_zero'] at hx156_0); replace p156 := eq_true p156; replace q156 := eq_true q156) | (go_at_call 43; (with_reducible refine (pennantref22_Token.calls k (rdOf ByteArray.empty t153 0) false _ A5.out).mono ?_); rintro e w' ⟨rfl, ⟨nd, rfl⟩⟩; (try first | exact ⟨rfl, _, World.drewN_drewN _ _ _⟩ | exact ⟨rfl, _, Eq.trans (World.drewN_drewN _ _ _) (congrArg (World.drewN _) (Nat.add_assoc _ _ _))⟩)))
    repeat (go_quiet (first | (go_at_call 42; (with_reducible refine (pennantref22_Split.calls k a0 (⟨#[32]⟩ : ByteArray) t153 _ A2.out).mono ?_); rintro e w18 ⟨v154, rfl, ho0, hb⟩; have n0_ := Aside0.mk (Kd.R_lower ho0 (below_size (by repeat (first | (with_reducible first | exact HB.out | apply below_alloc | apply pw_below_drewN | apply below_drew1) | exact HB.out)))); have n1_ := Aside0.mk (below_step (by repeat (first | (with_reducible first | exact HB.out | apply below_alloc | apply pw_below_drewN | apply below_drew1) | exact HB.out)) hb); clear HB; have HO155 := n0_; have HB := n1_; clear n0_ n1_; (try clear hb); (try clear hb2); (try clear hk); (try clear hi); (try clear ho0); obtain ⟨Ao19, co19, eo19⟩ := Kd.R_slice HO155.out; subst eo19; have p156 : 0 ≤ (0 : Int) := (by omega); have q156 : 0 < (t153.length : Int) := of_decide_eq_true (by first | (with_reducible assumption) | assumption); obtain ⟨ad156, e156, hx156_0⟩ := Kd.at_string (Kd.R_reads' HO155.out).2.2 0 p156 q156; cases e156; have qi156 : (0 < t153.length) = True := eq_true (by omega); (try rw [show ((0 : Int)).toNat = 0 from rfl] at hx156_0); (try rw [Addr.add_zero'] at hx156_0); replace p156 := eq_true p156; replace q156 := eq_true q156) | (go_at_call 43; (with_reducible refine (pennantref22_Token.calls k (rdOf ByteArray.empty t153 0) false _ A5.out).mono ?_); rintro e w' ⟨rfl, ⟨nd, rfl⟩⟩; (try first | exact ⟨rfl, _, World.drewN_drewN _ _ _⟩ | exact ⟨rfl, _, Eq.trans (World.drewN_drewN _ _ _) (congrArg (World.drewN _) (Nat.add_assoc _ _ _))⟩))); try go_wp2_with (first | (go_at_call 42; (with_reducible refine (pennantref22_Split.calls k a0 (⟨#[32]⟩ : ByteArray) t153 _ A2.out).mono ?_); rintro e w18 ⟨v154, rfl, ho0, hb⟩; have n0_ := Aside0.mk (Kd.R_lower ho0 (below_size (by repeat (first | (with_reducible first | exact HB.out | apply below_alloc | apply pw_below_drewN | apply below_drew1) | exact HB.out)))); have n1_ := Aside0.mk (below_step (by repeat (first | (with_reducible first | exact HB.out | apply below_alloc | apply pw_below_drewN | apply below_drew1) | exact HB.out)) hb); clear HB; have HO155 := n0_; have HB := n1_; clear n0_ n1_; (try clear hb); (try clear hb2); (try clear hk); (try clear hi); (try clear ho0); obtain ⟨Ao19, co19, eo19⟩ := Kd.R_slice HO155.out; subst eo19; have p156 : 0 ≤ (0 : Int) := (by omega); have q156 : 0 < (t153.length : Int) := of_decide_eq_true (by first | (with_reducible assumption) | assumption); obtain ⟨ad156, e156, hx156_0⟩ := Kd.at_string (Kd.R_reads' HO155.out).2.2 0 p156 q156; cases e156; have qi156 : (0 < t153.length) = True := eq_true (by omega); (try rw [show ((0 : Int)).toNat = 0 from rfl] at hx156_0); (try rw [Addr.add_zero'] at hx156_0); replace p156 := eq_true p156; replace q156 := eq_true q156) | (go_at_call 43; (with_reducible refine (pennantref22_Token.calls k (rdOf ByteArray.empty t153 0) false _ A5.out).mono ?_); rintro e w' ⟨rfl, ⟨nd, rfl⟩⟩; (try first | exact ⟨rfl, _, World.drewN_drewN _ _ _⟩ | exact ⟨rfl, _, Eq.trans (World.drewN_drewN _ _ _) (congrArg (World.drewN _) (Nat.add_assoc _ _ _))⟩))))
    go_ret3
    exact ⟨by first | rfl | (simp [errW_none, errW_some] <;> rfl) | (simp [*, errW_none, errW_some] <;> rfl), by repeat (first | (with_reducible first | exact HB.out | apply below_alloc | apply pw_below_drewN | apply below_drew1) | exact HB.out)⟩
  ·
   rw [if_neg c4] at H
   exact absurd H (by simp)
 ·
  rw [if_neg c3] at H
  have c3b0 : ((t153.length : Int) == 3) = false := beq_eq_false_iff_ne.mpr c3
  have c3b1 : ((t153.length : Int) != 3) = true := bne_iff_ne.mpr c3
  simp only [Option.some.injEq, Prod.mk.injEq] at H
  obtain ⟨rfl, rfl, rfl⟩ := H
  go_enter Tryz.func24, Tryz.ntmps24
  go_wp2_with (first | (go_at_call 42; (with_reducible refine (pennantref22_Split.calls k a0 (⟨#[32]⟩ : ByteArray) t153 _ A2.out).mono ?_); rintro e w20 ⟨v154, rfl, ho0, hb⟩; have n0_ := Aside0.mk (Kd.R_lower ho0 (below_size (by repeat (first | (with_reducible first | exact HB.out | apply below_alloc | apply pw_below_drewN | apply below_drew1) | exact HB.out)))); have n1_ := Aside0.mk (below_step (by repeat (first | (with_reducible first | exact HB.out | apply below_alloc | apply pw_below_drewN | apply below_drew1) | exact HB.out)) hb); clear HB; have HO155 := n0_; have HB := n1_; clear n0_ n1_; (try clear hb); (try clear hb2); (try clear hk); (try clear hi); (try clear ho0); obtain ⟨Ao21, co21, eo21⟩ := Kd.R_slice HO155.out; subst eo21))
  repeat (go_quiet (first | (go_at_call 42; (with_reducible refine (pennantref22_Split.calls k a0 (⟨#[32]⟩ : ByteArray) t153 _ A2.out).mono ?_); rintro e w20 ⟨v154, rfl, ho0, hb⟩; have n0_ := Aside0.mk (Kd.R_lower ho0 (below_size (by repeat (first | (with_reducible first | exact HB.out | apply below_alloc | apply pw_below_drewN | apply below_drew1) | exact HB.out)))); have n1_ := Aside0.mk (below_step (by repeat (first | (with_reducible first | exact HB.out | apply below_alloc | apply pw_below_drewN | apply below_drew1) | exact HB.out)) hb); clear HB; have HO155 := n0_; have HB := n1_; clear n0_ n1_; (try clear hb); (try clear hb2); (try clear hk); (try clear hi); (try clear ho0); obtain ⟨Ao21, co21, eo21⟩ := Kd.R_slice HO155.out; subst eo21)); try go_wp2_with (first | (go_at_call 42; (with_reducible refine (pennantref22_Split.calls k a0 (⟨#[32]⟩ : ByteArray) t153 _ A2.out).mono ?_); rintro e w20 ⟨v154, rfl, ho0, hb⟩; have n0_ := Aside0.mk (Kd.R_lower ho0 (below_size (by repeat (first | (with_reducible first | exact HB.out | apply below_alloc | apply pw_below_drewN | apply below_drew1) | exact HB.out)))); have n1_ := Aside0.mk (below_step (by repeat (first | (with_reducible first | exact HB.out | apply below_alloc | apply pw_below_drewN | apply below_drew1) | exact HB.out)) hb); clear HB; have HO155 := n0_; have HB := n1_; clear n0_ n1_; (try clear hb); (try clear hb2); (try clear hk); (try clear hi); (try clear ho0); obtain ⟨Ao21, co21, eo21⟩ := Kd.R_slice HO155.out; subst eo21)))
  go_ret3
  exact ⟨by first | rfl | (simp [errW_none, errW_some] <;> rfl) | (simp [*, errW_none, errW_some] <;> rfl), by repeat (first | (with_reducible first | exact HB.out | apply below_alloc | apply pw_below_drewN | apply below_drew1) | exact HB.out)⟩

end Go.Proofs.YtpikebpjlhccbaaGreatDoor.PAll
