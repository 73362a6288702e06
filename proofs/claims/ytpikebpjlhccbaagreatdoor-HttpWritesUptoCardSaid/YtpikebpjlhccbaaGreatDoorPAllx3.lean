-- Laid by a program of this session (wip/pp in the repo) out of the translation. Lean checks it.
import Derived.Test.YtpikebpjlhccbaaGreatDoorShort
import Derived.Test.YtpikebpjlhccbaaGreatDoorPAllx0
namespace Go.Proofs.YtpikebpjlhccbaaGreatDoor.PAll
open Go.RowKit Go.Proofs.YtpikebpjlhccbaaGreatDoorW.PrintWords Go.Proofs.YtpikebpjlhccbaaGreatDoorW.PrintLast Go.Proofs.YtpikebpjlhccbaaGreatDoorW.PrintMore
attribute [local go_sem] max2_int min2_int max_two min_two max_three min_three max_four min_four   -- for this text's walks alone
set_option linter.unusedVariables false
set_option linter.unusedSimpArgs false

/-! ### http_token: function 36 -/
def http_token.l0 : Nat → ByteArray → Int → Int → Option (Bool)
 | 0, _, _, _ => none
 | k + 1, x0, x6, x7 => if x7 < x6 then (if 0 ≤ x7 then (if x7 < (x0.size : Int) then (if (Go.bits .or .u8 (bt x0 x7) 32) ≥ 97 then (if (Go.bits .or .u8 (bt x0 x7) 32) ≤ 122 then (http_token.l0 k x0 x6 (wrap64 (x7 + 1))) else (if (bt x0 x7) ≥ 48 then (if (bt x0 x7) ≤ 57 then (http_token.l0 k x0 x6 (wrap64 (x7 + 1))) else ((strings_IndexByte.f (⟨#[33, 35, 36, 37, 38, 39, 42, 43, 45, 46, 94, 95, 96, 124, 126]⟩ : ByteArray) (bt x0 x7)).bind fun t101 => (if t101 ≥ 0 then (http_token.l0 k x0 x6 (wrap64 (x7 + 1))) else (some false)))) else ((strings_IndexByte.f (⟨#[33, 35, 36, 37, 38, 39, 42, 43, 45, 46, 94, 95, 96, 124, 126]⟩ : ByteArray) (bt x0 x7)).bind fun t102 => (if t102 ≥ 0 then (http_token.l0 k x0 x6 (wrap64 (x7 + 1))) else (some false))))) else (if (bt x0 x7) ≥ 48 then (if (bt x0 x7) ≤ 57 then (http_token.l0 k x0 x6 (wrap64 (x7 + 1))) else ((strings_IndexByte.f (⟨#[33, 35, 36, 37, 38, 39, 42, 43, 45, 46, 94, 95, 96, 124, 126]⟩ : ByteArray) (bt x0 x7)).bind fun t103 => (if t103 ≥ 0 then (http_token.l0 k x0 x6 (wrap64 (x7 + 1))) else (some false)))) else ((strings_IndexByte.f (⟨#[33, 35, 36, 37, 38, 39, 42, 43, 45, 46, 94, 95, 96, 124, 126]⟩ : ByteArray) (bt x0 x7)).bind fun t104 => (if t104 ≥ 0 then (http_token.l0 k x0 x6 (wrap64 (x7 + 1))) else (some false))))) else (none)) else (none)) else (if x0.toList = ([] : List UInt8) then (some false) else (some (decide ((x0.size : Int) ≤ 64))))
def http_token.f (k : Nat) (a0 : ByteArray) : Option (Bool) := http_token.l0 k a0 (a0.size : Int) 0
theorem http_token.mono_l : ∀ k, (∀ y0 y1 y2, LeO (http_token.l0 k y0 y1 y2) (http_token.l0 (k + 1) y0 y1 y2))
 | 0 => fun _ _ _ r h => by simp [http_token.l0] at h
 | k + 1 => by
  have ih0 := http_token.mono_l k
  ·
   intro y0 y1 y2
   unfold http_token.l0
   repeat' first
   | (with_reducible exact ih0 _ _ _)
   | (with_reducible exact LeO.refl _)
   | (with_reducible exact LeO.none _)
   | (with_reducible refine LeO.ite ?_ ?_)
   | (with_reducible refine LeO.bind ?_ (fun _ => ?_))
   | exact ih0 _ _ _
   | exact LeO.none _
   | refine LeO.ite ?_ ?_
   | refine LeO.bind ?_ (fun _ => ?_)
theorem http_token.mono : ∀ a0 k, LeO (http_token.f k a0) (http_token.f (k + 1) a0) := by
 intro a0 k
 have ih0 := http_token.mono_l k
 unfold http_token.f
 repeat' first
   | (with_reducible exact ih0 _ _ _)
   | (with_reducible exact LeO.refl _)
   | (with_reducible exact LeO.none _)
   | (with_reducible refine LeO.ite ?_ ?_)
   | (with_reducible refine LeO.bind ?_ (fun _ => ?_))
   | exact ih0 _ _ _
   | exact LeO.none _
   | refine LeO.ite ?_ ?_
   | refine LeO.bind ?_ (fun _ => ?_)
set_option maxHeartbeats 8000000 in
set_option maxRecDepth 100000 in
theorem http_token.calls (k : Nat) (a0 : ByteArray) (r : Bool) (w : World) (h : http_token.f k a0 = some r) :
  Calls Tryz.prog 36 #[.string a0] w fun e w' => e = .returned (.bool r) ∧ Drawn0 w w' := by
 have H : (http_token.l0 k a0 (a0.size : Int) 0) = some r := h
 clear h
 have H' := zM H
 clear H
 go_enter Tryz.func36, Tryz.ntmps36
 go_wp2
 go_loopg [7] k (fun kq v7 w' => ∃ (x7_1 : Int), v7 = .int .i64 x7_1 ∧ Aside0 (http_token.l0 kq a0 (a0.size : Int) x7_1 = some r) ∧ Aside0 (kq ≤ k) ∧ Drawn0 w w')
 case atStart => exact ⟨(0), (by first | rfl | (simp; done) | (simp [*]; done)), H', ⟨Nat.le_refl _⟩, by repeat (first | exact Drawn0.refl _ | apply Drawn0.step)⟩
 case round =>
  clear H'
  obtain ⟨x7_1, rfl, HA, HK1, ⟨m1, rfl⟩⟩ := hrel
  cases gk with
  | zero => exact absurd HA.out (by simp [http_token.l0])
  | succ k1 =>
   have H := HA.out
   clear HA
   simp only [http_token.l0] at H
   by_cases c2 : x7_1 < (a0.size : Int)
   ·
    rw [if_pos c2] at H; (have c2b0 : decide (x7_1 < (a0.size : Int)) = true := decide_eq_true c2); clear c2; by_cases c3 : 0 ≤ x7_1
    ·
     rw [if_pos c3] at H; (have c3b0 : decide (0 ≤ x7_1) = true := decide_eq_true c3); clear c3; by_cases c4 : x7_1 < (a0.size : Int)
     ·
      rw [if_pos c4] at H; (have c4b0 : decide (x7_1 < (a0.size : Int)) = true := decide_eq_true c4); clear c4; by_cases c6 : (Go.bits .or .u8 (bt a0 x7_1) 32) ≥ 97
      ·
       rw [if_pos c6] at H; (have c6b0 : decide (97 ≤ (Go.bits .or .u8 (bt a0 x7_1) 32)) = true := decide_eq_true c6); clear c6; by_cases c7 : (Go.bits .or .u8 (bt a0 x7_1) 32) ≤ 122
       ·
        rw [if_pos c7] at H; (have c7b0 : decide ((Go.bits .or .u8 (bt a0 x7_1) 32) ≤ 122) = true := decide_eq_true c7); clear c7; (have H' := zM H); clear H; (have p5 : 0 ≤ (x7_1 : Int) := of_decide_eq_true (by assumption)); (have q5 : x7_1 < (a0.size : Int) := of_decide_eq_true (by assumption)); (have hx5 := bt_at a0 x7_1); (replace p5 := eq_true p5); (replace q5 := eq_true q5); (go_wp2); go_roundg k1
        case measure => have := HK1.out; omega
        case rel => exact ⟨(wrap64 (x7_1 + 1)), (by first | rfl | (simp; done) | (simp [*]; done)), H', ⟨by have := HK1.out; omega⟩, by repeat (first | exact Drawn0.refl _ | apply Drawn0.step)⟩
       ·
        rw [if_neg c7] at H; (have c7b0 : decide ((Go.bits .or .u8 (bt a0 x7_1) 32) ≤ 122) = false := decide_eq_false c7); clear c7; by_cases c8 : (bt a0 x7_1) ≥ 48
        ·
         rw [if_pos c8] at H; (have c8b0 : decide (48 ≤ (bt a0 x7_1)) = true := decide_eq_true c8); clear c8; by_cases c9 : (bt a0 x7_1) ≤ 57
         ·
          rw [if_pos c9] at H; (have c9b0 : decide ((bt a0 x7_1) ≤ 57) = true := decide_eq_true c9); clear c9; (have H' := zM H); clear H; (have p5 : 0 ≤ (x7_1 : Int) := of_decide_eq_true (by assumption)); (have q5 : x7_1 < (a0.size : Int) := of_decide_eq_true (by assumption)); (have hx5 := bt_at a0 x7_1); (replace p5 := eq_true p5); (replace q5 := eq_true q5); (go_wp2); go_roundg k1
          case measure => have := HK1.out; omega
          case rel => exact ⟨(wrap64 (x7_1 + 1)), (by first | rfl | (simp; done) | (simp [*]; done)), H', ⟨by have := HK1.out; omega⟩, by repeat (first | exact Drawn0.refl _ | apply Drawn0.step)⟩
         ·
          rw [if_neg c9] at H; (have c9b0 : decide ((bt a0 x7_1) ≤ 57) = false := decide_eq_false c9); clear c9; (replace H := Option.bind_eq_some_iff.mp H); (obtain ⟨t101, A100, H⟩ := H); replace H : (if t101 ≥ 0 then (http_token.l0 k1 a0 (a0.size : Int) (wrap64 (x7_1 + 1))) else (some false)) = some r := H; (have A10 := zM A100); clear A100; by_cases c11 : t101 ≥ 0
          ·
           rw [if_pos c11] at H; (have c11b0 : decide (0 ≤ t101) = true := decide_eq_true c11); clear c11; (have H' := zM H); clear H; (have p5 : 0 ≤ (x7_1 : Int) := of_decide_eq_true (by assumption)); (have q5 : x7_1 < (a0.size : Int) := of_decide_eq_true (by assumption)); (have hx5 := bt_at a0 x7_1); (replace p5 := eq_true p5); (replace q5 := eq_true q5); (go_wp2_with (first | (go_at_call 61; (with_reducible refine (strings_IndexByte.calls (⟨#[33, 35, 36, 37, 38, 39, 42, 43, 45, 46, 94, 95, 96, 124, 126]⟩ : ByteArray) (bt a0 x7_1) t101 _ A10.out).mono ?_); rintro e w' ⟨rfl, ⟨nd, rfl⟩⟩))); go_roundg k1
           case measure => have := HK1.out; omega
           case rel => exact ⟨(wrap64 (x7_1 + 1)), (by first | rfl | (simp; done) | (simp [*]; done)), H', ⟨by have := HK1.out; omega⟩, by repeat (first | exact Drawn0.refl _ | apply Drawn0.step)⟩
          ·
           rw [if_neg c11] at H; (have c11b0 : decide (0 ≤ t101) = false := decide_eq_false c11); clear c11; (obtain rfl := Option.some.inj H); (have p5 : 0 ≤ (x7_1 : Int) := of_decide_eq_true (by assumption)); (have q5 : x7_1 < (a0.size : Int) := of_decide_eq_true (by assumption)); (have hx5 := bt_at a0 x7_1); (replace p5 := eq_true p5); (replace q5 := eq_true q5); (go_wp2_with (first | (go_at_call 61; (with_reducible refine (strings_IndexByte.calls (⟨#[33, 35, 36, 37, 38, 39, 42, 43, 45, 46, 94, 95, 96, 124, 126]⟩ : ByteArray) (bt a0 x7_1) t101 _ A10.out).mono ?_); rintro e w' ⟨rfl, ⟨nd, rfl⟩⟩))); (go_ret); exact ⟨by first | rfl | (simp; done) | (simp [*]; done), by repeat (first | exact Drawn0.refl _ | apply Drawn0.step)⟩
        ·
         rw [if_neg c8] at H; (have c8b0 : decide (48 ≤ (bt a0 x7_1)) = false := decide_eq_false c8); clear c8; (replace H := Option.bind_eq_some_iff.mp H); (obtain ⟨t102, A120, H⟩ := H); replace H : (if t102 ≥ 0 then (http_token.l0 k1 a0 (a0.size : Int) (wrap64 (x7_1 + 1))) else (some false)) = some r := H; (have A12 := zM A120); clear A120; by_cases c13 : t102 ≥ 0
         ·
          rw [if_pos c13] at H; (have c13b0 : decide (0 ≤ t102) = true := decide_eq_true c13); clear c13; (have H' := zM H); clear H; (have p5 : 0 ≤ (x7_1 : Int) := of_decide_eq_true (by assumption)); (have q5 : x7_1 < (a0.size : Int) := of_decide_eq_true (by assumption)); (have hx5 := bt_at a0 x7_1); (replace p5 := eq_true p5); (replace q5 := eq_true q5); (go_wp2_with (first | (go_at_call 61; (with_reducible refine (strings_IndexByte.calls (⟨#[33, 35, 36, 37, 38, 39, 42, 43, 45, 46, 94, 95, 96, 124, 126]⟩ : ByteArray) (bt a0 x7_1) t102 _ A12.out).mono ?_); rintro e w' ⟨rfl, ⟨nd, rfl⟩⟩))); go_roundg k1
          case measure => have := HK1.out; omega
          case rel => exact ⟨(wrap64 (x7_1 + 1)), (by first | rfl | (simp; done) | (simp [*]; done)), H', ⟨by have := HK1.out; omega⟩, by repeat (first | exact Drawn0.refl _ | apply Drawn0.step)⟩
         ·
          rw [if_neg c13] at H; (have c13b0 : decide (0 ≤ t102) = false := decide_eq_false c13); clear c13; (obtain rfl := Option.some.inj H); (have p5 : 0 ≤ (x7_1 : Int) := of_decide_eq_true (by assumption)); (have q5 : x7_1 < (a0.size : Int) := of_decide_eq_true (by assumption)); (have hx5 := bt_at a0 x7_1); (replace p5 := eq_true p5); (replace q5 := eq_true q5); (go_wp2_with (first | (go_at_call 61; (with_reducible refine (strings_IndexByte.calls (⟨#[33, 35, 36, 37, 38, 39, 42, 43, 45, 46, 94, 95, 96, 124, 126]⟩ : ByteArray) (bt a0 x7_1) t102 _ A12.out).mono ?_); rintro e w' ⟨rfl, ⟨nd, rfl⟩⟩))); (go_ret); exact ⟨by first | rfl | (simp; done) | (simp [*]; done), by repeat (first | exact Drawn0.refl _ | apply Drawn0.step)⟩
      ·
       rw [if_neg c6] at H; (have c6b0 : decide (97 ≤ (Go.bits .or .u8 (bt a0 x7_1) 32)) = false := decide_eq_false c6); clear c6; by_cases c14 : (bt a0 x7_1) ≥ 48
       ·
        rw [if_pos c14] at H; (have c14b0 : decide (48 ≤ (bt a0 x7_1)) = true := decide_eq_true c14); clear c14; by_cases c15 : (bt a0 x7_1) ≤ 57
        ·
         rw [if_pos c15] at H; (have c15b0 : decide ((bt a0 x7_1) ≤ 57) = true := decide_eq_true c15); clear c15; (have H' := zM H); clear H; (have p5 : 0 ≤ (x7_1 : Int) := of_decide_eq_true (by assumption)); (have q5 : x7_1 < (a0.size : Int) := of_decide_eq_true (by assumption)); (have hx5 := bt_at a0 x7_1); (replace p5 := eq_true p5); (replace q5 := eq_true q5); (go_wp2); go_roundg k1
         case measure => have := HK1.out; omega
         case rel => exact ⟨(wrap64 (x7_1 + 1)), (by first | rfl | (simp; done) | (simp [*]; done)), H', ⟨by have := HK1.out; omega⟩, by repeat (first | exact Drawn0.refl _ | apply Drawn0.step)⟩
        ·
         rw [if_neg c15] at H; (have c15b0 : decide ((bt a0 x7_1) ≤ 57) = false := decide_eq_false c15); clear c15; (replace H := Option.bind_eq_some_iff.mp H); (obtain ⟨t103, A160, H⟩ := H); replace H : (if t103 ≥ 0 then (http_token.l0 k1 a0 (a0.size : Int) (wrap64 (x7_1 + 1))) else (some false)) = some r := H; (have A16 := zM A160); clear A160; by_cases c17 : t103 ≥ 0
         ·
          rw [if_pos c17] at H; (have c17b0 : decide (0 ≤ t103) = true := decide_eq_true c17); clear c17; (have H' := zM H); clear H; (have p5 : 0 ≤ (x7_1 : Int) := of_decide_eq_true (by assumption)); (have q5 : x7_1 < (a0.size : Int) := of_decide_eq_true (by assumption)); (have hx5 := bt_at a0 x7_1); (replace p5 := eq_true p5); (replace q5 := eq_true q5); (go_wp2_with (first | (go_at_call 61; (with_reducible refine (strings_IndexByte.calls (⟨#[33, 35, 36, 37, 38, 39, 42, 43, 45, 46, 94, 95, 96, 124, 126]⟩ : ByteArray) (bt a0 x7_1) t103 _ A16.out).mono ?_); rintro e w' ⟨rfl, ⟨nd, rfl⟩⟩))); go_roundg k1
          case measure => have := HK1.out; omega
          case rel => exact ⟨(wrap64 (x7_1 + 1)), (by first | rfl | (simp; done) | (simp [*]; done)), H', ⟨by have := HK1.out; omega⟩, by repeat (first | exact Drawn0.refl _ | apply Drawn0.step)⟩
         ·
          rw [if_neg c17] at H; (have c17b0 : decide (0 ≤ t103) = false := decide_eq_false c17); clear c17; (obtain rfl := Option.some.inj H); (have p5 : 0 ≤ (x7_1 : Int) := of_decide_eq_true (by assumption)); (have q5 : x7_1 < (a0.size : Int) := of_decide_eq_true (by assumption)); (have hx5 := bt_at a0 x7_1); (replace p5 := eq_true p5); (replace q5 := eq_true q5); (go_wp2_with (first | (go_at_call 61; (with_reducible refine (strings_IndexByte.calls (⟨#[33, 35, 36, 37, 38, 39, 42, 43, 45, 46, 94, 95, 96, 124, 126]⟩ : ByteArray) (bt a0 x7_1) t103 _ A16.out).mono ?_); rintro e w' ⟨rfl, ⟨nd, rfl⟩⟩))); (go_ret); exact ⟨by first | rfl | (simp; done) | (simp [*]; done), by repeat (first | exact Drawn0.refl _ | apply Drawn0.step)⟩
       ·
        rw [if_neg c14] at H; (have c14b0 : decide (48 ≤ (bt a0 x7_1)) = false := decide_eq_false c14); clear c14; (replace H := Option.bind_eq_some_iff.mp H); (obtain ⟨t104, A180, H⟩ := H); replace H : (if t104 ≥ 0 then (http_token.l0 k1 a0 (a0.size : Int) (wrap64 (x7_1 + 1))) else (some false)) = some r := H; (have A18 := zM A180); clear A180; by_cases c19 : t104 ≥ 0
        ·
         rw [if_pos c19] at H; (have c19b0 : decide (0 ≤ t104) = true := decide_eq_true c19); clear c19; (have H' := zM H); clear H; (have p5 : 0 ≤ (x7_1 : Int) := of_decide_eq_true (by assumption)); (have q5 : x7_1 < (a0.size : Int) := of_decide_eq_true (by assumption)); (have hx5 := bt_at a0 x7_1); (replace p5 := eq_true p5); (replace q5 := eq_true q5); (go_wp2_with (first | (go_at_call 61; (with_reducible refine (strings_IndexByte.calls (⟨#[33, 35, 36, 37, 38, 39, 42, 43, 45, 46, 94, 95, 96, 124, 126]⟩ : ByteArray) (bt a0 x7_1) t104 _ A18.out).mono ?_); rintro e w' ⟨rfl, ⟨nd, rfl⟩⟩))); go_roundg k1
         case measure => have := HK1.out; omega
         case rel => exact ⟨(wrap64 (x7_1 + 1)), (by first | rfl | (simp; done) | (simp [*]; done)), H', ⟨by have := HK1.out; omega⟩, by repeat (first | exact Drawn0.refl _ | apply Drawn0.step)⟩
        ·
         rw [if_neg c19] at H; (have c19b0 : decide (0 ≤ t104) = false := decide_eq_false c19); clear c19; (obtain rfl := Option.some.inj H); (have p5 : 0 ≤ (x7_1 : Int) := of_decide_eq_true (by assumption)); (have q5 : x7_1 < (a0.size : Int) := of_decide_eq_true (by assumption)); (have hx5 := bt_at a0 x7_1); (replace p5 := eq_true p5); (replace q5 := eq_true q5); (go_wp2_with (first | (go_at_call 61; (with_reducible refine (strings_IndexByte.calls (⟨#[33, 35, 36, 37, 38, 39, 42, 43, 45, 46, 94, 95, 96, 124, 126]⟩ : ByteArray) (bt a0 x7_1) t104 _ A18.out).mono ?_); rintro e w' ⟨rfl, ⟨nd, rfl⟩⟩))); (go_ret); exact ⟨by first | rfl | (simp; done) | (simp [*]; done), by repeat (first | exact Drawn0.refl _ | apply Drawn0.step)⟩
     ·
      rw [if_neg c4] at H; exact absurd H (by simp)
    ·
     rw [if_neg c3] at H; exact absurd H (by simp)
   ·
    rw [if_neg c2] at H; (have c2b0 : decide (x7_1 < (a0.size : Int)) = false := decide_eq_false c2); clear c2; by_cases c20 : a0.toList = ([] : List UInt8)
    ·
     rw [if_pos c20] at H; (have c20b0 : (a0.toList == ([] : List UInt8)) = true := beq_iff_eq.mpr c20); (have c20b1 : (a0.toList != ([] : List UInt8)) = false := bne_eq_false_iff_eq.mpr c20); (have c20b2 : a0.toList.isEmpty = true := List.isEmpty_iff.mpr c20); clear c20; (obtain rfl := Option.some.inj H); (go_wp2); (go_ret); exact ⟨by first | rfl | (simp; done) | (simp [*]; done), by repeat (first | exact Drawn0.refl _ | apply Drawn0.step)⟩
    ·
     rw [if_neg c20] at H; (have c20b0 : (a0.toList == ([] : List UInt8)) = false := beq_eq_false_iff_ne.mpr c20); (have c20b1 : (a0.toList != ([] : List UInt8)) = true := bne_iff_ne.mpr c20); (have c20b2 : a0.toList.isEmpty = false := List.isEmpty_eq_false_iff.mpr c20); (obtain rfl := Option.some.inj H); (go_wp2); (go_ret); exact ⟨by first | rfl | (simp; done) | (simp [*]; done), by repeat (first | exact Drawn0.refl _ | apply Drawn0.step)⟩

/-! ### http_text: function 37 -/
def http_text.l0 : Nat → ByteArray → Int → Int → Option (Bool)
 | 0, _, _, _ => none
 | k + 1, x0, x5, x6 => if x6 < x5 then (if 0 ≤ x6 then (if x6 < (x0.size : Int) then (if (bt x0 x6) < 32 then (if (bt x0 x6) = 9 then (if (bt x0 x6) = 127 then (some false) else (http_text.l0 k x0 x5 (wrap64 (x6 + 1)))) else (some false)) else (if (bt x0 x6) = 127 then (some false) else (http_text.l0 k x0 x5 (wrap64 (x6 + 1))))) else (none)) else (none)) else (some true)
def http_text.f (k : Nat) (a0 : ByteArray) : Option (Bool) := http_text.l0 k a0 (a0.size : Int) 0
theorem http_text.mono_l : ∀ k, (∀ y0 y1 y2, LeO (http_text.l0 k y0 y1 y2) (http_text.l0 (k + 1) y0 y1 y2))
 | 0 => fun _ _ _ r h => by simp [http_text.l0] at h
 | k + 1 => by
  have ih0 := http_text.mono_l k
  ·
   intro y0 y1 y2
   unfold http_text.l0
   repeat' first
   | (with_reducible exact ih0 _ _ _)
   | (with_reducible exact LeO.refl _)
   | (with_reducible exact LeO.none _)
   | (with_reducible refine LeO.ite ?_ ?_)
   | (with_reducible refine LeO.bind ?_ (fun _ => ?_))
   | exact ih0 _ _ _
   | exact LeO.none _
   | refine LeO.ite ?_ ?_
   | refine LeO.bind ?_ (fun _ => ?_)
theorem http_text.mono : ∀ a0 k, LeO (http_text.f k a0) (http_text.f (k + 1) a0) := by
 intro a0 k
 have ih0 := http_text.mono_l k
 unfold http_text.f
 repeat' first
   | (with_reducible exact ih0 _ _ _)
   | (with_reducible exact LeO.refl _)
   | (with_reducible exact LeO.none _)
   | (with_reducible refine LeO.ite ?_ ?_)
   | (with_reducible refine LeO.bind ?_ (fun _ => ?_))
   | exact ih0 _ _ _
   | exact LeO.none _
   | refine LeO.ite ?_ ?_
   | refine LeO.bind ?_ (fun _ => ?_)
set_option maxHeartbeats 8000000 in
set_option maxRecDepth 100000 in
theorem http_text.calls (k : Nat) (a0 : ByteArray) (r : Bool) (w : World) (h : http_text.f k a0 = some r) :
  Calls Tryz.prog 37 #[.string a0] w fun e w' => e = .returned (.bool r) ∧ Drawn0 w w' := by
 have H : (http_text.l0 k a0 (a0.size : Int) 0) = some r := h
 clear h
 have H' := zM H
 clear H
 go_enter Tryz.func37, Tryz.ntmps37
 go_wp2
 go_loopg [6] k (fun kq v6 w' => ∃ (x6_1 : Int), v6 = .int .i64 x6_1 ∧ Aside0 (http_text.l0 kq a0 (a0.size : Int) x6_1 = some r) ∧ Aside0 (kq ≤ k) ∧ Drawn0 w w')
 case atStart => exact ⟨(0), (by first | rfl | (simp; done) | (simp [*]; done)), H', ⟨Nat.le_refl _⟩, by repeat (first | exact Drawn0.refl _ | apply Drawn0.step)⟩
 case round =>
  clear H'
  obtain ⟨x6_1, rfl, HA, HK1, ⟨m1, rfl⟩⟩ := hrel
  cases gk with
  | zero => exact absurd HA.out (by simp [http_text.l0])
  | succ k1 =>
   have H := HA.out
   clear HA
   simp only [http_text.l0] at H
   by_cases c2 : x6_1 < (a0.size : Int)
   ·
    rw [if_pos c2] at H; (have c2b0 : decide (x6_1 < (a0.size : Int)) = true := decide_eq_true c2); clear c2; by_cases c3 : 0 ≤ x6_1
    ·
     rw [if_pos c3] at H; (have c3b0 : decide (0 ≤ x6_1) = true := decide_eq_true c3); clear c3; by_cases c4 : x6_1 < (a0.size : Int)
     ·
      rw [if_pos c4] at H; (have c4b0 : decide (x6_1 < (a0.size : Int)) = true := decide_eq_true c4); clear c4; by_cases c6 : (bt a0 x6_1) < 32
      ·
       rw [if_pos c6] at H; (have c6b0 : decide ((bt a0 x6_1) < 32) = true := decide_eq_true c6); clear c6; by_cases c8 : (bt a0 x6_1) = 9
       ·
        rw [if_pos c8] at H; (have c8b0 : ((bt a0 x6_1) == 9) = true := beq_iff_eq.mpr c8); (have c8b1 : ((bt a0 x6_1) != 9) = false := bne_eq_false_iff_eq.mpr c8); clear c8; by_cases c10 : (bt a0 x6_1) = 127
        ·
         rw [if_pos c10] at H; (have c10b0 : ((bt a0 x6_1) == 127) = true := beq_iff_eq.mpr c10); (have c10b1 : ((bt a0 x6_1) != 127) = false := bne_eq_false_iff_eq.mpr c10); clear c10; (obtain rfl := Option.some.inj H); (have p5 : 0 ≤ (x6_1 : Int) := of_decide_eq_true (by assumption)); (have q5 : x6_1 < (a0.size : Int) := of_decide_eq_true (by assumption)); (have hx5 := bt_at a0 x6_1); (replace p5 := eq_true p5); (replace q5 := eq_true q5); (have p7 : 0 ≤ (x6_1 : Int) := of_decide_eq_true (by assumption)); (have q7 : x6_1 < (a0.size : Int) := of_decide_eq_true (by assumption)); (have hx7 := bt_at a0 x6_1); (replace p7 := eq_true p7); (replace q7 := eq_true q7); (have p9 : 0 ≤ (x6_1 : Int) := of_decide_eq_true (by assumption)); (have q9 : x6_1 < (a0.size : Int) := of_decide_eq_true (by assumption)); (have hx9 := bt_at a0 x6_1); (replace p9 := eq_true p9); (replace q9 := eq_true q9); (go_wp2); (go_ret); exact ⟨by first | rfl | (simp; done) | (simp [*]; done), by repeat (first | exact Drawn0.refl _ | apply Drawn0.step)⟩
        ·
         rw [if_neg c10] at H; (have c10b0 : ((bt a0 x6_1) == 127) = false := beq_eq_false_iff_ne.mpr c10); (have c10b1 : ((bt a0 x6_1) != 127) = true := bne_iff_ne.mpr c10); (have H' := zM H); clear H; (have p5 : 0 ≤ (x6_1 : Int) := of_decide_eq_true (by assumption)); (have q5 : x6_1 < (a0.size : Int) := of_decide_eq_true (by assumption)); (have hx5 := bt_at a0 x6_1); (replace p5 := eq_true p5); (replace q5 := eq_true q5); (have p7 : 0 ≤ (x6_1 : Int) := of_decide_eq_true (by assumption)); (have q7 : x6_1 < (a0.size : Int) := of_decide_eq_true (by assumption)); (have hx7 := bt_at a0 x6_1); (replace p7 := eq_true p7); (replace q7 := eq_true q7); (have p9 : 0 ≤ (x6_1 : Int) := of_decide_eq_true (by assumption)); (have q9 : x6_1 < (a0.size : Int) := of_decide_eq_true (by assumption)); (have hx9 := bt_at a0 x6_1); (replace p9 := eq_true p9); (replace q9 := eq_true q9); (go_wp2); go_roundg k1
         case measure => have := HK1.out; omega
         case rel => exact ⟨(wrap64 (x6_1 + 1)), (by first | rfl | (simp; done) | (simp [*]; done)), H', ⟨by have := HK1.out; omega⟩, by repeat (first | exact Drawn0.refl _ | apply Drawn0.step)⟩
       ·
        rw [if_neg c8] at H; (have c8b0 : ((bt a0 x6_1) == 9) = false := beq_eq_false_iff_ne.mpr c8); (have c8b1 : ((bt a0 x6_1) != 9) = true := bne_iff_ne.mpr c8); (obtain rfl := Option.some.inj H); (have p5 : 0 ≤ (x6_1 : Int) := of_decide_eq_true (by assumption)); (have q5 : x6_1 < (a0.size : Int) := of_decide_eq_true (by assumption)); (have hx5 := bt_at a0 x6_1); (replace p5 := eq_true p5); (replace q5 := eq_true q5); (have p7 : 0 ≤ (x6_1 : Int) := of_decide_eq_true (by assumption)); (have q7 : x6_1 < (a0.size : Int) := of_decide_eq_true (by assumption)); (have hx7 := bt_at a0 x6_1); (replace p7 := eq_true p7); (replace q7 := eq_true q7); (go_wp2); (go_ret); exact ⟨by first | rfl | (simp; done) | (simp [*]; done), by repeat (first | exact Drawn0.refl _ | apply Drawn0.step)⟩
      ·
       rw [if_neg c6] at H; (have c6b0 : decide ((bt a0 x6_1) < 32) = false := decide_eq_false c6); clear c6; by_cases c12 : (bt a0 x6_1) = 127
       ·
        rw [if_pos c12] at H; (have c12b0 : ((bt a0 x6_1) == 127) = true := beq_iff_eq.mpr c12); (have c12b1 : ((bt a0 x6_1) != 127) = false := bne_eq_false_iff_eq.mpr c12); clear c12; (obtain rfl := Option.some.inj H); (have p5 : 0 ≤ (x6_1 : Int) := of_decide_eq_true (by assumption)); (have q5 : x6_1 < (a0.size : Int) := of_decide_eq_true (by assumption)); (have hx5 := bt_at a0 x6_1); (replace p5 := eq_true p5); (replace q5 := eq_true q5); (have p11 : 0 ≤ (x6_1 : Int) := of_decide_eq_true (by assumption)); (have q11 : x6_1 < (a0.size : Int) := of_decide_eq_true (by assumption)); (have hx11 := bt_at a0 x6_1); (replace p11 := eq_true p11); (replace q11 := eq_true q11); (go_wp2); (go_ret); exact ⟨by first | rfl | (simp; done) | (simp [*]; done), by repeat (first | exact Drawn0.refl _ | apply Drawn0.step)⟩
       ·
        rw [if_neg c12] at H; (have c12b0 : ((bt a0 x6_1) == 127) = false := beq_eq_false_iff_ne.mpr c12); (have c12b1 : ((bt a0 x6_1) != 127) = true := bne_iff_ne.mpr c12); (have H' := zM H); clear H; (have p5 : 0 ≤ (x6_1 : Int) := of_decide_eq_true (by assumption)); (have q5 : x6_1 < (a0.size : Int) := of_decide_eq_true (by assumption)); (have hx5 := bt_at a0 x6_1); (replace p5 := eq_true p5); (replace q5 := eq_true q5); (have p11 : 0 ≤ (x6_1 : Int) := of_decide_eq_true (by assumption)); (have q11 : x6_1 < (a0.size : Int) := of_decide_eq_true (by assumption)); (have hx11 := bt_at a0 x6_1); (replace p11 := eq_true p11); (replace q11 := eq_true q11); (go_wp2); go_roundg k1
        case measure => have := HK1.out; omega
        case rel => exact ⟨(wrap64 (x6_1 + 1)), (by first | rfl | (simp; done) | (simp [*]; done)), H', ⟨by have := HK1.out; omega⟩, by repeat (first | exact Drawn0.refl _ | apply Drawn0.step)⟩
     ·
      rw [if_neg c4] at H; exact absurd H (by simp)
    ·
     rw [if_neg c3] at H; exact absurd H (by simp)
   ·
    rw [if_neg c2] at H; (have c2b0 : decide (x6_1 < (a0.size : Int)) = false := decide_eq_false c2); clear c2; (obtain rfl := Option.some.inj H); (go_wp2); (go_ret); exact ⟨by first | rfl | (simp; done) | (simp [*]; done), by repeat (first | exact Drawn0.refl _ | apply Drawn0.step)⟩

/-! ### stringslite_HasPrefix: function 95 -/
def stringslite_HasPrefix.f (a0 : ByteArray) (a1 : ByteArray) : Option (Bool) := if (a0.size : Int) ≥ (a1.size : Int) then (if 0 ≤ (a1.size : Int) then (if (a1.size : Int) ≤ (a0.size : Int) then (some ((a0.extract 0 ((a1.size : Int) : Int).toNat).toList == a1.toList)) else (none)) else (none)) else (some false)
set_option maxHeartbeats 8000000 in
set_option maxRecDepth 100000 in
theorem stringslite_HasPrefix.calls (a0 : ByteArray) (a1 : ByteArray) (r : Bool) (w : World) (h : stringslite_HasPrefix.f a0 a1 = some r) :
  Calls Tryz.prog 95 #[.string a0, .string a1] w fun e w' => e = .returned (.bool r) ∧ Drawn0 w w' := by
 have H : (if (a0.size : Int) ≥ (a1.size : Int) then (if 0 ≤ (a1.size : Int) then (if (a1.size : Int) ≤ (a0.size : Int) then (some ((a0.extract 0 ((a1.size : Int) : Int).toNat).toList == a1.toList)) else (none)) else (none)) else (some false)) = some r := h
 clear h
 by_cases c3 : (a0.size : Int) ≥ (a1.size : Int)
 ·
  rw [if_pos c3] at H
  have c3b0 : decide ((a1.size : Int) ≤ (a0.size : Int)) = true := decide_eq_true c3
  have c3b1 : decide (a1.size ≤ a0.size) = true := decide_eq_true (Int.ofNat_le.mp c3)
  clear c3
  by_cases c4 : 0 ≤ (a1.size : Int)
  ·
   rw [if_pos c4] at H
   have c4b0 := eq_true c4
   have c4b1 : decide (0 ≤ (a1.size : Int)) = true := decide_eq_true c4
   clear c4
   by_cases c5 : (a1.size : Int) ≤ (a0.size : Int)
   ·
    rw [if_pos c5] at H; (have c5b0 := eq_true c5); (have c5b1 : decide ((a1.size : Int) ≤ (a0.size : Int)) = true := decide_eq_true c5); clear c5; (obtain rfl := Option.some.inj H); (go_enter Tryz.func95, Tryz.ntmps95); (go_wp2); (go_ret); exact ⟨by first | rfl | (simp; done) | (simp [*]; done), by repeat (first | exact Drawn0.refl _ | apply Drawn0.step)⟩
   ·
    rw [if_neg c5] at H; exact absurd H (by simp)
  ·
   rw [if_neg c4] at H
   exact absurd H (by simp)
 ·
  rw [if_neg c3] at H
  have c3b0 : decide ((a1.size : Int) ≤ (a0.size : Int)) = false := decide_eq_false c3
  have c3b1 : decide (a1.size ≤ a0.size) = false := decide_eq_false (fun h => c3 (Int.ofNat_le.mpr h))
  clear c3
  obtain rfl := Option.some.inj H
  go_enter Tryz.func95, Tryz.ntmps95
  go_wp2
  go_ret
  exact ⟨by first | rfl | (simp; done) | (simp [*]; done), by repeat (first | exact Drawn0.refl _ | apply Drawn0.step)⟩

/-! ### strings_HasPrefix: function 66 -/
def strings_HasPrefix.f (a0 : ByteArray) (a1 : ByteArray) : Option (Bool) := (stringslite_HasPrefix.f a0 a1).bind fun t105 => (some t105)
set_option maxHeartbeats 8000000 in
set_option maxRecDepth 100000 in
theorem strings_HasPrefix.calls (a0 : ByteArray) (a1 : ByteArray) (r : Bool) (w : World) (h : strings_HasPrefix.f a0 a1 = some r) :
  Calls Tryz.prog 66 #[.string a0, .string a1] w fun e w' => e = .returned (.bool r) ∧ Drawn0 w w' := by
 have H : ((stringslite_HasPrefix.f a0 a1).bind fun t105 => (some t105)) = some r := h
 clear h
 replace H := Option.bind_eq_some_iff.mp H
 obtain ⟨t105, A30, H⟩ := H
 replace H : (some t105) = some r := H
 have A3 := zM A30
 clear A30
 obtain rfl := Option.some.inj H
 go_enter Tryz.func66, Tryz.ntmps66
 go_wp2_with (first | ((with_reducible refine gate_callee (f := 95) rfl ?_); refine goesL_ (some 7) rfl rfl Tryz.func95 (by kernel_rfl) rfl #[.string a0, .string a1] rfl (by (try simp only [zL]); first | done | rfl) ?_; (with_reducible refine (stringslite_HasPrefix.calls a0 a1 t105 _ A3.out).mono ?_); rintro e w' ⟨rfl, ⟨nd, rfl⟩⟩; refine ⟨_, rfl, ?_⟩))
 go_ret
 exact ⟨by first | rfl | (simp; done) | (simp [*]; done), by repeat (first | exact Drawn0.refl _ | apply Drawn0.step)⟩

/-! ### http_target: function 40 -/
def http_target.l0 : Nat → ByteArray → Int → Int → Option (Bool)
 | 0, _, _, _ => none
 | k + 1, x0, x5, x6 => if x6 < x5 then (if 0 ≤ x6 then (if x6 < (x0.size : Int) then (if (bt x0 x6) < 33 then (some false) else (if (bt x0 x6) > 126 then (some false) else (http_target.l0 k x0 x5 (wrap64 (x6 + 1))))) else (none)) else (none)) else ((strings_HasPrefix.f x0 (⟨#[47]⟩ : ByteArray)).bind fun t106 => (if t106 = true then (some (decide ((x0.size : Int) ≤ 256))) else (some false)))
def http_target.f (k : Nat) (a0 : ByteArray) : Option (Bool) := http_target.l0 k a0 (a0.size : Int) 0
theorem http_target.mono_l : ∀ k, (∀ y0 y1 y2, LeO (http_target.l0 k y0 y1 y2) (http_target.l0 (k + 1) y0 y1 y2))
 | 0 => fun _ _ _ r h => by simp [http_target.l0] at h
 | k + 1 => by
  have ih0 := http_target.mono_l k
  ·
   intro y0 y1 y2
   unfold http_target.l0
   repeat' first
   | (with_reducible exact ih0 _ _ _)
   | (with_reducible exact LeO.refl _)
   | (with_reducible exact LeO.none _)
   | (with_reducible refine LeO.ite ?_ ?_)
   | (with_reducible refine LeO.bind ?_ (fun _ => ?_))
   | exact ih0 _ _ _
   | exact LeO.none _
   | refine LeO.ite ?_ ?_
   | refine LeO.bind ?_ (fun _ => ?_)
theorem http_target.mono : ∀ a0 k, LeO (http_target.f k a0) (http_target.f (k + 1) a0) := by
 intro a0 k
 have ih0 := http_target.mono_l k
 unfold http_target.f
 repeat' first
   | (with_reducible exact ih0 _ _ _)
   | (with_reducible exact LeO.refl _)
   | (with_reducible exact LeO.none _)
   | (with_reducible refine LeO.ite ?_ ?_)
   | (with_reducible refine LeO.bind ?_ (fun _ => ?_))
   | exact ih0 _ _ _
   | exact LeO.none _
   | refine LeO.ite ?_ ?_
   | refine LeO.bind ?_ (fun _ => ?_)
set_option maxHeartbeats 8000000 in
set_option maxRecDepth 100000 in
theorem http_target.calls (k : Nat) (a0 : ByteArray) (r : Bool) (w : World) (h : http_target.f k a0 = some r) :
  Calls Tryz.prog 40 #[.string a0] w fun e w' => e = .returned (.bool r) ∧ Drawn0 w w' := by
 have H : (http_target.l0 k a0 (a0.size : Int) 0) = some r := h
 clear h
 have H' := zM H
 clear H
 go_enter Tryz.func40, Tryz.ntmps40
 go_wp2
 go_loopg [6] k (fun kq v6 w' => ∃ (x6_1 : Int), v6 = .int .i64 x6_1 ∧ Aside0 (http_target.l0 kq a0 (a0.size : Int) x6_1 = some r) ∧ Aside0 (kq ≤ k) ∧ Drawn0 w w')
 case atStart => exact ⟨(0), (by first | rfl | (simp; done) | (simp [*]; done)), H', ⟨Nat.le_refl _⟩, by repeat (first | exact Drawn0.refl _ | apply Drawn0.step)⟩
 case round =>
  clear H'
  obtain ⟨x6_1, rfl, HA, HK1, ⟨m1, rfl⟩⟩ := hrel
  cases gk with
  | zero => exact absurd HA.out (by simp [http_target.l0])
  | succ k1 =>
   have H := HA.out
   clear HA
   simp only [http_target.l0] at H
   by_cases c2 : x6_1 < (a0.size : Int)
   ·
    rw [if_pos c2] at H; (have c2b0 : decide (x6_1 < (a0.size : Int)) = true := decide_eq_true c2); clear c2; by_cases c3 : 0 ≤ x6_1
    ·
     rw [if_pos c3] at H; (have c3b0 : decide (0 ≤ x6_1) = true := decide_eq_true c3); clear c3; by_cases c4 : x6_1 < (a0.size : Int)
     ·
      rw [if_pos c4] at H; (have c4b0 : decide (x6_1 < (a0.size : Int)) = true := decide_eq_true c4); clear c4; by_cases c6 : (bt a0 x6_1) < 33
      ·
       rw [if_pos c6] at H; (have c6b0 : decide ((bt a0 x6_1) < 33) = true := decide_eq_true c6); clear c6; (obtain rfl := Option.some.inj H); (have p5 : 0 ≤ (x6_1 : Int) := of_decide_eq_true (by assumption)); (have q5 : x6_1 < (a0.size : Int) := of_decide_eq_true (by assumption)); (have hx5 := bt_at a0 x6_1); (replace p5 := eq_true p5); (replace q5 := eq_true q5); (go_wp2); (go_ret); exact ⟨by first | rfl | (simp; done) | (simp [*]; done), by repeat (first | exact Drawn0.refl _ | apply Drawn0.step)⟩
      ·
       rw [if_neg c6] at H; (have c6b0 : decide ((bt a0 x6_1) < 33) = false := decide_eq_false c6); clear c6; by_cases c8 : (bt a0 x6_1) > 126
       ·
        rw [if_pos c8] at H; (have c8b0 : decide (126 < (bt a0 x6_1)) = true := decide_eq_true c8); clear c8; (obtain rfl := Option.some.inj H); (have p5 : 0 ≤ (x6_1 : Int) := of_decide_eq_true (by assumption)); (have q5 : x6_1 < (a0.size : Int) := of_decide_eq_true (by assumption)); (have hx5 := bt_at a0 x6_1); (replace p5 := eq_true p5); (replace q5 := eq_true q5); (have p7 : 0 ≤ (x6_1 : Int) := of_decide_eq_true (by assumption)); (have q7 : x6_1 < (a0.size : Int) := of_decide_eq_true (by assumption)); (have hx7 := bt_at a0 x6_1); (replace p7 := eq_true p7); (replace q7 := eq_true q7); (go_wp2); (go_ret); exact ⟨by first | rfl | (simp; done) | (simp [*]; done), by repeat (first | exact Drawn0.refl _ | apply Drawn0.step)⟩
       ·
        rw [if_neg c8] at H; (have c8b0 : decide (126 < (bt a0 x6_1)) = false := decide_eq_false c8); clear c8; (have H' := zM H); clear H; (have p5 : 0 ≤ (x6_1 : Int) := of_decide_eq_true (by assumption)); (have q5 : x6_1 < (a0.size : Int) := of_decide_eq_true (by assumption)); (have hx5 := bt_at a0 x6_1); (replace p5 := eq_true p5); (replace q5 := eq_true q5); (have p7 : 0 ≤ (x6_1 : Int) := of_decide_eq_true (by assumption)); (have q7 : x6_1 < (a0.size : Int) := of_decide_eq_true (by assumption)); (have hx7 := bt_at a0 x6_1); (replace p7 := eq_true p7); (replace q7 := eq_true q7); (go_wp2); go_roundg k1
        case measure => have := HK1.out; omega
        case rel => exact ⟨(wrap64 (x6_1 + 1)), (by first | rfl | (simp; done) | (simp [*]; done)), H', ⟨by have := HK1.out; omega⟩, by repeat (first | exact Drawn0.refl _ | apply Drawn0.step)⟩
     ·
      rw [if_neg c4] at H; exact absurd H (by simp)
    ·
     rw [if_neg c3] at H; exact absurd H (by simp)
   ·
    rw [if_neg c2] at H; (have c2b0 : decide (x6_1 < (a0.size : Int)) = false := decide_eq_false c2); clear c2; (replace H := Option.bind_eq_some_iff.mp H); (obtain ⟨t106, A90, H⟩ := H); replace H : (if t106 = true then (some (decide ((a0.size : Int) ≤ 256))) else (some false)) = some r := H; (have A9 := zM A90); clear A90; by_cases c10 : t106 = true
    ·
     subst c10; (have H1 : (some (decide ((a0.size : Int) ≤ 256))) = some r := by rw [if_pos rfl] at H; exact H); clear H; (have H := H1); clear H1; (obtain rfl := Option.some.inj H); (go_wp2_with (first | ((with_reducible refine gate_callee (f := 66) rfl ?_); refine goesL_ (some 21) rfl rfl Tryz.func66 (by kernel_rfl) rfl #[.string a0, .string (⟨#[47]⟩ : ByteArray)] rfl (by (try simp only [zL]); first | done | rfl) ?_; (with_reducible refine (strings_HasPrefix.calls a0 (⟨#[47]⟩ : ByteArray) true _ A9.out).mono ?_); rintro e w' ⟨rfl, ⟨nd, rfl⟩⟩; refine ⟨_, rfl, ?_⟩))); (go_ret); exact ⟨by first | rfl | (simp; done) | (simp [*]; done), by repeat (first | exact Drawn0.refl _ | apply Drawn0.step)⟩
    ·
     (replace c10 := Bool.eq_false_iff.mpr c10); subst c10; (have H1 : (some false) = some r := by rw [if_neg (show ¬ (false = true) by decide)] at H; exact H); clear H; (have H := H1); clear H1; (obtain rfl := Option.some.inj H); (go_wp2_with (first | ((with_reducible refine gate_callee (f := 66) rfl ?_); refine goesL_ (some 21) rfl rfl Tryz.func66 (by kernel_rfl) rfl #[.string a0, .string (⟨#[47]⟩ : ByteArray)] rfl (by (try simp only [zL]); first | done | rfl) ?_; (with_reducible refine (strings_HasPrefix.calls a0 (⟨#[47]⟩ : ByteArray) false _ A9.out).mono ?_); rintro e w' ⟨rfl, ⟨nd, rfl⟩⟩; refine ⟨_, rfl, ?_⟩))); (go_ret); exact ⟨by first | rfl | (simp; done) | (simp [*]; done), by repeat (first | exact Drawn0.refl _ | apply Drawn0.step)⟩

/-! ### http_requestLine: function 20 -/
def http_requestLine.j0 : Nat → List ByteArray → Bool → Option (ByteArray × ByteArray × Bool)
 | 0, _, _ => none
 | k + 1, x5, x30 => if x30 = true then (some ((⟨#[]⟩ : ByteArray), (⟨#[]⟩ : ByteArray), false)) else (if 0 < (x5.length : Int) then (if 1 < (x5.length : Int) then (some (rdOf ByteArray.empty x5 0, rdOf ByteArray.empty x5 1, true)) else (none)) else (none))
def http_requestLine.f (k : Nat) (a0 : ByteArray) : Option (ByteArray × ByteArray × Bool) := (strings_Split.f a0 (⟨#[32]⟩ : ByteArray)).bind fun t123 => (if (t123.length : Int) = 3 then (if 0 < (t123.length : Int) then ((http_token.f k (rdOf ByteArray.empty t123 0)).bind fun t127 => (if t127 = true then (if 1 < (t123.length : Int) then ((http_target.f k (rdOf ByteArray.empty t123 1)).bind fun t129 => (if t129 = true then (if 2 < (t123.length : Int) then (http_requestLine.j0 k t123 ((rdOf ByteArray.empty t123 2).toList != ([72, 84, 84, 80, 47, 49, 46, 49] : List UInt8))) else (none)) else (http_requestLine.j0 k t123 true))) else (none)) else (http_requestLine.j0 k t123 true))) else (none)) else (http_requestLine.j0 k t123 true))
theorem http_requestLine.mono_l : ∀ k, (∀ y0 y1, LeO (http_requestLine.j0 k y0 y1) (http_requestLine.j0 (k + 1) y0 y1))
 | 0 => fun _ _ r h => by simp [http_requestLine.j0] at h
 | k + 1 => by
  have ih0 := http_requestLine.mono_l k
  ·
   intro y0 y1
   unfold http_requestLine.j0
   repeat' first
   | (with_reducible exact ih0 _ _)
   | (with_reducible exact http_target.mono _ _)
   | (with_reducible exact http_token.mono _ _)
   | (with_reducible exact LeO.refl _)
   | (with_reducible exact LeO.none _)
   | (with_reducible refine LeO.ite ?_ ?_)
   | (with_reducible refine LeO.bind ?_ (fun _ => ?_))
   | exact ih0 _ _
   | exact http_target.mono _ _
   | exact http_token.mono _ _
   | exact LeO.none _
   | refine LeO.ite ?_ ?_
   | refine LeO.bind ?_ (fun _ => ?_)
theorem http_requestLine.mono : ∀ a0 k, LeO (http_requestLine.f k a0) (http_requestLine.f (k + 1) a0) := by
 intro a0 k
 have ih0 := http_requestLine.mono_l k
 unfold http_requestLine.f
 repeat' first
   | (with_reducible exact ih0 _ _)
   | (with_reducible exact http_target.mono _ _)
   | (with_reducible exact http_token.mono _ _)
   | (with_reducible exact LeO.refl _)
   | (with_reducible exact LeO.none _)
   | (with_reducible refine LeO.ite ?_ ?_)
   | (with_reducible refine LeO.bind ?_ (fun _ => ?_))
   | exact ih0 _ _
   | exact http_target.mono _ _
   | exact http_token.mono _ _
   | exact LeO.none _
   | refine LeO.ite ?_ ?_
   | refine LeO.bind ?_ (fun _ => ?_)
set_option maxHeartbeats 8000000 in
set_option maxRecDepth 100000 in
theorem http_requestLine.calls (k : Nat) (a0 : ByteArray) (r1 : ByteArray) (r2 : ByteArray) (r3 : Bool) (w : World) (hT : Aside0 (TabsOk w)) (h : http_requestLine.f k a0 = some (r1, r2, r3)) :
  Calls Tryz.prog 20 #[.string a0] w fun e w' => e = .returned (.tuple #[.string r1, .string r2, .bool r3]) ∧ Below w.heap.size w w' := by
 have HB := zM (Below.refl w.heap.size w)
 have H : ((strings_Split.f a0 (⟨#[32]⟩ : ByteArray)).bind fun t123 => (if (t123.length : Int) = 3 then (if 0 < (t123.length : Int) then ((http_token.f k (rdOf ByteArray.empty t123 0)).bind fun t127 => (if t127 = true then (if 1 < (t123.length : Int) then ((http_target.f k (rdOf ByteArray.empty t123 1)).bind fun t129 => (if t129 = true then (if 2 < (t123.length : Int) then (http_requestLine.j0 k t123 ((rdOf ByteArray.empty t123 2).toList != ([72, 84, 84, 80, 47, 49, 46, 49] : List UInt8))) else (none)) else (http_requestLine.j0 k t123 true))) else (none)) else (http_requestLine.j0 k t123 true))) else (none)) else (http_requestLine.j0 k t123 true))) = some (r1, r2, r3) := h
 clear h
 replace H := Option.bind_eq_some_iff.mp H
 obtain ⟨t123, A20, H⟩ := H
 replace H : (if (t123.length : Int) = 3 then (if 0 < (t123.length : Int) then ((http_token.f k (rdOf ByteArray.empty t123 0)).bind fun t127 => (if t127 = true then (if 1 < (t123.length : Int) then ((http_target.f k (rdOf ByteArray.empty t123 1)).bind fun t129 => (if t129 = true then (if 2 < (t123.length : Int) then (http_requestLine.j0 k t123 ((rdOf ByteArray.empty t123 2).toList != ([72, 84, 84, 80, 47, 49, 46, 49] : List UInt8))) else (none)) else (http_requestLine.j0 k t123 true))) else (none)) else (http_requestLine.j0 k t123 true))) else (none)) else (http_requestLine.j0 k t123 true)) = some (r1, r2, r3) := H
 have A2 := zM A20
 clear A20
 have HC3 := zM H
 clear H
 go_enter Tryz.func20, Tryz.ntmps20
 go_upto_region 2 with (first | (go_at_call 33; (with_reducible refine (strings_Split.calls a0 (⟨#[32]⟩ : ByteArray) t123 _ ?side1 A2.out).mono ?_); (case side1 => exact ⟨TabsOk.below hT.out (by repeat (first | exact HB.out | apply zA | apply zN | apply z1))⟩); rintro e w4 ⟨v124, rfl, ho0, hb⟩; have n0_ := zM (Kd.R_lower ho0 (below_size (by repeat (first | exact HB.out | apply zA | apply zN | apply z1)))); have n1_ := zM (below_step (by repeat (first | exact HB.out | apply zA | apply zN | apply z1)) hb); clear HB; have HO125 := n0_; have HB := n1_; clear n0_ n1_; (try clear hb); (try clear hb2); (try clear hk); (try clear hi); (try clear ho0)))
 repeat (go_quiet (first | (go_at_call 33; (with_reducible refine (strings_Split.calls a0 (⟨#[32]⟩ : ByteArray) t123 _ ?side1 A2.out).mono ?_); (case side1 => exact ⟨TabsOk.below hT.out (by repeat (first | exact HB.out | apply zA | apply zN | apply z1))⟩); rintro e w4 ⟨v124, rfl, ho0, hb⟩; have n0_ := zM (Kd.R_lower ho0 (below_size (by repeat (first | exact HB.out | apply zA | apply zN | apply z1)))); have n1_ := zM (below_step (by repeat (first | exact HB.out | apply zA | apply zN | apply z1)) hb); clear HB; have HO125 := n0_; have HB := n1_; clear n0_ n1_; (try clear hb); (try clear hb2); (try clear hk); (try clear hi); (try clear ho0))); go_upto_region 2 with (first | (go_at_call 33; (with_reducible refine (strings_Split.calls a0 (⟨#[32]⟩ : ByteArray) t123 _ ?side1 A2.out).mono ?_); (case side1 => exact ⟨TabsOk.below hT.out (by repeat (first | exact HB.out | apply zA | apply zN | apply z1))⟩); rintro e w4 ⟨v124, rfl, ho0, hb⟩; have n0_ := zM (Kd.R_lower ho0 (below_size (by repeat (first | exact HB.out | apply zA | apply zN | apply z1)))); have n1_ := zM (below_step (by repeat (first | exact HB.out | apply zA | apply zN | apply z1)) hb); clear HB; have HO125 := n0_; have HB := n1_; clear n0_ n1_; (try clear hb); (try clear hb2); (try clear hk); (try clear hi); (try clear ho0))))
 (try simp only [Act.put, zS])
 go_cut [30] (fun v30 wc => ∃ (kq : Nat) (x30_2 : Bool), v30 = .bool x30_2 ∧ Aside0 (http_requestLine.j0 kq t123 x30_2 = some (r1, r2, r3)) ∧ Aside0 (kq ≤ k) ∧ Aside0 (Kd.R Kd.string 9 wc w.heap.size (fun _ => True) v124 t123) ∧ Aside0 (Below w.heap.size w wc))
 case first =>
  have H := HC3.out
  clear HC3
  by_cases c5 : (t123.length : Int) = 3
  ·
   rw [if_pos c5] at H
   have c5b0 : ((t123.length : Int) == 3) = true := beq_iff_eq.mpr c5
   have c5b1 : ((t123.length : Int) != 3) = false := bne_eq_false_iff_eq.mpr c5
   clear c5
   (first | rw [c5b0] | (simp only [i64_w, i32_w]; rw [c5b0]) | skip)
   by_cases c6 : 0 < (t123.length : Int)
   ·
    rw [if_pos c6] at H; (have c6b0 : decide (0 < (t123.length : Int)) = true := decide_eq_true c6); (have c6b1 : decide (0 < t123.length) = true := decide_eq_true (by omega)); clear c6; (replace H := Option.bind_eq_some_iff.mp H); (obtain ⟨t127, A70, H⟩ := H); replace H : (if t127 = true then (if 1 < (t123.length : Int) then ((http_target.f k (rdOf ByteArray.empty t123 1)).bind fun t129 => (if t129 = true then (if 2 < (t123.length : Int) then (http_requestLine.j0 k t123 ((rdOf ByteArray.empty t123 2).toList != ([72, 84, 84, 80, 47, 49, 46, 49] : List UInt8))) else (none)) else (http_requestLine.j0 k t123 true))) else (none)) else (http_requestLine.j0 k t123 true)) = some (r1, r2, r3) := H; (have A7 := zM A70); clear A70; by_cases c8 : t127 = true
    ·
     subst c8; (have H1 : (if 1 < (t123.length : Int) then ((http_target.f k (rdOf ByteArray.empty t123 1)).bind fun t129 => (if t129 = true then (if 2 < (t123.length : Int) then (http_requestLine.j0 k t123 ((rdOf ByteArray.empty t123 2).toList != ([72, 84, 84, 80, 47, 49, 46, 49] : List UInt8))) else (none)) else (http_requestLine.j0 k t123 true))) else (none)) = some (r1, r2, r3) := by rw [if_pos rfl] at H; exact H); clear H; (have H := H1); clear H1; by_cases c9 : 1 < (t123.length : Int)
     ·
      rw [if_pos c9] at H; (have c9b0 : decide (1 < (t123.length : Int)) = true := decide_eq_true c9); (have c9b1 : decide (1 < t123.length) = true := decide_eq_true (by omega)); clear c9; (replace H := Option.bind_eq_some_iff.mp H); (obtain ⟨t129, A100, H⟩ := H); replace H : (if t129 = true then (if 2 < (t123.length : Int) then (http_requestLine.j0 k t123 ((rdOf ByteArray.empty t123 2).toList != ([72, 84, 84, 80, 47, 49, 46, 49] : List UInt8))) else (none)) else (http_requestLine.j0 k t123 true)) = some (r1, r2, r3) := H; (have A10 := zM A100); clear A100; by_cases c11 : t129 = true
      ·
       subst c11; (have H1 : (if 2 < (t123.length : Int) then (http_requestLine.j0 k t123 ((rdOf ByteArray.empty t123 2).toList != ([72, 84, 84, 80, 47, 49, 46, 49] : List UInt8))) else (none)) = some (r1, r2, r3) := by rw [if_pos rfl] at H; exact H); clear H; (have H := H1); clear H1; by_cases c12 : 2 < (t123.length : Int)
       ·
        rw [if_pos c12] at H; (have c12b0 : decide (2 < (t123.length : Int)) = true := decide_eq_true c12); (have c12b1 : decide (2 < t123.length) = true := decide_eq_true (by omega)); clear c12; (have H' := zM H); clear H; (obtain ⟨Ao13, co13, eo13⟩ := Kd.R_slice HO125.out); subst eo13; (have p126 : 0 ≤ (0 : Int) := (by omega)); (have q126 : 0 < (t123.length : Int) := of_decide_eq_true (by assumption)); obtain ⟨ad126, e126, hx126_0⟩ := Kd.at_string (Kd.R_reads' HO125.out).2.2 0 p126 q126
        cases e126
        (have qi126 : (0 < t123.length) = True := eq_true (by omega)); (try rw [show ((0 : Int)).toNat = 0 from rfl] at hx126_0); (try rw [Addr.add_zero'] at hx126_0); (replace p126 := eq_true p126); (replace q126 := eq_true q126); (go_wp2_with (first | (go_at_call 36; (with_reducible refine (http_token.calls k (rdOf ByteArray.empty t123 0) true _ A7.out).mono ?_); rintro e w' ⟨rfl, ⟨nd, rfl⟩⟩; (try first | exact ⟨rfl, _, World.drewN_drewN _ _ _⟩ | exact ⟨rfl, _, Eq.trans (World.drewN_drewN _ _ _) (congrArg (World.drewN _) (Nat.add_assoc _ _ _))⟩); have p128 : 0 ≤ (1 : Int) := (by omega); have q128 : 1 < (t123.length : Int) := of_decide_eq_true (by assumption); obtain ⟨ad128, e128, hx128_0⟩ := Kd.at_string (Kd.R_reads' HO125.out).2.2 1 p128 q128; obtain rfl : ad126 = ad128 := (by injection e128); (try simp only [show (1 : Int).toNat = 1 from rfl, Nat.reduceMul, Nat.reduceEqDiff, Go.Addr.add, ↓reduceIte] at hx128_0); have qi128 : (1 < t123.length) = True := eq_true (by omega); (try rw [show ((1 : Int)).toNat = 1 from rfl] at hx128_0); replace p128 := eq_true p128; replace q128 := eq_true q128) | (go_at_call 40; (with_reducible refine (http_target.calls k (rdOf ByteArray.empty t123 1) true _ A10.out).mono ?_); rintro e w' ⟨rfl, ⟨nd, rfl⟩⟩; (try first | exact ⟨rfl, _, World.drewN_drewN _ _ _⟩ | exact ⟨rfl, _, Eq.trans (World.drewN_drewN _ _ _) (congrArg (World.drewN _) (Nat.add_assoc _ _ _))⟩); have p130 : 0 ≤ (2 : Int) := (by omega); have q130 : 2 < (t123.length : Int) := of_decide_eq_true (by assumption); obtain ⟨ad130, e130, hx130_0⟩ := Kd.at_string (Kd.R_reads' HO125.out).2.2 2 p130 q130; obtain rfl : ad126 = ad130 := (by injection e130); (try simp only [show (2 : Int).toNat = 2 from rfl, Nat.reduceMul, Nat.reduceEqDiff, Go.Addr.add, ↓reduceIte] at hx130_0); have qi130 : (2 < t123.length) = True := eq_true (by omega); (try rw [show ((2 : Int)).toNat = 2 from rfl] at hx130_0); replace p130 := eq_true p130; replace q130 := eq_true q130))); (repeat (go_quiet (first | (go_at_call 36; (with_reducible refine (http_token.calls k (rdOf ByteArray.empty t123 0) true _ A7.out).mono ?_); rintro e w' ⟨rfl, ⟨nd, rfl⟩⟩; (try first | exact ⟨rfl, _, World.drewN_drewN _ _ _⟩ | exact ⟨rfl, _, Eq.trans (World.drewN_drewN _ _ _) (congrArg (World.drewN _) (Nat.add_assoc _ _ _))⟩); have p128 : 0 ≤ (1 : Int) := (by omega); have q128 : 1 < (t123.length : Int) := of_decide_eq_true (by assumption); obtain ⟨ad128, e128, hx128_0⟩ := Kd.at_string (Kd.R_reads' HO125.out).2.2 1 p128 q128; obtain rfl : ad126 = ad128 := (by injection e128); (try simp only [show (1 : Int).toNat = 1 from rfl, Nat.reduceMul, Nat.reduceEqDiff, Go.Addr.add, ↓reduceIte] at hx128_0); have qi128 : (1 < t123.length) = True := eq_true (by omega); (try rw [show ((1 : Int)).toNat = 1 from rfl] at hx128_0); replace p128 := eq_true p128; replace q128 := eq_true q128) | (go_at_call 40; (with_reducible refine (http_target.calls k (rdOf ByteArray.empty t123 1) true _ A10.out).mono ?_); rintro e w' ⟨rfl, ⟨nd, rfl⟩⟩; (try first | exact ⟨rfl, _, World.drewN_drewN _ _ _⟩ | exact ⟨rfl, _, Eq.trans (World.drewN_drewN _ _ _) (congrArg (World.drewN _) (Nat.add_assoc _ _ _))⟩); have p130 : 0 ≤ (2 : Int) := (by omega); have q130 : 2 < (t123.length : Int) := of_decide_eq_true (by assumption); obtain ⟨ad130, e130, hx130_0⟩ := Kd.at_string (Kd.R_reads' HO125.out).2.2 2 p130 q130; obtain rfl : ad126 = ad130 := (by injection e130); (try simp only [show (2 : Int).toNat = 2 from rfl, Nat.reduceMul, Nat.reduceEqDiff, Go.Addr.add, ↓reduceIte] at hx130_0); have qi130 : (2 < t123.length) = True := eq_true (by omega); (try rw [show ((2 : Int)).toNat = 2 from rfl] at hx130_0); replace p130 := eq_true p130; replace q130 := eq_true q130)); try go_wp2_with (first | (go_at_call 36; (with_reducible refine (http_token.calls k (rdOf ByteArray.empty t123 0) true _ A7.out).mono ?_); rintro e w' ⟨rfl, ⟨nd, rfl⟩⟩; (try first | exact ⟨rfl, _, World.drewN_drewN _ _ _⟩ | exact ⟨rfl, _, Eq.trans (World.drewN_drewN _ _ _) (congrArg (World.drewN _) (Nat.add_assoc _ _ _))⟩); have p128 : 0 ≤ (1 : Int) := (by omega); have q128 : 1 < (t123.length : Int) := of_decide_eq_true (by assumption); obtain ⟨ad128, e128, hx128_0⟩ := Kd.at_string (Kd.R_reads' HO125.out).2.2 1 p128 q128; obtain rfl : ad126 = ad128 := (by injection e128); (try simp only [show (1 : Int).toNat = 1 from rfl, Nat.reduceMul, Nat.reduceEqDiff, Go.Addr.add, ↓reduceIte] at hx128_0); have qi128 : (1 < t123.length) = True := eq_true (by omega); (try rw [show ((1 : Int)).toNat = 1 from rfl] at hx128_0); replace p128 := eq_true p128; replace q128 := eq_true q128) | (go_at_call 40; (with_reducible refine (http_target.calls k (rdOf ByteArray.empty t123 1) true _ A10.out).mono ?_); rintro e w' ⟨rfl, ⟨nd, rfl⟩⟩; (try first | exact ⟨rfl, _, World.drewN_drewN _ _ _⟩ | exact ⟨rfl, _, Eq.trans (World.drewN_drewN _ _ _) (congrArg (World.drewN _) (Nat.add_assoc _ _ _))⟩); have p130 : 0 ≤ (2 : Int) := (by omega); have q130 : 2 < (t123.length : Int) := of_decide_eq_true (by assumption); obtain ⟨ad130, e130, hx130_0⟩ := Kd.at_string (Kd.R_reads' HO125.out).2.2 2 p130 q130; obtain rfl : ad126 = ad130 := (by injection e130); (try simp only [show (2 : Int).toNat = 2 from rfl, Nat.reduceMul, Nat.reduceEqDiff, Go.Addr.add, ↓reduceIte] at hx130_0); have qi130 : (2 < t123.length) = True := eq_true (by omega); (try rw [show ((2 : Int)).toNat = 2 from rfl] at hx130_0); replace p130 := eq_true p130; replace q130 := eq_true q130)))); go_meet
        case rel => exact ⟨_, (((rdOf ByteArray.empty t123 2).toList != ([72, 84, 84, 80, 47, 49, 46, 49] : List UInt8))), (by first | rfl | (simp; done) | (simp [*]; done)), H', ⟨by first | omega | exact Nat.le_refl _⟩, ⟨by (with_reducible repeat (first | apply Kd.R_alloc | apply Kd.R_drewN | apply Kd.R_drew)); exact HO125.out⟩, ⟨by repeat (first | exact HB.out | apply zA | apply zN | apply z1)⟩⟩
       ·
        rw [if_neg c12] at H; exact absurd H (by simp)
      ·
       (replace c11 := Bool.eq_false_iff.mpr c11); subst c11; (have H1 : (http_requestLine.j0 k t123 true) = some (r1, r2, r3) := by rw [if_neg (show ¬ (false = true) by decide)] at H; exact H); clear H; (have H := H1); clear H1; (have H' := zM H); clear H; (obtain ⟨Ao14, co14, eo14⟩ := Kd.R_slice HO125.out); subst eo14; (have p126 : 0 ≤ (0 : Int) := (by omega)); (have q126 : 0 < (t123.length : Int) := of_decide_eq_true (by assumption)); obtain ⟨ad126, e126, hx126_0⟩ := Kd.at_string (Kd.R_reads' HO125.out).2.2 0 p126 q126
       cases e126
       (have qi126 : (0 < t123.length) = True := eq_true (by omega)); (try rw [show ((0 : Int)).toNat = 0 from rfl] at hx126_0); (try rw [Addr.add_zero'] at hx126_0); (replace p126 := eq_true p126); (replace q126 := eq_true q126); (go_wp2_with (first | (go_at_call 36; (with_reducible refine (http_token.calls k (rdOf ByteArray.empty t123 0) true _ A7.out).mono ?_); rintro e w' ⟨rfl, ⟨nd, rfl⟩⟩; (try first | exact ⟨rfl, _, World.drewN_drewN _ _ _⟩ | exact ⟨rfl, _, Eq.trans (World.drewN_drewN _ _ _) (congrArg (World.drewN _) (Nat.add_assoc _ _ _))⟩); have p128 : 0 ≤ (1 : Int) := (by omega); have q128 : 1 < (t123.length : Int) := of_decide_eq_true (by assumption); obtain ⟨ad128, e128, hx128_0⟩ := Kd.at_string (Kd.R_reads' HO125.out).2.2 1 p128 q128; obtain rfl : ad126 = ad128 := (by injection e128); (try simp only [show (1 : Int).toNat = 1 from rfl, Nat.reduceMul, Nat.reduceEqDiff, Go.Addr.add, ↓reduceIte] at hx128_0); have qi128 : (1 < t123.length) = True := eq_true (by omega); (try rw [show ((1 : Int)).toNat = 1 from rfl] at hx128_0); replace p128 := eq_true p128; replace q128 := eq_true q128) | (go_at_call 40; (with_reducible refine (http_target.calls k (rdOf ByteArray.empty t123 1) false _ A10.out).mono ?_); rintro e w' ⟨rfl, ⟨nd, rfl⟩⟩; (try first | exact ⟨rfl, _, World.drewN_drewN _ _ _⟩ | exact ⟨rfl, _, Eq.trans (World.drewN_drewN _ _ _) (congrArg (World.drewN _) (Nat.add_assoc _ _ _))⟩)))); (repeat (go_quiet (first | (go_at_call 36; (with_reducible refine (http_token.calls k (rdOf ByteArray.empty t123 0) true _ A7.out).mono ?_); rintro e w' ⟨rfl, ⟨nd, rfl⟩⟩; (try first | exact ⟨rfl, _, World.drewN_drewN _ _ _⟩ | exact ⟨rfl, _, Eq.trans (World.drewN_drewN _ _ _) (congrArg (World.drewN _) (Nat.add_assoc _ _ _))⟩); have p128 : 0 ≤ (1 : Int) := (by omega); have q128 : 1 < (t123.length : Int) := of_decide_eq_true (by assumption); obtain ⟨ad128, e128, hx128_0⟩ := Kd.at_string (Kd.R_reads' HO125.out).2.2 1 p128 q128; obtain rfl : ad126 = ad128 := (by injection e128); (try simp only [show (1 : Int).toNat = 1 from rfl, Nat.reduceMul, Nat.reduceEqDiff, Go.Addr.add, ↓reduceIte] at hx128_0); have qi128 : (1 < t123.length) = True := eq_true (by omega); (try rw [show ((1 : Int)).toNat = 1 from rfl] at hx128_0); replace p128 := eq_true p128; replace q128 := eq_true q128) | (go_at_call 40; (with_reducible refine (http_target.calls k (rdOf ByteArray.empty t123 1) false _ A10.out).mono ?_); rintro e w' ⟨rfl, ⟨nd, rfl⟩⟩; (try first | exact ⟨rfl, _, World.drewN_drewN _ _ _⟩ | exact ⟨rfl, _, Eq.trans (World.drewN_drewN _ _ _) (congrArg (World.drewN _) (Nat.add_assoc _ _ _))⟩))); try go_wp2_with (first | (go_at_call 36; (with_reducible refine (http_token.calls k (rdOf ByteArray.empty t123 0) true _ A7.out).mono ?_); rintro e w' ⟨rfl, ⟨nd, rfl⟩⟩; (try first | exact ⟨rfl, _, World.drewN_drewN _ _ _⟩ | exact ⟨rfl, _, Eq.trans (World.drewN_drewN _ _ _) (congrArg (World.drewN _) (Nat.add_assoc _ _ _))⟩); have p128 : 0 ≤ (1 : Int) := (by omega); have q128 : 1 < (t123.length : Int) := of_decide_eq_true (by assumption); obtain ⟨ad128, e128, hx128_0⟩ := Kd.at_string (Kd.R_reads' HO125.out).2.2 1 p128 q128; obtain rfl : ad126 = ad128 := (by injection e128); (try simp only [show (1 : Int).toNat = 1 from rfl, Nat.reduceMul, Nat.reduceEqDiff, Go.Addr.add, ↓reduceIte] at hx128_0); have qi128 : (1 < t123.length) = True := eq_true (by omega); (try rw [show ((1 : Int)).toNat = 1 from rfl] at hx128_0); replace p128 := eq_true p128; replace q128 := eq_true q128) | (go_at_call 40; (with_reducible refine (http_target.calls k (rdOf ByteArray.empty t123 1) false _ A10.out).mono ?_); rintro e w' ⟨rfl, ⟨nd, rfl⟩⟩; (try first | exact ⟨rfl, _, World.drewN_drewN _ _ _⟩ | exact ⟨rfl, _, Eq.trans (World.drewN_drewN _ _ _) (congrArg (World.drewN _) (Nat.add_assoc _ _ _))⟩))))); go_meet
       case rel => exact ⟨_, (true), (by first | rfl | (simp; done) | (simp [*]; done)), H', ⟨by first | omega | exact Nat.le_refl _⟩, ⟨by (with_reducible repeat (first | apply Kd.R_alloc | apply Kd.R_drewN | apply Kd.R_drew)); exact HO125.out⟩, ⟨by repeat (first | exact HB.out | apply zA | apply zN | apply z1)⟩⟩
     ·
      rw [if_neg c9] at H; exact absurd H (by simp)
    ·
     (replace c8 := Bool.eq_false_iff.mpr c8); subst c8; (have H1 : (http_requestLine.j0 k t123 true) = some (r1, r2, r3) := by rw [if_neg (show ¬ (false = true) by decide)] at H; exact H); clear H; (have H := H1); clear H1; (have H' := zM H); clear H; (obtain ⟨Ao15, co15, eo15⟩ := Kd.R_slice HO125.out); subst eo15; (have p126 : 0 ≤ (0 : Int) := (by omega)); (have q126 : 0 < (t123.length : Int) := of_decide_eq_true (by assumption)); obtain ⟨ad126, e126, hx126_0⟩ := Kd.at_string (Kd.R_reads' HO125.out).2.2 0 p126 q126
     cases e126
     (have qi126 : (0 < t123.length) = True := eq_true (by omega)); (try rw [show ((0 : Int)).toNat = 0 from rfl] at hx126_0); (try rw [Addr.add_zero'] at hx126_0); (replace p126 := eq_true p126); (replace q126 := eq_true q126); (go_wp2_with (first | (go_at_call 36; (with_reducible refine (http_token.calls k (rdOf ByteArray.empty t123 0) false _ A7.out).mono ?_); rintro e w' ⟨rfl, ⟨nd, rfl⟩⟩; (try first | exact ⟨rfl, _, World.drewN_drewN _ _ _⟩ | exact ⟨rfl, _, Eq.trans (World.drewN_drewN _ _ _) (congrArg (World.drewN _) (Nat.add_assoc _ _ _))⟩)))); (repeat (go_quiet (first | (go_at_call 36; (with_reducible refine (http_token.calls k (rdOf ByteArray.empty t123 0) false _ A7.out).mono ?_); rintro e w' ⟨rfl, ⟨nd, rfl⟩⟩; (try first | exact ⟨rfl, _, World.drewN_drewN _ _ _⟩ | exact ⟨rfl, _, Eq.trans (World.drewN_drewN _ _ _) (congrArg (World.drewN _) (Nat.add_assoc _ _ _))⟩))); try go_wp2_with (first | (go_at_call 36; (with_reducible refine (http_token.calls k (rdOf ByteArray.empty t123 0) false _ A7.out).mono ?_); rintro e w' ⟨rfl, ⟨nd, rfl⟩⟩; (try first | exact ⟨rfl, _, World.drewN_drewN _ _ _⟩ | exact ⟨rfl, _, Eq.trans (World.drewN_drewN _ _ _) (congrArg (World.drewN _) (Nat.add_assoc _ _ _))⟩))))); go_meet
     case rel => exact ⟨_, (true), (by first | rfl | (simp; done) | (simp [*]; done)), H', ⟨by first | omega | exact Nat.le_refl _⟩, ⟨by (with_reducible repeat (first | apply Kd.R_alloc | apply Kd.R_drewN | apply Kd.R_drew)); exact HO125.out⟩, ⟨by repeat (first | exact HB.out | apply zA | apply zN | apply z1)⟩⟩
   ·
    rw [if_neg c6] at H; exact absurd H (by simp)
  ·
   rw [if_neg c5] at H
   have c5b0 : ((t123.length : Int) == 3) = false := beq_eq_false_iff_ne.mpr c5
   have c5b1 : ((t123.length : Int) != 3) = true := bne_iff_ne.mpr c5
   (first | rw [c5b0] | (simp only [i64_w, i32_w]; rw [c5b0]) | skip)
   have H' := zM H
   clear H
   obtain ⟨Ao16, co16, eo16⟩ := Kd.R_slice HO125.out
   subst eo16
   go_wp2
   repeat (go_quiet (fail); try go_wp2)
   go_meet
   case rel => exact ⟨_, (true), (by first | rfl | (simp; done) | (simp [*]; done)), H', ⟨by first | omega | exact Nat.le_refl _⟩, ⟨by (with_reducible repeat (first | apply Kd.R_alloc | apply Kd.R_drewN | apply Kd.R_drew)); exact HO125.out⟩, ⟨by repeat (first | exact HB.out | apply zA | apply zN | apply z1)⟩⟩
 case rest =>
  clear HC3
  try clear c1
  try clear p1
  try clear q1
  try clear hx1
  try clear qi1
  try clear c2
  try clear p2
  try clear c5
  try clear c5b0
  try clear c5b1
  try clear c6
  try clear c6b0
  try clear c6b1
  try clear c8
  try clear c9
  try clear c9b0
  try clear c9b1
  try clear c11
  try clear c12
  try clear c12b0
  try clear c12b1
  try clear p12
  try clear q12
  try clear hx12
  try clear qi12
  try clear p13
  try clear q13
  try clear hx13
  try clear qi13
  try clear hx126_0
  try clear hx128_0
  try clear hx130_0
  try clear p126
  try clear p128
  try clear p130
  try clear q126
  try clear q128
  try clear q130
  obtain ⟨kq, x30_2, rfl, HA, HJ2, HO_5, HB⟩ := hcut
  cases kq with
  | zero => exact absurd HA.out (by simp [http_requestLine.j0])
  | succ kj2 =>
   have H := HA.out
   clear HA
   simp only [http_requestLine.j0] at H
   by_cases c17 : x30_2 = true
   ·
    subst c17; (have H1 : (some ((⟨#[]⟩ : ByteArray), (⟨#[]⟩ : ByteArray), false)) = some (r1, r2, r3) := by rw [if_pos rfl] at H; exact H); clear H; (have H := H1); clear H1; simp only [Option.some.injEq, Prod.mk.injEq] at H; (obtain ⟨rfl, rfl, rfl⟩ := H); (go_wp2); (repeat (go_quiet (fail); try go_wp2)); (go_ret3); exact ⟨by first | rfl | (simp [errW_none, errW_some] <;> rfl) | (simp [*, errW_none, errW_some] <;> rfl), by repeat (first | exact HB.out | apply zA | apply zN | apply z1)⟩
   ·
    (replace c17 := Bool.eq_false_iff.mpr c17); subst c17; (have H1 : (if 0 < (t123.length : Int) then (if 1 < (t123.length : Int) then (some (rdOf ByteArray.empty t123 0, rdOf ByteArray.empty t123 1, true)) else (none)) else (none)) = some (r1, r2, r3) := by rw [if_neg (show ¬ (false = true) by decide)] at H; exact H); clear H; (have H := H1); clear H1; by_cases c18 : 0 < (t123.length : Int)
    ·
     rw [if_pos c18] at H; (have c18b0 : decide (0 < (t123.length : Int)) = true := decide_eq_true c18); (have c18b1 : decide (0 < t123.length) = true := decide_eq_true (by omega)); clear c18; by_cases c19 : 1 < (t123.length : Int)
     ·
      rw [if_pos c19] at H; (have c19b0 : decide (1 < (t123.length : Int)) = true := decide_eq_true c19); (have c19b1 : decide (1 < t123.length) = true := decide_eq_true (by omega)); clear c19; simp only [Option.some.injEq, Prod.mk.injEq] at H; (obtain ⟨rfl, rfl, rfl⟩ := H); (obtain ⟨Ao20, co20, eo20⟩ := Kd.R_slice HO_5.out); subst eo20; (have p131 : 0 ≤ (0 : Int) := (by omega)); (have q131 : 0 < (t123.length : Int) := of_decide_eq_true (by assumption)); obtain ⟨ad131, e131, hx131_0⟩ := Kd.at_string (Kd.R_reads' HO_5.out).2.2 0 p131 q131
      cases e131
      (have qi131 : (0 < t123.length) = True := eq_true (by omega)); (try rw [show ((0 : Int)).toNat = 0 from rfl] at hx131_0); (try rw [Addr.add_zero'] at hx131_0); (replace p131 := eq_true p131); (replace q131 := eq_true q131); (have p132 : 0 ≤ (1 : Int) := (by omega)); (have q132 : 1 < (t123.length : Int) := of_decide_eq_true (by assumption)); (obtain ⟨ad132, e132, hx132_0⟩ := Kd.at_string (Kd.R_reads' HO_5.out).2.2 1 p132 q132); (obtain rfl : ad131 = ad132 := (by injection e132)); (try simp only [show (1 : Int).toNat = 1 from rfl, Nat.reduceMul, Nat.reduceEqDiff, Go.Addr.add, ↓reduceIte] at hx132_0); (have qi132 : (1 < t123.length) = True := eq_true (by omega)); (try rw [show ((1 : Int)).toNat = 1 from rfl] at hx132_0); (replace p132 := eq_true p132); (replace q132 := eq_true q132); (go_wp2); (repeat (go_quiet (fail); try go_wp2)); (go_ret3); exact ⟨by first | rfl | (simp [errW_none, errW_some] <;> rfl) | (simp [*, errW_none, errW_some] <;> rfl), by repeat (first | exact HB.out | apply zA | apply zN | apply z1)⟩
     ·
      rw [if_neg c19] at H; exact absurd H (by simp)
    ·
     rw [if_neg c18] at H; exact absurd H (by simp)

/-! ### stringslite_CutPrefix: function 71 -/
def stringslite_CutPrefix.f (a0 : ByteArray) (a1 : ByteArray) : Option (ByteArray × Bool) := (stringslite_HasPrefix.f a0 a1).bind fun t117 => (if t117 = true then (if 0 ≤ (a1.size : Int) then (if (a1.size : Int) ≤ (a0.size : Int) then (some (a0.extract ((a1.size : Int) : Int).toNat a0.size, true)) else (none)) else (none)) else (some (a0, false)))
set_option maxHeartbeats 8000000 in
set_option maxRecDepth 100000 in
theorem stringslite_CutPrefix.calls (a0 : ByteArray) (a1 : ByteArray) (r1 : ByteArray) (r2 : Bool) (w : World) (h : stringslite_CutPrefix.f a0 a1 = some (r1, r2)) :
  Calls Tryz.prog 71 #[.string a0, .string a1] w fun e w' => e = .returned (.tuple #[.string r1, .bool r2]) ∧ Drawn0 w w' := by
 have H : ((stringslite_HasPrefix.f a0 a1).bind fun t117 => (if t117 = true then (if 0 ≤ (a1.size : Int) then (if (a1.size : Int) ≤ (a0.size : Int) then (some (a0.extract ((a1.size : Int) : Int).toNat a0.size, true)) else (none)) else (none)) else (some (a0, false)))) = some (r1, r2) := h
 clear h
 replace H := Option.bind_eq_some_iff.mp H
 obtain ⟨t117, A30, H⟩ := H
 replace H : (if t117 = true then (if 0 ≤ (a1.size : Int) then (if (a1.size : Int) ≤ (a0.size : Int) then (some (a0.extract ((a1.size : Int) : Int).toNat a0.size, true)) else (none)) else (none)) else (some (a0, false))) = some (r1, r2) := H
 have A3 := zM A30
 clear A30
 by_cases c4 : t117 = true
 ·
  subst c4
  have H1 : (if 0 ≤ (a1.size : Int) then (if (a1.size : Int) ≤ (a0.size : Int) then (some (a0.extract ((a1.size : Int) : Int).toNat a0.size, true)) else (none)) else (none)) = some (r1, r2) := by rw [if_pos rfl] at H; exact H
  clear H
  have H := H1
  clear H1
  by_cases c5 : 0 ≤ (a1.size : Int)
  ·
   rw [if_pos c5] at H
   have c5b0 := eq_true c5
   have c5b1 : decide (0 ≤ (a1.size : Int)) = true := decide_eq_true c5
   clear c5
   by_cases c6 : (a1.size : Int) ≤ (a0.size : Int)
   ·
    rw [if_pos c6] at H; (have c6b0 := eq_true c6); (have c6b1 : decide ((a1.size : Int) ≤ (a0.size : Int)) = true := decide_eq_true c6); clear c6; simp only [Option.some.injEq, Prod.mk.injEq] at H; (obtain ⟨rfl, rfl⟩ := H); (go_enter Tryz.func71, Tryz.ntmps71); (go_wp2_with (first | ((with_reducible refine gate_callee (f := 95) rfl ?_); refine goesL_ (some 8) rfl rfl Tryz.func95 (by kernel_rfl) rfl #[.string a0, .string a1] rfl (by (try simp only [zL]); first | done | rfl) ?_; (with_reducible refine (stringslite_HasPrefix.calls a0 a1 true _ A3.out).mono ?_); rintro e w' ⟨rfl, ⟨nd, rfl⟩⟩; refine ⟨_, rfl, ?_⟩))); (go_ret2); exact ⟨by first | rfl | (simp; done) | (simp [*]; done), by repeat (first | exact Drawn0.refl _ | apply Drawn0.step)⟩
   ·
    rw [if_neg c6] at H; exact absurd H (by simp)
  ·
   rw [if_neg c5] at H
   exact absurd H (by simp)
 ·
  replace c4 := Bool.eq_false_iff.mpr c4
  subst c4
  have H1 : (some (a0, false)) = some (r1, r2) := by rw [if_neg (show ¬ (false = true) by decide)] at H; exact H
  clear H
  have H := H1
  clear H1
  simp only [Option.some.injEq, Prod.mk.injEq] at H
  obtain ⟨rfl, rfl⟩ := H
  go_enter Tryz.func71, Tryz.ntmps71
  go_wp2_with (first | ((with_reducible refine gate_callee (f := 95) rfl ?_); refine goesL_ (some 8) rfl rfl Tryz.func95 (by kernel_rfl) rfl #[.string a0, .string a1] rfl (by (try simp only [zL]); first | done | rfl) ?_; (with_reducible refine (stringslite_HasPrefix.calls a0 a1 false _ A3.out).mono ?_); rintro e w' ⟨rfl, ⟨nd, rfl⟩⟩; refine ⟨_, rfl, ?_⟩))
  go_ret2
  exact ⟨by first | rfl | (simp; done) | (simp [*]; done), by repeat (first | exact Drawn0.refl _ | apply Drawn0.step)⟩

end Go.Proofs.YtpikebpjlhccbaaGreatDoor.PAll
