-- Laid by a program of this session (wip/pp in the repo) out of the translation. Lean checks it.
import Derived.Test.YtpikebpjlhccbaaGreatDoorShort
import Derived.Test.YtpikebpjlhccbaaGreatDoorPAllx0
import Derived.Test.YtpikebpjlhccbaaGreatDoorPAllx1
import Derived.Test.YtpikebpjlhccbaaGreatDoorPAllx13
namespace Go.Proofs.YtpikebpjlhccbaaGreatDoor.PAll
open Go.RowKit Go.Proofs.YtpikebpjlhccbaaGreatDoorW.PrintWords Go.Proofs.YtpikebpjlhccbaaGreatDoorW.PrintLast Go.Proofs.YtpikebpjlhccbaaGreatDoorW.PrintMore
attribute [local go_sem] max2_int min2_int max_two min_two max_three min_three max_four min_four   -- for this text's walks alone
set_option linter.unusedVariables false
set_option linter.unusedSimpArgs false

attribute [local go_sem high] eqA24
/-! ### pennantref22_WriteRequest: function 15 -/
def pennantref22_WriteRequest.j0 : Nat → ByteArray → ByteArray → ByteArray → ByteArray → ByteArray → ByteArray → Option (ByteArray × Int)
 | 0, _, _, _, _, _, _ => none
 | k + 1, x4, x243000, x243001, x243002, x243003, x243004 => if x4.size + 16 ≤ 9223372036854775807 then ((pennantref08_Digits.f k (x243004.size : Int)).bind fun t243 => (if (x4 ++ (⟨#[67, 111, 110, 116, 101, 110, 116, 45, 76, 101, 110, 103, 116, 104, 58, 32]⟩ : ByteArray)).size + t243.size ≤ 9223372036854775807 then (if ((x4 ++ (⟨#[67, 111, 110, 116, 101, 110, 116, 45, 76, 101, 110, 103, 116, 104, 58, 32]⟩ : ByteArray)) ++ t243).size + 4 ≤ 9223372036854775807 then (if (((x4 ++ (⟨#[67, 111, 110, 116, 101, 110, 116, 45, 76, 101, 110, 103, 116, 104, 58, 32]⟩ : ByteArray)) ++ t243) ++ (⟨#[13, 10, 13, 10]⟩ : ByteArray)).size + x243004.size ≤ 9223372036854775807 then ((pennantref22_ReadRequest.f k ((((x4 ++ (⟨#[67, 111, 110, 116, 101, 110, 116, 45, 76, 101, 110, 103, 116, 104, 58, 32]⟩ : ByteArray)) ++ t243) ++ (⟨#[13, 10, 13, 10]⟩ : ByteArray)) ++ x243004)).bind fun bt244 => (if bt244.2.2.2.2.2.2 = 0 then (if bt244.2.2.2.2.2.1 = (((((x4 ++ (⟨#[67, 111, 110, 116, 101, 110, 116, 45, 76, 101, 110, 103, 116, 104, 58, 32]⟩ : ByteArray)) ++ t243) ++ (⟨#[13, 10, 13, 10]⟩ : ByteArray)) ++ x243004).size : Int) then (if (!(bt244.1.toList == x243000.toList) || (!(bt244.2.1.toList == x243001.toList) || (!(bt244.2.2.1.toList == x243002.toList) || (!(bt244.2.2.2.1.toList == x243003.toList) || (!(bt244.2.2.2.2.1.toList == x243004.toList)))))) = true then (some ((⟨#[]⟩ : ByteArray), 1)) else (some ((((x4 ++ (⟨#[67, 111, 110, 116, 101, 110, 116, 45, 76, 101, 110, 103, 116, 104, 58, 32]⟩ : ByteArray)) ++ t243) ++ (⟨#[13, 10, 13, 10]⟩ : ByteArray)) ++ x243004, 0))) else (some ((⟨#[]⟩ : ByteArray), 1))) else (some ((⟨#[]⟩ : ByteArray), 1)))) else (none)) else (none)) else (none))) else (none)
def pennantref22_WriteRequest.f (k : Nat) (a0_0 : ByteArray) (a0_1 : ByteArray) (a0_2 : ByteArray) (a0_3 : ByteArray) (a0_4 : ByteArray) : Option (ByteArray × Int) := if a0_0.size + 1 ≤ 9223372036854775807 then (if (a0_0 ++ (⟨#[32]⟩ : ByteArray)).size + a0_1.size ≤ 9223372036854775807 then (if ((a0_0 ++ (⟨#[32]⟩ : ByteArray)) ++ a0_1).size + 17 ≤ 9223372036854775807 then (if (((a0_0 ++ (⟨#[32]⟩ : ByteArray)) ++ a0_1) ++ (⟨#[32, 72, 84, 84, 80, 47, 49, 46, 49, 13, 10, 72, 111, 115, 116, 58, 32]⟩ : ByteArray)).size + a0_2.size ≤ 9223372036854775807 then (if ((((a0_0 ++ (⟨#[32]⟩ : ByteArray)) ++ a0_1) ++ (⟨#[32, 72, 84, 84, 80, 47, 49, 46, 49, 13, 10, 72, 111, 115, 116, 58, 32]⟩ : ByteArray)) ++ a0_2).size + 2 ≤ 9223372036854775807 then (if a0_3.toList = ([] : List UInt8) then (pennantref22_WriteRequest.j0 k (((((a0_0 ++ (⟨#[32]⟩ : ByteArray)) ++ a0_1) ++ (⟨#[32, 72, 84, 84, 80, 47, 49, 46, 49, 13, 10, 72, 111, 115, 116, 58, 32]⟩ : ByteArray)) ++ a0_2) ++ (⟨#[13, 10]⟩ : ByteArray)) a0_0 a0_1 a0_2 a0_3 a0_4) else (if (((((a0_0 ++ (⟨#[32]⟩ : ByteArray)) ++ a0_1) ++ (⟨#[32, 72, 84, 84, 80, 47, 49, 46, 49, 13, 10, 72, 111, 115, 116, 58, 32]⟩ : ByteArray)) ++ a0_2) ++ (⟨#[13, 10]⟩ : ByteArray)).size + 14 ≤ 9223372036854775807 then (if ((((((a0_0 ++ (⟨#[32]⟩ : ByteArray)) ++ a0_1) ++ (⟨#[32, 72, 84, 84, 80, 47, 49, 46, 49, 13, 10, 72, 111, 115, 116, 58, 32]⟩ : ByteArray)) ++ a0_2) ++ (⟨#[13, 10]⟩ : ByteArray)) ++ (⟨#[67, 111, 110, 116, 101, 110, 116, 45, 84, 121, 112, 101, 58, 32]⟩ : ByteArray)).size + a0_3.size ≤ 9223372036854775807 then (if (((((((a0_0 ++ (⟨#[32]⟩ : ByteArray)) ++ a0_1) ++ (⟨#[32, 72, 84, 84, 80, 47, 49, 46, 49, 13, 10, 72, 111, 115, 116, 58, 32]⟩ : ByteArray)) ++ a0_2) ++ (⟨#[13, 10]⟩ : ByteArray)) ++ (⟨#[67, 111, 110, 116, 101, 110, 116, 45, 84, 121, 112, 101, 58, 32]⟩ : ByteArray)) ++ a0_3).size + 2 ≤ 9223372036854775807 then (pennantref22_WriteRequest.j0 k ((((((((a0_0 ++ (⟨#[32]⟩ : ByteArray)) ++ a0_1) ++ (⟨#[32, 72, 84, 84, 80, 47, 49, 46, 49, 13, 10, 72, 111, 115, 116, 58, 32]⟩ : ByteArray)) ++ a0_2) ++ (⟨#[13, 10]⟩ : ByteArray)) ++ (⟨#[67, 111, 110, 116, 101, 110, 116, 45, 84, 121, 112, 101, 58, 32]⟩ : ByteArray)) ++ a0_3) ++ (⟨#[13, 10]⟩ : ByteArray)) a0_0 a0_1 a0_2 a0_3 a0_4) else (none)) else (none)) else (none))) else (none)) else (none)) else (none)) else (none)) else (none)
theorem pennantref22_WriteRequest.mono_l : ∀ k, (∀ y0 y1 y2 y3 y4 y5, LeO (pennantref22_WriteRequest.j0 k y0 y1 y2 y3 y4 y5) (pennantref22_WriteRequest.j0 (k + 1) y0 y1 y2 y3 y4 y5))
 | 0 => fun _ _ _ _ _ _ r h => by simp [pennantref22_WriteRequest.j0] at h
 | k + 1 => by
  have ih0 := pennantref22_WriteRequest.mono_l k
  ·
   intro y0 y1 y2 y3 y4 y5
   unfold pennantref22_WriteRequest.j0
   repeat' first
   | (with_reducible exact ih0 _ _ _ _ _ _)
   | (with_reducible exact pennantref08_Digits.mono _ _)
   | (with_reducible exact pennantref22_ReadRequest.mono _ _)
   | (with_reducible exact LeO.refl _)
   | (with_reducible exact LeO.none _)
   | (with_reducible refine LeO.ite ?_ ?_)
   | (with_reducible refine LeO.bind ?_ (fun _ => ?_))
   | exact ih0 _ _ _ _ _ _
   | exact pennantref08_Digits.mono _ _
   | exact pennantref22_ReadRequest.mono _ _
   | exact LeO.none _
   | refine LeO.ite ?_ ?_
   | refine LeO.bind ?_ (fun _ => ?_)
theorem pennantref22_WriteRequest.mono : ∀ a0 a1 a2 a3 a4 k, LeO (pennantref22_WriteRequest.f k a0 a1 a2 a3 a4) (pennantref22_WriteRequest.f (k + 1) a0 a1 a2 a3 a4) := by
 intro a0 a1 a2 a3 a4 k
 have ih0 := pennantref22_WriteRequest.mono_l k
 unfold pennantref22_WriteRequest.f
 repeat' first
   | (with_reducible exact ih0 _ _ _ _ _ _)
   | (with_reducible exact pennantref08_Digits.mono _ _)
   | (with_reducible exact pennantref22_ReadRequest.mono _ _)
   | (with_reducible exact LeO.refl _)
   | (with_reducible exact LeO.none _)
   | (with_reducible refine LeO.ite ?_ ?_)
   | (with_reducible refine LeO.bind ?_ (fun _ => ?_))
   | exact ih0 _ _ _ _ _ _
   | exact pennantref08_Digits.mono _ _
   | exact pennantref22_ReadRequest.mono _ _
   | exact LeO.none _
   | refine LeO.ite ?_ ?_
   | refine LeO.bind ?_ (fun _ => ?_)
def pennantref22_WriteRequest.T4 : Bool × List (List Nat × List Nat) := (true, [([], []), ([0], [0]), ([], []), ([2], [2]), ([3], [3]), ([4], [4]), ([1, 5], [1, 5]), ([6], [6]), ([], []), ([8], [8]), ([7, 9], [7, 9]), ([10, 5, 0, 1, 2, 3, 4, 5, 6, 7, 8, 9, 10], [0, 10])])
def pennantref22_WriteRequest.B4 : List Nat := [0, 1, 0, 4, 12, 28, 63, 127, 0, 256, 1023, 2047]
theorem pennantref22_WriteRequest.tab4 : rtab .any (opsOf Tryz.f15 4) = pennantref22_WriteRequest.T4 := by kernel_rfl
theorem pennantref22_WriteRequest.bits4 : waitsOk pennantref22_WriteRequest.T4.2 pennantref22_WriteRequest.B4 = true := by kernel_rfl
set_option maxHeartbeats 80000000 in
set_option maxRecDepth 100000 in
theorem pennantref22_WriteRequest.calls (k : Nat) (a0_0 : ByteArray) (a0_1 : ByteArray) (a0_2 : ByteArray) (a0_3 : ByteArray) (a0_4 : ByteArray) (r1 : ByteArray) (r2 : Int) (w : World) (h : pennantref22_WriteRequest.f k a0_0 a0_1 a0_2 a0_3 a0_4 = some (r1, r2)) :
  Calls Tryz.prog 15 #[.agg #[.string a0_0, .string a0_1, .string a0_2, .string a0_3, .string a0_4]] w fun e w' => e = .returned (.tuple #[.string r1, .int .i64 r2]) ∧ Below w.heap.size w w' := by
 have hu24 := Tryz.underlying24
 have HB := zM (Below.refl w.heap.size w)
 have H : (if a0_0.size + 1 ≤ 9223372036854775807 then (if (a0_0 ++ (⟨#[32]⟩ : ByteArray)).size + a0_1.size ≤ 9223372036854775807 then (if ((a0_0 ++ (⟨#[32]⟩ : ByteArray)) ++ a0_1).size + 17 ≤ 9223372036854775807 then (if (((a0_0 ++ (⟨#[32]⟩ : ByteArray)) ++ a0_1) ++ (⟨#[32, 72, 84, 84, 80, 47, 49, 46, 49, 13, 10, 72, 111, 115, 116, 58, 32]⟩ : ByteArray)).size + a0_2.size ≤ 9223372036854775807 then (if ((((a0_0 ++ (⟨#[32]⟩ : ByteArray)) ++ a0_1) ++ (⟨#[32, 72, 84, 84, 80, 47, 49, 46, 49, 13, 10, 72, 111, 115, 116, 58, 32]⟩ : ByteArray)) ++ a0_2).size + 2 ≤ 9223372036854775807 then (if a0_3.toList = ([] : List UInt8) then (pennantref22_WriteRequest.j0 k (((((a0_0 ++ (⟨#[32]⟩ : ByteArray)) ++ a0_1) ++ (⟨#[32, 72, 84, 84, 80, 47, 49, 46, 49, 13, 10, 72, 111, 115, 116, 58, 32]⟩ : ByteArray)) ++ a0_2) ++ (⟨#[13, 10]⟩ : ByteArray)) a0_0 a0_1 a0_2 a0_3 a0_4) else (if (((((a0_0 ++ (⟨#[32]⟩ : ByteArray)) ++ a0_1) ++ (⟨#[32, 72, 84, 84, 80, 47, 49, 46, 49, 13, 10, 72, 111, 115, 116, 58, 32]⟩ : ByteArray)) ++ a0_2) ++ (⟨#[13, 10]⟩ : ByteArray)).size + 14 ≤ 9223372036854775807 then (if ((((((a0_0 ++ (⟨#[32]⟩ : ByteArray)) ++ a0_1) ++ (⟨#[32, 72, 84, 84, 80, 47, 49, 46, 49, 13, 10, 72, 111, 115, 116, 58, 32]⟩ : ByteArray)) ++ a0_2) ++ (⟨#[13, 10]⟩ : ByteArray)) ++ (⟨#[67, 111, 110, 116, 101, 110, 116, 45, 84, 121, 112, 101, 58, 32]⟩ : ByteArray)).size + a0_3.size ≤ 9223372036854775807 then (if (((((((a0_0 ++ (⟨#[32]⟩ : ByteArray)) ++ a0_1) ++ (⟨#[32, 72, 84, 84, 80, 47, 49, 46, 49, 13, 10, 72, 111, 115, 116, 58, 32]⟩ : ByteArray)) ++ a0_2) ++ (⟨#[13, 10]⟩ : ByteArray)) ++ (⟨#[67, 111, 110, 116, 101, 110, 116, 45, 84, 121, 112, 101, 58, 32]⟩ : ByteArray)) ++ a0_3).size + 2 ≤ 9223372036854775807 then (pennantref22_WriteRequest.j0 k ((((((((a0_0 ++ (⟨#[32]⟩ : ByteArray)) ++ a0_1) ++ (⟨#[32, 72, 84, 84, 80, 47, 49, 46, 49, 13, 10, 72, 111, 115, 116, 58, 32]⟩ : ByteArray)) ++ a0_2) ++ (⟨#[13, 10]⟩ : ByteArray)) ++ (⟨#[67, 111, 110, 116, 101, 110, 116, 45, 84, 121, 112, 101, 58, 32]⟩ : ByteArray)) ++ a0_3) ++ (⟨#[13, 10]⟩ : ByteArray)) a0_0 a0_1 a0_2 a0_3 a0_4) else (none)) else (none)) else (none))) else (none)) else (none)) else (none)) else (none)) else (none)) = some (r1, r2) := h
 clear h
 by_cases c2 : a0_0.size + 1 ≤ 9223372036854775807
 ·
  rw [if_pos c2] at H
  have c2b0 := eq_true c2
  have c2b1 : decide (a0_0.size + 1 ≤ 9223372036854775807) = true := decide_eq_true c2
  try have c2b2 : (9223372036854775807 < a0_0.size + 1) = False := eq_false (Nat.not_lt.2 c2)
  by_cases c3 : (a0_0 ++ (⟨#[32]⟩ : ByteArray)).size + a0_1.size ≤ 9223372036854775807
  ·
   rw [if_pos c3] at H
   have c3b3 : a0_0.size + 1 + a0_1.size ≤ 9223372036854775807 := by have h_ := c3; simp only [ByteArray.size_append] at h_; exact h_
   have c3b4 : (9223372036854775807 < a0_0.size + 1 + a0_1.size) = False := eq_false (Nat.not_lt.mpr c3b3)
   have c3b0 := eq_true c3
   have c3b1 : decide ((a0_0 ++ (⟨#[32]⟩ : ByteArray)).size + a0_1.size ≤ 9223372036854775807) = true := decide_eq_true c3
   try have c3b2 : (9223372036854775807 < (a0_0 ++ (⟨#[32]⟩ : ByteArray)).size + a0_1.size) = False := eq_false (Nat.not_lt.2 c3)
   by_cases c4 : ((a0_0 ++ (⟨#[32]⟩ : ByteArray)) ++ a0_1).size + 17 ≤ 9223372036854775807
   ·
    rw [if_pos c4] at H; (have c4b3 : a0_0.size + 1 + a0_1.size + 17 ≤ 9223372036854775807 := by have h_ := c4; simp only [ByteArray.size_append] at h_; exact h_); (have c4b4 : (9223372036854775807 < a0_0.size + 1 + a0_1.size + 17) = False := eq_false (Nat.not_lt.mpr c4b3)); (have c4b0 := eq_true c4); (have c4b1 : decide (((a0_0 ++ (⟨#[32]⟩ : ByteArray)) ++ a0_1).size + 17 ≤ 9223372036854775807) = true := decide_eq_true c4); (try have c4b2 : (9223372036854775807 < ((a0_0 ++ (⟨#[32]⟩ : ByteArray)) ++ a0_1).size + 17) = False := eq_false (Nat.not_lt.2 c4)); by_cases c5 : (((a0_0 ++ (⟨#[32]⟩ : ByteArray)) ++ a0_1) ++ (⟨#[32, 72, 84, 84, 80, 47, 49, 46, 49, 13, 10, 72, 111, 115, 116, 58, 32]⟩ : ByteArray)).size + a0_2.size ≤ 9223372036854775807
    ·
     rw [if_pos c5] at H; (have c5b3 : a0_0.size + 1 + a0_1.size + 17 + a0_2.size ≤ 9223372036854775807 := by have h_ := c5; simp only [ByteArray.size_append] at h_; exact h_); (have c5b4 : (9223372036854775807 < a0_0.size + 1 + a0_1.size + 17 + a0_2.size) = False := eq_false (Nat.not_lt.mpr c5b3)); (have c5b0 := eq_true c5); (have c5b1 : decide ((((a0_0 ++ (⟨#[32]⟩ : ByteArray)) ++ a0_1) ++ (⟨#[32, 72, 84, 84, 80, 47, 49, 46, 49, 13, 10, 72, 111, 115, 116, 58, 32]⟩ : ByteArray)).size + a0_2.size ≤ 9223372036854775807) = true := decide_eq_true c5); (try have c5b2 : (9223372036854775807 < (((a0_0 ++ (⟨#[32]⟩ : ByteArray)) ++ a0_1) ++ (⟨#[32, 72, 84, 84, 80, 47, 49, 46, 49, 13, 10, 72, 111, 115, 116, 58, 32]⟩ : ByteArray)).size + a0_2.size) = False := eq_false (Nat.not_lt.2 c5)); by_cases c6 : ((((a0_0 ++ (⟨#[32]⟩ : ByteArray)) ++ a0_1) ++ (⟨#[32, 72, 84, 84, 80, 47, 49, 46, 49, 13, 10, 72, 111, 115, 116, 58, 32]⟩ : ByteArray)) ++ a0_2).size + 2 ≤ 9223372036854775807
     ·
      rw [if_pos c6] at H; (have c6b3 : a0_0.size + 1 + a0_1.size + 17 + a0_2.size + 2 ≤ 9223372036854775807 := by have h_ := c6; simp only [ByteArray.size_append] at h_; exact h_); (have c6b4 : (9223372036854775807 < a0_0.size + 1 + a0_1.size + 17 + a0_2.size + 2) = False := eq_false (Nat.not_lt.mpr c6b3)); (have c6b0 := eq_true c6); (have c6b1 : decide (((((a0_0 ++ (⟨#[32]⟩ : ByteArray)) ++ a0_1) ++ (⟨#[32, 72, 84, 84, 80, 47, 49, 46, 49, 13, 10, 72, 111, 115, 116, 58, 32]⟩ : ByteArray)) ++ a0_2).size + 2 ≤ 9223372036854775807) = true := decide_eq_true c6); (try have c6b2 : (9223372036854775807 < ((((a0_0 ++ (⟨#[32]⟩ : ByteArray)) ++ a0_1) ++ (⟨#[32, 72, 84, 84, 80, 47, 49, 46, 49, 13, 10, 72, 111, 115, 116, 58, 32]⟩ : ByteArray)) ++ a0_2).size + 2) = False := eq_false (Nat.not_lt.2 c6)); (have HC7 := zM H); clear H; (go_enter Tryz.func15, Tryz.ntmps15); (go_upto_if 21 with (first | ((with_reducible refine gate_dst (N := 1) rfl ?_); (try (refine gate_guard (by rfl) ?_; dsimp only)); refine box_event ?hg (N := 1) ?hd (cs := #[.string a0_0, .string a0_1, .string a0_2, .string a0_3, .string a0_4]) (t := 24) ?hr ?_; (case hd => rfl); (case hg => rfl); (case hr => first | (go_simp; done) | (go_simp; rfl)); intro gb242 hg w8 hbox hb; have n0_ := zM (below_step (by repeat (first | (with_reducible first | exact HB.out | apply below_alloc | apply pw_below_drewN | apply below_drew1) | exact HB.out)) hb); have n1_ := zM (hbox); have n2_ := zM ((by rw [hg]; exact (below_size (by repeat (first | (with_reducible first | exact HB.out | apply below_alloc | apply pw_below_drewN | apply below_drew1) | exact HB.out))) : w.heap.size ≤ gb242)); have n3_ := zM ((by rw [hg]; exact (below_size (by repeat (first | (with_reducible first | exact HB.out | apply below_alloc | apply pw_below_drewN | apply below_drew1) | exact HB.out))) : w.heap.size ≤ gb242)); clear HB; have HB := n0_; have BK242 := n1_; have GW242 := n2_; have GE242 := n3_; clear n0_ n1_ n2_ n3_; clear hb hbox hg; have hcz9_0 : w8.cell? ⟨gb242, 0, none⟩ = some (.string a0_0) := (blk_cell BK242.out 0).trans rfl; have hcz9_1 : w8.cell? ⟨gb242, 1, none⟩ = some (.string a0_1) := (blk_cell BK242.out 1).trans rfl; have hcz9_2 : w8.cell? ⟨gb242, 2, none⟩ = some (.string a0_2) := (blk_cell BK242.out 2).trans rfl; have hcz9_3 : w8.cell? ⟨gb242, 3, none⟩ = some (.string a0_3) := (blk_cell BK242.out 3).trans rfl; have hcz9_4 : w8.cell? ⟨gb242, 4, none⟩ = some (.string a0_4) := (blk_cell BK242.out 4).trans rfl; have hfz9_0 := blk_frozen BK242.out 0; have hfz9_1 := blk_frozen BK242.out 1; have hfz9_2 := blk_frozen BK242.out 2; have hfz9_3 := blk_frozen BK242.out 3; have hfz9_4 := blk_frozen BK242.out 4))); (try simp only [Act.put, zS]); go_cut [4] (fun v4 wc => ∃ (kq : Nat) (x4_6 : ByteArray), v4 = .string x4_6 ∧ Aside0 (pennantref22_WriteRequest.j0 kq x4_6 a0_0 a0_1 a0_2 a0_3 a0_4 = some (r1, r2)) ∧ Aside0 (kq ≤ k) ∧ Aside0 (wc.heap[gb242]? = some (.cells #[.string a0_0, .string a0_1, .string a0_2, .string a0_3, .string a0_4] 24 (0, 0))) ∧ Aside0 (Below w.heap.size w wc))
      case first =>
       (have H := HC7.out); clear HC7; by_cases c10 : a0_3.toList = ([] : List UInt8)
       ·
        rw [if_pos c10] at H; (have c10b0 : (a0_3.toList == ([] : List UInt8)) = true := beq_iff_eq.mpr c10); (have c10b1 : (a0_3.toList != ([] : List UInt8)) = false := bne_eq_false_iff_eq.mpr c10); (have c10b2 : a0_3.toList.isEmpty = true := List.isEmpty_iff.mpr c10); clear c10; (first | rw [c10b0] | (simp only [i64_w, i32_w]; rw [c10b0]) | skip); (try rw [c10b2]); (have H' := zM H); clear H; (go_wp2); go_meet
        case rel => exact ⟨_, (((((a0_0 ++ (⟨#[32]⟩ : ByteArray)) ++ a0_1) ++ (⟨#[32, 72, 84, 84, 80, 47, 49, 46, 49, 13, 10, 72, 111, 115, 116, 58, 32]⟩ : ByteArray)) ++ a0_2) ++ (⟨#[13, 10]⟩ : ByteArray)), (by first | rfl | (simp; done) | (simp [*]; done)), H', ⟨by first | omega | exact Nat.le_refl _⟩, ⟨by (with_reducible repeat (first | refine blk_drewN ?_ _ | refine blk_drew ?_ | refine blk_alloc ?_ _)); exact BK242.out⟩, ⟨by repeat (first | (with_reducible first | exact HB.out | apply below_alloc | apply pw_below_drewN | apply below_drew1 | refine below_set ?_ GE242.out) | exact HB.out)⟩⟩
       ·
        rw [if_neg c10] at H; (have c10b0 : (a0_3.toList == ([] : List UInt8)) = false := beq_eq_false_iff_ne.mpr c10); (have c10b1 : (a0_3.toList != ([] : List UInt8)) = true := bne_iff_ne.mpr c10); (have c10b2 : a0_3.toList.isEmpty = false := List.isEmpty_eq_false_iff.mpr c10); (first | rw [c10b0] | (simp only [i64_w, i32_w]; rw [c10b0]) | skip); (try rw [c10b2]); by_cases c11 : (((((a0_0 ++ (⟨#[32]⟩ : ByteArray)) ++ a0_1) ++ (⟨#[32, 72, 84, 84, 80, 47, 49, 46, 49, 13, 10, 72, 111, 115, 116, 58, 32]⟩ : ByteArray)) ++ a0_2) ++ (⟨#[13, 10]⟩ : ByteArray)).size + 14 ≤ 9223372036854775807
        ·
         rw [if_pos c11] at H; (have c11b3 : a0_0.size + 1 + a0_1.size + 17 + a0_2.size + 2 + 14 ≤ 9223372036854775807 := by have h_ := c11; simp only [ByteArray.size_append] at h_; exact h_); (have c11b4 : (9223372036854775807 < a0_0.size + 1 + a0_1.size + 17 + a0_2.size + 2 + 14) = False := eq_false (Nat.not_lt.mpr c11b3)); (have c11b0 := eq_true c11); (have c11b1 : decide ((((((a0_0 ++ (⟨#[32]⟩ : ByteArray)) ++ a0_1) ++ (⟨#[32, 72, 84, 84, 80, 47, 49, 46, 49, 13, 10, 72, 111, 115, 116, 58, 32]⟩ : ByteArray)) ++ a0_2) ++ (⟨#[13, 10]⟩ : ByteArray)).size + 14 ≤ 9223372036854775807) = true := decide_eq_true c11); (try have c11b2 : (9223372036854775807 < (((((a0_0 ++ (⟨#[32]⟩ : ByteArray)) ++ a0_1) ++ (⟨#[32, 72, 84, 84, 80, 47, 49, 46, 49, 13, 10, 72, 111, 115, 116, 58, 32]⟩ : ByteArray)) ++ a0_2) ++ (⟨#[13, 10]⟩ : ByteArray)).size + 14) = False := eq_false (Nat.not_lt.2 c11)); by_cases c12 : ((((((a0_0 ++ (⟨#[32]⟩ : ByteArray)) ++ a0_1) ++ (⟨#[32, 72, 84, 84, 80, 47, 49, 46, 49, 13, 10, 72, 111, 115, 116, 58, 32]⟩ : ByteArray)) ++ a0_2) ++ (⟨#[13, 10]⟩ : ByteArray)) ++ (⟨#[67, 111, 110, 116, 101, 110, 116, 45, 84, 121, 112, 101, 58, 32]⟩ : ByteArray)).size + a0_3.size ≤ 9223372036854775807
         ·
          rw [if_pos c12] at H; (have c12b3 : a0_0.size + 1 + a0_1.size + 17 + a0_2.size + 2 + 14 + a0_3.size ≤ 9223372036854775807 := by have h_ := c12; simp only [ByteArray.size_append] at h_; exact h_); (have c12b4 : (9223372036854775807 < a0_0.size + 1 + a0_1.size + 17 + a0_2.size + 2 + 14 + a0_3.size) = False := eq_false (Nat.not_lt.mpr c12b3)); (have c12b0 := eq_true c12); (have c12b1 : decide (((((((a0_0 ++ (⟨#[32]⟩ : ByteArray)) ++ a0_1) ++ (⟨#[32, 72, 84, 84, 80, 47, 49, 46, 49, 13, 10, 72, 111, 115, 116, 58, 32]⟩ : ByteArray)) ++ a0_2) ++ (⟨#[13, 10]⟩ : ByteArray)) ++ (⟨#[67, 111, 110, 116, 101, 110, 116, 45, 84, 121, 112, 101, 58, 32]⟩ : ByteArray)).size + a0_3.size ≤ 9223372036854775807) = true := decide_eq_true c12); (try have c12b2 : (9223372036854775807 < ((((((a0_0 ++ (⟨#[32]⟩ : ByteArray)) ++ a0_1) ++ (⟨#[32, 72, 84, 84, 80, 47, 49, 46, 49, 13, 10, 72, 111, 115, 116, 58, 32]⟩ : ByteArray)) ++ a0_2) ++ (⟨#[13, 10]⟩ : ByteArray)) ++ (⟨#[67, 111, 110, 116, 101, 110, 116, 45, 84, 121, 112, 101, 58, 32]⟩ : ByteArray)).size + a0_3.size) = False := eq_false (Nat.not_lt.2 c12)); by_cases c13 : (((((((a0_0 ++ (⟨#[32]⟩ : ByteArray)) ++ a0_1) ++ (⟨#[32, 72, 84, 84, 80, 47, 49, 46, 49, 13, 10, 72, 111, 115, 116, 58, 32]⟩ : ByteArray)) ++ a0_2) ++ (⟨#[13, 10]⟩ : ByteArray)) ++ (⟨#[67, 111, 110, 116, 101, 110, 116, 45, 84, 121, 112, 101, 58, 32]⟩ : ByteArray)) ++ a0_3).size + 2 ≤ 9223372036854775807
          ·
           rw [if_pos c13] at H; (have c13b3 : a0_0.size + 1 + a0_1.size + 17 + a0_2.size + 2 + 14 + a0_3.size + 2 ≤ 9223372036854775807 := by have h_ := c13; simp only [ByteArray.size_append] at h_; exact h_); (have c13b4 : (9223372036854775807 < a0_0.size + 1 + a0_1.size + 17 + a0_2.size + 2 + 14 + a0_3.size + 2) = False := eq_false (Nat.not_lt.mpr c13b3)); (have c13b0 := eq_true c13); (have c13b1 : decide ((((((((a0_0 ++ (⟨#[32]⟩ : ByteArray)) ++ a0_1) ++ (⟨#[32, 72, 84, 84, 80, 47, 49, 46, 49, 13, 10, 72, 111, 115, 116, 58, 32]⟩ : ByteArray)) ++ a0_2) ++ (⟨#[13, 10]⟩ : ByteArray)) ++ (⟨#[67, 111, 110, 116, 101, 110, 116, 45, 84, 121, 112, 101, 58, 32]⟩ : ByteArray)) ++ a0_3).size + 2 ≤ 9223372036854775807) = true := decide_eq_true c13); (try have c13b2 : (9223372036854775807 < (((((((a0_0 ++ (⟨#[32]⟩ : ByteArray)) ++ a0_1) ++ (⟨#[32, 72, 84, 84, 80, 47, 49, 46, 49, 13, 10, 72, 111, 115, 116, 58, 32]⟩ : ByteArray)) ++ a0_2) ++ (⟨#[13, 10]⟩ : ByteArray)) ++ (⟨#[67, 111, 110, 116, 101, 110, 116, 45, 84, 121, 112, 101, 58, 32]⟩ : ByteArray)) ++ a0_3).size + 2) = False := eq_false (Nat.not_lt.2 c13)); (have H' := zM H); clear H; (have hcz14_0 : w8.cell? ⟨gb242, 0, none⟩ = some (.string a0_0) := (blk_cell BK242.out 0).trans rfl); (have hcz14_1 : w8.cell? ⟨gb242, 1, none⟩ = some (.string a0_1) := (blk_cell BK242.out 1).trans rfl); (have hcz14_2 : w8.cell? ⟨gb242, 2, none⟩ = some (.string a0_2) := (blk_cell BK242.out 2).trans rfl); (have hcz14_3 : w8.cell? ⟨gb242, 3, none⟩ = some (.string a0_3) := (blk_cell BK242.out 3).trans rfl); (have hcz14_4 : w8.cell? ⟨gb242, 4, none⟩ = some (.string a0_4) := (blk_cell BK242.out 4).trans rfl); (have hfz14_0 := blk_frozen BK242.out 0); (have hfz14_1 := blk_frozen BK242.out 1); (have hfz14_2 := blk_frozen BK242.out 2); (have hfz14_3 := blk_frozen BK242.out 3); (have hfz14_4 := blk_frozen BK242.out 4); (go_wp2); go_meet
           case rel => exact ⟨_, ((((((((a0_0 ++ (⟨#[32]⟩ : ByteArray)) ++ a0_1) ++ (⟨#[32, 72, 84, 84, 80, 47, 49, 46, 49, 13, 10, 72, 111, 115, 116, 58, 32]⟩ : ByteArray)) ++ a0_2) ++ (⟨#[13, 10]⟩ : ByteArray)) ++ (⟨#[67, 111, 110, 116, 101, 110, 116, 45, 84, 121, 112, 101, 58, 32]⟩ : ByteArray)) ++ a0_3) ++ (⟨#[13, 10]⟩ : ByteArray)), (by first | rfl | (simp; done) | (simp [*]; done)), H', ⟨by first | omega | exact Nat.le_refl _⟩, ⟨by (with_reducible repeat (first | refine blk_drewN ?_ _ | refine blk_drew ?_ | refine blk_alloc ?_ _)); exact BK242.out⟩, ⟨by repeat (first | (with_reducible first | exact HB.out | apply below_alloc | apply pw_below_drewN | apply below_drew1 | refine below_set ?_ GE242.out) | exact HB.out)⟩⟩
          ·
           rw [if_neg c13] at H; exact absurd H (by simp)
         ·
          rw [if_neg c12] at H; exact absurd H (by simp)
        ·
         rw [if_neg c11] at H; exact absurd H (by simp)
      case rest =>
       clear HC7; (try clear c1); (try clear c2); (try clear c2b0); (try clear c2b1); (try clear c2b2); (try clear p2); (try clear c3); (try clear c3b0); (try clear c3b1); (try clear c3b2); (try clear c4); (try clear c4b0); (try clear c4b1); (try clear c4b2); (try clear c5); (try clear c5b0); (try clear c5b1); (try clear c5b2); (try clear c6); (try clear c6b0); (try clear c6b1); (try clear c6b2); (try clear c10); (try clear c10b0); (try clear c10b1); (try clear c10b2); (try clear c11); (try clear c11b0); (try clear c11b1); (try clear c11b2); (try clear c12); (try clear c12b0); (try clear c12b1); (try clear c12b2); (try clear c13); (try clear c13b0); (try clear c13b1); (try clear c13b2); (try clear hcz14_0); (try clear hcz14_1); (try clear hcz14_2); (try clear hcz14_3); (try clear hcz14_4); (try clear hcz9_0); (try clear hcz9_1); (try clear hcz9_2); (try clear hcz9_3); (try clear hcz9_4); (try clear hfz14_0); (try clear hfz14_1); (try clear hfz14_2); (try clear hfz14_3); (try clear hfz14_4); (try clear hfz9_0); (try clear hfz9_1); (try clear hfz9_2); (try clear hfz9_3); (try clear hfz9_4); obtain ⟨kq, x4_6, rfl, HA, HJ6, BK242, HB⟩ := hcut
       cases kq with
       | zero => exact absurd HA.out (by simp [pennantref22_WriteRequest.j0])
       | succ kj6 =>
        (have H := HA.out); clear HA; simp only [pennantref22_WriteRequest.j0] at H; by_cases c15 : x4_6.size + 16 ≤ 9223372036854775807
        ·
         rw [if_pos c15] at H; (have c15b0 := eq_true c15); (have c15b1 : decide (x4_6.size + 16 ≤ 9223372036854775807) = true := decide_eq_true c15); (try have c15b2 : (9223372036854775807 < x4_6.size + 16) = False := eq_false (Nat.not_lt.2 c15)); (replace H := Option.bind_eq_some_iff.mp H); (obtain ⟨t243, A160, H⟩ := H); replace H : (if (x4_6 ++ (⟨#[67, 111, 110, 116, 101, 110, 116, 45, 76, 101, 110, 103, 116, 104, 58, 32]⟩ : ByteArray)).size + t243.size ≤ 9223372036854775807 then (if ((x4_6 ++ (⟨#[67, 111, 110, 116, 101, 110, 116, 45, 76, 101, 110, 103, 116, 104, 58, 32]⟩ : ByteArray)) ++ t243).size + 4 ≤ 9223372036854775807 then (if (((x4_6 ++ (⟨#[67, 111, 110, 116, 101, 110, 116, 45, 76, 101, 110, 103, 116, 104, 58, 32]⟩ : ByteArray)) ++ t243) ++ (⟨#[13, 10, 13, 10]⟩ : ByteArray)).size + a0_4.size ≤ 9223372036854775807 then ((pennantref22_ReadRequest.f kj6 ((((x4_6 ++ (⟨#[67, 111, 110, 116, 101, 110, 116, 45, 76, 101, 110, 103, 116, 104, 58, 32]⟩ : ByteArray)) ++ t243) ++ (⟨#[13, 10, 13, 10]⟩ : ByteArray)) ++ a0_4)).bind fun bt244 => (if bt244.2.2.2.2.2.2 = 0 then (if bt244.2.2.2.2.2.1 = (((((x4_6 ++ (⟨#[67, 111, 110, 116, 101, 110, 116, 45, 76, 101, 110, 103, 116, 104, 58, 32]⟩ : ByteArray)) ++ t243) ++ (⟨#[13, 10, 13, 10]⟩ : ByteArray)) ++ a0_4).size : Int) then (if (!(bt244.1.toList == a0_0.toList) || (!(bt244.2.1.toList == a0_1.toList) || (!(bt244.2.2.1.toList == a0_2.toList) || (!(bt244.2.2.2.1.toList == a0_3.toList) || (!(bt244.2.2.2.2.1.toList == a0_4.toList)))))) = true then (some ((⟨#[]⟩ : ByteArray), 1)) else (some ((((x4_6 ++ (⟨#[67, 111, 110, 116, 101, 110, 116, 45, 76, 101, 110, 103, 116, 104, 58, 32]⟩ : ByteArray)) ++ t243) ++ (⟨#[13, 10, 13, 10]⟩ : ByteArray)) ++ a0_4, 0))) else (some ((⟨#[]⟩ : ByteArray), 1))) else (some ((⟨#[]⟩ : ByteArray), 1)))) else (none)) else (none)) else (none)) = some (r1, r2) := H; (have A16 := zM A160); clear A160; by_cases c17 : (x4_6 ++ (⟨#[67, 111, 110, 116, 101, 110, 116, 45, 76, 101, 110, 103, 116, 104, 58, 32]⟩ : ByteArray)).size + t243.size ≤ 9223372036854775807
         ·
          rw [if_pos c17] at H; (have c17b3 : x4_6.size + 16 + t243.size ≤ 9223372036854775807 := by have h_ := c17; simp only [ByteArray.size_append] at h_; exact h_); (have c17b4 : (9223372036854775807 < x4_6.size + 16 + t243.size) = False := eq_false (Nat.not_lt.mpr c17b3)); (have c17b0 := eq_true c17); (have c17b1 : decide ((x4_6 ++ (⟨#[67, 111, 110, 116, 101, 110, 116, 45, 76, 101, 110, 103, 116, 104, 58, 32]⟩ : ByteArray)).size + t243.size ≤ 9223372036854775807) = true := decide_eq_true c17); (try have c17b2 : (9223372036854775807 < (x4_6 ++ (⟨#[67, 111, 110, 116, 101, 110, 116, 45, 76, 101, 110, 103, 116, 104, 58, 32]⟩ : ByteArray)).size + t243.size) = False := eq_false (Nat.not_lt.2 c17)); by_cases c18 : ((x4_6 ++ (⟨#[67, 111, 110, 116, 101, 110, 116, 45, 76, 101, 110, 103, 116, 104, 58, 32]⟩ : ByteArray)) ++ t243).size + 4 ≤ 9223372036854775807
          ·
           rw [if_pos c18] at H; (have c18b3 : x4_6.size + 16 + t243.size + 4 ≤ 9223372036854775807 := by have h_ := c18; simp only [ByteArray.size_append] at h_; exact h_); (have c18b4 : (9223372036854775807 < x4_6.size + 16 + t243.size + 4) = False := eq_false (Nat.not_lt.mpr c18b3)); (have c18b0 := eq_true c18); (have c18b1 : decide (((x4_6 ++ (⟨#[67, 111, 110, 116, 101, 110, 116, 45, 76, 101, 110, 103, 116, 104, 58, 32]⟩ : ByteArray)) ++ t243).size + 4 ≤ 9223372036854775807) = true := decide_eq_true c18); (try have c18b2 : (9223372036854775807 < ((x4_6 ++ (⟨#[67, 111, 110, 116, 101, 110, 116, 45, 76, 101, 110, 103, 116, 104, 58, 32]⟩ : ByteArray)) ++ t243).size + 4) = False := eq_false (Nat.not_lt.2 c18)); by_cases c19 : (((x4_6 ++ (⟨#[67, 111, 110, 116, 101, 110, 116, 45, 76, 101, 110, 103, 116, 104, 58, 32]⟩ : ByteArray)) ++ t243) ++ (⟨#[13, 10, 13, 10]⟩ : ByteArray)).size + a0_4.size ≤ 9223372036854775807
           ·
            rw [if_pos c19] at H; (have c19b3 : x4_6.size + 16 + t243.size + 4 + a0_4.size ≤ 9223372036854775807 := by have h_ := c19; simp only [ByteArray.size_append] at h_; exact h_); (have c19b4 : (9223372036854775807 < x4_6.size + 16 + t243.size + 4 + a0_4.size) = False := eq_false (Nat.not_lt.mpr c19b3)); (have c19b0 := eq_true c19); (have c19b1 : decide ((((x4_6 ++ (⟨#[67, 111, 110, 116, 101, 110, 116, 45, 76, 101, 110, 103, 116, 104, 58, 32]⟩ : ByteArray)) ++ t243) ++ (⟨#[13, 10, 13, 10]⟩ : ByteArray)).size + a0_4.size ≤ 9223372036854775807) = true := decide_eq_true c19); (try have c19b2 : (9223372036854775807 < (((x4_6 ++ (⟨#[67, 111, 110, 116, 101, 110, 116, 45, 76, 101, 110, 103, 116, 104, 58, 32]⟩ : ByteArray)) ++ t243) ++ (⟨#[13, 10, 13, 10]⟩ : ByteArray)).size + a0_4.size) = False := eq_false (Nat.not_lt.2 c19)); (replace H := Option.bind_eq_some_iff.mp H); (obtain ⟨⟨t244, t245, t246, t247, t248, t249, t250⟩, A200, H⟩ := H); replace H : (if t250 = 0 then (if t249 = (((((x4_6 ++ (⟨#[67, 111, 110, 116, 101, 110, 116, 45, 76, 101, 110, 103, 116, 104, 58, 32]⟩ : ByteArray)) ++ t243) ++ (⟨#[13, 10, 13, 10]⟩ : ByteArray)) ++ a0_4).size : Int) then (if (!(t244.toList == a0_0.toList) || (!(t245.toList == a0_1.toList) || (!(t246.toList == a0_2.toList) || (!(t247.toList == a0_3.toList) || (!(t248.toList == a0_4.toList)))))) = true then (some ((⟨#[]⟩ : ByteArray), 1)) else (some ((((x4_6 ++ (⟨#[67, 111, 110, 116, 101, 110, 116, 45, 76, 101, 110, 103, 116, 104, 58, 32]⟩ : ByteArray)) ++ t243) ++ (⟨#[13, 10, 13, 10]⟩ : ByteArray)) ++ a0_4, 0))) else (some ((⟨#[]⟩ : ByteArray), 1))) else (some ((⟨#[]⟩ : ByteArray), 1))) = some (r1, r2) := H; (have A20 := zM A200); clear A200; by_cases c21 : t250 = 0
            ·
             rw [if_pos c21] at H; (have c21b0 : (t250 == 0) = true := beq_iff_eq.mpr c21); (have c21b1 : (t250 != 0) = false := bne_eq_false_iff_eq.mpr c21); clear c21; by_cases c22 : t249 = (((((x4_6 ++ (⟨#[67, 111, 110, 116, 101, 110, 116, 45, 76, 101, 110, 103, 116, 104, 58, 32]⟩ : ByteArray)) ++ t243) ++ (⟨#[13, 10, 13, 10]⟩ : ByteArray)) ++ a0_4).size : Int)
             ·
              rw [if_pos c22] at H; (have e_c22_ : ((((((x4_6 ++ (⟨#[67, 111, 110, 116, 101, 110, 116, 45, 76, 101, 110, 103, 116, 104, 58, 32]⟩ : ByteArray)) ++ t243) ++ (⟨#[13, 10, 13, 10]⟩ : ByteArray)) ++ a0_4)).size : Int) = (x4_6.size : Int) + 16 + (t243.size : Int) + 4 + (a0_4.size : Int) := by simp only [ByteArray.size_append]; have h0 : (⟨#[67, 111, 110, 116, 101, 110, 116, 45, 76, 101, 110, 103, 116, 104, 58, 32]⟩ : ByteArray).size = 16 := rfl; have h1 : (⟨#[13, 10, 13, 10]⟩ : ByteArray).size = 4 := rfl; omega); (have c22b9 : (t249 = (x4_6.size : Int) + 16 + (t243.size : Int) + 4 + (a0_4.size : Int)) = True := eq_true (c22.trans e_c22_)); (have c22b8 : (t249 != (x4_6.size : Int) + 16 + (t243.size : Int) + 4 + (a0_4.size : Int)) = false := bne_eq_false_iff_eq.mpr (c22.trans e_c22_)); clear e_c22_; (have c22b0 : (t249 == (((((x4_6 ++ (⟨#[67, 111, 110, 116, 101, 110, 116, 45, 76, 101, 110, 103, 116, 104, 58, 32]⟩ : ByteArray)) ++ t243) ++ (⟨#[13, 10, 13, 10]⟩ : ByteArray)) ++ a0_4).size : Int)) = true := beq_iff_eq.mpr c22); (have c22b1 : (t249 != (((((x4_6 ++ (⟨#[67, 111, 110, 116, 101, 110, 116, 45, 76, 101, 110, 103, 116, 104, 58, 32]⟩ : ByteArray)) ++ t243) ++ (⟨#[13, 10, 13, 10]⟩ : ByteArray)) ++ a0_4).size : Int)) = false := bne_eq_false_iff_eq.mpr c22); clear c22; by_cases c23 : (!(t244.toList == a0_0.toList) || (!(t245.toList == a0_1.toList) || (!(t246.toList == a0_2.toList) || (!(t247.toList == a0_3.toList) || (!(t248.toList == a0_4.toList)))))) = true
              ·
               rw [if_pos c23] at H; (have c23b0 : (!(t244.toList == a0_0.toList) || (!(t245.toList == a0_1.toList) || (!(t246.toList == a0_2.toList) || (!(t247.toList == a0_3.toList) || (!(t248.toList == a0_4.toList)))))) = true := c23); clear c23; simp only [Option.some.injEq, Prod.mk.injEq] at H; (obtain ⟨rfl, rfl⟩ := H); (try go_wp2); (have n0_ := zM (blk_drew BK242.out)); (have n1_ := zM (below_drew1 HB.out)); clear BK242; clear HB; (have BK242 := n0_); (have HB := n1_); clear n0_ n1_; (refine start_ (n := 12) (S := fun w' => w'.cell? ⟨gb242, 0, none⟩ = some (.string a0_0) ∧ w'.cell? ⟨gb242, 1, none⟩ = some (.string a0_1) ∧ w'.cell? ⟨gb242, 2, none⟩ = some (.string a0_2) ∧ w'.cell? ⟨gb242, 3, none⟩ = some (.string a0_3) ∧ w'.cell? ⟨gb242, 4, none⟩ = some (.string a0_4)) (ds := []) #[false, false, false, false, false, false, false, false, false, false, false, false] (by kernel_rfl) rfl rfl ⟨(blk_cell BK242.out 0).trans rfl, (blk_cell BK242.out 1).trans rfl, (blk_cell BK242.out 2).trans rfl, (blk_cell BK242.out 3).trans rfl, (blk_cell BK242.out 4).trans rfl⟩ (fun hHeld => ?_); refine with_tabW pennantref22_WriteRequest.tab4 pennantref22_WriteRequest.bits4 (fun HT_ HW_ => ?_)); (generalize wc.drew = w24 at BK242 HB hHeld ⊢); (refine pure_ (i := 0) (N := some 28) (v := ?_) (a' := ?_) #[true, false, false, false, false, false, false, false, false, false, false, false] rfl rfl (any_of HT_.out (by kernel_rfl)) (fun _ _ _ h => h) (Or.inl ⟨by rfl, ?_⟩) ?_ ?_); rotate_left
               ·
                intro w'; go_simp; with_reducible rfl
               rotate_left
               ·
                simp only [Act.put, zS, zI]; rfl
               (refine pure_ (i := 1) (N := some 29) (v := ?_) (a' := ?_) #[true, true, false, false, false, false, false, false, false, false, false, false] rfl rfl (any_of HT_.out (by kernel_rfl)) (fun _ _ _ h => h) (Or.inl ⟨by rfl, ?_⟩) ?_ ?_); rotate_left
               ·
                intro w'; go_simp; with_reducible rfl
               rotate_left
               ·
                simp only [Act.put, zS, zI]; rfl
               (refine pure_ (i := 2) (N := some 30) (v := ?_) (a' := ?_) #[true, true, true, false, false, false, false, false, false, false, false, false] rfl rfl (any_of HT_.out (by kernel_rfl)) (fun _ _ _ h => h) (Or.inl ⟨by rfl, ?_⟩) ?_ ?_); rotate_left
               ·
                intro w'; go_simp; with_reducible rfl
               rotate_left
               ·
                simp only [Act.put, zS, zI]; rfl
               (refine pure_ (i := 8) (N := some 36) (v := ?_) (a' := ?_) #[true, true, true, false, false, false, false, false, true, false, false, false] rfl rfl (any_of HT_.out (by kernel_rfl)) (fun _ _ _ h => h) (Or.inl ⟨by rfl, ?_⟩) ?_ ?_); rotate_left
               ·
                intro w'; go_simp; with_reducible rfl
               rotate_left
               ·
                simp only [Act.put, zS, zI]; rfl
               (refine take_ (i := 3) (N := some 31) (v := ?_) (a' := ?_) #[true, true, true, true, false, false, false, false, true, false, false, false] rfl rfl (take_ofW HT_.out HW_.out (by kernel_rfl)) (fun _ _ _ h => h) (Or.inl ⟨by rfl, ?_⟩) hHeld ?_ ?_); rotate_left
               ·
                rintro w' ⟨s0, s1, s2, s3, s4⟩; go_simp; with_reducible rfl
               rotate_left
               ·
                simp only [Act.put, zS, zI]; rfl
               (refine pure_ (i := 4) (N := some 32) (v := ?_) (a' := ?_) #[true, true, true, true, true, false, false, false, true, false, false, false] rfl rfl (any_of HT_.out (by kernel_rfl)) (fun _ _ _ h => h) (Or.inl ⟨by rfl, ?_⟩) ?_ ?_); rotate_left
               ·
                intro w'; go_simp; with_reducible rfl
               rotate_left
               ·
                simp only [Act.put, zS, zI]; rfl
               (refine take_ (i := 9) (N := some 37) (v := ?_) (a' := ?_) #[true, true, true, true, true, false, false, false, true, true, false, false] rfl rfl (take_ofW HT_.out HW_.out (by kernel_rfl)) (fun _ _ _ h => h) (Or.inl ⟨by rfl, ?_⟩) hHeld ?_ ?_); rotate_left
               ·
                rintro w' ⟨s0, s1, s2, s3, s4⟩; go_simp; with_reducible rfl
               rotate_left
               ·
                simp only [Act.put, zS, zI]; rfl
               (refine one_ (i := 5) (N := some 33) #[true, true, true, true, true, true, false, false, true, true, false, false] rfl rfl (one_of HT_.out (by kernel_rfl)) (by decide) (fun K hK => ?_)); (refine goes_ Tryz.func30 (by kernel_rfl) rfl #[.int .i64 (a0_4.size : Int)] (by rfl) rfl rfl (by (try simp only [zL]); first | done | rfl) ?_); (with_reducible refine (pennantref08_Digits.calls kj6 (a0_4.size : Int) t243 _ A16.out).mono ?_); rintro e w25 ⟨rfl, hb⟩; (refine ⟨_, rfl, ?_⟩); (have n0_ := zM (blk_below (g := gb242) (o := .cells #[.string a0_0, .string a0_1, .string a0_2, .string a0_3, .string a0_4] 24 (0, 0)) (by (with_reducible repeat (first | refine blk_drewN ?_ _ | refine blk_drew ?_ | refine blk_alloc ?_ _)); exact BK242.out) hb)); (have n1_ := zM (below_step (by repeat (first | (with_reducible first | exact HB.out | apply below_alloc | apply pw_below_drewN | apply below_drew1 | refine below_set ?_ GE242.out) | exact HB.out)) hb)); clear BK242; clear HB; (have BK242 := n0_); (have HB := n1_); clear n0_ n1_; (try clear hb); (try clear hb2); (try clear hk); (try clear hi); (refine hK.out _ _ ⟨(blk_cell BK242.out 0).trans rfl, (blk_cell BK242.out 1).trans rfl, (blk_cell BK242.out 2).trans rfl, (blk_cell BK242.out 3).trans rfl, (blk_cell BK242.out 4).trans rfl⟩ (fun hHeld => ?_)); clear hK K; (refine norm_ (a' := ?_) ?_ ?_); rotate_left
               ·
                (show Act.put _ (some 33) _ = _); simp only [Act.put, zS, zI]; rfl
               (refine pure_ (i := 6) (N := some 34) (v := ?_) (a' := ?_) #[true, true, true, true, true, true, true, false, true, true, false, false] rfl rfl (any_of HT_.out (by kernel_rfl)) (fun _ _ _ h => h) (Or.inl ⟨by rfl, ?_⟩) ?_ ?_); rotate_left
               ·
                intro w'; go_simp; with_reducible rfl
               rotate_left
               ·
                simp only [Act.put, zS, zI]; rfl
               (refine pure_ (i := 7) (N := some 35) (v := ?_) (a' := ?_) #[true, true, true, true, true, true, true, true, true, true, false, false] rfl rfl (any_of HT_.out (by kernel_rfl)) (fun _ _ _ h => h) (Or.inl ⟨by rfl, ?_⟩) ?_ ?_); rotate_left
               ·
                intro w'; go_simp; with_reducible rfl
               rotate_left
               ·
                simp only [Act.put, zS, zI]; rfl
               (refine pure_ (i := 10) (N := some 38) (v := ?_) (a' := ?_) #[true, true, true, true, true, true, true, true, true, true, true, false] rfl rfl (any_of HT_.out (by kernel_rfl)) (fun _ _ _ h => h) (Or.inl ⟨by rfl, ?_⟩) ?_ ?_); rotate_left
               ·
                intro w'; go_simp; with_reducible rfl
               rotate_left
               ·
                simp only [Act.put, zS, zI]; rfl
               (refine pure_ (i := 11) (N := some 4) (v := ?_) (a' := ?_) #[true, true, true, true, true, true, true, true, true, true, true, true] rfl rfl (any_of HT_.out (by kernel_rfl)) (fun _ _ _ h => h) (Or.inl ⟨by rfl, ?_⟩) ?_ ?_); rotate_left
               ·
                intro w'; go_simp; with_reducible rfl
               rotate_left
               ·
                simp only [Act.put, zS, zI]; rfl
               (refine done_ (done_of HT_.out (by kernel_rfl)) ?_); (try go_wp2_with (first | ((with_reducible refine gate_callee (f := 11) rfl ?_); refine goesL_ (some 41) rfl rfl Tryz.func11 (by kernel_rfl) rfl #[.string ((((x4_6 ++ (⟨#[67, 111, 110, 116, 101, 110, 116, 45, 76, 101, 110, 103, 116, 104, 58, 32]⟩ : ByteArray)) ++ t243) ++ (⟨#[13, 10, 13, 10]⟩ : ByteArray)) ++ a0_4)] rfl (by (try simp only [zL]); first | done | rfl) ?_; (with_reducible refine (pennantref22_ReadRequest.calls kj6 ((((x4_6 ++ (⟨#[67, 111, 110, 116, 101, 110, 116, 45, 76, 101, 110, 103, 116, 104, 58, 32]⟩ : ByteArray)) ++ t243) ++ (⟨#[13, 10, 13, 10]⟩ : ByteArray)) ++ a0_4) t244 t245 t246 t247 t248 t249 t250 _ A20.out).mono ?_); rintro e w26 ⟨rfl, hb⟩; refine ⟨_, rfl, ?_⟩; have n0_ := zM (blk_below (g := gb242) (o := .cells #[.string a0_0, .string a0_1, .string a0_2, .string a0_3, .string a0_4] 24 (0, 0)) (by (with_reducible repeat (first | refine blk_drewN ?_ _ | refine blk_drew ?_ | refine blk_alloc ?_ _)); exact BK242.out) hb); have n1_ := zM (below_step (by repeat (first | (with_reducible first | exact HB.out | apply below_alloc | apply pw_below_drewN | apply below_drew1 | refine below_set ?_ GE242.out) | exact HB.out)) hb); clear BK242; clear HB; have BK242 := n0_; have HB := n1_; clear n0_ n1_; (try clear hb); (try clear hb2); (try clear hk); (try clear hi)) | ((with_reducible refine gate_dst (N := 5) rfl ?_); (try (refine gate_guard (by rfl) ?_; dsimp only)); refine box_event ?hg (N := 5) ?hd (cs := #[.string (⟨#[]⟩ : ByteArray), .string (⟨#[]⟩ : ByteArray), .string (⟨#[]⟩ : ByteArray), .string (⟨#[]⟩ : ByteArray), .string (⟨#[]⟩ : ByteArray)]) (t := 24) ?hr ?_; (case hd => rfl); (case hg => rfl); (case hr => first | (go_simp; done) | (go_simp; rfl)); intro gb251 hg w27 hbox hb; have n0_ := zM (blk_below (g := gb242) (o := .cells #[.string a0_0, .string a0_1, .string a0_2, .string a0_3, .string a0_4] 24 (0, 0)) (by (with_reducible repeat (first | refine blk_drewN ?_ _ | refine blk_drew ?_ | refine blk_alloc ?_ _)); exact BK242.out) hb); have n1_ := zM (below_step (by repeat (first | (with_reducible first | exact HB.out | apply below_alloc | apply pw_below_drewN | apply below_drew1 | refine below_set ?_ GE242.out) | exact HB.out)) hb); have n2_ := zM (hbox); have n3_ := zM ((by rw [hg]; exact (below_size (by repeat (first | (with_reducible first | exact HB.out | apply below_alloc | apply pw_below_drewN | apply below_drew1 | refine below_set ?_ GE242.out) | exact HB.out))) : w.heap.size ≤ gb251)); have n4_ := zM ((by rw [hg]; exact (below_size (by repeat (first | (with_reducible first | exact HB.out | apply below_alloc | apply pw_below_drewN | apply below_drew1 | refine below_set ?_ GE242.out) | exact HB.out))) : w.heap.size ≤ gb251)); have n5_ := zM ((by rw [hg]; exact Nat.ne_of_lt (blk_lt (g := gb242) (o := .cells #[.string a0_0, .string a0_1, .string a0_2, .string a0_3, .string a0_4] 24 (0, 0)) (by (with_reducible repeat (first | refine blk_drewN ?_ _ | refine blk_drew ?_ | refine blk_alloc ?_ _)); exact BK242.out)) : gb242 ≠ gb251)); have n6_ := zM ((by rw [hg]; exact Nat.ne_of_gt (blk_lt (g := gb242) (o := .cells #[.string a0_0, .string a0_1, .string a0_2, .string a0_3, .string a0_4] 24 (0, 0)) (by (with_reducible repeat (first | refine blk_drewN ?_ _ | refine blk_drew ?_ | refine blk_alloc ?_ _)); exact BK242.out)) : gb251 ≠ gb242)); clear BK242; clear HB; have BK242 := n0_; have HB := n1_; have BK251 := n2_; have GW251 := n3_; have GE251 := n4_; have NB242_251 := n5_; have NB251_242 := n6_; clear n0_ n1_ n2_ n3_ n4_ n5_ n6_; clear hb hbox hg; have hnb28 := NB251_242.out; have hnc28 := NB242_251.out; have hcz29_0 : w27.cell? ⟨gb251, 0, none⟩ = some (.string (⟨#[]⟩ : ByteArray)) := (blk_cell BK251.out 0).trans rfl; have hcz29_1 : w27.cell? ⟨gb251, 1, none⟩ = some (.string (⟨#[]⟩ : ByteArray)) := (blk_cell BK251.out 1).trans rfl; have hcz29_2 : w27.cell? ⟨gb251, 2, none⟩ = some (.string (⟨#[]⟩ : ByteArray)) := (blk_cell BK251.out 2).trans rfl; have hcz29_3 : w27.cell? ⟨gb251, 3, none⟩ = some (.string (⟨#[]⟩ : ByteArray)) := (blk_cell BK251.out 3).trans rfl; have hcz29_4 : w27.cell? ⟨gb251, 4, none⟩ = some (.string (⟨#[]⟩ : ByteArray)) := (blk_cell BK251.out 4).trans rfl; have hfz29_0 := blk_frozen BK251.out 0; have hfz29_1 := blk_frozen BK251.out 1; have hfz29_2 := blk_frozen BK251.out 2; have hfz29_3 := blk_frozen BK251.out 3; have hfz29_4 := blk_frozen BK251.out 4; have hcz30_0 : w27.cell? ⟨gb242, 0, none⟩ = some (.string a0_0) := (blk_cell BK242.out 0).trans rfl; have hcz30_1 : w27.cell? ⟨gb242, 1, none⟩ = some (.string a0_1) := (blk_cell BK242.out 1).trans rfl; have hcz30_2 : w27.cell? ⟨gb242, 2, none⟩ = some (.string a0_2) := (blk_cell BK242.out 2).trans rfl; have hcz30_3 : w27.cell? ⟨gb242, 3, none⟩ = some (.string a0_3) := (blk_cell BK242.out 3).trans rfl; have hcz30_4 : w27.cell? ⟨gb242, 4, none⟩ = some (.string a0_4) := (blk_cell BK242.out 4).trans rfl; have hfz30_0 := blk_frozen BK242.out 0; have hfz30_1 := blk_frozen BK242.out 1; have hfz30_2 := blk_frozen BK242.out 2; have hfz30_3 := blk_frozen BK242.out 3; have hfz30_4 := blk_frozen BK242.out 4))); (go_ret2); exact ⟨by first | rfl | (simp [errW_none, errW_some] <;> rfl) | (simp [*, errW_none, errW_some] <;> rfl), by repeat (first | (with_reducible first | exact HB.out | apply below_alloc | apply pw_below_drewN | apply below_drew1 | refine below_set ?_ GE242.out | refine below_set ?_ GE251.out) | exact HB.out)⟩
              ·
               rw [if_neg c23] at H; (have c23b0 : (!(t244.toList == a0_0.toList) || (!(t245.toList == a0_1.toList) || (!(t246.toList == a0_2.toList) || (!(t247.toList == a0_3.toList) || (!(t248.toList == a0_4.toList)))))) = false := by simpa using c23); clear c23; simp only [Option.some.injEq, Prod.mk.injEq] at H; (obtain ⟨rfl, rfl⟩ := H); (try go_wp2); (have n0_ := zM (blk_drew BK242.out)); (have n1_ := zM (below_drew1 HB.out)); clear BK242; clear HB; (have BK242 := n0_); (have HB := n1_); clear n0_ n1_; (refine start_ (n := 12) (S := fun w' => w'.cell? ⟨gb242, 0, none⟩ = some (.string a0_0) ∧ w'.cell? ⟨gb242, 1, none⟩ = some (.string a0_1) ∧ w'.cell? ⟨gb242, 2, none⟩ = some (.string a0_2) ∧ w'.cell? ⟨gb242, 3, none⟩ = some (.string a0_3) ∧ w'.cell? ⟨gb242, 4, none⟩ = some (.string a0_4)) (ds := []) #[false, false, false, false, false, false, false, false, false, false, false, false] (by kernel_rfl) rfl rfl ⟨(blk_cell BK242.out 0).trans rfl, (blk_cell BK242.out 1).trans rfl, (blk_cell BK242.out 2).trans rfl, (blk_cell BK242.out 3).trans rfl, (blk_cell BK242.out 4).trans rfl⟩ (fun hHeld => ?_); refine with_tabW pennantref22_WriteRequest.tab4 pennantref22_WriteRequest.bits4 (fun HT_ HW_ => ?_)); (generalize wc.drew = w31 at BK242 HB hHeld ⊢); (refine pure_ (i := 0) (N := some 28) (v := ?_) (a' := ?_) #[true, false, false, false, false, false, false, false, false, false, false, false] rfl rfl (any_of HT_.out (by kernel_rfl)) (fun _ _ _ h => h) (Or.inl ⟨by rfl, ?_⟩) ?_ ?_); rotate_left
               ·
                intro w'; go_simp; with_reducible rfl
               rotate_left
               ·
                simp only [Act.put, zS, zI]; rfl
               (refine pure_ (i := 1) (N := some 29) (v := ?_) (a' := ?_) #[true, true, false, false, false, false, false, false, false, false, false, false] rfl rfl (any_of HT_.out (by kernel_rfl)) (fun _ _ _ h => h) (Or.inl ⟨by rfl, ?_⟩) ?_ ?_); rotate_left
               ·
                intro w'; go_simp; with_reducible rfl
               rotate_left
               ·
                simp only [Act.put, zS, zI]; rfl
               (refine pure_ (i := 2) (N := some 30) (v := ?_) (a' := ?_) #[true, true, true, false, false, false, false, false, false, false, false, false] rfl rfl (any_of HT_.out (by kernel_rfl)) (fun _ _ _ h => h) (Or.inl ⟨by rfl, ?_⟩) ?_ ?_); rotate_left
               ·
                intro w'; go_simp; with_reducible rfl
               rotate_left
               ·
                simp only [Act.put, zS, zI]; rfl
               (refine pure_ (i := 8) (N := some 36) (v := ?_) (a' := ?_) #[true, true, true, false, false, false, false, false, true, false, false, false] rfl rfl (any_of HT_.out (by kernel_rfl)) (fun _ _ _ h => h) (Or.inl ⟨by rfl, ?_⟩) ?_ ?_); rotate_left
               ·
                intro w'; go_simp; with_reducible rfl
               rotate_left
               ·
                simp only [Act.put, zS, zI]; rfl
               (refine take_ (i := 3) (N := some 31) (v := ?_) (a' := ?_) #[true, true, true, true, false, false, false, false, true, false, false, false] rfl rfl (take_ofW HT_.out HW_.out (by kernel_rfl)) (fun _ _ _ h => h) (Or.inl ⟨by rfl, ?_⟩) hHeld ?_ ?_); rotate_left
               ·
                rintro w' ⟨s0, s1, s2, s3, s4⟩; go_simp; with_reducible rfl
               rotate_left
               ·
                simp only [Act.put, zS, zI]; rfl
               (refine pure_ (i := 4) (N := some 32) (v := ?_) (a' := ?_) #[true, true, true, true, true, false, false, false, true, false, false, false] rfl rfl (any_of HT_.out (by kernel_rfl)) (fun _ _ _ h => h) (Or.inl ⟨by rfl, ?_⟩) ?_ ?_); rotate_left
               ·
                intro w'; go_simp; with_reducible rfl
               rotate_left
               ·
                simp only [Act.put, zS, zI]; rfl
               (refine take_ (i := 9) (N := some 37) (v := ?_) (a' := ?_) #[true, true, true, true, true, false, false, false, true, true, false, false] rfl rfl (take_ofW HT_.out HW_.out (by kernel_rfl)) (fun _ _ _ h => h) (Or.inl ⟨by rfl, ?_⟩) hHeld ?_ ?_); rotate_left
               ·
                rintro w' ⟨s0, s1, s2, s3, s4⟩; go_simp; with_reducible rfl
               rotate_left
               ·
                simp only [Act.put, zS, zI]; rfl
               (refine one_ (i := 5) (N := some 33) #[true, true, true, true, true, true, false, false, true, true, false, false] rfl rfl (one_of HT_.out (by kernel_rfl)) (by decide) (fun K hK => ?_)); (refine goes_ Tryz.func30 (by kernel_rfl) rfl #[.int .i64 (a0_4.size : Int)] (by rfl) rfl rfl (by (try simp only [zL]); first | done | rfl) ?_); (with_reducible refine (pennantref08_Digits.calls kj6 (a0_4.size : Int) t243 _ A16.out).mono ?_); rintro e w32 ⟨rfl, hb⟩; (refine ⟨_, rfl, ?_⟩); (have n0_ := zM (blk_below (g := gb242) (o := .cells #[.string a0_0, .string a0_1, .string a0_2, .string a0_3, .string a0_4] 24 (0, 0)) (by (with_reducible repeat (first | refine blk_drewN ?_ _ | refine blk_drew ?_ | refine blk_alloc ?_ _)); exact BK242.out) hb)); (have n1_ := zM (below_step (by repeat (first | (with_reducible first | exact HB.out | apply below_alloc | apply pw_below_drewN | apply below_drew1 | refine below_set ?_ GE242.out) | exact HB.out)) hb)); clear BK242; clear HB; (have BK242 := n0_); (have HB := n1_); clear n0_ n1_; (try clear hb); (try clear hb2); (try clear hk); (try clear hi); (refine hK.out _ _ ⟨(blk_cell BK242.out 0).trans rfl, (blk_cell BK242.out 1).trans rfl, (blk_cell BK242.out 2).trans rfl, (blk_cell BK242.out 3).trans rfl, (blk_cell BK242.out 4).trans rfl⟩ (fun hHeld => ?_)); clear hK K; (refine norm_ (a' := ?_) ?_ ?_); rotate_left
               ·
                (show Act.put _ (some 33) _ = _); simp only [Act.put, zS, zI]; rfl
               (refine pure_ (i := 6) (N := some 34) (v := ?_) (a' := ?_) #[true, true, true, true, true, true, true, false, true, true, false, false] rfl rfl (any_of HT_.out (by kernel_rfl)) (fun _ _ _ h => h) (Or.inl ⟨by rfl, ?_⟩) ?_ ?_); rotate_left
               ·
                intro w'; go_simp; with_reducible rfl
               rotate_left
               ·
                simp only [Act.put, zS, zI]; rfl
               (refine pure_ (i := 7) (N := some 35) (v := ?_) (a' := ?_) #[true, true, true, true, true, true, true, true, true, true, false, false] rfl rfl (any_of HT_.out (by kernel_rfl)) (fun _ _ _ h => h) (Or.inl ⟨by rfl, ?_⟩) ?_ ?_); rotate_left
               ·
                intro w'; go_simp; with_reducible rfl
               rotate_left
               ·
                simp only [Act.put, zS, zI]; rfl
               (refine pure_ (i := 10) (N := some 38) (v := ?_) (a' := ?_) #[true, true, true, true, true, true, true, true, true, true, true, false] rfl rfl (any_of HT_.out (by kernel_rfl)) (fun _ _ _ h => h) (Or.inl ⟨by rfl, ?_⟩) ?_ ?_); rotate_left
               ·
                intro w'; go_simp; with_reducible rfl
               rotate_left
               ·
                simp only [Act.put, zS, zI]; rfl
               (refine pure_ (i := 11) (N := some 4) (v := ?_) (a' := ?_) #[true, true, true, true, true, true, true, true, true, true, true, true] rfl rfl (any_of HT_.out (by kernel_rfl)) (fun _ _ _ h => h) (Or.inl ⟨by rfl, ?_⟩) ?_ ?_); rotate_left
               ·
                intro w'; go_simp; with_reducible rfl
               rotate_left
               ·
                simp only [Act.put, zS, zI]; rfl
               (refine done_ (done_of HT_.out (by kernel_rfl)) ?_); (try go_wp2_with (first | ((with_reducible refine gate_callee (f := 11) rfl ?_); refine goesL_ (some 41) rfl rfl Tryz.func11 (by kernel_rfl) rfl #[.string ((((x4_6 ++ (⟨#[67, 111, 110, 116, 101, 110, 116, 45, 76, 101, 110, 103, 116, 104, 58, 32]⟩ : ByteArray)) ++ t243) ++ (⟨#[13, 10, 13, 10]⟩ : ByteArray)) ++ a0_4)] rfl (by (try simp only [zL]); first | done | rfl) ?_; (with_reducible refine (pennantref22_ReadRequest.calls kj6 ((((x4_6 ++ (⟨#[67, 111, 110, 116, 101, 110, 116, 45, 76, 101, 110, 103, 116, 104, 58, 32]⟩ : ByteArray)) ++ t243) ++ (⟨#[13, 10, 13, 10]⟩ : ByteArray)) ++ a0_4) t244 t245 t246 t247 t248 t249 t250 _ A20.out).mono ?_); rintro e w33 ⟨rfl, hb⟩; refine ⟨_, rfl, ?_⟩; have n0_ := zM (blk_below (g := gb242) (o := .cells #[.string a0_0, .string a0_1, .string a0_2, .string a0_3, .string a0_4] 24 (0, 0)) (by (with_reducible repeat (first | refine blk_drewN ?_ _ | refine blk_drew ?_ | refine blk_alloc ?_ _)); exact BK242.out) hb); have n1_ := zM (below_step (by repeat (first | (with_reducible first | exact HB.out | apply below_alloc | apply pw_below_drewN | apply below_drew1 | refine below_set ?_ GE242.out) | exact HB.out)) hb); clear BK242; clear HB; have BK242 := n0_; have HB := n1_; clear n0_ n1_; (try clear hb); (try clear hb2); (try clear hk); (try clear hi)) | ((with_reducible refine gate_dst (N := 5) rfl ?_); (try (refine gate_guard (by rfl) ?_; dsimp only)); refine box_event ?hg (N := 5) ?hd (cs := #[.string (⟨#[]⟩ : ByteArray), .string (⟨#[]⟩ : ByteArray), .string (⟨#[]⟩ : ByteArray), .string (⟨#[]⟩ : ByteArray), .string (⟨#[]⟩ : ByteArray)]) (t := 24) ?hr ?_; (case hd => rfl); (case hg => rfl); (case hr => first | (go_simp; done) | (go_simp; rfl)); intro gb251 hg w34 hbox hb; have n0_ := zM (blk_below (g := gb242) (o := .cells #[.string a0_0, .string a0_1, .string a0_2, .string a0_3, .string a0_4] 24 (0, 0)) (by (with_reducible repeat (first | refine blk_drewN ?_ _ | refine blk_drew ?_ | refine blk_alloc ?_ _)); exact BK242.out) hb); have n1_ := zM (below_step (by repeat (first | (with_reducible first | exact HB.out | apply below_alloc | apply pw_below_drewN | apply below_drew1 | refine below_set ?_ GE242.out) | exact HB.out)) hb); have n2_ := zM (hbox); have n3_ := zM ((by rw [hg]; exact (below_size (by repeat (first | (with_reducible first | exact HB.out | apply below_alloc | apply pw_below_drewN | apply below_drew1 | refine below_set ?_ GE242.out) | exact HB.out))) : w.heap.size ≤ gb251)); have n4_ := zM ((by rw [hg]; exact (below_size (by repeat (first | (with_reducible first | exact HB.out | apply below_alloc | apply pw_below_drewN | apply below_drew1 | refine below_set ?_ GE242.out) | exact HB.out))) : w.heap.size ≤ gb251)); have n5_ := zM ((by rw [hg]; exact Nat.ne_of_lt (blk_lt (g := gb242) (o := .cells #[.string a0_0, .string a0_1, .string a0_2, .string a0_3, .string a0_4] 24 (0, 0)) (by (with_reducible repeat (first | refine blk_drewN ?_ _ | refine blk_drew ?_ | refine blk_alloc ?_ _)); exact BK242.out)) : gb242 ≠ gb251)); have n6_ := zM ((by rw [hg]; exact Nat.ne_of_gt (blk_lt (g := gb242) (o := .cells #[.string a0_0, .string a0_1, .string a0_2, .string a0_3, .string a0_4] 24 (0, 0)) (by (with_reducible repeat (first | refine blk_drewN ?_ _ | refine blk_drew ?_ | refine blk_alloc ?_ _)); exact BK242.out)) : gb251 ≠ gb242)); clear BK242; clear HB; have BK242 := n0_; have HB := n1_; have BK251 := n2_; have GW251 := n3_; have GE251 := n4_; have NB242_251 := n5_; have NB251_242 := n6_; clear n0_ n1_ n2_ n3_ n4_ n5_ n6_; clear hb hbox hg; have hnb35 := NB251_242.out; have hnc35 := NB242_251.out; have hcz36_0 : w34.cell? ⟨gb251, 0, none⟩ = some (.string (⟨#[]⟩ : ByteArray)) := (blk_cell BK251.out 0).trans rfl; have hcz36_1 : w34.cell? ⟨gb251, 1, none⟩ = some (.string (⟨#[]⟩ : ByteArray)) := (blk_cell BK251.out 1).trans rfl; have hcz36_2 : w34.cell? ⟨gb251, 2, none⟩ = some (.string (⟨#[]⟩ : ByteArray)) := (blk_cell BK251.out 2).trans rfl; have hcz36_3 : w34.cell? ⟨gb251, 3, none⟩ = some (.string (⟨#[]⟩ : ByteArray)) := (blk_cell BK251.out 3).trans rfl; have hcz36_4 : w34.cell? ⟨gb251, 4, none⟩ = some (.string (⟨#[]⟩ : ByteArray)) := (blk_cell BK251.out 4).trans rfl; have hfz36_0 := blk_frozen BK251.out 0; have hfz36_1 := blk_frozen BK251.out 1; have hfz36_2 := blk_frozen BK251.out 2; have hfz36_3 := blk_frozen BK251.out 3; have hfz36_4 := blk_frozen BK251.out 4; have hcz37_0 : w34.cell? ⟨gb242, 0, none⟩ = some (.string a0_0) := (blk_cell BK242.out 0).trans rfl; have hcz37_1 : w34.cell? ⟨gb242, 1, none⟩ = some (.string a0_1) := (blk_cell BK242.out 1).trans rfl; have hcz37_2 : w34.cell? ⟨gb242, 2, none⟩ = some (.string a0_2) := (blk_cell BK242.out 2).trans rfl; have hcz37_3 : w34.cell? ⟨gb242, 3, none⟩ = some (.string a0_3) := (blk_cell BK242.out 3).trans rfl; have hcz37_4 : w34.cell? ⟨gb242, 4, none⟩ = some (.string a0_4) := (blk_cell BK242.out 4).trans rfl; have hfz37_0 := blk_frozen BK242.out 0; have hfz37_1 := blk_frozen BK242.out 1; have hfz37_2 := blk_frozen BK242.out 2; have hfz37_3 := blk_frozen BK242.out 3; have hfz37_4 := blk_frozen BK242.out 4))); (go_ret2); exact ⟨by first | rfl | (simp [errW_none, errW_some] <;> rfl) | (simp [*, errW_none, errW_some] <;> rfl), by repeat (first | (with_reducible first | exact HB.out | apply below_alloc | apply pw_below_drewN | apply below_drew1 | refine below_set ?_ GE242.out | refine below_set ?_ GE251.out) | exact HB.out)⟩
             ·
              rw [if_neg c22] at H; (have e_c22_ : ((((((x4_6 ++ (⟨#[67, 111, 110, 116, 101, 110, 116, 45, 76, 101, 110, 103, 116, 104, 58, 32]⟩ : ByteArray)) ++ t243) ++ (⟨#[13, 10, 13, 10]⟩ : ByteArray)) ++ a0_4)).size : Int) = (x4_6.size : Int) + 16 + (t243.size : Int) + 4 + (a0_4.size : Int) := by simp only [ByteArray.size_append]; have h0 : (⟨#[67, 111, 110, 116, 101, 110, 116, 45, 76, 101, 110, 103, 116, 104, 58, 32]⟩ : ByteArray).size = 16 := rfl; have h1 : (⟨#[13, 10, 13, 10]⟩ : ByteArray).size = 4 := rfl; omega); (have c22b9 : (t249 = (x4_6.size : Int) + 16 + (t243.size : Int) + 4 + (a0_4.size : Int)) = False := eq_false (fun h_ => c22 (h_.trans e_c22_.symm))); (have c22b8 : (t249 != (x4_6.size : Int) + 16 + (t243.size : Int) + 4 + (a0_4.size : Int)) = true := bne_iff_ne.mpr (fun h_ => c22 (h_.trans e_c22_.symm))); clear e_c22_; (have c22b0 : (t249 == (((((x4_6 ++ (⟨#[67, 111, 110, 116, 101, 110, 116, 45, 76, 101, 110, 103, 116, 104, 58, 32]⟩ : ByteArray)) ++ t243) ++ (⟨#[13, 10, 13, 10]⟩ : ByteArray)) ++ a0_4).size : Int)) = false := beq_eq_false_iff_ne.mpr c22); (have c22b1 : (t249 != (((((x4_6 ++ (⟨#[67, 111, 110, 116, 101, 110, 116, 45, 76, 101, 110, 103, 116, 104, 58, 32]⟩ : ByteArray)) ++ t243) ++ (⟨#[13, 10, 13, 10]⟩ : ByteArray)) ++ a0_4).size : Int)) = true := bne_iff_ne.mpr c22); simp only [Option.some.injEq, Prod.mk.injEq] at H; (obtain ⟨rfl, rfl⟩ := H); (try go_wp2); (have n0_ := zM (blk_drew BK242.out)); (have n1_ := zM (below_drew1 HB.out)); clear BK242; clear HB; (have BK242 := n0_); (have HB := n1_); clear n0_ n1_; (refine start_ (n := 12) (S := fun w' => w'.cell? ⟨gb242, 0, none⟩ = some (.string a0_0) ∧ w'.cell? ⟨gb242, 1, none⟩ = some (.string a0_1) ∧ w'.cell? ⟨gb242, 2, none⟩ = some (.string a0_2) ∧ w'.cell? ⟨gb242, 3, none⟩ = some (.string a0_3) ∧ w'.cell? ⟨gb242, 4, none⟩ = some (.string a0_4)) (ds := []) #[false, false, false, false, false, false, false, false, false, false, false, false] (by kernel_rfl) rfl rfl ⟨(blk_cell BK242.out 0).trans rfl, (blk_cell BK242.out 1).trans rfl, (blk_cell BK242.out 2).trans rfl, (blk_cell BK242.out 3).trans rfl, (blk_cell BK242.out 4).trans rfl⟩ (fun hHeld => ?_); refine with_tabW pennantref22_WriteRequest.tab4 pennantref22_WriteRequest.bits4 (fun HT_ HW_ => ?_)); (generalize wc.drew = w38 at BK242 HB hHeld ⊢); (refine pure_ (i := 0) (N := some 28) (v := ?_) (a' := ?_) #[true, false, false, false, false, false, false, false, false, false, false, false] rfl rfl (any_of HT_.out (by kernel_rfl)) (fun _ _ _ h => h) (Or.inl ⟨by rfl, ?_⟩) ?_ ?_); rotate_left
              ·
               intro w'; go_simp; with_reducible rfl
              rotate_left
              ·
               simp only [Act.put, zS, zI]; rfl
              (refine pure_ (i := 1) (N := some 29) (v := ?_) (a' := ?_) #[true, true, false, false, false, false, false, false, false, false, false, false] rfl rfl (any_of HT_.out (by kernel_rfl)) (fun _ _ _ h => h) (Or.inl ⟨by rfl, ?_⟩) ?_ ?_); rotate_left
              ·
               intro w'; go_simp; with_reducible rfl
              rotate_left
              ·
               simp only [Act.put, zS, zI]; rfl
              (refine pure_ (i := 2) (N := some 30) (v := ?_) (a' := ?_) #[true, true, true, false, false, false, false, false, false, false, false, false] rfl rfl (any_of HT_.out (by kernel_rfl)) (fun _ _ _ h => h) (Or.inl ⟨by rfl, ?_⟩) ?_ ?_); rotate_left
              ·
               intro w'; go_simp; with_reducible rfl
              rotate_left
              ·
               simp only [Act.put, zS, zI]; rfl
              (refine pure_ (i := 8) (N := some 36) (v := ?_) (a' := ?_) #[true, true, true, false, false, false, false, false, true, false, false, false] rfl rfl (any_of HT_.out (by kernel_rfl)) (fun _ _ _ h => h) (Or.inl ⟨by rfl, ?_⟩) ?_ ?_); rotate_left
              ·
               intro w'; go_simp; with_reducible rfl
              rotate_left
              ·
               simp only [Act.put, zS, zI]; rfl
              (refine take_ (i := 3) (N := some 31) (v := ?_) (a' := ?_) #[true, true, true, true, false, false, false, false, true, false, false, false] rfl rfl (take_ofW HT_.out HW_.out (by kernel_rfl)) (fun _ _ _ h => h) (Or.inl ⟨by rfl, ?_⟩) hHeld ?_ ?_); rotate_left
              ·
               rintro w' ⟨s0, s1, s2, s3, s4⟩; go_simp; with_reducible rfl
              rotate_left
              ·
               simp only [Act.put, zS, zI]; rfl
              (refine pure_ (i := 4) (N := some 32) (v := ?_) (a' := ?_) #[true, true, true, true, true, false, false, false, true, false, false, false] rfl rfl (any_of HT_.out (by kernel_rfl)) (fun _ _ _ h => h) (Or.inl ⟨by rfl, ?_⟩) ?_ ?_); rotate_left
              ·
               intro w'; go_simp; with_reducible rfl
              rotate_left
              ·
               simp only [Act.put, zS, zI]; rfl
              (refine take_ (i := 9) (N := some 37) (v := ?_) (a' := ?_) #[true, true, true, true, true, false, false, false, true, true, false, false] rfl rfl (take_ofW HT_.out HW_.out (by kernel_rfl)) (fun _ _ _ h => h) (Or.inl ⟨by rfl, ?_⟩) hHeld ?_ ?_); rotate_left
              ·
               rintro w' ⟨s0, s1, s2, s3, s4⟩; go_simp; with_reducible rfl
              rotate_left
              ·
               simp only [Act.put, zS, zI]; rfl
              (refine one_ (i := 5) (N := some 33) #[true, true, true, true, true, true, false, false, true, true, false, false] rfl rfl (one_of HT_.out (by kernel_rfl)) (by decide) (fun K hK => ?_)); (refine goes_ Tryz.func30 (by kernel_rfl) rfl #[.int .i64 (a0_4.size : Int)] (by rfl) rfl rfl (by (try simp only [zL]); first | done | rfl) ?_); (with_reducible refine (pennantref08_Digits.calls kj6 (a0_4.size : Int) t243 _ A16.out).mono ?_); rintro e w39 ⟨rfl, hb⟩; (refine ⟨_, rfl, ?_⟩); (have n0_ := zM (blk_below (g := gb242) (o := .cells #[.string a0_0, .string a0_1, .string a0_2, .string a0_3, .string a0_4] 24 (0, 0)) (by (with_reducible repeat (first | refine blk_drewN ?_ _ | refine blk_drew ?_ | refine blk_alloc ?_ _)); exact BK242.out) hb)); (have n1_ := zM (below_step (by repeat (first | (with_reducible first | exact HB.out | apply below_alloc | apply pw_below_drewN | apply below_drew1 | refine below_set ?_ GE242.out) | exact HB.out)) hb)); clear BK242; clear HB; (have BK242 := n0_); (have HB := n1_); clear n0_ n1_; (try clear hb); (try clear hb2); (try clear hk); (try clear hi); (refine hK.out _ _ ⟨(blk_cell BK242.out 0).trans rfl, (blk_cell BK242.out 1).trans rfl, (blk_cell BK242.out 2).trans rfl, (blk_cell BK242.out 3).trans rfl, (blk_cell BK242.out 4).trans rfl⟩ (fun hHeld => ?_)); clear hK K; (refine norm_ (a' := ?_) ?_ ?_); rotate_left
              ·
               (show Act.put _ (some 33) _ = _); simp only [Act.put, zS, zI]; rfl
              (refine pure_ (i := 6) (N := some 34) (v := ?_) (a' := ?_) #[true, true, true, true, true, true, true, false, true, true, false, false] rfl rfl (any_of HT_.out (by kernel_rfl)) (fun _ _ _ h => h) (Or.inl ⟨by rfl, ?_⟩) ?_ ?_); rotate_left
              ·
               intro w'; go_simp; with_reducible rfl
              rotate_left
              ·
               simp only [Act.put, zS, zI]; rfl
              (refine pure_ (i := 7) (N := some 35) (v := ?_) (a' := ?_) #[true, true, true, true, true, true, true, true, true, true, false, false] rfl rfl (any_of HT_.out (by kernel_rfl)) (fun _ _ _ h => h) (Or.inl ⟨by rfl, ?_⟩) ?_ ?_); rotate_left
              ·
               intro w'; go_simp; with_reducible rfl
              rotate_left
              ·
               simp only [Act.put, zS, zI]; rfl
              (refine pure_ (i := 10) (N := some 38) (v := ?_) (a' := ?_) #[true, true, true, true, true, true, true, true, true, true, true, false] rfl rfl (any_of HT_.out (by kernel_rfl)) (fun _ _ _ h => h) (Or.inl ⟨by rfl, ?_⟩) ?_ ?_); rotate_left
              ·
               intro w'; go_simp; with_reducible rfl
              rotate_left
              ·
               simp only [Act.put, zS, zI]; rfl
              (refine pure_ (i := 11) (N := some 4) (v := ?_) (a' := ?_) #[true, true, true, true, true, true, true, true, true, true, true, true] rfl rfl (any_of HT_.out (by kernel_rfl)) (fun _ _ _ h => h) (Or.inl ⟨by rfl, ?_⟩) ?_ ?_); rotate_left
              ·
               intro w'; go_simp; with_reducible rfl
              rotate_left
              ·
               simp only [Act.put, zS, zI]; rfl
              (refine done_ (done_of HT_.out (by kernel_rfl)) ?_); (try go_wp2_with (first | ((with_reducible refine gate_callee (f := 11) rfl ?_); refine goesL_ (some 41) rfl rfl Tryz.func11 (by kernel_rfl) rfl #[.string ((((x4_6 ++ (⟨#[67, 111, 110, 116, 101, 110, 116, 45, 76, 101, 110, 103, 116, 104, 58, 32]⟩ : ByteArray)) ++ t243) ++ (⟨#[13, 10, 13, 10]⟩ : ByteArray)) ++ a0_4)] rfl (by (try simp only [zL]); first | done | rfl) ?_; (with_reducible refine (pennantref22_ReadRequest.calls kj6 ((((x4_6 ++ (⟨#[67, 111, 110, 116, 101, 110, 116, 45, 76, 101, 110, 103, 116, 104, 58, 32]⟩ : ByteArray)) ++ t243) ++ (⟨#[13, 10, 13, 10]⟩ : ByteArray)) ++ a0_4) t244 t245 t246 t247 t248 t249 t250 _ A20.out).mono ?_); rintro e w40 ⟨rfl, hb⟩; refine ⟨_, rfl, ?_⟩; have n0_ := zM (blk_below (g := gb242) (o := .cells #[.string a0_0, .string a0_1, .string a0_2, .string a0_3, .string a0_4] 24 (0, 0)) (by (with_reducible repeat (first | refine blk_drewN ?_ _ | refine blk_drew ?_ | refine blk_alloc ?_ _)); exact BK242.out) hb); have n1_ := zM (below_step (by repeat (first | (with_reducible first | exact HB.out | apply below_alloc | apply pw_below_drewN | apply below_drew1 | refine below_set ?_ GE242.out) | exact HB.out)) hb); clear BK242; clear HB; have BK242 := n0_; have HB := n1_; clear n0_ n1_; (try clear hb); (try clear hb2); (try clear hk); (try clear hi)) | ((with_reducible refine gate_dst (N := 5) rfl ?_); (try (refine gate_guard (by rfl) ?_; dsimp only)); refine box_event ?hg (N := 5) ?hd (cs := #[.string (⟨#[]⟩ : ByteArray), .string (⟨#[]⟩ : ByteArray), .string (⟨#[]⟩ : ByteArray), .string (⟨#[]⟩ : ByteArray), .string (⟨#[]⟩ : ByteArray)]) (t := 24) ?hr ?_; (case hd => rfl); (case hg => rfl); (case hr => first | (go_simp; done) | (go_simp; rfl)); intro gb251 hg w41 hbox hb; have n0_ := zM (blk_below (g := gb242) (o := .cells #[.string a0_0, .string a0_1, .string a0_2, .string a0_3, .string a0_4] 24 (0, 0)) (by (with_reducible repeat (first | refine blk_drewN ?_ _ | refine blk_drew ?_ | refine blk_alloc ?_ _)); exact BK242.out) hb); have n1_ := zM (below_step (by repeat (first | (with_reducible first | exact HB.out | apply below_alloc | apply pw_below_drewN | apply below_drew1 | refine below_set ?_ GE242.out) | exact HB.out)) hb); have n2_ := zM (hbox); have n3_ := zM ((by rw [hg]; exact (below_size (by repeat (first | (with_reducible first | exact HB.out | apply below_alloc | apply pw_below_drewN | apply below_drew1 | refine below_set ?_ GE242.out) | exact HB.out))) : w.heap.size ≤ gb251)); have n4_ := zM ((by rw [hg]; exact (below_size (by repeat (first | (with_reducible first | exact HB.out | apply below_alloc | apply pw_below_drewN | apply below_drew1 | refine below_set ?_ GE242.out) | exact HB.out))) : w.heap.size ≤ gb251)); have n5_ := zM ((by rw [hg]; exact Nat.ne_of_lt (blk_lt (g := gb242) (o := .cells #[.string a0_0, .string a0_1, .string a0_2, .string a0_3, .string a0_4] 24 (0, 0)) (by (with_reducible repeat (first | refine blk_drewN ?_ _ | refine blk_drew ?_ | refine blk_alloc ?_ _)); exact BK242.out)) : gb242 ≠ gb251)); have n6_ := zM ((by rw [hg]; exact Nat.ne_of_gt (blk_lt (g := gb242) (o := .cells #[.string a0_0, .string a0_1, .string a0_2, .string a0_3, .string a0_4] 24 (0, 0)) (by (with_reducible repeat (first | refine blk_drewN ?_ _ | refine blk_drew ?_ | refine blk_alloc ?_ _)); exact BK242.out)) : gb251 ≠ gb242)); clear BK242; clear HB; have BK242 := n0_; have HB := n1_; have BK251 := n2_; have GW251 := n3_; have GE251 := n4_; have NB242_251 := n5_; have NB251_242 := n6_; clear n0_ n1_ n2_ n3_ n4_ n5_ n6_; clear hb hbox hg; have hnb42 := NB251_242.out; have hnc42 := NB242_251.out; have hcz43_0 : w41.cell? ⟨gb251, 0, none⟩ = some (.string (⟨#[]⟩ : ByteArray)) := (blk_cell BK251.out 0).trans rfl; have hcz43_1 : w41.cell? ⟨gb251, 1, none⟩ = some (.string (⟨#[]⟩ : ByteArray)) := (blk_cell BK251.out 1).trans rfl; have hcz43_2 : w41.cell? ⟨gb251, 2, none⟩ = some (.string (⟨#[]⟩ : ByteArray)) := (blk_cell BK251.out 2).trans rfl; have hcz43_3 : w41.cell? ⟨gb251, 3, none⟩ = some (.string (⟨#[]⟩ : ByteArray)) := (blk_cell BK251.out 3).trans rfl; have hcz43_4 : w41.cell? ⟨gb251, 4, none⟩ = some (.string (⟨#[]⟩ : ByteArray)) := (blk_cell BK251.out 4).trans rfl; have hfz43_0 := blk_frozen BK251.out 0; have hfz43_1 := blk_frozen BK251.out 1; have hfz43_2 := blk_frozen BK251.out 2; have hfz43_3 := blk_frozen BK251.out 3; have hfz43_4 := blk_frozen BK251.out 4))); (go_ret2); exact ⟨by first | rfl | (simp [errW_none, errW_some] <;> rfl) | (simp [*, errW_none, errW_some] <;> rfl), by repeat (first | (with_reducible first | exact HB.out | apply below_alloc | apply pw_below_drewN | apply below_drew1 | refine below_set ?_ GE242.out | refine below_set ?_ GE251.out) | exact HB.out)⟩
            ·
             rw [if_neg c21] at H; (have c21b0 : (t250 == 0) = false := beq_eq_false_iff_ne.mpr c21); (have c21b1 : (t250 != 0) = true := bne_iff_ne.mpr c21); simp only [Option.some.injEq, Prod.mk.injEq] at H; (obtain ⟨rfl, rfl⟩ := H); (try go_wp2); (have n0_ := zM (blk_drew BK242.out)); (have n1_ := zM (below_drew1 HB.out)); clear BK242; clear HB; (have BK242 := n0_); (have HB := n1_); clear n0_ n1_; (refine start_ (n := 12) (S := fun w' => w'.cell? ⟨gb242, 0, none⟩ = some (.string a0_0) ∧ w'.cell? ⟨gb242, 1, none⟩ = some (.string a0_1) ∧ w'.cell? ⟨gb242, 2, none⟩ = some (.string a0_2) ∧ w'.cell? ⟨gb242, 3, none⟩ = some (.string a0_3) ∧ w'.cell? ⟨gb242, 4, none⟩ = some (.string a0_4)) (ds := []) #[false, false, false, false, false, false, false, false, false, false, false, false] (by kernel_rfl) rfl rfl ⟨(blk_cell BK242.out 0).trans rfl, (blk_cell BK242.out 1).trans rfl, (blk_cell BK242.out 2).trans rfl, (blk_cell BK242.out 3).trans rfl, (blk_cell BK242.out 4).trans rfl⟩ (fun hHeld => ?_); refine with_tabW pennantref22_WriteRequest.tab4 pennantref22_WriteRequest.bits4 (fun HT_ HW_ => ?_)); (generalize wc.drew = w44 at BK242 HB hHeld ⊢); (refine pure_ (i := 0) (N := some 28) (v := ?_) (a' := ?_) #[true, false, false, false, false, false, false, false, false, false, false, false] rfl rfl (any_of HT_.out (by kernel_rfl)) (fun _ _ _ h => h) (Or.inl ⟨by rfl, ?_⟩) ?_ ?_); rotate_left
             ·
              intro w'; go_simp; with_reducible rfl
             rotate_left
             ·
              simp only [Act.put, zS, zI]; rfl
             (refine pure_ (i := 1) (N := some 29) (v := ?_) (a' := ?_) #[true, true, false, false, false, false, false, false, false, false, false, false] rfl rfl (any_of HT_.out (by kernel_rfl)) (fun _ _ _ h => h) (Or.inl ⟨by rfl, ?_⟩) ?_ ?_); rotate_left
             ·
              intro w'; go_simp; with_reducible rfl
             rotate_left
             ·
              simp only [Act.put, zS, zI]; rfl
             (refine pure_ (i := 2) (N := some 30) (v := ?_) (a' := ?_) #[true, true, true, false, false, false, false, false, false, false, false, false] rfl rfl (any_of HT_.out (by kernel_rfl)) (fun _ _ _ h => h) (Or.inl ⟨by rfl, ?_⟩) ?_ ?_); rotate_left
             ·
              intro w'; go_simp; with_reducible rfl
             rotate_left
             ·
              simp only [Act.put, zS, zI]; rfl
             (refine pure_ (i := 8) (N := some 36) (v := ?_) (a' := ?_) #[true, true, true, false, false, false, false, false, true, false, false, false] rfl rfl (any_of HT_.out (by kernel_rfl)) (fun _ _ _ h => h) (Or.inl ⟨by rfl, ?_⟩) ?_ ?_); rotate_left
             ·
              intro w'; go_simp; with_reducible rfl
             rotate_left
             ·
              simp only [Act.put, zS, zI]; rfl
             (refine take_ (i := 3) (N := some 31) (v := ?_) (a' := ?_) #[true, true, true, true, false, false, false, false, true, false, false, false] rfl rfl (take_ofW HT_.out HW_.out (by kernel_rfl)) (fun _ _ _ h => h) (Or.inl ⟨by rfl, ?_⟩) hHeld ?_ ?_); rotate_left
             ·
              rintro w' ⟨s0, s1, s2, s3, s4⟩; go_simp; with_reducible rfl
             rotate_left
             ·
              simp only [Act.put, zS, zI]; rfl
             (refine pure_ (i := 4) (N := some 32) (v := ?_) (a' := ?_) #[true, true, true, true, true, false, false, false, true, false, false, false] rfl rfl (any_of HT_.out (by kernel_rfl)) (fun _ _ _ h => h) (Or.inl ⟨by rfl, ?_⟩) ?_ ?_); rotate_left
             ·
              intro w'; go_simp; with_reducible rfl
             rotate_left
             ·
              simp only [Act.put, zS, zI]; rfl
             (refine take_ (i := 9) (N := some 37) (v := ?_) (a' := ?_) #[true, true, true, true, true, false, false, false, true, true, false, false] rfl rfl (take_ofW HT_.out HW_.out (by kernel_rfl)) (fun _ _ _ h => h) (Or.inl ⟨by rfl, ?_⟩) hHeld ?_ ?_); rotate_left
             ·
              rintro w' ⟨s0, s1, s2, s3, s4⟩; go_simp; with_reducible rfl
             rotate_left
             ·
              simp only [Act.put, zS, zI]; rfl
             (refine one_ (i := 5) (N := some 33) #[true, true, true, true, true, true, false, false, true, true, false, false] rfl rfl (one_of HT_.out (by kernel_rfl)) (by decide) (fun K hK => ?_)); (refine goes_ Tryz.func30 (by kernel_rfl) rfl #[.int .i64 (a0_4.size : Int)] (by rfl) rfl rfl (by (try simp only [zL]); first | done | rfl) ?_); (with_reducible refine (pennantref08_Digits.calls kj6 (a0_4.size : Int) t243 _ A16.out).mono ?_); rintro e w45 ⟨rfl, hb⟩; (refine ⟨_, rfl, ?_⟩); (have n0_ := zM (blk_below (g := gb242) (o := .cells #[.string a0_0, .string a0_1, .string a0_2, .string a0_3, .string a0_4] 24 (0, 0)) (by (with_reducible repeat (first | refine blk_drewN ?_ _ | refine blk_drew ?_ | refine blk_alloc ?_ _)); exact BK242.out) hb)); (have n1_ := zM (below_step (by repeat (first | (with_reducible first | exact HB.out | apply below_alloc | apply pw_below_drewN | apply below_drew1 | refine below_set ?_ GE242.out) | exact HB.out)) hb)); clear BK242; clear HB; (have BK242 := n0_); (have HB := n1_); clear n0_ n1_; (try clear hb); (try clear hb2); (try clear hk); (try clear hi); (refine hK.out _ _ ⟨(blk_cell BK242.out 0).trans rfl, (blk_cell BK242.out 1).trans rfl, (blk_cell BK242.out 2).trans rfl, (blk_cell BK242.out 3).trans rfl, (blk_cell BK242.out 4).trans rfl⟩ (fun hHeld => ?_)); clear hK K; (refine norm_ (a' := ?_) ?_ ?_); rotate_left
             ·
              (show Act.put _ (some 33) _ = _); simp only [Act.put, zS, zI]; rfl
             (refine pure_ (i := 6) (N := some 34) (v := ?_) (a' := ?_) #[true, true, true, true, true, true, true, false, true, true, false, false] rfl rfl (any_of HT_.out (by kernel_rfl)) (fun _ _ _ h => h) (Or.inl ⟨by rfl, ?_⟩) ?_ ?_); rotate_left
             ·
              intro w'; go_simp; with_reducible rfl
             rotate_left
             ·
              simp only [Act.put, zS, zI]; rfl
             (refine pure_ (i := 7) (N := some 35) (v := ?_) (a' := ?_) #[true, true, true, true, true, true, true, true, true, true, false, false] rfl rfl (any_of HT_.out (by kernel_rfl)) (fun _ _ _ h => h) (Or.inl ⟨by rfl, ?_⟩) ?_ ?_); rotate_left
             ·
              intro w'; go_simp; with_reducible rfl
             rotate_left
             ·
              simp only [Act.put, zS, zI]; rfl
             (refine pure_ (i := 10) (N := some 38) (v := ?_) (a' := ?_) #[true, true, true, true, true, true, true, true, true, true, true, false] rfl rfl (any_of HT_.out (by kernel_rfl)) (fun _ _ _ h => h) (Or.inl ⟨by rfl, ?_⟩) ?_ ?_); rotate_left
             ·
              intro w'; go_simp; with_reducible rfl
             rotate_left
             ·
              simp only [Act.put, zS, zI]; rfl
             (refine pure_ (i := 11) (N := some 4) (v := ?_) (a' := ?_) #[true, true, true, true, true, true, true, true, true, true, true, true] rfl rfl (any_of HT_.out (by kernel_rfl)) (fun _ _ _ h => h) (Or.inl ⟨by rfl, ?_⟩) ?_ ?_); rotate_left
             ·
              intro w'; go_simp; with_reducible rfl
             rotate_left
             ·
              simp only [Act.put, zS, zI]; rfl
             (refine done_ (done_of HT_.out (by kernel_rfl)) ?_); (try go_wp2_with (first | ((with_reducible refine gate_callee (f := 11) rfl ?_); refine goesL_ (some 41) rfl rfl Tryz.func11 (by kernel_rfl) rfl #[.string ((((x4_6 ++ (⟨#[67, 111, 110, 116, 101, 110, 116, 45, 76, 101, 110, 103, 116, 104, 58, 32]⟩ : ByteArray)) ++ t243) ++ (⟨#[13, 10, 13, 10]⟩ : ByteArray)) ++ a0_4)] rfl (by (try simp only [zL]); first | done | rfl) ?_; (with_reducible refine (pennantref22_ReadRequest.calls kj6 ((((x4_6 ++ (⟨#[67, 111, 110, 116, 101, 110, 116, 45, 76, 101, 110, 103, 116, 104, 58, 32]⟩ : ByteArray)) ++ t243) ++ (⟨#[13, 10, 13, 10]⟩ : ByteArray)) ++ a0_4) t244 t245 t246 t247 t248 t249 t250 _ A20.out).mono ?_); rintro e w46 ⟨rfl, hb⟩; refine ⟨_, rfl, ?_⟩; have n0_ := zM (blk_below (g := gb242) (o := .cells #[.string a0_0, .string a0_1, .string a0_2, .string a0_3, .string a0_4] 24 (0, 0)) (by (with_reducible repeat (first | refine blk_drewN ?_ _ | refine blk_drew ?_ | refine blk_alloc ?_ _)); exact BK242.out) hb); have n1_ := zM (below_step (by repeat (first | (with_reducible first | exact HB.out | apply below_alloc | apply pw_below_drewN | apply below_drew1 | refine below_set ?_ GE242.out) | exact HB.out)) hb); clear BK242; clear HB; have BK242 := n0_; have HB := n1_; clear n0_ n1_; (try clear hb); (try clear hb2); (try clear hk); (try clear hi)) | ((with_reducible refine gate_dst (N := 5) rfl ?_); (try (refine gate_guard (by rfl) ?_; dsimp only)); refine box_event ?hg (N := 5) ?hd (cs := #[.string (⟨#[]⟩ : ByteArray), .string (⟨#[]⟩ : ByteArray), .string (⟨#[]⟩ : ByteArray), .string (⟨#[]⟩ : ByteArray), .string (⟨#[]⟩ : ByteArray)]) (t := 24) ?hr ?_; (case hd => rfl); (case hg => rfl); (case hr => first | (go_simp; done) | (go_simp; rfl)); intro gb251 hg w47 hbox hb; have n0_ := zM (blk_below (g := gb242) (o := .cells #[.string a0_0, .string a0_1, .string a0_2, .string a0_3, .string a0_4] 24 (0, 0)) (by (with_reducible repeat (first | refine blk_drewN ?_ _ | refine blk_drew ?_ | refine blk_alloc ?_ _)); exact BK242.out) hb); have n1_ := zM (below_step (by repeat (first | (with_reducible first | exact HB.out | apply below_alloc | apply pw_below_drewN | apply below_drew1 | refine below_set ?_ GE242.out) | exact HB.out)) hb); have n2_ := zM (hbox); have n3_ := zM ((by rw [hg]; exact (below_size (by repeat (first | (with_reducible first | exact HB.out | apply below_alloc | apply pw_below_drewN | apply below_drew1 | refine below_set ?_ GE242.out) | exact HB.out))) : w.heap.size ≤ gb251)); have n4_ := zM ((by rw [hg]; exact (below_size (by repeat (first | (with_reducible first | exact HB.out | apply below_alloc | apply pw_below_drewN | apply below_drew1 | refine below_set ?_ GE242.out) | exact HB.out))) : w.heap.size ≤ gb251)); have n5_ := zM ((by rw [hg]; exact Nat.ne_of_lt (blk_lt (g := gb242) (o := .cells #[.string a0_0, .string a0_1, .string a0_2, .string a0_3, .string a0_4] 24 (0, 0)) (by (with_reducible repeat (first | refine blk_drewN ?_ _ | refine blk_drew ?_ | refine blk_alloc ?_ _)); exact BK242.out)) : gb242 ≠ gb251)); have n6_ := zM ((by rw [hg]; exact Nat.ne_of_gt (blk_lt (g := gb242) (o := .cells #[.string a0_0, .string a0_1, .string a0_2, .string a0_3, .string a0_4] 24 (0, 0)) (by (with_reducible repeat (first | refine blk_drewN ?_ _ | refine blk_drew ?_ | refine blk_alloc ?_ _)); exact BK242.out)) : gb251 ≠ gb242)); clear BK242; clear HB; have BK242 := n0_; have HB := n1_; have BK251 := n2_; have GW251 := n3_; have GE251 := n4_; have NB242_251 := n5_; have NB251_242 := n6_; clear n0_ n1_ n2_ n3_ n4_ n5_ n6_; clear hb hbox hg; have hnb48 := NB251_242.out; have hnc48 := NB242_251.out; have hcz49_0 : w47.cell? ⟨gb251, 0, none⟩ = some (.string (⟨#[]⟩ : ByteArray)) := (blk_cell BK251.out 0).trans rfl; have hcz49_1 : w47.cell? ⟨gb251, 1, none⟩ = some (.string (⟨#[]⟩ : ByteArray)) := (blk_cell BK251.out 1).trans rfl; have hcz49_2 : w47.cell? ⟨gb251, 2, none⟩ = some (.string (⟨#[]⟩ : ByteArray)) := (blk_cell BK251.out 2).trans rfl; have hcz49_3 : w47.cell? ⟨gb251, 3, none⟩ = some (.string (⟨#[]⟩ : ByteArray)) := (blk_cell BK251.out 3).trans rfl; have hcz49_4 : w47.cell? ⟨gb251, 4, none⟩ = some (.string (⟨#[]⟩ : ByteArray)) := (blk_cell BK251.out 4).trans rfl; have hfz49_0 := blk_frozen BK251.out 0; have hfz49_1 := blk_frozen BK251.out 1; have hfz49_2 := blk_frozen BK251.out 2; have hfz49_3 := blk_frozen BK251.out 3; have hfz49_4 := blk_frozen BK251.out 4))); (go_ret2); exact ⟨by first | rfl | (simp [errW_none, errW_some] <;> rfl) | (simp [*, errW_none, errW_some] <;> rfl), by repeat (first | (with_reducible first | exact HB.out | apply below_alloc | apply pw_below_drewN | apply below_drew1 | refine below_set ?_ GE242.out | refine below_set ?_ GE251.out) | exact HB.out)⟩
           ·
            rw [if_neg c19] at H; exact absurd H (by simp)
          ·
           rw [if_neg c18] at H; exact absurd H (by simp)
         ·
          rw [if_neg c17] at H; exact absurd H (by simp)
        ·
         rw [if_neg c15] at H; exact absurd H (by simp)
     ·
      rw [if_neg c6] at H; exact absurd H (by simp)
    ·
     rw [if_neg c5] at H; exact absurd H (by simp)
   ·
    rw [if_neg c4] at H; exact absurd H (by simp)
  ·
   rw [if_neg c3] at H
   exact absurd H (by simp)
 ·
  rw [if_neg c2] at H
  exact absurd H (by simp)

end Go.Proofs.YtpikebpjlhccbaaGreatDoor.PAll
