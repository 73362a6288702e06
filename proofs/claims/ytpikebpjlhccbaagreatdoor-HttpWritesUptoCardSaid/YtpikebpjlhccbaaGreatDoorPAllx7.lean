-- Laid by a program of this session (wip/pp in the repo) out of the translation. Lean checks it.
import Derived.Test.YtpikebpjlhccbaaGreatDoorShort
import Derived.Test.YtpikebpjlhccbaaGreatDoorPAllx0
import Derived.Test.YtpikebpjlhccbaaGreatDoorPAllx1
import Derived.Test.YtpikebpjlhccbaaGreatDoorGiveRead
namespace Go.Proofs.YtpikebpjlhccbaaGreatDoor.PAll
open Go.RowKit Go.Proofs.YtpikebpjlhccbaaGreatDoorW.PrintWords Go.Proofs.YtpikebpjlhccbaaGreatDoorW.PrintLast Go.Proofs.YtpikebpjlhccbaaGreatDoorW.PrintMore
attribute [local go_sem] max2_int min2_int max_two min_two max_three min_three max_four min_four   -- for this text's walks alone
set_option linter.unusedVariables false
set_option linter.unusedSimpArgs false

attribute [local go_sem high] eqA24
/-! ### http_WriteRequest: function 14 -/
def http_WriteRequest.j0 : Nat → ByteArray → ByteArray → ByteArray → ByteArray → ByteArray → ByteArray → Option (ByteArray × Int)
 | 0, _, _, _, _, _, _ => none
 | k + 1, x4, x134000, x134001, x134002, x134003, x134004 => (strconv_Itoa.f (x134004.size : Int)).bind fun t134 => (if 16 + t134.size ≤ 9223372036854775807 then (if ((⟨#[67, 111, 110, 116, 101, 110, 116, 45, 76, 101, 110, 103, 116, 104, 58, 32]⟩ : ByteArray) ++ t134).size + 2 ≤ 9223372036854775807 then (if (((⟨#[67, 111, 110, 116, 101, 110, 116, 45, 76, 101, 110, 103, 116, 104, 58, 32]⟩ : ByteArray) ++ t134) ++ (⟨#[13, 10]⟩ : ByteArray)).size + 2 ≤ 9223372036854775807 then (if ((((⟨#[67, 111, 110, 116, 101, 110, 116, 45, 76, 101, 110, 103, 116, 104, 58, 32]⟩ : ByteArray) ++ t134) ++ (⟨#[13, 10]⟩ : ByteArray)) ++ (⟨#[13, 10]⟩ : ByteArray)).size + x134004.size ≤ 9223372036854775807 then (if x4.size + (((((⟨#[67, 111, 110, 116, 101, 110, 116, 45, 76, 101, 110, 103, 116, 104, 58, 32]⟩ : ByteArray) ++ t134) ++ (⟨#[13, 10]⟩ : ByteArray)) ++ (⟨#[13, 10]⟩ : ByteArray)) ++ x134004).size ≤ 9223372036854775807 then ((http_ReadRequest.f k (x4 ++ (((((⟨#[67, 111, 110, 116, 101, 110, 116, 45, 76, 101, 110, 103, 116, 104, 58, 32]⟩ : ByteArray) ++ t134) ++ (⟨#[13, 10]⟩ : ByteArray)) ++ (⟨#[13, 10]⟩ : ByteArray)) ++ x134004))).bind fun bt135 => (if bt135.2.2.2.2.2.2 = 0 then (if bt135.2.2.2.2.2.1 = ((x4 ++ (((((⟨#[67, 111, 110, 116, 101, 110, 116, 45, 76, 101, 110, 103, 116, 104, 58, 32]⟩ : ByteArray) ++ t134) ++ (⟨#[13, 10]⟩ : ByteArray)) ++ (⟨#[13, 10]⟩ : ByteArray)) ++ x134004)).size : Int) then (if (!(bt135.1.toList == x134000.toList) || (!(bt135.2.1.toList == x134001.toList) || (!(bt135.2.2.1.toList == x134002.toList) || (!(bt135.2.2.2.1.toList == x134003.toList) || (!(bt135.2.2.2.2.1.toList == x134004.toList)))))) = true then (some ((⟨#[]⟩ : ByteArray), 1)) else (some (x4 ++ (((((⟨#[67, 111, 110, 116, 101, 110, 116, 45, 76, 101, 110, 103, 116, 104, 58, 32]⟩ : ByteArray) ++ t134) ++ (⟨#[13, 10]⟩ : ByteArray)) ++ (⟨#[13, 10]⟩ : ByteArray)) ++ x134004), 0))) else (some ((⟨#[]⟩ : ByteArray), 1))) else (some ((⟨#[]⟩ : ByteArray), 1)))) else (none)) else (none)) else (none)) else (none)) else (none))
def http_WriteRequest.f (k : Nat) (a0_0 : ByteArray) (a0_1 : ByteArray) (a0_2 : ByteArray) (a0_3 : ByteArray) (a0_4 : ByteArray) : Option (ByteArray × Int) := if a0_0.size + 1 ≤ 9223372036854775807 then (if (a0_0 ++ (⟨#[32]⟩ : ByteArray)).size + a0_1.size ≤ 9223372036854775807 then (if ((a0_0 ++ (⟨#[32]⟩ : ByteArray)) ++ a0_1).size + 9 ≤ 9223372036854775807 then (if (((a0_0 ++ (⟨#[32]⟩ : ByteArray)) ++ a0_1) ++ (⟨#[32, 72, 84, 84, 80, 47, 49, 46, 49]⟩ : ByteArray)).size + 2 ≤ 9223372036854775807 then (if ((((a0_0 ++ (⟨#[32]⟩ : ByteArray)) ++ a0_1) ++ (⟨#[32, 72, 84, 84, 80, 47, 49, 46, 49]⟩ : ByteArray)) ++ (⟨#[13, 10]⟩ : ByteArray)).size + 6 ≤ 9223372036854775807 then (if (((((a0_0 ++ (⟨#[32]⟩ : ByteArray)) ++ a0_1) ++ (⟨#[32, 72, 84, 84, 80, 47, 49, 46, 49]⟩ : ByteArray)) ++ (⟨#[13, 10]⟩ : ByteArray)) ++ (⟨#[72, 111, 115, 116, 58, 32]⟩ : ByteArray)).size + a0_2.size ≤ 9223372036854775807 then (if ((((((a0_0 ++ (⟨#[32]⟩ : ByteArray)) ++ a0_1) ++ (⟨#[32, 72, 84, 84, 80, 47, 49, 46, 49]⟩ : ByteArray)) ++ (⟨#[13, 10]⟩ : ByteArray)) ++ (⟨#[72, 111, 115, 116, 58, 32]⟩ : ByteArray)) ++ a0_2).size + 2 ≤ 9223372036854775807 then (if a0_3.toList = ([] : List UInt8) then (http_WriteRequest.j0 k (((((((a0_0 ++ (⟨#[32]⟩ : ByteArray)) ++ a0_1) ++ (⟨#[32, 72, 84, 84, 80, 47, 49, 46, 49]⟩ : ByteArray)) ++ (⟨#[13, 10]⟩ : ByteArray)) ++ (⟨#[72, 111, 115, 116, 58, 32]⟩ : ByteArray)) ++ a0_2) ++ (⟨#[13, 10]⟩ : ByteArray)) a0_0 a0_1 a0_2 a0_3 a0_4) else (if 14 + a0_3.size ≤ 9223372036854775807 then (if ((⟨#[67, 111, 110, 116, 101, 110, 116, 45, 84, 121, 112, 101, 58, 32]⟩ : ByteArray) ++ a0_3).size + 2 ≤ 9223372036854775807 then (if (((((((a0_0 ++ (⟨#[32]⟩ : ByteArray)) ++ a0_1) ++ (⟨#[32, 72, 84, 84, 80, 47, 49, 46, 49]⟩ : ByteArray)) ++ (⟨#[13, 10]⟩ : ByteArray)) ++ (⟨#[72, 111, 115, 116, 58, 32]⟩ : ByteArray)) ++ a0_2) ++ (⟨#[13, 10]⟩ : ByteArray)).size + (((⟨#[67, 111, 110, 116, 101, 110, 116, 45, 84, 121, 112, 101, 58, 32]⟩ : ByteArray) ++ a0_3) ++ (⟨#[13, 10]⟩ : ByteArray)).size ≤ 9223372036854775807 then (http_WriteRequest.j0 k ((((((((a0_0 ++ (⟨#[32]⟩ : ByteArray)) ++ a0_1) ++ (⟨#[32, 72, 84, 84, 80, 47, 49, 46, 49]⟩ : ByteArray)) ++ (⟨#[13, 10]⟩ : ByteArray)) ++ (⟨#[72, 111, 115, 116, 58, 32]⟩ : ByteArray)) ++ a0_2) ++ (⟨#[13, 10]⟩ : ByteArray)) ++ (((⟨#[67, 111, 110, 116, 101, 110, 116, 45, 84, 121, 112, 101, 58, 32]⟩ : ByteArray) ++ a0_3) ++ (⟨#[13, 10]⟩ : ByteArray))) a0_0 a0_1 a0_2 a0_3 a0_4) else (none)) else (none)) else (none))) else (none)) else (none)) else (none)) else (none)) else (none)) else (none)) else (none)
theorem http_WriteRequest.mono_l : ∀ k, (∀ y0 y1 y2 y3 y4 y5, LeO (http_WriteRequest.j0 k y0 y1 y2 y3 y4 y5) (http_WriteRequest.j0 (k + 1) y0 y1 y2 y3 y4 y5))
 | 0 => fun _ _ _ _ _ _ r h => by simp [http_WriteRequest.j0] at h
 | k + 1 => by
  have ih0 := http_WriteRequest.mono_l k
  ·
   intro y0 y1 y2 y3 y4 y5
   unfold http_WriteRequest.j0
   repeat' first
   | (with_reducible exact ih0 _ _ _ _ _ _)
   | (with_reducible exact http_ReadRequest.mono _ _)
   | (with_reducible exact LeO.refl _)
   | (with_reducible exact LeO.none _)
   | (with_reducible refine LeO.ite ?_ ?_)
   | (with_reducible refine LeO.bind ?_ (fun _ => ?_))
   | exact ih0 _ _ _ _ _ _
   | exact http_ReadRequest.mono _ _
   | exact LeO.none _
   | refine LeO.ite ?_ ?_
   | refine LeO.bind ?_ (fun _ => ?_)
theorem http_WriteRequest.mono : ∀ a0 a1 a2 a3 a4 k, LeO (http_WriteRequest.f k a0 a1 a2 a3 a4) (http_WriteRequest.f (k + 1) a0 a1 a2 a3 a4) := by
 intro a0 a1 a2 a3 a4 k
 have ih0 := http_WriteRequest.mono_l k
 unfold http_WriteRequest.f
 repeat' first
   | (with_reducible exact ih0 _ _ _ _ _ _)
   | (with_reducible exact http_ReadRequest.mono _ _)
   | (with_reducible exact LeO.refl _)
   | (with_reducible exact LeO.none _)
   | (with_reducible refine LeO.ite ?_ ?_)
   | (with_reducible refine LeO.bind ?_ (fun _ => ?_))
   | exact ih0 _ _ _ _ _ _
   | exact http_ReadRequest.mono _ _
   | exact LeO.none _
   | refine LeO.ite ?_ ?_
   | refine LeO.bind ?_ (fun _ => ?_)
def http_WriteRequest.T4 : Bool × List (List Nat × List Nat) := (true, [([], []), ([], []), ([1], [1]), ([2], [2]), ([3], [3]), ([4], [4]), ([5], [5]), ([6], [6]), ([], []), ([8], [8]), ([7, 9], [7, 9]), ([0, 10], [0, 10]), ([11, 4, 0, 1, 2, 3, 4, 5, 6, 7, 8, 9, 10, 11], [0, 11])])
def http_WriteRequest.B4 : List Nat := [0, 0, 2, 6, 14, 30, 62, 126, 0, 256, 1022, 2047, 4095]
theorem http_WriteRequest.tab4 : rtab .any (opsOf Tryz.f14 4) = http_WriteRequest.T4 := by kernel_rfl
theorem http_WriteRequest.bits4 : waitsOk http_WriteRequest.T4.2 http_WriteRequest.B4 = true := by kernel_rfl
set_option maxHeartbeats 80000000 in
set_option maxRecDepth 100000 in
theorem http_WriteRequest.calls (k : Nat) (a0_0 : ByteArray) (a0_1 : ByteArray) (a0_2 : ByteArray) (a0_3 : ByteArray) (a0_4 : ByteArray) (r1 : ByteArray) (r2 : Int) (w : World) (hT : Aside0 (TabsOk w)) (h : http_WriteRequest.f k a0_0 a0_1 a0_2 a0_3 a0_4 = some (r1, r2)) :
  Calls Tryz.prog 14 #[.agg #[.string a0_0, .string a0_1, .string a0_2, .string a0_3, .string a0_4]] w fun e w' => e = .returned (.tuple #[.string r1, .int .i64 r2]) ∧ Below w.heap.size w w' := by
 have hu24 := Tryz.underlying24
 have HB := zM (Below.refl w.heap.size w)
 have H : (if a0_0.size + 1 ≤ 9223372036854775807 then (if (a0_0 ++ (⟨#[32]⟩ : ByteArray)).size + a0_1.size ≤ 9223372036854775807 then (if ((a0_0 ++ (⟨#[32]⟩ : ByteArray)) ++ a0_1).size + 9 ≤ 9223372036854775807 then (if (((a0_0 ++ (⟨#[32]⟩ : ByteArray)) ++ a0_1) ++ (⟨#[32, 72, 84, 84, 80, 47, 49, 46, 49]⟩ : ByteArray)).size + 2 ≤ 9223372036854775807 then (if ((((a0_0 ++ (⟨#[32]⟩ : ByteArray)) ++ a0_1) ++ (⟨#[32, 72, 84, 84, 80, 47, 49, 46, 49]⟩ : ByteArray)) ++ (⟨#[13, 10]⟩ : ByteArray)).size + 6 ≤ 9223372036854775807 then (if (((((a0_0 ++ (⟨#[32]⟩ : ByteArray)) ++ a0_1) ++ (⟨#[32, 72, 84, 84, 80, 47, 49, 46, 49]⟩ : ByteArray)) ++ (⟨#[13, 10]⟩ : ByteArray)) ++ (⟨#[72, 111, 115, 116, 58, 32]⟩ : ByteArray)).size + a0_2.size ≤ 9223372036854775807 then (if ((((((a0_0 ++ (⟨#[32]⟩ : ByteArray)) ++ a0_1) ++ (⟨#[32, 72, 84, 84, 80, 47, 49, 46, 49]⟩ : ByteArray)) ++ (⟨#[13, 10]⟩ : ByteArray)) ++ (⟨#[72, 111, 115, 116, 58, 32]⟩ : ByteArray)) ++ a0_2).size + 2 ≤ 9223372036854775807 then (if a0_3.toList = ([] : List UInt8) then (http_WriteRequest.j0 k (((((((a0_0 ++ (⟨#[32]⟩ : ByteArray)) ++ a0_1) ++ (⟨#[32, 72, 84, 84, 80, 47, 49, 46, 49]⟩ : ByteArray)) ++ (⟨#[13, 10]⟩ : ByteArray)) ++ (⟨#[72, 111, 115, 116, 58, 32]⟩ : ByteArray)) ++ a0_2) ++ (⟨#[13, 10]⟩ : ByteArray)) a0_0 a0_1 a0_2 a0_3 a0_4) else (if 14 + a0_3.size ≤ 9223372036854775807 then (if ((⟨#[67, 111, 110, 116, 101, 110, 116, 45, 84, 121, 112, 101, 58, 32]⟩ : ByteArray) ++ a0_3).size + 2 ≤ 9223372036854775807 then (if (((((((a0_0 ++ (⟨#[32]⟩ : ByteArray)) ++ a0_1) ++ (⟨#[32, 72, 84, 84, 80, 47, 49, 46, 49]⟩ : ByteArray)) ++ (⟨#[13, 10]⟩ : ByteArray)) ++ (⟨#[72, 111, 115, 116, 58, 32]⟩ : ByteArray)) ++ a0_2) ++ (⟨#[13, 10]⟩ : ByteArray)).size + (((⟨#[67, 111, 110, 116, 101, 110, 116, 45, 84, 121, 112, 101, 58, 32]⟩ : ByteArray) ++ a0_3) ++ (⟨#[13, 10]⟩ : ByteArray)).size ≤ 9223372036854775807 then (http_WriteRequest.j0 k ((((((((a0_0 ++ (⟨#[32]⟩ : ByteArray)) ++ a0_1) ++ (⟨#[32, 72, 84, 84, 80, 47, 49, 46, 49]⟩ : ByteArray)) ++ (⟨#[13, 10]⟩ : ByteArray)) ++ (⟨#[72, 111, 115, 116, 58, 32]⟩ : ByteArray)) ++ a0_2) ++ (⟨#[13, 10]⟩ : ByteArray)) ++ (((⟨#[67, 111, 110, 116, 101, 110, 116, 45, 84, 121, 112, 101, 58, 32]⟩ : ByteArray) ++ a0_3) ++ (⟨#[13, 10]⟩ : ByteArray))) a0_0 a0_1 a0_2 a0_3 a0_4) else (none)) else (none)) else (none))) else (none)) else (none)) else (none)) else (none)) else (none)) else (none)) else (none)) = some (r1, r2) := h
 clear h
 by_cases c2 : a0_0.size + 1 ≤ 9223372036854775807
 ·
  rw [if_pos c2] at H
  have c2b0 := eq_true c2
  have c2b1 : decide (a0_0.size + 1 ≤ 9223372036854775807) = true := decide_eq_true c2
  try have c2b2 : (9223372036854775807 < a0_0.size + 1) = False := eq_false (Nat.not_lt.2 c2)
  by_cases c3 : (a0_0 ++ (⟨#[32]⟩ : ByteArray)).size + a0_1.size ≤ 9223372036854775807
  ·
   rw [if_pos c3] at H
   have c3b3 : a0_0.size + 1 + a0_1.size ≤ 9223372036854775807 := by have h_ := c3; simp only [ByteArray.size_append] at h_; exact h_
   have c3b4 : (9223372036854775807 < a0_0.size + 1 + a0_1.size) = False := eq_false (Nat.not_lt.mpr c3b3)
   have c3b0 := eq_true c3
   have c3b1 : decide ((a0_0 ++ (⟨#[32]⟩ : ByteArray)).size + a0_1.size ≤ 9223372036854775807) = true := decide_eq_true c3
   try have c3b2 : (9223372036854775807 < (a0_0 ++ (⟨#[32]⟩ : ByteArray)).size + a0_1.size) = False := eq_false (Nat.not_lt.2 c3)
   by_cases c4 : ((a0_0 ++ (⟨#[32]⟩ : ByteArray)) ++ a0_1).size + 9 ≤ 9223372036854775807
   ·
    rw [if_pos c4] at H; (have c4b3 : a0_0.size + 1 + a0_1.size + 9 ≤ 9223372036854775807 := by have h_ := c4; simp only [ByteArray.size_append] at h_; exact h_); (have c4b4 : (9223372036854775807 < a0_0.size + 1 + a0_1.size + 9) = False := eq_false (Nat.not_lt.mpr c4b3)); (have c4b0 := eq_true c4); (have c4b1 : decide (((a0_0 ++ (⟨#[32]⟩ : ByteArray)) ++ a0_1).size + 9 ≤ 9223372036854775807) = true := decide_eq_true c4); (try have c4b2 : (9223372036854775807 < ((a0_0 ++ (⟨#[32]⟩ : ByteArray)) ++ a0_1).size + 9) = False := eq_false (Nat.not_lt.2 c4)); by_cases c5 : (((a0_0 ++ (⟨#[32]⟩ : ByteArray)) ++ a0_1) ++ (⟨#[32, 72, 84, 84, 80, 47, 49, 46, 49]⟩ : ByteArray)).size + 2 ≤ 9223372036854775807
    ·
     rw [if_pos c5] at H; (have c5b3 : a0_0.size + 1 + a0_1.size + 9 + 2 ≤ 9223372036854775807 := by have h_ := c5; simp only [ByteArray.size_append] at h_; exact h_); (have c5b4 : (9223372036854775807 < a0_0.size + 1 + a0_1.size + 9 + 2) = False := eq_false (Nat.not_lt.mpr c5b3)); (have c5b0 := eq_true c5); (have c5b1 : decide ((((a0_0 ++ (⟨#[32]⟩ : ByteArray)) ++ a0_1) ++ (⟨#[32, 72, 84, 84, 80, 47, 49, 46, 49]⟩ : ByteArray)).size + 2 ≤ 9223372036854775807) = true := decide_eq_true c5); (try have c5b2 : (9223372036854775807 < (((a0_0 ++ (⟨#[32]⟩ : ByteArray)) ++ a0_1) ++ (⟨#[32, 72, 84, 84, 80, 47, 49, 46, 49]⟩ : ByteArray)).size + 2) = False := eq_false (Nat.not_lt.2 c5)); by_cases c6 : ((((a0_0 ++ (⟨#[32]⟩ : ByteArray)) ++ a0_1) ++ (⟨#[32, 72, 84, 84, 80, 47, 49, 46, 49]⟩ : ByteArray)) ++ (⟨#[13, 10]⟩ : ByteArray)).size + 6 ≤ 9223372036854775807
     ·
      rw [if_pos c6] at H; (have c6b3 : a0_0.size + 1 + a0_1.size + 9 + 2 + 6 ≤ 9223372036854775807 := by have h_ := c6; simp only [ByteArray.size_append] at h_; exact h_); (have c6b4 : (9223372036854775807 < a0_0.size + 1 + a0_1.size + 9 + 2 + 6) = False := eq_false (Nat.not_lt.mpr c6b3)); (have c6b0 := eq_true c6); (have c6b1 : decide (((((a0_0 ++ (⟨#[32]⟩ : ByteArray)) ++ a0_1) ++ (⟨#[32, 72, 84, 84, 80, 47, 49, 46, 49]⟩ : ByteArray)) ++ (⟨#[13, 10]⟩ : ByteArray)).size + 6 ≤ 9223372036854775807) = true := decide_eq_true c6); (try have c6b2 : (9223372036854775807 < ((((a0_0 ++ (⟨#[32]⟩ : ByteArray)) ++ a0_1) ++ (⟨#[32, 72, 84, 84, 80, 47, 49, 46, 49]⟩ : ByteArray)) ++ (⟨#[13, 10]⟩ : ByteArray)).size + 6) = False := eq_false (Nat.not_lt.2 c6)); by_cases c7 : (((((a0_0 ++ (⟨#[32]⟩ : ByteArray)) ++ a0_1) ++ (⟨#[32, 72, 84, 84, 80, 47, 49, 46, 49]⟩ : ByteArray)) ++ (⟨#[13, 10]⟩ : ByteArray)) ++ (⟨#[72, 111, 115, 116, 58, 32]⟩ : ByteArray)).size + a0_2.size ≤ 9223372036854775807
      ·
       rw [if_pos c7] at H; (have c7b3 : a0_0.size + 1 + a0_1.size + 9 + 2 + 6 + a0_2.size ≤ 9223372036854775807 := by have h_ := c7; simp only [ByteArray.size_append] at h_; exact h_); (have c7b4 : (9223372036854775807 < a0_0.size + 1 + a0_1.size + 9 + 2 + 6 + a0_2.size) = False := eq_false (Nat.not_lt.mpr c7b3)); (have c7b0 := eq_true c7); (have c7b1 : decide ((((((a0_0 ++ (⟨#[32]⟩ : ByteArray)) ++ a0_1) ++ (⟨#[32, 72, 84, 84, 80, 47, 49, 46, 49]⟩ : ByteArray)) ++ (⟨#[13, 10]⟩ : ByteArray)) ++ (⟨#[72, 111, 115, 116, 58, 32]⟩ : ByteArray)).size + a0_2.size ≤ 9223372036854775807) = true := decide_eq_true c7); (try have c7b2 : (9223372036854775807 < (((((a0_0 ++ (⟨#[32]⟩ : ByteArray)) ++ a0_1) ++ (⟨#[32, 72, 84, 84, 80, 47, 49, 46, 49]⟩ : ByteArray)) ++ (⟨#[13, 10]⟩ : ByteArray)) ++ (⟨#[72, 111, 115, 116, 58, 32]⟩ : ByteArray)).size + a0_2.size) = False := eq_false (Nat.not_lt.2 c7)); by_cases c8 : ((((((a0_0 ++ (⟨#[32]⟩ : ByteArray)) ++ a0_1) ++ (⟨#[32, 72, 84, 84, 80, 47, 49, 46, 49]⟩ : ByteArray)) ++ (⟨#[13, 10]⟩ : ByteArray)) ++ (⟨#[72, 111, 115, 116, 58, 32]⟩ : ByteArray)) ++ a0_2).size + 2 ≤ 9223372036854775807
       ·
        rw [if_pos c8] at H; (have c8b3 : a0_0.size + 1 + a0_1.size + 9 + 2 + 6 + a0_2.size + 2 ≤ 9223372036854775807 := by have h_ := c8; simp only [ByteArray.size_append] at h_; exact h_); (have c8b4 : (9223372036854775807 < a0_0.size + 1 + a0_1.size + 9 + 2 + 6 + a0_2.size + 2) = False := eq_false (Nat.not_lt.mpr c8b3)); (have c8b0 := eq_true c8); (have c8b1 : decide (((((((a0_0 ++ (⟨#[32]⟩ : ByteArray)) ++ a0_1) ++ (⟨#[32, 72, 84, 84, 80, 47, 49, 46, 49]⟩ : ByteArray)) ++ (⟨#[13, 10]⟩ : ByteArray)) ++ (⟨#[72, 111, 115, 116, 58, 32]⟩ : ByteArray)) ++ a0_2).size + 2 ≤ 9223372036854775807) = true := decide_eq_true c8); (try have c8b2 : (9223372036854775807 < ((((((a0_0 ++ (⟨#[32]⟩ : ByteArray)) ++ a0_1) ++ (⟨#[32, 72, 84, 84, 80, 47, 49, 46, 49]⟩ : ByteArray)) ++ (⟨#[13, 10]⟩ : ByteArray)) ++ (⟨#[72, 111, 115, 116, 58, 32]⟩ : ByteArray)) ++ a0_2).size + 2) = False := eq_false (Nat.not_lt.2 c8)); (have HC9 := zM H); clear H; (go_enter Tryz.func14, Tryz.ntmps14); (go_upto_if 23 with (first | ((with_reducible refine gate_dst (N := 1) rfl ?_); (try (refine gate_guard (by rfl) ?_; dsimp only)); refine box_event ?hg (N := 1) ?hd (cs := #[.string a0_0, .string a0_1, .string a0_2, .string a0_3, .string a0_4]) (t := 24) ?hr ?_; (case hd => rfl); (case hg => rfl); (case hr => first | (go_simp; done) | (go_simp; rfl)); intro gb133 hg w10 hbox hb; have n0_ := zM (below_step (by repeat (first | exact HB.out | apply zA | apply zN | apply z1)) hb); have n1_ := zM (hbox); have n2_ := zM ((by rw [hg]; exact (below_size (by repeat (first | exact HB.out | apply zA | apply zN | apply z1))) : w.heap.size ≤ gb133)); have n3_ := zM ((by rw [hg]; exact (below_size (by repeat (first | exact HB.out | apply zA | apply zN | apply z1))) : w.heap.size ≤ gb133)); clear HB; have HB := n0_; have BK133 := n1_; have GW133 := n2_; have GE133 := n3_; clear n0_ n1_ n2_ n3_; clear hb hbox hg; have hcz11_0 : w10.cell? ⟨gb133, 0, none⟩ = some (.string a0_0) := (blk_cell BK133.out 0).trans rfl; have hcz11_1 : w10.cell? ⟨gb133, 1, none⟩ = some (.string a0_1) := (blk_cell BK133.out 1).trans rfl; have hcz11_2 : w10.cell? ⟨gb133, 2, none⟩ = some (.string a0_2) := (blk_cell BK133.out 2).trans rfl; have hcz11_3 : w10.cell? ⟨gb133, 3, none⟩ = some (.string a0_3) := (blk_cell BK133.out 3).trans rfl; have hcz11_4 : w10.cell? ⟨gb133, 4, none⟩ = some (.string a0_4) := (blk_cell BK133.out 4).trans rfl; have hfz11_0 := blk_frozen BK133.out 0; have hfz11_1 := blk_frozen BK133.out 1; have hfz11_2 := blk_frozen BK133.out 2; have hfz11_3 := blk_frozen BK133.out 3; have hfz11_4 := blk_frozen BK133.out 4))); (try simp only [Act.put, zS]); go_cut [4] (fun v4 wc => ∃ (kq : Nat) (x4_8 : ByteArray), v4 = .string x4_8 ∧ Aside0 (http_WriteRequest.j0 kq x4_8 a0_0 a0_1 a0_2 a0_3 a0_4 = some (r1, r2)) ∧ Aside0 (kq ≤ k) ∧ Aside0 (wc.heap[gb133]? = some (.cells #[.string a0_0, .string a0_1, .string a0_2, .string a0_3, .string a0_4] 24 (0, 0))) ∧ Aside0 (Below w.heap.size w wc))
        case first =>
         (have H := HC9.out); clear HC9; by_cases c12 : a0_3.toList = ([] : List UInt8)
         ·
          rw [if_pos c12] at H; (have c12b0 : (a0_3.toList == ([] : List UInt8)) = true := beq_iff_eq.mpr c12); (have c12b1 : (a0_3.toList != ([] : List UInt8)) = false := bne_eq_false_iff_eq.mpr c12); (have c12b2 : a0_3.toList.isEmpty = true := List.isEmpty_iff.mpr c12); clear c12; (first | rw [c12b0] | (simp only [i64_w, i32_w]; rw [c12b0]) | skip); (try rw [c12b2]); (have H' := zM H); clear H; (go_wp2); go_meet
          case rel => exact ⟨_, (((((((a0_0 ++ (⟨#[32]⟩ : ByteArray)) ++ a0_1) ++ (⟨#[32, 72, 84, 84, 80, 47, 49, 46, 49]⟩ : ByteArray)) ++ (⟨#[13, 10]⟩ : ByteArray)) ++ (⟨#[72, 111, 115, 116, 58, 32]⟩ : ByteArray)) ++ a0_2) ++ (⟨#[13, 10]⟩ : ByteArray)), (by first | rfl | (simp; done) | (simp [*]; done)), H', ⟨by first | omega | exact Nat.le_refl _⟩, ⟨by (with_reducible repeat (first | refine blk_drewN ?_ _ | refine blk_drew ?_ | refine blk_alloc ?_ _)); exact BK133.out⟩, ⟨by repeat (first | exact HB.out | apply zA | apply zN | apply z1 | refine below_set ?_ GE133.out)⟩⟩
         ·
          rw [if_neg c12] at H; (have c12b0 : (a0_3.toList == ([] : List UInt8)) = false := beq_eq_false_iff_ne.mpr c12); (have c12b1 : (a0_3.toList != ([] : List UInt8)) = true := bne_iff_ne.mpr c12); (have c12b2 : a0_3.toList.isEmpty = false := List.isEmpty_eq_false_iff.mpr c12); (first | rw [c12b0] | (simp only [i64_w, i32_w]; rw [c12b0]) | skip); (try rw [c12b2]); by_cases c13 : 14 + a0_3.size ≤ 9223372036854775807
          ·
           rw [if_pos c13] at H; (have c13b0 := eq_true c13); (have c13b1 : decide (14 + a0_3.size ≤ 9223372036854775807) = true := decide_eq_true c13); (try have c13b2 : (9223372036854775807 < 14 + a0_3.size) = False := eq_false (Nat.not_lt.2 c13)); by_cases c14 : ((⟨#[67, 111, 110, 116, 101, 110, 116, 45, 84, 121, 112, 101, 58, 32]⟩ : ByteArray) ++ a0_3).size + 2 ≤ 9223372036854775807
           ·
            rw [if_pos c14] at H; (have c14b3 : 14 + a0_3.size + 2 ≤ 9223372036854775807 := by have h_ := c14; simp only [ByteArray.size_append] at h_; exact h_); (have c14b4 : (9223372036854775807 < 14 + a0_3.size + 2) = False := eq_false (Nat.not_lt.mpr c14b3)); (have c14b0 := eq_true c14); (have c14b1 : decide (((⟨#[67, 111, 110, 116, 101, 110, 116, 45, 84, 121, 112, 101, 58, 32]⟩ : ByteArray) ++ a0_3).size + 2 ≤ 9223372036854775807) = true := decide_eq_true c14); (try have c14b2 : (9223372036854775807 < ((⟨#[67, 111, 110, 116, 101, 110, 116, 45, 84, 121, 112, 101, 58, 32]⟩ : ByteArray) ++ a0_3).size + 2) = False := eq_false (Nat.not_lt.2 c14)); by_cases c15 : (((((((a0_0 ++ (⟨#[32]⟩ : ByteArray)) ++ a0_1) ++ (⟨#[32, 72, 84, 84, 80, 47, 49, 46, 49]⟩ : ByteArray)) ++ (⟨#[13, 10]⟩ : ByteArray)) ++ (⟨#[72, 111, 115, 116, 58, 32]⟩ : ByteArray)) ++ a0_2) ++ (⟨#[13, 10]⟩ : ByteArray)).size + (((⟨#[67, 111, 110, 116, 101, 110, 116, 45, 84, 121, 112, 101, 58, 32]⟩ : ByteArray) ++ a0_3) ++ (⟨#[13, 10]⟩ : ByteArray)).size ≤ 9223372036854775807
            ·
             rw [if_pos c15] at H; (have c15b3 : a0_0.size + 1 + a0_1.size + 9 + 2 + 6 + a0_2.size + 2 + (14 + a0_3.size + 2) ≤ 9223372036854775807 := by have h_ := c15; simp only [ByteArray.size_append] at h_; exact h_); (have c15b4 : (9223372036854775807 < a0_0.size + 1 + a0_1.size + 9 + 2 + 6 + a0_2.size + 2 + (14 + a0_3.size + 2)) = False := eq_false (Nat.not_lt.mpr c15b3)); (have c15b0 := eq_true c15); (have c15b1 : decide ((((((((a0_0 ++ (⟨#[32]⟩ : ByteArray)) ++ a0_1) ++ (⟨#[32, 72, 84, 84, 80, 47, 49, 46, 49]⟩ : ByteArray)) ++ (⟨#[13, 10]⟩ : ByteArray)) ++ (⟨#[72, 111, 115, 116, 58, 32]⟩ : ByteArray)) ++ a0_2) ++ (⟨#[13, 10]⟩ : ByteArray)).size + (((⟨#[67, 111, 110, 116, 101, 110, 116, 45, 84, 121, 112, 101, 58, 32]⟩ : ByteArray) ++ a0_3) ++ (⟨#[13, 10]⟩ : ByteArray)).size ≤ 9223372036854775807) = true := decide_eq_true c15); (try have c15b2 : (9223372036854775807 < (((((((a0_0 ++ (⟨#[32]⟩ : ByteArray)) ++ a0_1) ++ (⟨#[32, 72, 84, 84, 80, 47, 49, 46, 49]⟩ : ByteArray)) ++ (⟨#[13, 10]⟩ : ByteArray)) ++ (⟨#[72, 111, 115, 116, 58, 32]⟩ : ByteArray)) ++ a0_2) ++ (⟨#[13, 10]⟩ : ByteArray)).size + (((⟨#[67, 111, 110, 116, 101, 110, 116, 45, 84, 121, 112, 101, 58, 32]⟩ : ByteArray) ++ a0_3) ++ (⟨#[13, 10]⟩ : ByteArray)).size) = False := eq_false (Nat.not_lt.2 c15)); (have H' := zM H); clear H; (have hcz16_0 : w10.cell? ⟨gb133, 0, none⟩ = some (.string a0_0) := (blk_cell BK133.out 0).trans rfl); (have hcz16_1 : w10.cell? ⟨gb133, 1, none⟩ = some (.string a0_1) := (blk_cell BK133.out 1).trans rfl); (have hcz16_2 : w10.cell? ⟨gb133, 2, none⟩ = some (.string a0_2) := (blk_cell BK133.out 2).trans rfl); (have hcz16_3 : w10.cell? ⟨gb133, 3, none⟩ = some (.string a0_3) := (blk_cell BK133.out 3).trans rfl); (have hcz16_4 : w10.cell? ⟨gb133, 4, none⟩ = some (.string a0_4) := (blk_cell BK133.out 4).trans rfl); (have hfz16_0 := blk_frozen BK133.out 0); (have hfz16_1 := blk_frozen BK133.out 1); (have hfz16_2 := blk_frozen BK133.out 2); (have hfz16_3 := blk_frozen BK133.out 3); (have hfz16_4 := blk_frozen BK133.out 4); (go_wp2); go_meet
             case rel => exact ⟨_, ((((((((a0_0 ++ (⟨#[32]⟩ : ByteArray)) ++ a0_1) ++ (⟨#[32, 72, 84, 84, 80, 47, 49, 46, 49]⟩ : ByteArray)) ++ (⟨#[13, 10]⟩ : ByteArray)) ++ (⟨#[72, 111, 115, 116, 58, 32]⟩ : ByteArray)) ++ a0_2) ++ (⟨#[13, 10]⟩ : ByteArray)) ++ (((⟨#[67, 111, 110, 116, 101, 110, 116, 45, 84, 121, 112, 101, 58, 32]⟩ : ByteArray) ++ a0_3) ++ (⟨#[13, 10]⟩ : ByteArray))), (by first | rfl | (simp; done) | (simp [*]; done)), H', ⟨by first | omega | exact Nat.le_refl _⟩, ⟨by (with_reducible repeat (first | refine blk_drewN ?_ _ | refine blk_drew ?_ | refine blk_alloc ?_ _)); exact BK133.out⟩, ⟨by repeat (first | exact HB.out | apply zA | apply zN | apply z1 | refine below_set ?_ GE133.out)⟩⟩
            ·
             rw [if_neg c15] at H; exact absurd H (by simp)
           ·
            rw [if_neg c14] at H; exact absurd H (by simp)
          ·
           rw [if_neg c13] at H; exact absurd H (by simp)
        case rest =>
         clear HC9; (try clear c1); (try clear c2); (try clear c2b0); (try clear c2b1); (try clear c2b2); (try clear p2); (try clear c3); (try clear c3b0); (try clear c3b1); (try clear c3b2); (try clear c4); (try clear c4b0); (try clear c4b1); (try clear c4b2); (try clear c5); (try clear c5b0); (try clear c5b1); (try clear c5b2); (try clear c6); (try clear c6b0); (try clear c6b1); (try clear c6b2); (try clear c7); (try clear c7b0); (try clear c7b1); (try clear c7b2); (try clear c8); (try clear c8b0); (try clear c8b1); (try clear c8b2); (try clear c12); (try clear c12b0); (try clear c12b1); (try clear c12b2); (try clear c13); (try clear c13b0); (try clear c13b1); (try clear c13b2); (try clear c14); (try clear c14b0); (try clear c14b1); (try clear c14b2); (try clear c15); (try clear c15b0); (try clear c15b1); (try clear c15b2); (try clear hcz11_0); (try clear hcz11_1); (try clear hcz11_2); (try clear hcz11_3); (try clear hcz11_4); (try clear hcz16_0); (try clear hcz16_1); (try clear hcz16_2); (try clear hcz16_3); (try clear hcz16_4); (try clear hfz11_0); (try clear hfz11_1); (try clear hfz11_2); (try clear hfz11_3); (try clear hfz11_4); (try clear hfz16_0); (try clear hfz16_1); (try clear hfz16_2); (try clear hfz16_3); (try clear hfz16_4); obtain ⟨kq, x4_8, rfl, HA, HJ8, BK133, HB⟩ := hcut
         cases kq with
         | zero => exact absurd HA.out (by simp [http_WriteRequest.j0])
         | succ kj8 =>
          (have H := HA.out); clear HA; simp only [http_WriteRequest.j0] at H; (replace H := Option.bind_eq_some_iff.mp H); (obtain ⟨t134, A170, H⟩ := H); replace H : (if 16 + t134.size ≤ 9223372036854775807 then (if ((⟨#[67, 111, 110, 116, 101, 110, 116, 45, 76, 101, 110, 103, 116, 104, 58, 32]⟩ : ByteArray) ++ t134).size + 2 ≤ 9223372036854775807 then (if (((⟨#[67, 111, 110, 116, 101, 110, 116, 45, 76, 101, 110, 103, 116, 104, 58, 32]⟩ : ByteArray) ++ t134) ++ (⟨#[13, 10]⟩ : ByteArray)).size + 2 ≤ 9223372036854775807 then (if ((((⟨#[67, 111, 110, 116, 101, 110, 116, 45, 76, 101, 110, 103, 116, 104, 58, 32]⟩ : ByteArray) ++ t134) ++ (⟨#[13, 10]⟩ : ByteArray)) ++ (⟨#[13, 10]⟩ : ByteArray)).size + a0_4.size ≤ 9223372036854775807 then (if x4_8.size + (((((⟨#[67, 111, 110, 116, 101, 110, 116, 45, 76, 101, 110, 103, 116, 104, 58, 32]⟩ : ByteArray) ++ t134) ++ (⟨#[13, 10]⟩ : ByteArray)) ++ (⟨#[13, 10]⟩ : ByteArray)) ++ a0_4).size ≤ 9223372036854775807 then ((http_ReadRequest.f kj8 (x4_8 ++ (((((⟨#[67, 111, 110, 116, 101, 110, 116, 45, 76, 101, 110, 103, 116, 104, 58, 32]⟩ : ByteArray) ++ t134) ++ (⟨#[13, 10]⟩ : ByteArray)) ++ (⟨#[13, 10]⟩ : ByteArray)) ++ a0_4))).bind fun bt135 => (if bt135.2.2.2.2.2.2 = 0 then (if bt135.2.2.2.2.2.1 = ((x4_8 ++ (((((⟨#[67, 111, 110, 116, 101, 110, 116, 45, 76, 101, 110, 103, 116, 104, 58, 32]⟩ : ByteArray) ++ t134) ++ (⟨#[13, 10]⟩ : ByteArray)) ++ (⟨#[13, 10]⟩ : ByteArray)) ++ a0_4)).size : Int) then (if (!(bt135.1.toList == a0_0.toList) || (!(bt135.2.1.toList == a0_1.toList) || (!(bt135.2.2.1.toList == a0_2.toList) || (!(bt135.2.2.2.1.toList == a0_3.toList) || (!(bt135.2.2.2.2.1.toList == a0_4.toList)))))) = true then (some ((⟨#[]⟩ : ByteArray), 1)) else (some (x4_8 ++ (((((⟨#[67, 111, 110, 116, 101, 110, 116, 45, 76, 101, 110, 103, 116, 104, 58, 32]⟩ : ByteArray) ++ t134) ++ (⟨#[13, 10]⟩ : ByteArray)) ++ (⟨#[13, 10]⟩ : ByteArray)) ++ a0_4), 0))) else (some ((⟨#[]⟩ : ByteArray), 1))) else (some ((⟨#[]⟩ : ByteArray), 1)))) else (none)) else (none)) else (none)) else (none)) else (none)) = some (r1, r2) := H; (have A17 := zM A170); clear A170; by_cases c18 : 16 + t134.size ≤ 9223372036854775807
          ·
           rw [if_pos c18] at H; (have c18b0 := eq_true c18); (have c18b1 : decide (16 + t134.size ≤ 9223372036854775807) = true := decide_eq_true c18); (try have c18b2 : (9223372036854775807 < 16 + t134.size) = False := eq_false (Nat.not_lt.2 c18)); by_cases c19 : ((⟨#[67, 111, 110, 116, 101, 110, 116, 45, 76, 101, 110, 103, 116, 104, 58, 32]⟩ : ByteArray) ++ t134).size + 2 ≤ 9223372036854775807
           ·
            rw [if_pos c19] at H; (have c19b3 : 16 + t134.size + 2 ≤ 9223372036854775807 := by have h_ := c19; simp only [ByteArray.size_append] at h_; exact h_); (have c19b4 : (9223372036854775807 < 16 + t134.size + 2) = False := eq_false (Nat.not_lt.mpr c19b3)); (have c19b0 := eq_true c19); (have c19b1 : decide (((⟨#[67, 111, 110, 116, 101, 110, 116, 45, 76, 101, 110, 103, 116, 104, 58, 32]⟩ : ByteArray) ++ t134).size + 2 ≤ 9223372036854775807) = true := decide_eq_true c19); (try have c19b2 : (9223372036854775807 < ((⟨#[67, 111, 110, 116, 101, 110, 116, 45, 76, 101, 110, 103, 116, 104, 58, 32]⟩ : ByteArray) ++ t134).size + 2) = False := eq_false (Nat.not_lt.2 c19)); by_cases c20 : (((⟨#[67, 111, 110, 116, 101, 110, 116, 45, 76, 101, 110, 103, 116, 104, 58, 32]⟩ : ByteArray) ++ t134) ++ (⟨#[13, 10]⟩ : ByteArray)).size + 2 ≤ 9223372036854775807
            ·
             rw [if_pos c20] at H; (have c20b3 : 16 + t134.size + 2 + 2 ≤ 9223372036854775807 := by have h_ := c20; simp only [ByteArray.size_append] at h_; exact h_); (have c20b4 : (9223372036854775807 < 16 + t134.size + 2 + 2) = False := eq_false (Nat.not_lt.mpr c20b3)); (have c20b0 := eq_true c20); (have c20b1 : decide ((((⟨#[67, 111, 110, 116, 101, 110, 116, 45, 76, 101, 110, 103, 116, 104, 58, 32]⟩ : ByteArray) ++ t134) ++ (⟨#[13, 10]⟩ : ByteArray)).size + 2 ≤ 9223372036854775807) = true := decide_eq_true c20); (try have c20b2 : (9223372036854775807 < (((⟨#[67, 111, 110, 116, 101, 110, 116, 45, 76, 101, 110, 103, 116, 104, 58, 32]⟩ : ByteArray) ++ t134) ++ (⟨#[13, 10]⟩ : ByteArray)).size + 2) = False := eq_false (Nat.not_lt.2 c20)); by_cases c21 : ((((⟨#[67, 111, 110, 116, 101, 110, 116, 45, 76, 101, 110, 103, 116, 104, 58, 32]⟩ : ByteArray) ++ t134) ++ (⟨#[13, 10]⟩ : ByteArray)) ++ (⟨#[13, 10]⟩ : ByteArray)).size + a0_4.size ≤ 9223372036854775807
             ·
              rw [if_pos c21] at H; (have c21b3 : 16 + t134.size + 2 + 2 + a0_4.size ≤ 9223372036854775807 := by have h_ := c21; simp only [ByteArray.size_append] at h_; exact h_); (have c21b4 : (9223372036854775807 < 16 + t134.size + 2 + 2 + a0_4.size) = False := eq_false (Nat.not_lt.mpr c21b3)); (have c21b0 := eq_true c21); (have c21b1 : decide (((((⟨#[67, 111, 110, 116, 101, 110, 116, 45, 76, 101, 110, 103, 116, 104, 58, 32]⟩ : ByteArray) ++ t134) ++ (⟨#[13, 10]⟩ : ByteArray)) ++ (⟨#[13, 10]⟩ : ByteArray)).size + a0_4.size ≤ 9223372036854775807) = true := decide_eq_true c21); (try have c21b2 : (9223372036854775807 < ((((⟨#[67, 111, 110, 116, 101, 110, 116, 45, 76, 101, 110, 103, 116, 104, 58, 32]⟩ : ByteArray) ++ t134) ++ (⟨#[13, 10]⟩ : ByteArray)) ++ (⟨#[13, 10]⟩ : ByteArray)).size + a0_4.size) = False := eq_false (Nat.not_lt.2 c21)); by_cases c22 : x4_8.size + (((((⟨#[67, 111, 110, 116, 101, 110, 116, 45, 76, 101, 110, 103, 116, 104, 58, 32]⟩ : ByteArray) ++ t134) ++ (⟨#[13, 10]⟩ : ByteArray)) ++ (⟨#[13, 10]⟩ : ByteArray)) ++ a0_4).size ≤ 9223372036854775807
              ·
               rw [if_pos c22] at H; (have c22b3 : x4_8.size + (16 + t134.size + 2 + 2 + a0_4.size) ≤ 9223372036854775807 := by have h_ := c22; simp only [ByteArray.size_append] at h_; exact h_); (have c22b4 : (9223372036854775807 < x4_8.size + (16 + t134.size + 2 + 2 + a0_4.size)) = False := eq_false (Nat.not_lt.mpr c22b3)); (have c22b0 := eq_true c22); (have c22b1 : decide (x4_8.size + (((((⟨#[67, 111, 110, 116, 101, 110, 116, 45, 76, 101, 110, 103, 116, 104, 58, 32]⟩ : ByteArray) ++ t134) ++ (⟨#[13, 10]⟩ : ByteArray)) ++ (⟨#[13, 10]⟩ : ByteArray)) ++ a0_4).size ≤ 9223372036854775807) = true := decide_eq_true c22); (try have c22b2 : (9223372036854775807 < x4_8.size + (((((⟨#[67, 111, 110, 116, 101, 110, 116, 45, 76, 101, 110, 103, 116, 104, 58, 32]⟩ : ByteArray) ++ t134) ++ (⟨#[13, 10]⟩ : ByteArray)) ++ (⟨#[13, 10]⟩ : ByteArray)) ++ a0_4).size) = False := eq_false (Nat.not_lt.2 c22)); (replace H := Option.bind_eq_some_iff.mp H); (obtain ⟨⟨t135, t136, t137, t138, t139, t140, t141⟩, A230, H⟩ := H); replace H : (if t141 = 0 then (if t140 = ((x4_8 ++ (((((⟨#[67, 111, 110, 116, 101, 110, 116, 45, 76, 101, 110, 103, 116, 104, 58, 32]⟩ : ByteArray) ++ t134) ++ (⟨#[13, 10]⟩ : ByteArray)) ++ (⟨#[13, 10]⟩ : ByteArray)) ++ a0_4)).size : Int) then (if (!(t135.toList == a0_0.toList) || (!(t136.toList == a0_1.toList) || (!(t137.toList == a0_2.toList) || (!(t138.toList == a0_3.toList) || (!(t139.toList == a0_4.toList)))))) = true then (some ((⟨#[]⟩ : ByteArray), 1)) else (some (x4_8 ++ (((((⟨#[67, 111, 110, 116, 101, 110, 116, 45, 76, 101, 110, 103, 116, 104, 58, 32]⟩ : ByteArray) ++ t134) ++ (⟨#[13, 10]⟩ : ByteArray)) ++ (⟨#[13, 10]⟩ : ByteArray)) ++ a0_4), 0))) else (some ((⟨#[]⟩ : ByteArray), 1))) else (some ((⟨#[]⟩ : ByteArray), 1))) = some (r1, r2) := H; (have A23 := zM A230); clear A230; by_cases c24 : t141 = 0
               ·
                rw [if_pos c24] at H; (have c24b0 : (t141 == 0) = true := beq_iff_eq.mpr c24); (have c24b1 : (t141 != 0) = false := bne_eq_false_iff_eq.mpr c24); clear c24; by_cases c25 : t140 = ((x4_8 ++ (((((⟨#[67, 111, 110, 116, 101, 110, 116, 45, 76, 101, 110, 103, 116, 104, 58, 32]⟩ : ByteArray) ++ t134) ++ (⟨#[13, 10]⟩ : ByteArray)) ++ (⟨#[13, 10]⟩ : ByteArray)) ++ a0_4)).size : Int)
                ·
                 rw [if_pos c25] at H; (have e25_ : (((x4_8 ++ (((((⟨#[67, 111, 110, 116, 101, 110, 116, 45, 76, 101, 110, 103, 116, 104, 58, 32]⟩ : ByteArray) ++ t134) ++ (⟨#[13, 10]⟩ : ByteArray)) ++ (⟨#[13, 10]⟩ : ByteArray)) ++ a0_4))).size : Int) = (x4_8.size : Int) + (16 + (t134.size : Int) + 2 + 2 + (a0_4.size : Int)) := by simp only [ByteArray.size_append]; have h1 : (⟨#[67, 111, 110, 116, 101, 110, 116, 45, 76, 101, 110, 103, 116, 104, 58, 32]⟩ : ByteArray).size = 16 := rfl; have h2 : (⟨#[13, 10]⟩ : ByteArray).size = 2 := rfl; omega); (have c25b9 : (t140 = (x4_8.size : Int) + (16 + (t134.size : Int) + 2 + 2 + (a0_4.size : Int))) = True := eq_true (c25.trans e25_)); (have c25b8 : (t140 != (x4_8.size : Int) + (16 + (t134.size : Int) + 2 + 2 + (a0_4.size : Int))) = false := bne_eq_false_iff_eq.mpr (c25.trans e25_)); clear e25_; (have c25b0 : (t140 == ((x4_8 ++ (((((⟨#[67, 111, 110, 116, 101, 110, 116, 45, 76, 101, 110, 103, 116, 104, 58, 32]⟩ : ByteArray) ++ t134) ++ (⟨#[13, 10]⟩ : ByteArray)) ++ (⟨#[13, 10]⟩ : ByteArray)) ++ a0_4)).size : Int)) = true := beq_iff_eq.mpr c25); (have c25b1 : (t140 != ((x4_8 ++ (((((⟨#[67, 111, 110, 116, 101, 110, 116, 45, 76, 101, 110, 103, 116, 104, 58, 32]⟩ : ByteArray) ++ t134) ++ (⟨#[13, 10]⟩ : ByteArray)) ++ (⟨#[13, 10]⟩ : ByteArray)) ++ a0_4)).size : Int)) = false := bne_eq_false_iff_eq.mpr c25); clear c25; by_cases c26 : (!(t135.toList == a0_0.toList) || (!(t136.toList == a0_1.toList) || (!(t137.toList == a0_2.toList) || (!(t138.toList == a0_3.toList) || (!(t139.toList == a0_4.toList)))))) = true
                 ·
                  rw [if_pos c26] at H; (have c26b0 : (!(t135.toList == a0_0.toList) || (!(t136.toList == a0_1.toList) || (!(t137.toList == a0_2.toList) || (!(t138.toList == a0_3.toList) || (!(t139.toList == a0_4.toList)))))) = true := c26); clear c26; simp only [Option.some.injEq, Prod.mk.injEq] at H; (obtain ⟨rfl, rfl⟩ := H); (try go_wp2); (have n0_ := zM (blk_drew BK133.out)); (have n1_ := zM (below_drew1 HB.out)); clear BK133; clear HB; (have BK133 := n0_); (have HB := n1_); clear n0_ n1_; (refine start_ (n := 13) (S := fun w' => w'.cell? ⟨gb133, 0, none⟩ = some (.string a0_0) ∧ w'.cell? ⟨gb133, 1, none⟩ = some (.string a0_1) ∧ w'.cell? ⟨gb133, 2, none⟩ = some (.string a0_2) ∧ w'.cell? ⟨gb133, 3, none⟩ = some (.string a0_3) ∧ w'.cell? ⟨gb133, 4, none⟩ = some (.string a0_4)) (ds := []) #[false, false, false, false, false, false, false, false, false, false, false, false, false] (by kernel_rfl) rfl rfl ⟨(blk_cell BK133.out 0).trans rfl, (blk_cell BK133.out 1).trans rfl, (blk_cell BK133.out 2).trans rfl, (blk_cell BK133.out 3).trans rfl, (blk_cell BK133.out 4).trans rfl⟩ (fun hHeld => ?_); refine with_tabW http_WriteRequest.tab4 http_WriteRequest.bits4 (fun HT_ HW_ => ?_)); (generalize wc.drew = w27 at BK133 HB hHeld ⊢); (refine pure_ (i := 0) (N := some 30) (v := ?_) (a' := ?_) #[true, false, false, false, false, false, false, false, false, false, false, false, false] rfl rfl (any_of HT_.out (by kernel_rfl)) (fun _ _ _ h => h) (Or.inl ⟨by rfl, ?_⟩) ?_ ?_); rotate_left
                  ·
                   intro w'; go_simp; with_reducible rfl
                  rotate_left
                  ·
                   simp only [Act.put, zS, zI]; rfl
                  (refine pure_ (i := 1) (N := some 31) (v := ?_) (a' := ?_) #[true, true, false, false, false, false, false, false, false, false, false, false, false] rfl rfl (any_of HT_.out (by kernel_rfl)) (fun _ _ _ h => h) (Or.inl ⟨by rfl, ?_⟩) ?_ ?_); rotate_left
                  ·
                   intro w'; go_simp; with_reducible rfl
                  rotate_left
                  ·
                   simp only [Act.put, zS, zI]; rfl
                  (refine pure_ (i := 8) (N := some 38) (v := ?_) (a' := ?_) #[true, true, false, false, false, false, false, false, true, false, false, false, false] rfl rfl (any_of HT_.out (by kernel_rfl)) (fun _ _ _ h => h) (Or.inl ⟨by rfl, ?_⟩) ?_ ?_); rotate_left
                  ·
                   intro w'; go_simp; with_reducible rfl
                  rotate_left
                  ·
                   simp only [Act.put, zS, zI]; rfl
                  (refine take_ (i := 2) (N := some 32) (v := ?_) (a' := ?_) #[true, true, true, false, false, false, false, false, true, false, false, false, false] rfl rfl (take_ofW HT_.out HW_.out (by kernel_rfl)) (fun _ _ _ h => h) (Or.inl ⟨by rfl, ?_⟩) hHeld ?_ ?_); rotate_left
                  ·
                   rintro w' ⟨s0, s1, s2, s3, s4⟩; go_simp; with_reducible rfl
                  rotate_left
                  ·
                   simp only [Act.put, zS, zI]; rfl
                  (refine pure_ (i := 3) (N := some 33) (v := ?_) (a' := ?_) #[true, true, true, true, false, false, false, false, true, false, false, false, false] rfl rfl (any_of HT_.out (by kernel_rfl)) (fun _ _ _ h => h) (Or.inl ⟨by rfl, ?_⟩) ?_ ?_); rotate_left
                  ·
                   intro w'; go_simp; with_reducible rfl
                  rotate_left
                  ·
                   simp only [Act.put, zS, zI]; rfl
                  (refine take_ (i := 9) (N := some 39) (v := ?_) (a' := ?_) #[true, true, true, true, false, false, false, false, true, true, false, false, false] rfl rfl (take_ofW HT_.out HW_.out (by kernel_rfl)) (fun _ _ _ h => h) (Or.inl ⟨by rfl, ?_⟩) hHeld ?_ ?_); rotate_left
                  ·
                   rintro w' ⟨s0, s1, s2, s3, s4⟩; go_simp; with_reducible rfl
                  rotate_left
                  ·
                   simp only [Act.put, zS, zI]; rfl
                  (refine one_ (i := 4) (N := some 34) #[true, true, true, true, true, false, false, false, true, true, false, false, false] rfl rfl (one_of HT_.out (by kernel_rfl)) (by decide) (fun K hK => ?_)); (refine goes_ Tryz.func29 (by kernel_rfl) rfl #[.int .i64 (a0_4.size : Int)] (by rfl) rfl rfl (by (try simp only [zL]); first | done | rfl) ?_); (with_reducible refine (strconv_Itoa.calls (a0_4.size : Int) t134 _ ?side1 A17.out).mono ?_); (case side1 => exact ⟨TabsOk.below hT.out (by repeat (first | exact HB.out | apply zA | apply zN | apply z1 | refine below_set ?_ GE133.out))⟩); rintro e w28 ⟨rfl, hb⟩; (refine ⟨_, rfl, ?_⟩); (have n0_ := zM (blk_below (g := gb133) (o := .cells #[.string a0_0, .string a0_1, .string a0_2, .string a0_3, .string a0_4] 24 (0, 0)) (by (with_reducible repeat (first | refine blk_drewN ?_ _ | refine blk_drew ?_ | refine blk_alloc ?_ _)); exact BK133.out) hb)); (have n1_ := zM (below_step (by repeat (first | exact HB.out | apply zA | apply zN | apply z1 | refine below_set ?_ GE133.out)) hb)); clear BK133; clear HB; (have BK133 := n0_); (have HB := n1_); clear n0_ n1_; (try clear hb); (try clear hb2); (try clear hk); (try clear hi); (refine hK.out _ _ ⟨(blk_cell BK133.out 0).trans rfl, (blk_cell BK133.out 1).trans rfl, (blk_cell BK133.out 2).trans rfl, (blk_cell BK133.out 3).trans rfl, (blk_cell BK133.out 4).trans rfl⟩ (fun hHeld => ?_)); clear hK K; (refine norm_ (a' := ?_) ?_ ?_); rotate_left
                  ·
                   (show Act.put _ (some 34) _ = _); simp only [Act.put, zS, zI]; rfl
                  (refine pure_ (i := 5) (N := some 35) (v := ?_) (a' := ?_) #[true, true, true, true, true, true, false, false, true, true, false, false, false] rfl rfl (any_of HT_.out (by kernel_rfl)) (fun _ _ _ h => h) (Or.inl ⟨by rfl, ?_⟩) ?_ ?_); rotate_left
                  ·
                   intro w'; go_simp; with_reducible rfl
                  rotate_left
                  ·
                   simp only [Act.put, zS, zI]; rfl
                  (refine pure_ (i := 6) (N := some 36) (v := ?_) (a' := ?_) #[true, true, true, true, true, true, true, false, true, true, false, false, false] rfl rfl (any_of HT_.out (by kernel_rfl)) (fun _ _ _ h => h) (Or.inl ⟨by rfl, ?_⟩) ?_ ?_); rotate_left
                  ·
                   intro w'; go_simp; with_reducible rfl
                  rotate_left
                  ·
                   simp only [Act.put, zS, zI]; rfl
                  (refine pure_ (i := 7) (N := some 37) (v := ?_) (a' := ?_) #[true, true, true, true, true, true, true, true, true, true, false, false, false] rfl rfl (any_of HT_.out (by kernel_rfl)) (fun _ _ _ h => h) (Or.inl ⟨by rfl, ?_⟩) ?_ ?_); rotate_left
                  ·
                   intro w'; go_simp; with_reducible rfl
                  rotate_left
                  ·
                   simp only [Act.put, zS, zI]; rfl
                  (refine pure_ (i := 10) (N := some 40) (v := ?_) (a' := ?_) #[true, true, true, true, true, true, true, true, true, true, true, false, false] rfl rfl (any_of HT_.out (by kernel_rfl)) (fun _ _ _ h => h) (Or.inl ⟨by rfl, ?_⟩) ?_ ?_); rotate_left
                  ·
                   intro w'; go_simp; with_reducible rfl
                  rotate_left
                  ·
                   simp only [Act.put, zS, zI]; rfl
                  (refine pure_ (i := 11) (N := some 41) (v := ?_) (a' := ?_) #[true, true, true, true, true, true, true, true, true, true, true, true, false] rfl rfl (any_of HT_.out (by kernel_rfl)) (fun _ _ _ h => h) (Or.inl ⟨by rfl, ?_⟩) ?_ ?_); rotate_left
                  ·
                   intro w'; go_simp; with_reducible rfl
                  rotate_left
                  ·
                   simp only [Act.put, zS, zI]; rfl
                  (refine pure_ (i := 12) (N := some 4) (v := ?_) (a' := ?_) #[true, true, true, true, true, true, true, true, true, true, true, true, true] rfl rfl (any_of HT_.out (by kernel_rfl)) (fun _ _ _ h => h) (Or.inl ⟨by rfl, ?_⟩) ?_ ?_); rotate_left
                  ·
                   intro w'; go_simp; with_reducible rfl
                  rotate_left
                  ·
                   simp only [Act.put, zS, zI]; rfl
                  (refine done_ (done_of HT_.out (by kernel_rfl)) ?_); (try go_wp2_with (first | ((with_reducible refine gate_callee (f := 10) rfl ?_); refine goesL_ (some 44) rfl rfl Tryz.func10 (by kernel_rfl) rfl #[.string (x4_8 ++ (((((⟨#[67, 111, 110, 116, 101, 110, 116, 45, 76, 101, 110, 103, 116, 104, 58, 32]⟩ : ByteArray) ++ t134) ++ (⟨#[13, 10]⟩ : ByteArray)) ++ (⟨#[13, 10]⟩ : ByteArray)) ++ a0_4))] rfl (by (try simp only [zL]); first | done | rfl) ?_; (with_reducible refine (http_ReadRequest.calls kj8 (x4_8 ++ (((((⟨#[67, 111, 110, 116, 101, 110, 116, 45, 76, 101, 110, 103, 116, 104, 58, 32]⟩ : ByteArray) ++ t134) ++ (⟨#[13, 10]⟩ : ByteArray)) ++ (⟨#[13, 10]⟩ : ByteArray)) ++ a0_4)) t135 t136 t137 t138 t139 t140 t141 _ ?side1 A23.out).mono ?_); (case side1 => exact ⟨TabsOk.below hT.out (by repeat (first | exact HB.out | apply zA | apply zN | apply z1 | refine below_set ?_ GE133.out))⟩); rintro e w29 ⟨rfl, hb⟩; refine ⟨_, rfl, ?_⟩; have n0_ := zM (blk_below (g := gb133) (o := .cells #[.string a0_0, .string a0_1, .string a0_2, .string a0_3, .string a0_4] 24 (0, 0)) (by (with_reducible repeat (first | refine blk_drewN ?_ _ | refine blk_drew ?_ | refine blk_alloc ?_ _)); exact BK133.out) hb); have n1_ := zM (below_step (by repeat (first | exact HB.out | apply zA | apply zN | apply z1 | refine below_set ?_ GE133.out)) hb); clear BK133; clear HB; have BK133 := n0_; have HB := n1_; clear n0_ n1_; (try clear hb); (try clear hb2); (try clear hk); (try clear hi)) | ((with_reducible refine gate_dst (N := 5) rfl ?_); (try (refine gate_guard (by rfl) ?_; dsimp only)); refine box_event ?hg (N := 5) ?hd (cs := #[.string (⟨#[]⟩ : ByteArray), .string (⟨#[]⟩ : ByteArray), .string (⟨#[]⟩ : ByteArray), .string (⟨#[]⟩ : ByteArray), .string (⟨#[]⟩ : ByteArray)]) (t := 24) ?hr ?_; (case hd => rfl); (case hg => rfl); (case hr => first | (go_simp; done) | (go_simp; rfl)); intro gb142 hg w30 hbox hb; have n0_ := zM (blk_below (g := gb133) (o := .cells #[.string a0_0, .string a0_1, .string a0_2, .string a0_3, .string a0_4] 24 (0, 0)) (by (with_reducible repeat (first | refine blk_drewN ?_ _ | refine blk_drew ?_ | refine blk_alloc ?_ _)); exact BK133.out) hb); have n1_ := zM (below_step (by repeat (first | exact HB.out | apply zA | apply zN | apply z1 | refine below_set ?_ GE133.out)) hb); have n2_ := zM (hbox); have n3_ := zM ((by rw [hg]; exact (below_size (by repeat (first | exact HB.out | apply zA | apply zN | apply z1 | refine below_set ?_ GE133.out))) : w.heap.size ≤ gb142)); have n4_ := zM ((by rw [hg]; exact (below_size (by repeat (first | exact HB.out | apply zA | apply zN | apply z1 | refine below_set ?_ GE133.out))) : w.heap.size ≤ gb142)); have n5_ := zM ((by rw [hg]; exact Nat.ne_of_lt (blk_lt (g := gb133) (o := .cells #[.string a0_0, .string a0_1, .string a0_2, .string a0_3, .string a0_4] 24 (0, 0)) (by (with_reducible repeat (first | refine blk_drewN ?_ _ | refine blk_drew ?_ | refine blk_alloc ?_ _)); exact BK133.out)) : gb133 ≠ gb142)); have n6_ := zM ((by rw [hg]; exact Nat.ne_of_gt (blk_lt (g := gb133) (o := .cells #[.string a0_0, .string a0_1, .string a0_2, .string a0_3, .string a0_4] 24 (0, 0)) (by (with_reducible repeat (first | refine blk_drewN ?_ _ | refine blk_drew ?_ | refine blk_alloc ?_ _)); exact BK133.out)) : gb142 ≠ gb133)); clear BK133; clear HB; have BK133 := n0_; have HB := n1_; have BK142 := n2_; have GW142 := n3_; have GE142 := n4_; have NB133_142 := n5_; have NB142_133 := n6_; clear n0_ n1_ n2_ n3_ n4_ n5_ n6_; clear hb hbox hg; have hnb31 := NB142_133.out; have hnc31 := NB133_142.out; have hcz32_0 : w30.cell? ⟨gb142, 0, none⟩ = some (.string (⟨#[]⟩ : ByteArray)) := (blk_cell BK142.out 0).trans rfl; have hcz32_1 : w30.cell? ⟨gb142, 1, none⟩ = some (.string (⟨#[]⟩ : ByteArray)) := (blk_cell BK142.out 1).trans rfl; have hcz32_2 : w30.cell? ⟨gb142, 2, none⟩ = some (.string (⟨#[]⟩ : ByteArray)) := (blk_cell BK142.out 2).trans rfl; have hcz32_3 : w30.cell? ⟨gb142, 3, none⟩ = some (.string (⟨#[]⟩ : ByteArray)) := (blk_cell BK142.out 3).trans rfl; have hcz32_4 : w30.cell? ⟨gb142, 4, none⟩ = some (.string (⟨#[]⟩ : ByteArray)) := (blk_cell BK142.out 4).trans rfl; have hfz32_0 := blk_frozen BK142.out 0; have hfz32_1 := blk_frozen BK142.out 1; have hfz32_2 := blk_frozen BK142.out 2; have hfz32_3 := blk_frozen BK142.out 3; have hfz32_4 := blk_frozen BK142.out 4; have hcz33_0 : w30.cell? ⟨gb133, 0, none⟩ = some (.string a0_0) := (blk_cell BK133.out 0).trans rfl; have hcz33_1 : w30.cell? ⟨gb133, 1, none⟩ = some (.string a0_1) := (blk_cell BK133.out 1).trans rfl; have hcz33_2 : w30.cell? ⟨gb133, 2, none⟩ = some (.string a0_2) := (blk_cell BK133.out 2).trans rfl; have hcz33_3 : w30.cell? ⟨gb133, 3, none⟩ = some (.string a0_3) := (blk_cell BK133.out 3).trans rfl; have hcz33_4 : w30.cell? ⟨gb133, 4, none⟩ = some (.string a0_4) := (blk_cell BK133.out 4).trans rfl; have hfz33_0 := blk_frozen BK133.out 0; have hfz33_1 := blk_frozen BK133.out 1; have hfz33_2 := blk_frozen BK133.out 2; have hfz33_3 := blk_frozen BK133.out 3; have hfz33_4 := blk_frozen BK133.out 4))); (go_ret2); exact ⟨by first | rfl | (simp [errW_none, errW_some] <;> rfl) | (simp [*, errW_none, errW_some] <;> rfl), by repeat (first | exact HB.out | apply zA | apply zN | apply z1 | refine below_set ?_ GE133.out | refine below_set ?_ GE142.out)⟩
                 ·
                  rw [if_neg c26] at H; (have c26b0 : (!(t135.toList == a0_0.toList) || (!(t136.toList == a0_1.toList) || (!(t137.toList == a0_2.toList) || (!(t138.toList == a0_3.toList) || (!(t139.toList == a0_4.toList)))))) = false := by simpa using c26); clear c26; simp only [Option.some.injEq, Prod.mk.injEq] at H; (obtain ⟨rfl, rfl⟩ := H); (try go_wp2); (have n0_ := zM (blk_drew BK133.out)); (have n1_ := zM (below_drew1 HB.out)); clear BK133; clear HB; (have BK133 := n0_); (have HB := n1_); clear n0_ n1_; (refine start_ (n := 13) (S := fun w' => w'.cell? ⟨gb133, 0, none⟩ = some (.string a0_0) ∧ w'.cell? ⟨gb133, 1, none⟩ = some (.string a0_1) ∧ w'.cell? ⟨gb133, 2, none⟩ = some (.string a0_2) ∧ w'.cell? ⟨gb133, 3, none⟩ = some (.string a0_3) ∧ w'.cell? ⟨gb133, 4, none⟩ = some (.string a0_4)) (ds := []) #[false, false, false, false, false, false, false, false, false, false, false, false, false] (by kernel_rfl) rfl rfl ⟨(blk_cell BK133.out 0).trans rfl, (blk_cell BK133.out 1).trans rfl, (blk_cell BK133.out 2).trans rfl, (blk_cell BK133.out 3).trans rfl, (blk_cell BK133.out 4).trans rfl⟩ (fun hHeld => ?_); refine with_tabW http_WriteRequest.tab4 http_WriteRequest.bits4 (fun HT_ HW_ => ?_)); (generalize wc.drew = w34 at BK133 HB hHeld ⊢); (refine pure_ (i := 0) (N := some 30) (v := ?_) (a' := ?_) #[true, false, false, false, false, false, false, false, false, false, false, false, false] rfl rfl (any_of HT_.out (by kernel_rfl)) (fun _ _ _ h => h) (Or.inl ⟨by rfl, ?_⟩) ?_ ?_); rotate_left
                  ·
                   intro w'; go_simp; with_reducible rfl
                  rotate_left
                  ·
                   simp only [Act.put, zS, zI]; rfl
                  (refine pure_ (i := 1) (N := some 31) (v := ?_) (a' := ?_) #[true, true, false, false, false, false, false, false, false, false, false, false, false] rfl rfl (any_of HT_.out (by kernel_rfl)) (fun _ _ _ h => h) (Or.inl ⟨by rfl, ?_⟩) ?_ ?_); rotate_left
                  ·
                   intro w'; go_simp; with_reducible rfl
                  rotate_left
                  ·
                   simp only [Act.put, zS, zI]; rfl
                  (refine pure_ (i := 8) (N := some 38) (v := ?_) (a' := ?_) #[true, true, false, false, false, false, false, false, true, false, false, false, false] rfl rfl (any_of HT_.out (by kernel_rfl)) (fun _ _ _ h => h) (Or.inl ⟨by rfl, ?_⟩) ?_ ?_); rotate_left
                  ·
                   intro w'; go_simp; with_reducible rfl
                  rotate_left
                  ·
                   simp only [Act.put, zS, zI]; rfl
                  (refine take_ (i := 2) (N := some 32) (v := ?_) (a' := ?_) #[true, true, true, false, false, false, false, false, true, false, false, false, false] rfl rfl (take_ofW HT_.out HW_.out (by kernel_rfl)) (fun _ _ _ h => h) (Or.inl ⟨by rfl, ?_⟩) hHeld ?_ ?_); rotate_left
                  ·
                   rintro w' ⟨s0, s1, s2, s3, s4⟩; go_simp; with_reducible rfl
                  rotate_left
                  ·
                   simp only [Act.put, zS, zI]; rfl
                  (refine pure_ (i := 3) (N := some 33) (v := ?_) (a' := ?_) #[true, true, true, true, false, false, false, false, true, false, false, false, false] rfl rfl (any_of HT_.out (by kernel_rfl)) (fun _ _ _ h => h) (Or.inl ⟨by rfl, ?_⟩) ?_ ?_); rotate_left
                  ·
                   intro w'; go_simp; with_reducible rfl
                  rotate_left
                  ·
                   simp only [Act.put, zS, zI]; rfl
                  (refine take_ (i := 9) (N := some 39) (v := ?_) (a' := ?_) #[true, true, true, true, false, false, false, false, true, true, false, false, false] rfl rfl (take_ofW HT_.out HW_.out (by kernel_rfl)) (fun _ _ _ h => h) (Or.inl ⟨by rfl, ?_⟩) hHeld ?_ ?_); rotate_left
                  ·
                   rintro w' ⟨s0, s1, s2, s3, s4⟩; go_simp; with_reducible rfl
                  rotate_left
                  ·
                   simp only [Act.put, zS, zI]; rfl
                  (refine one_ (i := 4) (N := some 34) #[true, true, true, true, true, false, false, false, true, true, false, false, false] rfl rfl (one_of HT_.out (by kernel_rfl)) (by decide) (fun K hK => ?_)); (refine goes_ Tryz.func29 (by kernel_rfl) rfl #[.int .i64 (a0_4.size : Int)] (by rfl) rfl rfl (by (try simp only [zL]); first | done | rfl) ?_); (with_reducible refine (strconv_Itoa.calls (a0_4.size : Int) t134 _ ?side1 A17.out).mono ?_); (case side1 => exact ⟨TabsOk.below hT.out (by repeat (first | exact HB.out | apply zA | apply zN | apply z1 | refine below_set ?_ GE133.out))⟩); rintro e w35 ⟨rfl, hb⟩; (refine ⟨_, rfl, ?_⟩); (have n0_ := zM (blk_below (g := gb133) (o := .cells #[.string a0_0, .string a0_1, .string a0_2, .string a0_3, .string a0_4] 24 (0, 0)) (by (with_reducible repeat (first | refine blk_drewN ?_ _ | refine blk_drew ?_ | refine blk_alloc ?_ _)); exact BK133.out) hb)); (have n1_ := zM (below_step (by repeat (first | exact HB.out | apply zA | apply zN | apply z1 | refine below_set ?_ GE133.out)) hb)); clear BK133; clear HB; (have BK133 := n0_); (have HB := n1_); clear n0_ n1_; (try clear hb); (try clear hb2); (try clear hk); (try clear hi); (refine hK.out _ _ ⟨(blk_cell BK133.out 0).trans rfl, (blk_cell BK133.out 1).trans rfl, (blk_cell BK133.out 2).trans rfl, (blk_cell BK133.out 3).trans rfl, (blk_cell BK133.out 4).trans rfl⟩ (fun hHeld => ?_)); clear hK K; (refine norm_ (a' := ?_) ?_ ?_); rotate_left
                  ·
                   (show Act.put _ (some 34) _ = _); simp only [Act.put, zS, zI]; rfl
                  (refine pure_ (i := 5) (N := some 35) (v := ?_) (a' := ?_) #[true, true, true, true, true, true, false, false, true, true, false, false, false] rfl rfl (any_of HT_.out (by kernel_rfl)) (fun _ _ _ h => h) (Or.inl ⟨by rfl, ?_⟩) ?_ ?_); rotate_left
                  ·
                   intro w'; go_simp; with_reducible rfl
                  rotate_left
                  ·
                   simp only [Act.put, zS, zI]; rfl
                  (refine pure_ (i := 6) (N := some 36) (v := ?_) (a' := ?_) #[true, true, true, true, true, true, true, false, true, true, false, false, false] rfl rfl (any_of HT_.out (by kernel_rfl)) (fun _ _ _ h => h) (Or.inl ⟨by rfl, ?_⟩) ?_ ?_); rotate_left
                  ·
                   intro w'; go_simp; with_reducible rfl
                  rotate_left
                  ·
                   simp only [Act.put, zS, zI]; rfl
                  (refine pure_ (i := 7) (N := some 37) (v := ?_) (a' := ?_) #[true, true, true, true, true, true, true, true, true, true, false, false, false] rfl rfl (any_of HT_.out (by kernel_rfl)) (fun _ _ _ h => h) (Or.inl ⟨by rfl, ?_⟩) ?_ ?_); rotate_left
                  ·
                   intro w'; go_simp; with_reducible rfl
                  rotate_left
                  ·
                   simp only [Act.put, zS, zI]; rfl
                  (refine pure_ (i := 10) (N := some 40) (v := ?_) (a' := ?_) #[true, true, true, true, true, true, true, true, true, true, true, false, false] rfl rfl (any_of HT_.out (by kernel_rfl)) (fun _ _ _ h => h) (Or.inl ⟨by rfl, ?_⟩) ?_ ?_); rotate_left
                  ·
                   intro w'; go_simp; with_reducible rfl
                  rotate_left
                  ·
                   simp only [Act.put, zS, zI]; rfl
                  (refine pure_ (i := 11) (N := some 41) (v := ?_) (a' := ?_) #[true, true, true, true, true, true, true, true, true, true, true, true, false] rfl rfl (any_of HT_.out (by kernel_rfl)) (fun _ _ _ h => h) (Or.inl ⟨by rfl, ?_⟩) ?_ ?_); rotate_left
                  ·
                   intro w'; go_simp; with_reducible rfl
                  rotate_left
                  ·
                   simp only [Act.put, zS, zI]; rfl
                  (refine pure_ (i := 12) (N := some 4) (v := ?_) (a' := ?_) #[true, true, true, true, true, true, true, true, true, true, true, true, true] rfl rfl (any_of HT_.out (by kernel_rfl)) (fun _ _ _ h => h) (Or.inl ⟨by rfl, ?_⟩) ?_ ?_); rotate_left
                  ·
                   intro w'; go_simp; with_reducible rfl
                  rotate_left
                  ·
                   simp only [Act.put, zS, zI]; rfl
                  (refine done_ (done_of HT_.out (by kernel_rfl)) ?_); (try go_wp2_with (first | ((with_reducible refine gate_callee (f := 10) rfl ?_); refine goesL_ (some 44) rfl rfl Tryz.func10 (by kernel_rfl) rfl #[.string (x4_8 ++ (((((⟨#[67, 111, 110, 116, 101, 110, 116, 45, 76, 101, 110, 103, 116, 104, 58, 32]⟩ : ByteArray) ++ t134) ++ (⟨#[13, 10]⟩ : ByteArray)) ++ (⟨#[13, 10]⟩ : ByteArray)) ++ a0_4))] rfl (by (try simp only [zL]); first | done | rfl) ?_; (with_reducible refine (http_ReadRequest.calls kj8 (x4_8 ++ (((((⟨#[67, 111, 110, 116, 101, 110, 116, 45, 76, 101, 110, 103, 116, 104, 58, 32]⟩ : ByteArray) ++ t134) ++ (⟨#[13, 10]⟩ : ByteArray)) ++ (⟨#[13, 10]⟩ : ByteArray)) ++ a0_4)) t135 t136 t137 t138 t139 t140 t141 _ ?side1 A23.out).mono ?_); (case side1 => exact ⟨TabsOk.below hT.out (by repeat (first | exact HB.out | apply zA | apply zN | apply z1 | refine below_set ?_ GE133.out))⟩); rintro e w36 ⟨rfl, hb⟩; refine ⟨_, rfl, ?_⟩; have n0_ := zM (blk_below (g := gb133) (o := .cells #[.string a0_0, .string a0_1, .string a0_2, .string a0_3, .string a0_4] 24 (0, 0)) (by (with_reducible repeat (first | refine blk_drewN ?_ _ | refine blk_drew ?_ | refine blk_alloc ?_ _)); exact BK133.out) hb); have n1_ := zM (below_step (by repeat (first | exact HB.out | apply zA | apply zN | apply z1 | refine below_set ?_ GE133.out)) hb); clear BK133; clear HB; have BK133 := n0_; have HB := n1_; clear n0_ n1_; (try clear hb); (try clear hb2); (try clear hk); (try clear hi)) | ((with_reducible refine gate_dst (N := 5) rfl ?_); (try (refine gate_guard (by rfl) ?_; dsimp only)); refine box_event ?hg (N := 5) ?hd (cs := #[.string (⟨#[]⟩ : ByteArray), .string (⟨#[]⟩ : ByteArray), .string (⟨#[]⟩ : ByteArray), .string (⟨#[]⟩ : ByteArray), .string (⟨#[]⟩ : ByteArray)]) (t := 24) ?hr ?_; (case hd => rfl); (case hg => rfl); (case hr => first | (go_simp; done) | (go_simp; rfl)); intro gb142 hg w37 hbox hb; have n0_ := zM (blk_below (g := gb133) (o := .cells #[.string a0_0, .string a0_1, .string a0_2, .string a0_3, .string a0_4] 24 (0, 0)) (by (with_reducible repeat (first | refine blk_drewN ?_ _ | refine blk_drew ?_ | refine blk_alloc ?_ _)); exact BK133.out) hb); have n1_ := zM (below_step (by repeat (first | exact HB.out | apply zA | apply zN | apply z1 | refine below_set ?_ GE133.out)) hb); have n2_ := zM (hbox); have n3_ := zM ((by rw [hg]; exact (below_size (by repeat (first | exact HB.out | apply zA | apply zN | apply z1 | refine below_set ?_ GE133.out))) : w.heap.size ≤ gb142)); have n4_ := zM ((by rw [hg]; exact (below_size (by repeat (first | exact HB.out | apply zA | apply zN | apply z1 | refine below_set ?_ GE133.out))) : w.heap.size ≤ gb142)); have n5_ := zM ((by rw [hg]; exact Nat.ne_of_lt (blk_lt (g := gb133) (o := .cells #[.string a0_0, .string a0_1, .string a0_2, .string a0_3, .string a0_4] 24 (0, 0)) (by (with_reducible repeat (first | refine blk_drewN ?_ _ | refine blk_drew ?_ | refine blk_alloc ?_ _)); exact BK133.out)) : gb133 ≠ gb142)); have n6_ := zM ((by rw [hg]; exact Nat.ne_of_gt (blk_lt (g := gb133) (o := .cells #[.string a0_0, .string a0_1, .string a0_2, .string a0_3, .string a0_4] 24 (0, 0)) (by (with_reducible repeat (first | refine blk_drewN ?_ _ | refine blk_drew ?_ | refine blk_alloc ?_ _)); exact BK133.out)) : gb142 ≠ gb133)); clear BK133; clear HB; have BK133 := n0_; have HB := n1_; have BK142 := n2_; have GW142 := n3_; have GE142 := n4_; have NB133_142 := n5_; have NB142_133 := n6_; clear n0_ n1_ n2_ n3_ n4_ n5_ n6_; clear hb hbox hg; have hnb38 := NB142_133.out; have hnc38 := NB133_142.out; have hcz39_0 : w37.cell? ⟨gb142, 0, none⟩ = some (.string (⟨#[]⟩ : ByteArray)) := (blk_cell BK142.out 0).trans rfl; have hcz39_1 : w37.cell? ⟨gb142, 1, none⟩ = some (.string (⟨#[]⟩ : ByteArray)) := (blk_cell BK142.out 1).trans rfl; have hcz39_2 : w37.cell? ⟨gb142, 2, none⟩ = some (.string (⟨#[]⟩ : ByteArray)) := (blk_cell BK142.out 2).trans rfl; have hcz39_3 : w37.cell? ⟨gb142, 3, none⟩ = some (.string (⟨#[]⟩ : ByteArray)) := (blk_cell BK142.out 3).trans rfl; have hcz39_4 : w37.cell? ⟨gb142, 4, none⟩ = some (.string (⟨#[]⟩ : ByteArray)) := (blk_cell BK142.out 4).trans rfl; have hfz39_0 := blk_frozen BK142.out 0; have hfz39_1 := blk_frozen BK142.out 1; have hfz39_2 := blk_frozen BK142.out 2; have hfz39_3 := blk_frozen BK142.out 3; have hfz39_4 := blk_frozen BK142.out 4; have hcz40_0 : w37.cell? ⟨gb133, 0, none⟩ = some (.string a0_0) := (blk_cell BK133.out 0).trans rfl; have hcz40_1 : w37.cell? ⟨gb133, 1, none⟩ = some (.string a0_1) := (blk_cell BK133.out 1).trans rfl; have hcz40_2 : w37.cell? ⟨gb133, 2, none⟩ = some (.string a0_2) := (blk_cell BK133.out 2).trans rfl; have hcz40_3 : w37.cell? ⟨gb133, 3, none⟩ = some (.string a0_3) := (blk_cell BK133.out 3).trans rfl; have hcz40_4 : w37.cell? ⟨gb133, 4, none⟩ = some (.string a0_4) := (blk_cell BK133.out 4).trans rfl; have hfz40_0 := blk_frozen BK133.out 0; have hfz40_1 := blk_frozen BK133.out 1; have hfz40_2 := blk_frozen BK133.out 2; have hfz40_3 := blk_frozen BK133.out 3; have hfz40_4 := blk_frozen BK133.out 4))); (go_ret2); exact ⟨by first | rfl | (simp [errW_none, errW_some] <;> rfl) | (simp [*, errW_none, errW_some] <;> rfl), by repeat (first | exact HB.out | apply zA | apply zN | apply z1 | refine below_set ?_ GE133.out | refine below_set ?_ GE142.out)⟩
                ·
                 rw [if_neg c25] at H; (have e25_ : (((x4_8 ++ (((((⟨#[67, 111, 110, 116, 101, 110, 116, 45, 76, 101, 110, 103, 116, 104, 58, 32]⟩ : ByteArray) ++ t134) ++ (⟨#[13, 10]⟩ : ByteArray)) ++ (⟨#[13, 10]⟩ : ByteArray)) ++ a0_4))).size : Int) = (x4_8.size : Int) + (16 + (t134.size : Int) + 2 + 2 + (a0_4.size : Int)) := by simp only [ByteArray.size_append]; have h1 : (⟨#[67, 111, 110, 116, 101, 110, 116, 45, 76, 101, 110, 103, 116, 104, 58, 32]⟩ : ByteArray).size = 16 := rfl; have h2 : (⟨#[13, 10]⟩ : ByteArray).size = 2 := rfl; omega); (have c25b9 : (t140 = (x4_8.size : Int) + (16 + (t134.size : Int) + 2 + 2 + (a0_4.size : Int))) = False := eq_false (fun h_ => c25 (h_.trans e25_.symm))); (have c25b8 : (t140 != (x4_8.size : Int) + (16 + (t134.size : Int) + 2 + 2 + (a0_4.size : Int))) = true := bne_iff_ne.mpr (fun h_ => c25 (h_.trans e25_.symm))); clear e25_; (have c25b0 : (t140 == ((x4_8 ++ (((((⟨#[67, 111, 110, 116, 101, 110, 116, 45, 76, 101, 110, 103, 116, 104, 58, 32]⟩ : ByteArray) ++ t134) ++ (⟨#[13, 10]⟩ : ByteArray)) ++ (⟨#[13, 10]⟩ : ByteArray)) ++ a0_4)).size : Int)) = false := beq_eq_false_iff_ne.mpr c25); (have c25b1 : (t140 != ((x4_8 ++ (((((⟨#[67, 111, 110, 116, 101, 110, 116, 45, 76, 101, 110, 103, 116, 104, 58, 32]⟩ : ByteArray) ++ t134) ++ (⟨#[13, 10]⟩ : ByteArray)) ++ (⟨#[13, 10]⟩ : ByteArray)) ++ a0_4)).size : Int)) = true := bne_iff_ne.mpr c25); simp only [Option.some.injEq, Prod.mk.injEq] at H; (obtain ⟨rfl, rfl⟩ := H); (try go_wp2); (have n0_ := zM (blk_drew BK133.out)); (have n1_ := zM (below_drew1 HB.out)); clear BK133; clear HB; (have BK133 := n0_); (have HB := n1_); clear n0_ n1_; (refine start_ (n := 13) (S := fun w' => w'.cell? ⟨gb133, 0, none⟩ = some (.string a0_0) ∧ w'.cell? ⟨gb133, 1, none⟩ = some (.string a0_1) ∧ w'.cell? ⟨gb133, 2, none⟩ = some (.string a0_2) ∧ w'.cell? ⟨gb133, 3, none⟩ = some (.string a0_3) ∧ w'.cell? ⟨gb133, 4, none⟩ = some (.string a0_4)) (ds := []) #[false, false, false, false, false, false, false, false, false, false, false, false, false] (by kernel_rfl) rfl rfl ⟨(blk_cell BK133.out 0).trans rfl, (blk_cell BK133.out 1).trans rfl, (blk_cell BK133.out 2).trans rfl, (blk_cell BK133.out 3).trans rfl, (blk_cell BK133.out 4).trans rfl⟩ (fun hHeld => ?_); refine with_tabW http_WriteRequest.tab4 http_WriteRequest.bits4 (fun HT_ HW_ => ?_)); (generalize wc.drew = w41 at BK133 HB hHeld ⊢); (refine pure_ (i := 0) (N := some 30) (v := ?_) (a' := ?_) #[true, false, false, false, false, false, false, false, false, false, false, false, false] rfl rfl (any_of HT_.out (by kernel_rfl)) (fun _ _ _ h => h) (Or.inl ⟨by rfl, ?_⟩) ?_ ?_); rotate_left
                 ·
                  intro w'; go_simp; with_reducible rfl
                 rotate_left
                 ·
                  simp only [Act.put, zS, zI]; rfl
                 (refine pure_ (i := 1) (N := some 31) (v := ?_) (a' := ?_) #[true, true, false, false, false, false, false, false, false, false, false, false, false] rfl rfl (any_of HT_.out (by kernel_rfl)) (fun _ _ _ h => h) (Or.inl ⟨by rfl, ?_⟩) ?_ ?_); rotate_left
                 ·
                  intro w'; go_simp; with_reducible rfl
                 rotate_left
                 ·
                  simp only [Act.put, zS, zI]; rfl
                 (refine pure_ (i := 8) (N := some 38) (v := ?_) (a' := ?_) #[true, true, false, false, false, false, false, false, true, false, false, false, false] rfl rfl (any_of HT_.out (by kernel_rfl)) (fun _ _ _ h => h) (Or.inl ⟨by rfl, ?_⟩) ?_ ?_); rotate_left
                 ·
                  intro w'; go_simp; with_reducible rfl
                 rotate_left
                 ·
                  simp only [Act.put, zS, zI]; rfl
                 (refine take_ (i := 2) (N := some 32) (v := ?_) (a' := ?_) #[true, true, true, false, false, false, false, false, true, false, false, false, false] rfl rfl (take_ofW HT_.out HW_.out (by kernel_rfl)) (fun _ _ _ h => h) (Or.inl ⟨by rfl, ?_⟩) hHeld ?_ ?_); rotate_left
                 ·
                  rintro w' ⟨s0, s1, s2, s3, s4⟩; go_simp; with_reducible rfl
                 rotate_left
                 ·
                  simp only [Act.put, zS, zI]; rfl
                 (refine pure_ (i := 3) (N := some 33) (v := ?_) (a' := ?_) #[true, true, true, true, false, false, false, false, true, false, false, false, false] rfl rfl (any_of HT_.out (by kernel_rfl)) (fun _ _ _ h => h) (Or.inl ⟨by rfl, ?_⟩) ?_ ?_); rotate_left
                 ·
                  intro w'; go_simp; with_reducible rfl
                 rotate_left
                 ·
                  simp only [Act.put, zS, zI]; rfl
                 (refine take_ (i := 9) (N := some 39) (v := ?_) (a' := ?_) #[true, true, true, true, false, false, false, false, true, true, false, false, false] rfl rfl (take_ofW HT_.out HW_.out (by kernel_rfl)) (fun _ _ _ h => h) (Or.inl ⟨by rfl, ?_⟩) hHeld ?_ ?_); rotate_left
                 ·
                  rintro w' ⟨s0, s1, s2, s3, s4⟩; go_simp; with_reducible rfl
                 rotate_left
                 ·
                  simp only [Act.put, zS, zI]; rfl
                 (refine one_ (i := 4) (N := some 34) #[true, true, true, true, true, false, false, false, true, true, false, false, false] rfl rfl (one_of HT_.out (by kernel_rfl)) (by decide) (fun K hK => ?_)); (refine goes_ Tryz.func29 (by kernel_rfl) rfl #[.int .i64 (a0_4.size : Int)] (by rfl) rfl rfl (by (try simp only [zL]); first | done | rfl) ?_); (with_reducible refine (strconv_Itoa.calls (a0_4.size : Int) t134 _ ?side1 A17.out).mono ?_); (case side1 => exact ⟨TabsOk.below hT.out (by repeat (first | exact HB.out | apply zA | apply zN | apply z1 | refine below_set ?_ GE133.out))⟩); rintro e w42 ⟨rfl, hb⟩; (refine ⟨_, rfl, ?_⟩); (have n0_ := zM (blk_below (g := gb133) (o := .cells #[.string a0_0, .string a0_1, .string a0_2, .string a0_3, .string a0_4] 24 (0, 0)) (by (with_reducible repeat (first | refine blk_drewN ?_ _ | refine blk_drew ?_ | refine blk_alloc ?_ _)); exact BK133.out) hb)); (have n1_ := zM (below_step (by repeat (first | exact HB.out | apply zA | apply zN | apply z1 | refine below_set ?_ GE133.out)) hb)); clear BK133; clear HB; (have BK133 := n0_); (have HB := n1_); clear n0_ n1_; (try clear hb); (try clear hb2); (try clear hk); (try clear hi); (refine hK.out _ _ ⟨(blk_cell BK133.out 0).trans rfl, (blk_cell BK133.out 1).trans rfl, (blk_cell BK133.out 2).trans rfl, (blk_cell BK133.out 3).trans rfl, (blk_cell BK133.out 4).trans rfl⟩ (fun hHeld => ?_)); clear hK K; (refine norm_ (a' := ?_) ?_ ?_); rotate_left
                 ·
                  (show Act.put _ (some 34) _ = _); simp only [Act.put, zS, zI]; rfl
                 (refine pure_ (i := 5) (N := some 35) (v := ?_) (a' := ?_) #[true, true, true, true, true, true, false, false, true, true, false, false, false] rfl rfl (any_of HT_.out (by kernel_rfl)) (fun _ _ _ h => h) (Or.inl ⟨by rfl, ?_⟩) ?_ ?_); rotate_left
                 ·
                  intro w'; go_simp; with_reducible rfl
                 rotate_left
                 ·
                  simp only [Act.put, zS, zI]; rfl
                 (refine pure_ (i := 6) (N := some 36) (v := ?_) (a' := ?_) #[true, true, true, true, true, true, true, false, true, true, false, false, false] rfl rfl (any_of HT_.out (by kernel_rfl)) (fun _ _ _ h => h) (Or.inl ⟨by rfl, ?_⟩) ?_ ?_); rotate_left
                 ·
                  intro w'; go_simp; with_reducible rfl
                 rotate_left
                 ·
                  simp only [Act.put, zS, zI]; rfl
                 (refine pure_ (i := 7) (N := some 37) (v := ?_) (a' := ?_) #[true, true, true, true, true, true, true, true, true, true, false, false, false] rfl rfl (any_of HT_.out (by kernel_rfl)) (fun _ _ _ h => h) (Or.inl ⟨by rfl, ?_⟩) ?_ ?_); rotate_left
                 ·
                  intro w'; go_simp; with_reducible rfl
                 rotate_left
                 ·
                  simp only [Act.put, zS, zI]; rfl
                 (refine pure_ (i := 10) (N := some 40) (v := ?_) (a' := ?_) #[true, true, true, true, true, true, true, true, true, true, true, false, false] rfl rfl (any_of HT_.out (by kernel_rfl)) (fun _ _ _ h => h) (Or.inl ⟨by rfl, ?_⟩) ?_ ?_); rotate_left
                 ·
                  intro w'; go_simp; with_reducible rfl
                 rotate_left
                 ·
                  simp only [Act.put, zS, zI]; rfl
                 (refine pure_ (i := 11) (N := some 41) (v := ?_) (a' := ?_) #[true, true, true, true, true, true, true, true, true, true, true, true, false] rfl rfl (any_of HT_.out (by kernel_rfl)) (fun _ _ _ h => h) (Or.inl ⟨by rfl, ?_⟩) ?_ ?_); rotate_left
                 ·
                  intro w'; go_simp; with_reducible rfl
                 rotate_left
                 ·
                  simp only [Act.put, zS, zI]; rfl
                 (refine pure_ (i := 12) (N := some 4) (v := ?_) (a' := ?_) #[true, true, true, true, true, true, true, true, true, true, true, true, true] rfl rfl (any_of HT_.out (by kernel_rfl)) (fun _ _ _ h => h) (Or.inl ⟨by rfl, ?_⟩) ?_ ?_); rotate_left
                 ·
                  intro w'; go_simp; with_reducible rfl
                 rotate_left
                 ·
                  simp only [Act.put, zS, zI]; rfl
                 (refine done_ (done_of HT_.out (by kernel_rfl)) ?_); (try go_wp2_with (first | ((with_reducible refine gate_callee (f := 10) rfl ?_); refine goesL_ (some 44) rfl rfl Tryz.func10 (by kernel_rfl) rfl #[.string (x4_8 ++ (((((⟨#[67, 111, 110, 116, 101, 110, 116, 45, 76, 101, 110, 103, 116, 104, 58, 32]⟩ : ByteArray) ++ t134) ++ (⟨#[13, 10]⟩ : ByteArray)) ++ (⟨#[13, 10]⟩ : ByteArray)) ++ a0_4))] rfl (by (try simp only [zL]); first | done | rfl) ?_; (with_reducible refine (http_ReadRequest.calls kj8 (x4_8 ++ (((((⟨#[67, 111, 110, 116, 101, 110, 116, 45, 76, 101, 110, 103, 116, 104, 58, 32]⟩ : ByteArray) ++ t134) ++ (⟨#[13, 10]⟩ : ByteArray)) ++ (⟨#[13, 10]⟩ : ByteArray)) ++ a0_4)) t135 t136 t137 t138 t139 t140 t141 _ ?side1 A23.out).mono ?_); (case side1 => exact ⟨TabsOk.below hT.out (by repeat (first | exact HB.out | apply zA | apply zN | apply z1 | refine below_set ?_ GE133.out))⟩); rintro e w43 ⟨rfl, hb⟩; refine ⟨_, rfl, ?_⟩; have n0_ := zM (blk_below (g := gb133) (o := .cells #[.string a0_0, .string a0_1, .string a0_2, .string a0_3, .string a0_4] 24 (0, 0)) (by (with_reducible repeat (first | refine blk_drewN ?_ _ | refine blk_drew ?_ | refine blk_alloc ?_ _)); exact BK133.out) hb); have n1_ := zM (below_step (by repeat (first | exact HB.out | apply zA | apply zN | apply z1 | refine below_set ?_ GE133.out)) hb); clear BK133; clear HB; have BK133 := n0_; have HB := n1_; clear n0_ n1_; (try clear hb); (try clear hb2); (try clear hk); (try clear hi)) | ((with_reducible refine gate_dst (N := 5) rfl ?_); (try (refine gate_guard (by rfl) ?_; dsimp only)); refine box_event ?hg (N := 5) ?hd (cs := #[.string (⟨#[]⟩ : ByteArray), .string (⟨#[]⟩ : ByteArray), .string (⟨#[]⟩ : ByteArray), .string (⟨#[]⟩ : ByteArray), .string (⟨#[]⟩ : ByteArray)]) (t := 24) ?hr ?_; (case hd => rfl); (case hg => rfl); (case hr => first | (go_simp; done) | (go_simp; rfl)); intro gb142 hg w44 hbox hb; have n0_ := zM (blk_below (g := gb133) (o := .cells #[.string a0_0, .string a0_1, .string a0_2, .string a0_3, .string a0_4] 24 (0, 0)) (by (with_reducible repeat (first | refine blk_drewN ?_ _ | refine blk_drew ?_ | refine blk_alloc ?_ _)); exact BK133.out) hb); have n1_ := zM (below_step (by repeat (first | exact HB.out | apply zA | apply zN | apply z1 | refine below_set ?_ GE133.out)) hb); have n2_ := zM (hbox); have n3_ := zM ((by rw [hg]; exact (below_size (by repeat (first | exact HB.out | apply zA | apply zN | apply z1 | refine below_set ?_ GE133.out))) : w.heap.size ≤ gb142)); have n4_ := zM ((by rw [hg]; exact (below_size (by repeat (first | exact HB.out | apply zA | apply zN | apply z1 | refine below_set ?_ GE133.out))) : w.heap.size ≤ gb142)); have n5_ := zM ((by rw [hg]; exact Nat.ne_of_lt (blk_lt (g := gb133) (o := .cells #[.string a0_0, .string a0_1, .string a0_2, .string a0_3, .string a0_4] 24 (0, 0)) (by (with_reducible repeat (first | refine blk_drewN ?_ _ | refine blk_drew ?_ | refine blk_alloc ?_ _)); exact BK133.out)) : gb133 ≠ gb142)); have n6_ := zM ((by rw [hg]; exact Nat.ne_of_gt (blk_lt (g := gb133) (o := .cells #[.string a0_0, .string a0_1, .string a0_2, .string a0_3, .string a0_4] 24 (0, 0)) (by (with_reducible repeat (first | refine blk_drewN ?_ _ | refine blk_drew ?_ | refine blk_alloc ?_ _)); exact BK133.out)) : gb142 ≠ gb133)); clear BK133; clear HB; have BK133 := n0_; have HB := n1_; have BK142 := n2_; have GW142 := n3_; have GE142 := n4_; have NB133_142 := n5_; have NB142_133 := n6_; clear n0_ n1_ n2_ n3_ n4_ n5_ n6_; clear hb hbox hg; have hnb45 := NB142_133.out; have hnc45 := NB133_142.out; have hcz46_0 : w44.cell? ⟨gb142, 0, none⟩ = some (.string (⟨#[]⟩ : ByteArray)) := (blk_cell BK142.out 0).trans rfl; have hcz46_1 : w44.cell? ⟨gb142, 1, none⟩ = some (.string (⟨#[]⟩ : ByteArray)) := (blk_cell BK142.out 1).trans rfl; have hcz46_2 : w44.cell? ⟨gb142, 2, none⟩ = some (.string (⟨#[]⟩ : ByteArray)) := (blk_cell BK142.out 2).trans rfl; have hcz46_3 : w44.cell? ⟨gb142, 3, none⟩ = some (.string (⟨#[]⟩ : ByteArray)) := (blk_cell BK142.out 3).trans rfl; have hcz46_4 : w44.cell? ⟨gb142, 4, none⟩ = some (.string (⟨#[]⟩ : ByteArray)) := (blk_cell BK142.out 4).trans rfl; have hfz46_0 := blk_frozen BK142.out 0; have hfz46_1 := blk_frozen BK142.out 1; have hfz46_2 := blk_frozen BK142.out 2; have hfz46_3 := blk_frozen BK142.out 3; have hfz46_4 := blk_frozen BK142.out 4))); (go_ret2); exact ⟨by first | rfl | (simp [errW_none, errW_some] <;> rfl) | (simp [*, errW_none, errW_some] <;> rfl), by repeat (first | exact HB.out | apply zA | apply zN | apply z1 | refine below_set ?_ GE133.out | refine below_set ?_ GE142.out)⟩
               ·
                rw [if_neg c24] at H; (have c24b0 : (t141 == 0) = false := beq_eq_false_iff_ne.mpr c24); (have c24b1 : (t141 != 0) = true := bne_iff_ne.mpr c24); simp only [Option.some.injEq, Prod.mk.injEq] at H; (obtain ⟨rfl, rfl⟩ := H); (try go_wp2); (have n0_ := zM (blk_drew BK133.out)); (have n1_ := zM (below_drew1 HB.out)); clear BK133; clear HB; (have BK133 := n0_); (have HB := n1_); clear n0_ n1_; (refine start_ (n := 13) (S := fun w' => w'.cell? ⟨gb133, 0, none⟩ = some (.string a0_0) ∧ w'.cell? ⟨gb133, 1, none⟩ = some (.string a0_1) ∧ w'.cell? ⟨gb133, 2, none⟩ = some (.string a0_2) ∧ w'.cell? ⟨gb133, 3, none⟩ = some (.string a0_3) ∧ w'.cell? ⟨gb133, 4, none⟩ = some (.string a0_4)) (ds := []) #[false, false, false, false, false, false, false, false, false, false, false, false, false] (by kernel_rfl) rfl rfl ⟨(blk_cell BK133.out 0).trans rfl, (blk_cell BK133.out 1).trans rfl, (blk_cell BK133.out 2).trans rfl, (blk_cell BK133.out 3).trans rfl, (blk_cell BK133.out 4).trans rfl⟩ (fun hHeld => ?_); refine with_tabW http_WriteRequest.tab4 http_WriteRequest.bits4 (fun HT_ HW_ => ?_)); (generalize wc.drew = w47 at BK133 HB hHeld ⊢); (refine pure_ (i := 0) (N := some 30) (v := ?_) (a' := ?_) #[true, false, false, false, false, false, false, false, false, false, false, false, false] rfl rfl (any_of HT_.out (by kernel_rfl)) (fun _ _ _ h => h) (Or.inl ⟨by rfl, ?_⟩) ?_ ?_); rotate_left
                ·
                 intro w'; go_simp; with_reducible rfl
                rotate_left
                ·
                 simp only [Act.put, zS, zI]; rfl
                (refine pure_ (i := 1) (N := some 31) (v := ?_) (a' := ?_) #[true, true, false, false, false, false, false, false, false, false, false, false, false] rfl rfl (any_of HT_.out (by kernel_rfl)) (fun _ _ _ h => h) (Or.inl ⟨by rfl, ?_⟩) ?_ ?_); rotate_left
                ·
                 intro w'; go_simp; with_reducible rfl
                rotate_left
                ·
                 simp only [Act.put, zS, zI]; rfl
                (refine pure_ (i := 8) (N := some 38) (v := ?_) (a' := ?_) #[true, true, false, false, false, false, false, false, true, false, false, false, false] rfl rfl (any_of HT_.out (by kernel_rfl)) (fun _ _ _ h => h) (Or.inl ⟨by rfl, ?_⟩) ?_ ?_); rotate_left
                ·
                 intro w'; go_simp; with_reducible rfl
                rotate_left
                ·
                 simp only [Act.put, zS, zI]; rfl
                (refine take_ (i := 2) (N := some 32) (v := ?_) (a' := ?_) #[true, true, true, false, false, false, false, false, true, false, false, false, false] rfl rfl (take_ofW HT_.out HW_.out (by kernel_rfl)) (fun _ _ _ h => h) (Or.inl ⟨by rfl, ?_⟩) hHeld ?_ ?_); rotate_left
                ·
                 rintro w' ⟨s0, s1, s2, s3, s4⟩; go_simp; with_reducible rfl
                rotate_left
                ·
                 simp only [Act.put, zS, zI]; rfl
                (refine pure_ (i := 3) (N := some 33) (v := ?_) (a' := ?_) #[true, true, true, true, false, false, false, false, true, false, false, false, false] rfl rfl (any_of HT_.out (by kernel_rfl)) (fun _ _ _ h => h) (Or.inl ⟨by rfl, ?_⟩) ?_ ?_); rotate_left
                ·
                 intro w'; go_simp; with_reducible rfl
                rotate_left
                ·
                 simp only [Act.put, zS, zI]; rfl
                (refine take_ (i := 9) (N := some 39) (v := ?_) (a' := ?_) #[true, true, true, true, false, false, false, false, true, true, false, false, false] rfl rfl (take_ofW HT_.out HW_.out (by kernel_rfl)) (fun _ _ _ h => h) (Or.inl ⟨by rfl, ?_⟩) hHeld ?_ ?_); rotate_left
                ·
                 rintro w' ⟨s0, s1, s2, s3, s4⟩; go_simp; with_reducible rfl
                rotate_left
                ·
                 simp only [Act.put, zS, zI]; rfl
                (refine one_ (i := 4) (N := some 34) #[true, true, true, true, true, false, false, false, true, true, false, false, false] rfl rfl (one_of HT_.out (by kernel_rfl)) (by decide) (fun K hK => ?_)); (refine goes_ Tryz.func29 (by kernel_rfl) rfl #[.int .i64 (a0_4.size : Int)] (by rfl) rfl rfl (by (try simp only [zL]); first | done | rfl) ?_); (with_reducible refine (strconv_Itoa.calls (a0_4.size : Int) t134 _ ?side1 A17.out).mono ?_); (case side1 => exact ⟨TabsOk.below hT.out (by repeat (first | exact HB.out | apply zA | apply zN | apply z1 | refine below_set ?_ GE133.out))⟩); rintro e w48 ⟨rfl, hb⟩; (refine ⟨_, rfl, ?_⟩); (have n0_ := zM (blk_below (g := gb133) (o := .cells #[.string a0_0, .string a0_1, .string a0_2, .string a0_3, .string a0_4] 24 (0, 0)) (by (with_reducible repeat (first | refine blk_drewN ?_ _ | refine blk_drew ?_ | refine blk_alloc ?_ _)); exact BK133.out) hb)); (have n1_ := zM (below_step (by repeat (first | exact HB.out | apply zA | apply zN | apply z1 | refine below_set ?_ GE133.out)) hb)); clear BK133; clear HB; (have BK133 := n0_); (have HB := n1_); clear n0_ n1_; (try clear hb); (try clear hb2); (try clear hk); (try clear hi); (refine hK.out _ _ ⟨(blk_cell BK133.out 0).trans rfl, (blk_cell BK133.out 1).trans rfl, (blk_cell BK133.out 2).trans rfl, (blk_cell BK133.out 3).trans rfl, (blk_cell BK133.out 4).trans rfl⟩ (fun hHeld => ?_)); clear hK K; (refine norm_ (a' := ?_) ?_ ?_); rotate_left
                ·
                 (show Act.put _ (some 34) _ = _); simp only [Act.put, zS, zI]; rfl
                (refine pure_ (i := 5) (N := some 35) (v := ?_) (a' := ?_) #[true, true, true, true, true, true, false, false, true, true, false, false, false] rfl rfl (any_of HT_.out (by kernel_rfl)) (fun _ _ _ h => h) (Or.inl ⟨by rfl, ?_⟩) ?_ ?_); rotate_left
                ·
                 intro w'; go_simp; with_reducible rfl
                rotate_left
                ·
                 simp only [Act.put, zS, zI]; rfl
                (refine pure_ (i := 6) (N := some 36) (v := ?_) (a' := ?_) #[true, true, true, true, true, true, true, false, true, true, false, false, false] rfl rfl (any_of HT_.out (by kernel_rfl)) (fun _ _ _ h => h) (Or.inl ⟨by rfl, ?_⟩) ?_ ?_); rotate_left
                ·
                 intro w'; go_simp; with_reducible rfl
                rotate_left
                ·
                 simp only [Act.put, zS, zI]; rfl
                (refine pure_ (i := 7) (N := some 37) (v := ?_) (a' := ?_) #[true, true, true, true, true, true, true, true, true, true, false, false, false] rfl rfl (any_of HT_.out (by kernel_rfl)) (fun _ _ _ h => h) (Or.inl ⟨by rfl, ?_⟩) ?_ ?_); rotate_left
                ·
                 intro w'; go_simp; with_reducible rfl
                rotate_left
                ·
                 simp only [Act.put, zS, zI]; rfl
                (refine pure_ (i := 10) (N := some 40) (v := ?_) (a' := ?_) #[true, true, true, true, true, true, true, true, true, true, true, false, false] rfl rfl (any_of HT_.out (by kernel_rfl)) (fun _ _ _ h => h) (Or.inl ⟨by rfl, ?_⟩) ?_ ?_); rotate_left
                ·
                 intro w'; go_simp; with_reducible rfl
                rotate_left
                ·
                 simp only [Act.put, zS, zI]; rfl
                (refine pure_ (i := 11) (N := some 41) (v := ?_) (a' := ?_) #[true, true, true, true, true, true, true, true, true, true, true, true, false] rfl rfl (any_of HT_.out (by kernel_rfl)) (fun _ _ _ h => h) (Or.inl ⟨by rfl, ?_⟩) ?_ ?_); rotate_left
                ·
                 intro w'; go_simp; with_reducible rfl
                rotate_left
                ·
                 simp only [Act.put, zS, zI]; rfl
                (refine pure_ (i := 12) (N := some 4) (v := ?_) (a' := ?_) #[true, true, true, true, true, true, true, true, true, true, true, true, true] rfl rfl (any_of HT_.out (by kernel_rfl)) (fun _ _ _ h => h) (Or.inl ⟨by rfl, ?_⟩) ?_ ?_); rotate_left
                ·
                 intro w'; go_simp; with_reducible rfl
                rotate_left
                ·
                 simp only [Act.put, zS, zI]; rfl
                (refine done_ (done_of HT_.out (by kernel_rfl)) ?_); (try go_wp2_with (first | ((with_reducible refine gate_callee (f := 10) rfl ?_); refine goesL_ (some 44) rfl rfl Tryz.func10 (by kernel_rfl) rfl #[.string (x4_8 ++ (((((⟨#[67, 111, 110, 116, 101, 110, 116, 45, 76, 101, 110, 103, 116, 104, 58, 32]⟩ : ByteArray) ++ t134) ++ (⟨#[13, 10]⟩ : ByteArray)) ++ (⟨#[13, 10]⟩ : ByteArray)) ++ a0_4))] rfl (by (try simp only [zL]); first | done | rfl) ?_; (with_reducible refine (http_ReadRequest.calls kj8 (x4_8 ++ (((((⟨#[67, 111, 110, 116, 101, 110, 116, 45, 76, 101, 110, 103, 116, 104, 58, 32]⟩ : ByteArray) ++ t134) ++ (⟨#[13, 10]⟩ : ByteArray)) ++ (⟨#[13, 10]⟩ : ByteArray)) ++ a0_4)) t135 t136 t137 t138 t139 t140 t141 _ ?side1 A23.out).mono ?_); (case side1 => exact ⟨TabsOk.below hT.out (by repeat (first | exact HB.out | apply zA | apply zN | apply z1 | refine below_set ?_ GE133.out))⟩); rintro e w49 ⟨rfl, hb⟩; refine ⟨_, rfl, ?_⟩; have n0_ := zM (blk_below (g := gb133) (o := .cells #[.string a0_0, .string a0_1, .string a0_2, .string a0_3, .string a0_4] 24 (0, 0)) (by (with_reducible repeat (first | refine blk_drewN ?_ _ | refine blk_drew ?_ | refine blk_alloc ?_ _)); exact BK133.out) hb); have n1_ := zM (below_step (by repeat (first | exact HB.out | apply zA | apply zN | apply z1 | refine below_set ?_ GE133.out)) hb); clear BK133; clear HB; have BK133 := n0_; have HB := n1_; clear n0_ n1_; (try clear hb); (try clear hb2); (try clear hk); (try clear hi)) | ((with_reducible refine gate_dst (N := 5) rfl ?_); (try (refine gate_guard (by rfl) ?_; dsimp only)); refine box_event ?hg (N := 5) ?hd (cs := #[.string (⟨#[]⟩ : ByteArray), .string (⟨#[]⟩ : ByteArray), .string (⟨#[]⟩ : ByteArray), .string (⟨#[]⟩ : ByteArray), .string (⟨#[]⟩ : ByteArray)]) (t := 24) ?hr ?_; (case hd => rfl); (case hg => rfl); (case hr => first | (go_simp; done) | (go_simp; rfl)); intro gb142 hg w50 hbox hb; have n0_ := zM (blk_below (g := gb133) (o := .cells #[.string a0_0, .string a0_1, .string a0_2, .string a0_3, .string a0_4] 24 (0, 0)) (by (with_reducible repeat (first | refine blk_drewN ?_ _ | refine blk_drew ?_ | refine blk_alloc ?_ _)); exact BK133.out) hb); have n1_ := zM (below_step (by repeat (first | exact HB.out | apply zA | apply zN | apply z1 | refine below_set ?_ GE133.out)) hb); have n2_ := zM (hbox); have n3_ := zM ((by rw [hg]; exact (below_size (by repeat (first | exact HB.out | apply zA | apply zN | apply z1 | refine below_set ?_ GE133.out))) : w.heap.size ≤ gb142)); have n4_ := zM ((by rw [hg]; exact (below_size (by repeat (first | exact HB.out | apply zA | apply zN | apply z1 | refine below_set ?_ GE133.out))) : w.heap.size ≤ gb142)); have n5_ := zM ((by rw [hg]; exact Nat.ne_of_lt (blk_lt (g := gb133) (o := .cells #[.string a0_0, .string a0_1, .string a0_2, .string a0_3, .string a0_4] 24 (0, 0)) (by (with_reducible repeat (first | refine blk_drewN ?_ _ | refine blk_drew ?_ | refine blk_alloc ?_ _)); exact BK133.out)) : gb133 ≠ gb142)); have n6_ := zM ((by rw [hg]; exact Nat.ne_of_gt (blk_lt (g := gb133) (o := .cells #[.string a0_0, .string a0_1, .string a0_2, .string a0_3, .string a0_4] 24 (0, 0)) (by (with_reducible repeat (first | refine blk_drewN ?_ _ | refine blk_drew ?_ | refine blk_alloc ?_ _)); exact BK133.out)) : gb142 ≠ gb133)); clear BK133; clear HB; have BK133 := n0_; have HB := n1_; have BK142 := n2_; have GW142 := n3_; have GE142 := n4_; have NB133_142 := n5_; have NB142_133 := n6_; clear n0_ n1_ n2_ n3_ n4_ n5_ n6_; clear hb hbox hg; have hnb51 := NB142_133.out; have hnc51 := NB133_142.out; have hcz52_0 : w50.cell? ⟨gb142, 0, none⟩ = some (.string (⟨#[]⟩ : ByteArray)) := (blk_cell BK142.out 0).trans rfl; have hcz52_1 : w50.cell? ⟨gb142, 1, none⟩ = some (.string (⟨#[]⟩ : ByteArray)) := (blk_cell BK142.out 1).trans rfl; have hcz52_2 : w50.cell? ⟨gb142, 2, none⟩ = some (.string (⟨#[]⟩ : ByteArray)) := (blk_cell BK142.out 2).trans rfl; have hcz52_3 : w50.cell? ⟨gb142, 3, none⟩ = some (.string (⟨#[]⟩ : ByteArray)) := (blk_cell BK142.out 3).trans rfl; have hcz52_4 : w50.cell? ⟨gb142, 4, none⟩ = some (.string (⟨#[]⟩ : ByteArray)) := (blk_cell BK142.out 4).trans rfl; have hfz52_0 := blk_frozen BK142.out 0; have hfz52_1 := blk_frozen BK142.out 1; have hfz52_2 := blk_frozen BK142.out 2; have hfz52_3 := blk_frozen BK142.out 3; have hfz52_4 := blk_frozen BK142.out 4))); (go_ret2); exact ⟨by first | rfl | (simp [errW_none, errW_some] <;> rfl) | (simp [*, errW_none, errW_some] <;> rfl), by repeat (first | exact HB.out | apply zA | apply zN | apply z1 | refine below_set ?_ GE133.out | refine below_set ?_ GE142.out)⟩
              ·
               rw [if_neg c22] at H; exact absurd H (by simp)
             ·
              rw [if_neg c21] at H; exact absurd H (by simp)
            ·
             rw [if_neg c20] at H; exact absurd H (by simp)
           ·
            rw [if_neg c19] at H; exact absurd H (by simp)
          ·
           rw [if_neg c18] at H; exact absurd H (by simp)
       ·
        rw [if_neg c8] at H; exact absurd H (by simp)
      ·
       rw [if_neg c7] at H; exact absurd H (by simp)
     ·
      rw [if_neg c6] at H; exact absurd H (by simp)
    ·
     rw [if_neg c5] at H; exact absurd H (by simp)
   ·
    rw [if_neg c4] at H; exact absurd H (by simp)
  ·
   rw [if_neg c3] at H
   exact absurd H (by simp)
 ·
  rw [if_neg c2] at H
  exact absurd H (by simp)

end Go.Proofs.YtpikebpjlhccbaaGreatDoor.PAll
