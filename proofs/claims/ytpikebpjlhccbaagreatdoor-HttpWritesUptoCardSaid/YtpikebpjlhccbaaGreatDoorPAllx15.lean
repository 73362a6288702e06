-- Laid by a program of this session (wip/pp in the repo) out of the translation. Lean checks it.
import Derived.Test.YtpikebpjlhccbaaGreatDoorShort
import Derived.Test.YtpikebpjlhccbaaGreatDoorPAllx0
import Derived.Test.YtpikebpjlhccbaaGreatDoorPAllx13
namespace Go.Proofs.YtpikebpjlhccbaaGreatDoor.PAll
open Go.RowKit Go.Proofs.YtpikebpjlhccbaaGreatDoorW.PrintWords Go.Proofs.YtpikebpjlhccbaaGreatDoorW.PrintLast Go.Proofs.YtpikebpjlhccbaaGreatDoorW.PrintMore
attribute [local go_sem] max2_int min2_int max_two min_two max_three min_three max_four min_four   -- for this text's walks alone
set_option linter.unusedVariables false
set_option linter.unusedSimpArgs false

/-! ### pennantref22_WriteResponse: function 17 -/
mutual
def pennantref22_WriteResponse.j0 : Nat → Bool → Int → ByteArray → Option (ByteArray × Int)
 | 0, _, _, _ => none
 | k + 1, x18, x140000, x140001 => if x18 = true then (some ((⟨#[]⟩ : ByteArray), 1)) else (if x140000 = 200 then (pennantref22_WriteResponse.j1 k (⟨#[79, 75]⟩ : ByteArray) x140000 x140001) else (if x140000 = 400 then (pennantref22_WriteResponse.j1 k (⟨#[66, 97, 100, 32, 82, 101, 113, 117, 101, 115, 116]⟩ : ByteArray) x140000 x140001) else (if x140000 = 404 then (pennantref22_WriteResponse.j1 k (⟨#[78, 111, 116, 32, 70, 111, 117, 110, 100]⟩ : ByteArray) x140000 x140001) else (if x140000 = 405 then (pennantref22_WriteResponse.j1 k (⟨#[77, 101, 116, 104, 111, 100, 32, 78, 111, 116, 32, 65, 108, 108, 111, 119, 101, 100]⟩ : ByteArray) x140000 x140001) else (if x140000 = 413 then (pennantref22_WriteResponse.j1 k (⟨#[67, 111, 110, 116, 101, 110, 116, 32, 84, 111, 111, 32, 76, 97, 114, 103, 101]⟩ : ByteArray) x140000 x140001) else (pennantref22_WriteResponse.j1 k (⟨#[]⟩ : ByteArray) x140000 x140001))))))
def pennantref22_WriteResponse.j1 : Nat → ByteArray → Int → ByteArray → Option (ByteArray × Int)
 | 0, _, _, _ => none
 | k + 1, x4, x140000, x140001 => (pennantref08_Digits.f k x140000).bind fun t140 => (if 9 + t140.size ≤ 9223372036854775807 then (if ((⟨#[72, 84, 84, 80, 47, 49, 46, 49, 32]⟩ : ByteArray) ++ t140).size + 1 ≤ 9223372036854775807 then (if (((⟨#[72, 84, 84, 80, 47, 49, 46, 49, 32]⟩ : ByteArray) ++ t140) ++ (⟨#[32]⟩ : ByteArray)).size + x4.size ≤ 9223372036854775807 then (if ((((⟨#[72, 84, 84, 80, 47, 49, 46, 49, 32]⟩ : ByteArray) ++ t140) ++ (⟨#[32]⟩ : ByteArray)) ++ x4).size + 18 ≤ 9223372036854775807 then ((pennantref08_Digits.f k (x140001.size : Int)).bind fun t141 => (if (((((⟨#[72, 84, 84, 80, 47, 49, 46, 49, 32]⟩ : ByteArray) ++ t140) ++ (⟨#[32]⟩ : ByteArray)) ++ x4) ++ (⟨#[13, 10, 67, 111, 110, 116, 101, 110, 116, 45, 76, 101, 110, 103, 116, 104, 58, 32]⟩ : ByteArray)).size + t141.size ≤ 9223372036854775807 then (if ((((((⟨#[72, 84, 84, 80, 47, 49, 46, 49, 32]⟩ : ByteArray) ++ t140) ++ (⟨#[32]⟩ : ByteArray)) ++ x4) ++ (⟨#[13, 10, 67, 111, 110, 116, 101, 110, 116, 45, 76, 101, 110, 103, 116, 104, 58, 32]⟩ : ByteArray)) ++ t141).size + 4 ≤ 9223372036854775807 then (if (((((((⟨#[72, 84, 84, 80, 47, 49, 46, 49, 32]⟩ : ByteArray) ++ t140) ++ (⟨#[32]⟩ : ByteArray)) ++ x4) ++ (⟨#[13, 10, 67, 111, 110, 116, 101, 110, 116, 45, 76, 101, 110, 103, 116, 104, 58, 32]⟩ : ByteArray)) ++ t141) ++ (⟨#[13, 10, 13, 10]⟩ : ByteArray)).size + x140001.size ≤ 9223372036854775807 then (some ((((((((⟨#[72, 84, 84, 80, 47, 49, 46, 49, 32]⟩ : ByteArray) ++ t140) ++ (⟨#[32]⟩ : ByteArray)) ++ x4) ++ (⟨#[13, 10, 67, 111, 110, 116, 101, 110, 116, 45, 76, 101, 110, 103, 116, 104, 58, 32]⟩ : ByteArray)) ++ t141) ++ (⟨#[13, 10, 13, 10]⟩ : ByteArray)) ++ x140001, 0)) else (none)) else (none)) else (none))) else (none)) else (none)) else (none)) else (none))
end
def pennantref22_WriteResponse.f (k : Nat) (a0_0 : Int) (a0_1 : ByteArray) : Option (ByteArray × Int) := if a0_0 < 100 then (pennantref22_WriteResponse.j0 k true a0_0 a0_1) else (if a0_0 > 599 then (pennantref22_WriteResponse.j0 k true a0_0 a0_1) else (pennantref22_WriteResponse.j0 k (decide ((a0_1.size : Int) > 4096)) a0_0 a0_1))
theorem pennantref22_WriteResponse.mono_l : ∀ k, (∀ y0 y1 y2, LeO (pennantref22_WriteResponse.j0 k y0 y1 y2) (pennantref22_WriteResponse.j0 (k + 1) y0 y1 y2)) ∧ (∀ y0 y1 y2, LeO (pennantref22_WriteResponse.j1 k y0 y1 y2) (pennantref22_WriteResponse.j1 (k + 1) y0 y1 y2))
 | 0 => ⟨fun _ _ _ r h => by simp [pennantref22_WriteResponse.j0] at h, fun _ _ _ r h => by simp [pennantref22_WriteResponse.j1] at h⟩
 | k + 1 => by
  obtain ⟨ih0, ih1⟩ := pennantref22_WriteResponse.mono_l k
  refine ⟨?_, ?_⟩
  ·
   intro y0 y1 y2
   unfold pennantref22_WriteResponse.j0
   repeat' first
   | (with_reducible exact ih0 _ _ _)
   | (with_reducible exact ih1 _ _ _)
   | (with_reducible exact pennantref08_Digits.mono _ _)
   | (with_reducible exact LeO.refl _)
   | (with_reducible exact LeO.none _)
   | (with_reducible refine LeO.ite ?_ ?_)
   | (with_reducible refine LeO.bind ?_ (fun _ => ?_))
   | exact ih0 _ _ _
   | exact ih1 _ _ _
   | exact pennantref08_Digits.mono _ _
   | exact LeO.none _
   | refine LeO.ite ?_ ?_
   | refine LeO.bind ?_ (fun _ => ?_)
  ·
   intro y0 y1 y2
   unfold pennantref22_WriteResponse.j1
   repeat' first
   | (with_reducible exact ih0 _ _ _)
   | (with_reducible exact ih1 _ _ _)
   | (with_reducible exact pennantref08_Digits.mono _ _)
   | (with_reducible exact LeO.refl _)
   | (with_reducible exact LeO.none _)
   | (with_reducible refine LeO.ite ?_ ?_)
   | (with_reducible refine LeO.bind ?_ (fun _ => ?_))
   | exact ih0 _ _ _
   | exact ih1 _ _ _
   | exact pennantref08_Digits.mono _ _
   | exact LeO.none _
   | refine LeO.ite ?_ ?_
   | refine LeO.bind ?_ (fun _ => ?_)
theorem pennantref22_WriteResponse.mono : ∀ a0 a1 k, LeO (pennantref22_WriteResponse.f k a0 a1) (pennantref22_WriteResponse.f (k + 1) a0 a1) := by
 intro a0 a1 k
 obtain ⟨ih0, ih1⟩ := pennantref22_WriteResponse.mono_l k
 unfold pennantref22_WriteResponse.f
 repeat' first
   | (with_reducible exact ih0 _ _ _)
   | (with_reducible exact ih1 _ _ _)
   | (with_reducible exact pennantref08_Digits.mono _ _)
   | (with_reducible exact LeO.refl _)
   | (with_reducible exact LeO.none _)
   | (with_reducible refine LeO.ite ?_ ?_)
   | (with_reducible refine LeO.bind ?_ (fun _ => ?_))
   | exact ih0 _ _ _
   | exact ih1 _ _ _
   | exact pennantref08_Digits.mono _ _
   | exact LeO.none _
   | refine LeO.ite ?_ ?_
   | refine LeO.bind ?_ (fun _ => ?_)
def pennantref22_WriteResponse.T15 : Bool × List (List Nat × List Nat) := (true, [([], []), ([0], [0]), ([1], [1]), ([2], [2]), ([3], [3]), ([], []), ([4, 5], [4, 5]), ([6], [6]), ([], []), ([8], [8]), ([9], [9]), ([10, 2], [10]), ([7, 11], [7, 11]), ([12], [12]), ([], []), ([14], [14]), ([13, 15], [13, 15]), ([16, 11, 0, 1, 2, 3, 4, 5, 6, 7, 8, 9, 10, 11, 12, 13, 14, 15, 16], [16]), ([17, 0, 1, 2, 3, 4, 5, 6, 7, 8, 9, 10, 11, 12, 13, 14, 15, 16, 17], [])])
def pennantref22_WriteResponse.B15 : List Nat := [0, 1, 3, 7, 15, 0, 63, 127, 0, 256, 768, 1799, 4095, 8191, 0, 16384, 65535, 131071, 262143]
theorem pennantref22_WriteResponse.tab15 : rtab .any (opsOf Tryz.f17 15) = pennantref22_WriteResponse.T15 := by kernel_rfl
theorem pennantref22_WriteResponse.bits15 : waitsOk pennantref22_WriteResponse.T15.2 pennantref22_WriteResponse.B15 = true := by kernel_rfl
set_option maxHeartbeats 8000000 in
set_option maxRecDepth 100000 in
theorem pennantref22_WriteResponse.calls (k : Nat) (a0_0 : Int) (a0_1 : ByteArray) (r1 : ByteArray) (r2 : Int) (w : World) (h : pennantref22_WriteResponse.f k a0_0 a0_1 = some (r1, r2)) :
  Calls Tryz.prog 17 #[.agg #[.int .i64 a0_0, .string a0_1]] w fun e w' => e = .returned (.tuple #[.string r1, .int .i64 r2]) ∧ Below w.heap.size w w' := by
 have hu31 := Tryz.underlying31
 have HB := zM (Below.refl w.heap.size w)
 have H : (if a0_0 < 100 then (pennantref22_WriteResponse.j0 k true a0_0 a0_1) else (if a0_0 > 599 then (pennantref22_WriteResponse.j0 k true a0_0 a0_1) else (pennantref22_WriteResponse.j0 k (decide ((a0_1.size : Int) > 4096)) a0_0 a0_1))) = some (r1, r2) := h
 clear h
 have HC2 := zM H
 clear H
 go_enter Tryz.func17, Tryz.ntmps17
 go_upto_region 1 with (first | ((with_reducible refine gate_dst (N := 1) rfl ?_); (try (refine gate_guard (by rfl) ?_; dsimp only)); refine box_event ?hg (N := 1) ?hd (cs := #[.int .i64 a0_0, .string a0_1]) (t := 31) ?hr ?_; (case hd => rfl); (case hg => rfl); (case hr => first | (go_simp; done) | (go_simp; rfl)); intro gb139 hg w3 hbox hb; have n0_ := zM (below_step (by repeat (first | exact HB.out | apply zA | apply zN | apply z1)) hb); have n1_ := zM (hbox); have n2_ := zM ((by rw [hg]; exact (below_size (by repeat (first | exact HB.out | apply zA | apply zN | apply z1))) : w.heap.size ≤ gb139)); have n3_ := zM ((by rw [hg]; exact (below_size (by repeat (first | exact HB.out | apply zA | apply zN | apply z1))) : w.heap.size ≤ gb139)); clear HB; have HB := n0_; have BK139 := n1_; have GW139 := n2_; have GE139 := n3_; clear n0_ n1_ n2_ n3_; clear hb hbox hg))
 (try simp only [Act.put, zS])
 go_cut [18] (fun v18 wc => ∃ (kq : Nat) (x18_1 : Bool), v18 = .bool x18_1 ∧ Aside0 (pennantref22_WriteResponse.j0 kq x18_1 a0_0 a0_1 = some (r1, r2)) ∧ Aside0 (kq ≤ k) ∧ Aside0 (wc.heap[gb139]? = some (.cells #[.int .i64 a0_0, .string a0_1] 31 (0, 0))) ∧ Aside0 (Below w.heap.size w wc))
 case first =>
  have H := HC2.out
  clear HC2
  by_cases c4 : a0_0 < 100
  ·
   rw [if_pos c4] at H
   have c4b0 : decide (a0_0 < 100) = true := decide_eq_true c4
   clear c4
   (first | rw [c4b0] | (simp only [i64_w, i32_w]; rw [c4b0]) | skip)
   have H' := zM H
   clear H
   have hcz5_0 : w3.cell? ⟨gb139, 0, none⟩ = some (.int .i64 a0_0) := (blk_cell BK139.out 0).trans rfl
   have hcz5_1 : w3.cell? ⟨gb139, 1, none⟩ = some (.string a0_1) := (blk_cell BK139.out 1).trans rfl
   have hfz5_0 := blk_frozen BK139.out 0
   have hfz5_1 := blk_frozen BK139.out 1
   go_wp2
   go_meet
   case rel => exact ⟨_, (true), (by first | rfl | (simp; done) | (simp [*]; done)), H', ⟨by first | omega | exact Nat.le_refl _⟩, ⟨by (with_reducible repeat (first | refine blk_drewN ?_ _ | refine blk_drew ?_ | refine blk_alloc ?_ _)); exact BK139.out⟩, ⟨by repeat (first | exact HB.out | apply zA | apply zN | apply z1 | refine below_set ?_ GE139.out)⟩⟩
  ·
   rw [if_neg c4] at H
   have c4b0 : decide (a0_0 < 100) = false := decide_eq_false c4
   clear c4
   (first | rw [c4b0] | (simp only [i64_w, i32_w]; rw [c4b0]) | skip)
   by_cases c6 : a0_0 > 599
   ·
    rw [if_pos c6] at H; (have c6b0 : decide (599 < a0_0) = true := decide_eq_true c6); clear c6; (have H' := zM H); clear H; (have hcz7_0 : w3.cell? ⟨gb139, 0, none⟩ = some (.int .i64 a0_0) := (blk_cell BK139.out 0).trans rfl); (have hcz7_1 : w3.cell? ⟨gb139, 1, none⟩ = some (.string a0_1) := (blk_cell BK139.out 1).trans rfl); (have hfz7_0 := blk_frozen BK139.out 0); (have hfz7_1 := blk_frozen BK139.out 1); (go_wp2); go_meet
    case rel => exact ⟨_, (true), (by first | rfl | (simp; done) | (simp [*]; done)), H', ⟨by first | omega | exact Nat.le_refl _⟩, ⟨by (with_reducible repeat (first | refine blk_drewN ?_ _ | refine blk_drew ?_ | refine blk_alloc ?_ _)); exact BK139.out⟩, ⟨by repeat (first | exact HB.out | apply zA | apply zN | apply z1 | refine below_set ?_ GE139.out)⟩⟩
   ·
    rw [if_neg c6] at H; (have c6b0 : decide (599 < a0_0) = false := decide_eq_false c6); clear c6; (have H' := zM H); clear H; (have hcz8_0 : w3.cell? ⟨gb139, 0, none⟩ = some (.int .i64 a0_0) := (blk_cell BK139.out 0).trans rfl); (have hcz8_1 : w3.cell? ⟨gb139, 1, none⟩ = some (.string a0_1) := (blk_cell BK139.out 1).trans rfl); (have hfz8_0 := blk_frozen BK139.out 0); (have hfz8_1 := blk_frozen BK139.out 1); (go_wp2); go_meet
    case rel => exact ⟨_, (decide ((a0_1.size : Int) > 4096)), (by first | rfl | (simp; done) | (simp [*]; done)), H', ⟨by first | omega | exact Nat.le_refl _⟩, ⟨by (with_reducible repeat (first | refine blk_drewN ?_ _ | refine blk_drew ?_ | refine blk_alloc ?_ _)); exact BK139.out⟩, ⟨by repeat (first | exact HB.out | apply zA | apply zN | apply z1 | refine below_set ?_ GE139.out)⟩⟩
 case rest =>
  clear HC2
  try clear c1
  try clear p2
  try clear c4
  try clear c4b0
  try clear c6
  try clear c6b0
  try clear hcz5_0
  try clear hcz5_1
  try clear hcz7_0
  try clear hcz7_1
  try clear hcz8_0
  try clear hcz8_1
  try clear hfz5_0
  try clear hfz5_1
  try clear hfz7_0
  try clear hfz7_1
  try clear hfz8_0
  try clear hfz8_1
  obtain ⟨kq, x18_1, rfl, HA, HJ1, BK139, HB⟩ := hcut
  cases kq with
  | zero => exact absurd HA.out (by simp [pennantref22_WriteResponse.j0])
  | succ kj1 =>
   have H := HA.out
   clear HA
   simp only [pennantref22_WriteResponse.j0] at H
   by_cases c9 : x18_1 = true
   ·
    subst c9; (have H1 : (some ((⟨#[]⟩ : ByteArray), 1)) = some (r1, r2) := by rw [if_pos rfl] at H; exact H); clear H; (have H := H1); clear H1; simp only [Option.some.injEq, Prod.mk.injEq] at H; (obtain ⟨rfl, rfl⟩ := H); (go_wp2); (go_ret2); exact ⟨by first | rfl | (simp [errW_none, errW_some] <;> rfl) | (simp [*, errW_none, errW_some] <;> rfl), by repeat (first | exact HB.out | apply zA | apply zN | apply z1 | refine below_set ?_ GE139.out)⟩
   ·
    (replace c9 := Bool.eq_false_iff.mpr c9); subst c9; (have H1 : (if a0_0 = 200 then (pennantref22_WriteResponse.j1 kj1 (⟨#[79, 75]⟩ : ByteArray) a0_0 a0_1) else (if a0_0 = 400 then (pennantref22_WriteResponse.j1 kj1 (⟨#[66, 97, 100, 32, 82, 101, 113, 117, 101, 115, 116]⟩ : ByteArray) a0_0 a0_1) else (if a0_0 = 404 then (pennantref22_WriteResponse.j1 kj1 (⟨#[78, 111, 116, 32, 70, 111, 117, 110, 100]⟩ : ByteArray) a0_0 a0_1) else (if a0_0 = 405 then (pennantref22_WriteResponse.j1 kj1 (⟨#[77, 101, 116, 104, 111, 100, 32, 78, 111, 116, 32, 65, 108, 108, 111, 119, 101, 100]⟩ : ByteArray) a0_0 a0_1) else (if a0_0 = 413 then (pennantref22_WriteResponse.j1 kj1 (⟨#[67, 111, 110, 116, 101, 110, 116, 32, 84, 111, 111, 32, 76, 97, 114, 103, 101]⟩ : ByteArray) a0_0 a0_1) else (pennantref22_WriteResponse.j1 kj1 (⟨#[]⟩ : ByteArray) a0_0 a0_1)))))) = some (r1, r2) := by rw [if_neg (show ¬ (false = true) by decide)] at H; exact H); clear H; (have H := H1); clear H1; (have HC10 := zM H); clear H; (have hcz11_0 : wc.cell? ⟨gb139, 0, none⟩ = some (.int .i64 a0_0) := (blk_cell BK139.out 0).trans rfl); (have hcz11_1 : wc.cell? ⟨gb139, 1, none⟩ = some (.string a0_1) := (blk_cell BK139.out 1).trans rfl); (have hfz11_0 := blk_frozen BK139.out 0); (have hfz11_1 := blk_frozen BK139.out 1); (go_upto_block 0 with (fail)); go_cut [4] (fun v4 wc => ∃ (kq : Nat) (x4_9 : ByteArray), v4 = .string x4_9 ∧ Aside0 (pennantref22_WriteResponse.j1 kq x4_9 a0_0 a0_1 = some (r1, r2)) ∧ Aside0 (kq ≤ kj1) ∧ Aside0 (wc.heap[gb139]? = some (.cells #[.int .i64 a0_0, .string a0_1] 31 (0, 0))) ∧ Aside0 (Below w.heap.size w wc))
    case first =>
     (have H := HC10.out); clear HC10; by_cases c12 : a0_0 = 200
     ·
      rw [if_pos c12] at H; (have c12b0 : (a0_0 == 200) = true := beq_iff_eq.mpr c12); (have c12b1 : (a0_0 != 200) = false := bne_eq_false_iff_eq.mpr c12); clear c12; (first | rw [c12b0] | (simp only [i64_w, i32_w]; rw [c12b0]) | skip); (have H' := zM H); clear H; (go_wp2); go_meet
      case rel => exact ⟨_, ((⟨#[79, 75]⟩ : ByteArray)), (by first | rfl | (simp; done) | (simp [*]; done)), H', ⟨by have := HJ1.out; first | omega | exact Nat.le_refl _⟩, ⟨by (with_reducible repeat (first | refine blk_drewN ?_ _ | refine blk_drew ?_ | refine blk_alloc ?_ _)); exact BK139.out⟩, ⟨by repeat (first | exact HB.out | apply zA | apply zN | apply z1 | refine below_set ?_ GE139.out)⟩⟩
     ·
      rw [if_neg c12] at H; (have c12b0 : (a0_0 == 200) = false := beq_eq_false_iff_ne.mpr c12); (have c12b1 : (a0_0 != 200) = true := bne_iff_ne.mpr c12); (first | rw [c12b0] | (simp only [i64_w, i32_w]; rw [c12b0]) | skip); by_cases c13 : a0_0 = 400
      ·
       rw [if_pos c13] at H; (have c13b0 : (a0_0 == 400) = true := beq_iff_eq.mpr c13); (have c13b1 : (a0_0 != 400) = false := bne_eq_false_iff_eq.mpr c13); clear c13; (have H' := zM H); clear H; (go_wp2); go_meet
       case rel => exact ⟨_, ((⟨#[66, 97, 100, 32, 82, 101, 113, 117, 101, 115, 116]⟩ : ByteArray)), (by first | rfl | (simp; done) | (simp [*]; done)), H', ⟨by have := HJ1.out; first | omega | exact Nat.le_refl _⟩, ⟨by (with_reducible repeat (first | refine blk_drewN ?_ _ | refine blk_drew ?_ | refine blk_alloc ?_ _)); exact BK139.out⟩, ⟨by repeat (first | exact HB.out | apply zA | apply zN | apply z1 | refine below_set ?_ GE139.out)⟩⟩
      ·
       rw [if_neg c13] at H; (have c13b0 : (a0_0 == 400) = false := beq_eq_false_iff_ne.mpr c13); (have c13b1 : (a0_0 != 400) = true := bne_iff_ne.mpr c13); by_cases c14 : a0_0 = 404
       ·
        rw [if_pos c14] at H; (have c14b0 : (a0_0 == 404) = true := beq_iff_eq.mpr c14); (have c14b1 : (a0_0 != 404) = false := bne_eq_false_iff_eq.mpr c14); clear c14; (have H' := zM H); clear H; (go_wp2); go_meet
        case rel => exact ⟨_, ((⟨#[78, 111, 116, 32, 70, 111, 117, 110, 100]⟩ : ByteArray)), (by first | rfl | (simp; done) | (simp [*]; done)), H', ⟨by have := HJ1.out; first | omega | exact Nat.le_refl _⟩, ⟨by (with_reducible repeat (first | refine blk_drewN ?_ _ | refine blk_drew ?_ | refine blk_alloc ?_ _)); exact BK139.out⟩, ⟨by repeat (first | exact HB.out | apply zA | apply zN | apply z1 | refine below_set ?_ GE139.out)⟩⟩
       ·
        rw [if_neg c14] at H; (have c14b0 : (a0_0 == 404) = false := beq_eq_false_iff_ne.mpr c14); (have c14b1 : (a0_0 != 404) = true := bne_iff_ne.mpr c14); by_cases c15 : a0_0 = 405
        ·
         rw [if_pos c15] at H; (have c15b0 : (a0_0 == 405) = true := beq_iff_eq.mpr c15); (have c15b1 : (a0_0 != 405) = false := bne_eq_false_iff_eq.mpr c15); clear c15; (have H' := zM H); clear H; (go_wp2); go_meet
         case rel => exact ⟨_, ((⟨#[77, 101, 116, 104, 111, 100, 32, 78, 111, 116, 32, 65, 108, 108, 111, 119, 101, 100]⟩ : ByteArray)), (by first | rfl | (simp; done) | (simp [*]; done)), H', ⟨by have := HJ1.out; first | omega | exact Nat.le_refl _⟩, ⟨by (with_reducible repeat (first | refine blk_drewN ?_ _ | refine blk_drew ?_ | refine blk_alloc ?_ _)); exact BK139.out⟩, ⟨by repeat (first | exact HB.out | apply zA | apply zN | apply z1 | refine below_set ?_ GE139.out)⟩⟩
        ·
         rw [if_neg c15] at H; (have c15b0 : (a0_0 == 405) = false := beq_eq_false_iff_ne.mpr c15); (have c15b1 : (a0_0 != 405) = true := bne_iff_ne.mpr c15); by_cases c16 : a0_0 = 413
         ·
          rw [if_pos c16] at H; (have c16b0 : (a0_0 == 413) = true := beq_iff_eq.mpr c16); (have c16b1 : (a0_0 != 413) = false := bne_eq_false_iff_eq.mpr c16); clear c16; (have H' := zM H); clear H; (go_wp2); go_meet
          case rel => exact ⟨_, ((⟨#[67, 111, 110, 116, 101, 110, 116, 32, 84, 111, 111, 32, 76, 97, 114, 103, 101]⟩ : ByteArray)), (by first | rfl | (simp; done) | (simp [*]; done)), H', ⟨by have := HJ1.out; first | omega | exact Nat.le_refl _⟩, ⟨by (with_reducible repeat (first | refine blk_drewN ?_ _ | refine blk_drew ?_ | refine blk_alloc ?_ _)); exact BK139.out⟩, ⟨by repeat (first | exact HB.out | apply zA | apply zN | apply z1 | refine below_set ?_ GE139.out)⟩⟩
         ·
          rw [if_neg c16] at H; (have c16b0 : (a0_0 == 413) = false := beq_eq_false_iff_ne.mpr c16); (have c16b1 : (a0_0 != 413) = true := bne_iff_ne.mpr c16); (have H' := zM H); clear H; (go_wp2); go_meet
          case rel => exact ⟨_, ((⟨#[]⟩ : ByteArray)), (by first | rfl | (simp; done) | (simp [*]; done)), H', ⟨by have := HJ1.out; first | omega | exact Nat.le_refl _⟩, ⟨by (with_reducible repeat (first | refine blk_drewN ?_ _ | refine blk_drew ?_ | refine blk_alloc ?_ _)); exact BK139.out⟩, ⟨by repeat (first | exact HB.out | apply zA | apply zN | apply z1 | refine below_set ?_ GE139.out)⟩⟩
    case rest =>
     clear HC10; (try clear c1); (try clear p2); (try clear c4); (try clear c4b0); (try clear c6); (try clear c6b0); (try clear c9); (try clear c12); (try clear c12b0); (try clear c12b1); (try clear c13); (try clear c13b0); (try clear c13b1); (try clear c14); (try clear c14b0); (try clear c14b1); (try clear c15); (try clear c15b0); (try clear c15b1); (try clear c16); (try clear c16b0); (try clear c16b1); (try clear hcz11_0); (try clear hcz11_1); (try clear hcz5_0); (try clear hcz5_1); (try clear hcz7_0); (try clear hcz7_1); (try clear hcz8_0); (try clear hcz8_1); (try clear hfz11_0); (try clear hfz11_1); (try clear hfz5_0); (try clear hfz5_1); (try clear hfz7_0); (try clear hfz7_1); (try clear hfz8_0); (try clear hfz8_1); (try clear p2); obtain ⟨kq, x4_9, rfl, HA, HJ9, BK139, HB⟩ := hcut
     cases kq with
     | zero => exact absurd HA.out (by simp [pennantref22_WriteResponse.j1])
     | succ kj9 =>
      (have H := HA.out); clear HA; simp only [pennantref22_WriteResponse.j1] at H; (replace H := Option.bind_eq_some_iff.mp H); (obtain ⟨t140, A170, H⟩ := H); replace H : (if 9 + t140.size ≤ 9223372036854775807 then (if ((⟨#[72, 84, 84, 80, 47, 49, 46, 49, 32]⟩ : ByteArray) ++ t140).size + 1 ≤ 9223372036854775807 then (if (((⟨#[72, 84, 84, 80, 47, 49, 46, 49, 32]⟩ : ByteArray) ++ t140) ++ (⟨#[32]⟩ : ByteArray)).size + x4_9.size ≤ 9223372036854775807 then (if ((((⟨#[72, 84, 84, 80, 47, 49, 46, 49, 32]⟩ : ByteArray) ++ t140) ++ (⟨#[32]⟩ : ByteArray)) ++ x4_9).size + 18 ≤ 9223372036854775807 then ((pennantref08_Digits.f kj9 (a0_1.size : Int)).bind fun t141 => (if (((((⟨#[72, 84, 84, 80, 47, 49, 46, 49, 32]⟩ : ByteArray) ++ t140) ++ (⟨#[32]⟩ : ByteArray)) ++ x4_9) ++ (⟨#[13, 10, 67, 111, 110, 116, 101, 110, 116, 45, 76, 101, 110, 103, 116, 104, 58, 32]⟩ : ByteArray)).size + t141.size ≤ 9223372036854775807 then (if ((((((⟨#[72, 84, 84, 80, 47, 49, 46, 49, 32]⟩ : ByteArray) ++ t140) ++ (⟨#[32]⟩ : ByteArray)) ++ x4_9) ++ (⟨#[13, 10, 67, 111, 110, 116, 101, 110, 116, 45, 76, 101, 110, 103, 116, 104, 58, 32]⟩ : ByteArray)) ++ t141).size + 4 ≤ 9223372036854775807 then (if (((((((⟨#[72, 84, 84, 80, 47, 49, 46, 49, 32]⟩ : ByteArray) ++ t140) ++ (⟨#[32]⟩ : ByteArray)) ++ x4_9) ++ (⟨#[13, 10, 67, 111, 110, 116, 101, 110, 116, 45, 76, 101, 110, 103, 116, 104, 58, 32]⟩ : ByteArray)) ++ t141) ++ (⟨#[13, 10, 13, 10]⟩ : ByteArray)).size + a0_1.size ≤ 9223372036854775807 then (some ((((((((⟨#[72, 84, 84, 80, 47, 49, 46, 49, 32]⟩ : ByteArray) ++ t140) ++ (⟨#[32]⟩ : ByteArray)) ++ x4_9) ++ (⟨#[13, 10, 67, 111, 110, 116, 101, 110, 116, 45, 76, 101, 110, 103, 116, 104, 58, 32]⟩ : ByteArray)) ++ t141) ++ (⟨#[13, 10, 13, 10]⟩ : ByteArray)) ++ a0_1, 0)) else (none)) else (none)) else (none))) else (none)) else (none)) else (none)) else (none)) = some (r1, r2) := H; (have A17 := zM A170); clear A170; by_cases c18 : 9 + t140.size ≤ 9223372036854775807
      ·
       rw [if_pos c18] at H; (have c18b0 := eq_true c18); (have c18b1 : decide (9 + t140.size ≤ 9223372036854775807) = true := decide_eq_true c18); (try have c18b2 : (9223372036854775807 < 9 + t140.size) = False := eq_false (Nat.not_lt.2 c18)); by_cases c19 : ((⟨#[72, 84, 84, 80, 47, 49, 46, 49, 32]⟩ : ByteArray) ++ t140).size + 1 ≤ 9223372036854775807
       ·
        rw [if_pos c19] at H; (have c19b3 : 9 + t140.size + 1 ≤ 9223372036854775807 := by have h_ := c19; simp only [ByteArray.size_append] at h_; exact h_); (have c19b4 : (9223372036854775807 < 9 + t140.size + 1) = False := eq_false (Nat.not_lt.mpr c19b3)); (have c19b0 := eq_true c19); (have c19b1 : decide (((⟨#[72, 84, 84, 80, 47, 49, 46, 49, 32]⟩ : ByteArray) ++ t140).size + 1 ≤ 9223372036854775807) = true := decide_eq_true c19); (try have c19b2 : (9223372036854775807 < ((⟨#[72, 84, 84, 80, 47, 49, 46, 49, 32]⟩ : ByteArray) ++ t140).size + 1) = False := eq_false (Nat.not_lt.2 c19)); by_cases c20 : (((⟨#[72, 84, 84, 80, 47, 49, 46, 49, 32]⟩ : ByteArray) ++ t140) ++ (⟨#[32]⟩ : ByteArray)).size + x4_9.size ≤ 9223372036854775807
        ·
         rw [if_pos c20] at H; (have c20b3 : 9 + t140.size + 1 + x4_9.size ≤ 9223372036854775807 := by have h_ := c20; simp only [ByteArray.size_append] at h_; exact h_); (have c20b4 : (9223372036854775807 < 9 + t140.size + 1 + x4_9.size) = False := eq_false (Nat.not_lt.mpr c20b3)); (have c20b0 := eq_true c20); (have c20b1 : decide ((((⟨#[72, 84, 84, 80, 47, 49, 46, 49, 32]⟩ : ByteArray) ++ t140) ++ (⟨#[32]⟩ : ByteArray)).size + x4_9.size ≤ 9223372036854775807) = true := decide_eq_true c20); (try have c20b2 : (9223372036854775807 < (((⟨#[72, 84, 84, 80, 47, 49, 46, 49, 32]⟩ : ByteArray) ++ t140) ++ (⟨#[32]⟩ : ByteArray)).size + x4_9.size) = False := eq_false (Nat.not_lt.2 c20)); by_cases c21 : ((((⟨#[72, 84, 84, 80, 47, 49, 46, 49, 32]⟩ : ByteArray) ++ t140) ++ (⟨#[32]⟩ : ByteArray)) ++ x4_9).size + 18 ≤ 9223372036854775807
         ·
          rw [if_pos c21] at H; (have c21b3 : 9 + t140.size + 1 + x4_9.size + 18 ≤ 9223372036854775807 := by have h_ := c21; simp only [ByteArray.size_append] at h_; exact h_); (have c21b4 : (9223372036854775807 < 9 + t140.size + 1 + x4_9.size + 18) = False := eq_false (Nat.not_lt.mpr c21b3)); (have c21b0 := eq_true c21); (have c21b1 : decide (((((⟨#[72, 84, 84, 80, 47, 49, 46, 49, 32]⟩ : ByteArray) ++ t140) ++ (⟨#[32]⟩ : ByteArray)) ++ x4_9).size + 18 ≤ 9223372036854775807) = true := decide_eq_true c21); (try have c21b2 : (9223372036854775807 < ((((⟨#[72, 84, 84, 80, 47, 49, 46, 49, 32]⟩ : ByteArray) ++ t140) ++ (⟨#[32]⟩ : ByteArray)) ++ x4_9).size + 18) = False := eq_false (Nat.not_lt.2 c21)); (replace H := Option.bind_eq_some_iff.mp H); (obtain ⟨t141, A220, H⟩ := H); replace H : (if (((((⟨#[72, 84, 84, 80, 47, 49, 46, 49, 32]⟩ : ByteArray) ++ t140) ++ (⟨#[32]⟩ : ByteArray)) ++ x4_9) ++ (⟨#[13, 10, 67, 111, 110, 116, 101, 110, 116, 45, 76, 101, 110, 103, 116, 104, 58, 32]⟩ : ByteArray)).size + t141.size ≤ 9223372036854775807 then (if ((((((⟨#[72, 84, 84, 80, 47, 49, 46, 49, 32]⟩ : ByteArray) ++ t140) ++ (⟨#[32]⟩ : ByteArray)) ++ x4_9) ++ (⟨#[13, 10, 67, 111, 110, 116, 101, 110, 116, 45, 76, 101, 110, 103, 116, 104, 58, 32]⟩ : ByteArray)) ++ t141).size + 4 ≤ 9223372036854775807 then (if (((((((⟨#[72, 84, 84, 80, 47, 49, 46, 49, 32]⟩ : ByteArray) ++ t140) ++ (⟨#[32]⟩ : ByteArray)) ++ x4_9) ++ (⟨#[13, 10, 67, 111, 110, 116, 101, 110, 116, 45, 76, 101, 110, 103, 116, 104, 58, 32]⟩ : ByteArray)) ++ t141) ++ (⟨#[13, 10, 13, 10]⟩ : ByteArray)).size + a0_1.size ≤ 9223372036854775807 then (some ((((((((⟨#[72, 84, 84, 80, 47, 49, 46, 49, 32]⟩ : ByteArray) ++ t140) ++ (⟨#[32]⟩ : ByteArray)) ++ x4_9) ++ (⟨#[13, 10, 67, 111, 110, 116, 101, 110, 116, 45, 76, 101, 110, 103, 116, 104, 58, 32]⟩ : ByteArray)) ++ t141) ++ (⟨#[13, 10, 13, 10]⟩ : ByteArray)) ++ a0_1, 0)) else (none)) else (none)) else (none)) = some (r1, r2) := H; (have A22 := zM A220); clear A220; by_cases c23 : (((((⟨#[72, 84, 84, 80, 47, 49, 46, 49, 32]⟩ : ByteArray) ++ t140) ++ (⟨#[32]⟩ : ByteArray)) ++ x4_9) ++ (⟨#[13, 10, 67, 111, 110, 116, 101, 110, 116, 45, 76, 101, 110, 103, 116, 104, 58, 32]⟩ : ByteArray)).size + t141.size ≤ 9223372036854775807
          ·
           rw [if_pos c23] at H; (have c23b3 : 9 + t140.size + 1 + x4_9.size + 18 + t141.size ≤ 9223372036854775807 := by have h_ := c23; simp only [ByteArray.size_append] at h_; exact h_); (have c23b4 : (9223372036854775807 < 9 + t140.size + 1 + x4_9.size + 18 + t141.size) = False := eq_false (Nat.not_lt.mpr c23b3)); (have c23b0 := eq_true c23); (have c23b1 : decide ((((((⟨#[72, 84, 84, 80, 47, 49, 46, 49, 32]⟩ : ByteArray) ++ t140) ++ (⟨#[32]⟩ : ByteArray)) ++ x4_9) ++ (⟨#[13, 10, 67, 111, 110, 116, 101, 110, 116, 45, 76, 101, 110, 103, 116, 104, 58, 32]⟩ : ByteArray)).size + t141.size ≤ 9223372036854775807) = true := decide_eq_true c23); (try have c23b2 : (9223372036854775807 < (((((⟨#[72, 84, 84, 80, 47, 49, 46, 49, 32]⟩ : ByteArray) ++ t140) ++ (⟨#[32]⟩ : ByteArray)) ++ x4_9) ++ (⟨#[13, 10, 67, 111, 110, 116, 101, 110, 116, 45, 76, 101, 110, 103, 116, 104, 58, 32]⟩ : ByteArray)).size + t141.size) = False := eq_false (Nat.not_lt.2 c23)); by_cases c24 : ((((((⟨#[72, 84, 84, 80, 47, 49, 46, 49, 32]⟩ : ByteArray) ++ t140) ++ (⟨#[32]⟩ : ByteArray)) ++ x4_9) ++ (⟨#[13, 10, 67, 111, 110, 116, 101, 110, 116, 45, 76, 101, 110, 103, 116, 104, 58, 32]⟩ : ByteArray)) ++ t141).size + 4 ≤ 9223372036854775807
           ·
            rw [if_pos c24] at H; (have c24b3 : 9 + t140.size + 1 + x4_9.size + 18 + t141.size + 4 ≤ 9223372036854775807 := by have h_ := c24; simp only [ByteArray.size_append] at h_; exact h_); (have c24b4 : (9223372036854775807 < 9 + t140.size + 1 + x4_9.size + 18 + t141.size + 4) = False := eq_false (Nat.not_lt.mpr c24b3)); (have c24b0 := eq_true c24); (have c24b1 : decide (((((((⟨#[72, 84, 84, 80, 47, 49, 46, 49, 32]⟩ : ByteArray) ++ t140) ++ (⟨#[32]⟩ : ByteArray)) ++ x4_9) ++ (⟨#[13, 10, 67, 111, 110, 116, 101, 110, 116, 45, 76, 101, 110, 103, 116, 104, 58, 32]⟩ : ByteArray)) ++ t141).size + 4 ≤ 9223372036854775807) = true := decide_eq_true c24); (try have c24b2 : (9223372036854775807 < ((((((⟨#[72, 84, 84, 80, 47, 49, 46, 49, 32]⟩ : ByteArray) ++ t140) ++ (⟨#[32]⟩ : ByteArray)) ++ x4_9) ++ (⟨#[13, 10, 67, 111, 110, 116, 101, 110, 116, 45, 76, 101, 110, 103, 116, 104, 58, 32]⟩ : ByteArray)) ++ t141).size + 4) = False := eq_false (Nat.not_lt.2 c24)); by_cases c25 : (((((((⟨#[72, 84, 84, 80, 47, 49, 46, 49, 32]⟩ : ByteArray) ++ t140) ++ (⟨#[32]⟩ : ByteArray)) ++ x4_9) ++ (⟨#[13, 10, 67, 111, 110, 116, 101, 110, 116, 45, 76, 101, 110, 103, 116, 104, 58, 32]⟩ : ByteArray)) ++ t141) ++ (⟨#[13, 10, 13, 10]⟩ : ByteArray)).size + a0_1.size ≤ 9223372036854775807
            ·
             rw [if_pos c25] at H; (have c25b3 : 9 + t140.size + 1 + x4_9.size + 18 + t141.size + 4 + a0_1.size ≤ 9223372036854775807 := by have h_ := c25; simp only [ByteArray.size_append] at h_; exact h_); (have c25b4 : (9223372036854775807 < 9 + t140.size + 1 + x4_9.size + 18 + t141.size + 4 + a0_1.size) = False := eq_false (Nat.not_lt.mpr c25b3)); (have c25b0 := eq_true c25); (have c25b1 : decide ((((((((⟨#[72, 84, 84, 80, 47, 49, 46, 49, 32]⟩ : ByteArray) ++ t140) ++ (⟨#[32]⟩ : ByteArray)) ++ x4_9) ++ (⟨#[13, 10, 67, 111, 110, 116, 101, 110, 116, 45, 76, 101, 110, 103, 116, 104, 58, 32]⟩ : ByteArray)) ++ t141) ++ (⟨#[13, 10, 13, 10]⟩ : ByteArray)).size + a0_1.size ≤ 9223372036854775807) = true := decide_eq_true c25); (try have c25b2 : (9223372036854775807 < (((((((⟨#[72, 84, 84, 80, 47, 49, 46, 49, 32]⟩ : ByteArray) ++ t140) ++ (⟨#[32]⟩ : ByteArray)) ++ x4_9) ++ (⟨#[13, 10, 67, 111, 110, 116, 101, 110, 116, 45, 76, 101, 110, 103, 116, 104, 58, 32]⟩ : ByteArray)) ++ t141) ++ (⟨#[13, 10, 13, 10]⟩ : ByteArray)).size + a0_1.size) = False := eq_false (Nat.not_lt.2 c25)); simp only [Option.some.injEq, Prod.mk.injEq] at H; (obtain ⟨rfl, rfl⟩ := H); (try go_wp2); (have n0_ := zM (blk_drew BK139.out)); (have n1_ := zM (below_drew1 HB.out)); clear BK139; clear HB; (have BK139 := n0_); (have HB := n1_); clear n0_ n1_; (refine start_ (n := 19) (S := fun w' => w'.cell? ⟨gb139, 0, none⟩ = some (.int .i64 a0_0) ∧ w'.cell? ⟨gb139, 1, none⟩ = some (.string a0_1)) (ds := []) #[false, false, false, false, false, false, false, false, false, false, false, false, false, false, false, false, false, false, false] (by kernel_rfl) rfl rfl ⟨(blk_cell BK139.out 0).trans rfl, (blk_cell BK139.out 1).trans rfl⟩ (fun hHeld => ?_); refine with_tabW pennantref22_WriteResponse.tab15 pennantref22_WriteResponse.bits15 (fun HT_ HW_ => ?_)); (generalize wc.drew = w26 at BK139 HB hHeld ⊢); (refine pure_ (i := 0) (N := some 31) (v := ?_) (a' := ?_) #[true, false, false, false, false, false, false, false, false, false, false, false, false, false, false, false, false, false, false] rfl rfl (any_of HT_.out (by kernel_rfl)) (fun _ _ _ h => h) (Or.inl ⟨by rfl, ?_⟩) ?_ ?_); rotate_left
             ·
              intro w'; go_simp; with_reducible rfl
             rotate_left
             ·
              simp only [Act.put, zS, zI]; rfl
             (refine pure_ (i := 5) (N := some 36) (v := ?_) (a' := ?_) #[true, false, false, false, false, true, false, false, false, false, false, false, false, false, false, false, false, false, false] rfl rfl (any_of HT_.out (by kernel_rfl)) (fun _ _ _ h => h) (Or.inl ⟨by rfl, ?_⟩) ?_ ?_); rotate_left
             ·
              intro w'; go_simp; with_reducible rfl
             rotate_left
             ·
              simp only [Act.put, zS, zI]; rfl
             (refine pure_ (i := 8) (N := some 39) (v := ?_) (a' := ?_) #[true, false, false, false, false, true, false, false, true, false, false, false, false, false, false, false, false, false, false] rfl rfl (any_of HT_.out (by kernel_rfl)) (fun _ _ _ h => h) (Or.inl ⟨by rfl, ?_⟩) ?_ ?_); rotate_left
             ·
              intro w'; go_simp; with_reducible rfl
             rotate_left
             ·
              simp only [Act.put, zS, zI]; rfl
             (refine pure_ (i := 14) (N := some 45) (v := ?_) (a' := ?_) #[true, false, false, false, false, true, false, false, true, false, false, false, false, false, true, false, false, false, false] rfl rfl (any_of HT_.out (by kernel_rfl)) (fun _ _ _ h => h) (Or.inl ⟨by rfl, ?_⟩) ?_ ?_); rotate_left
             ·
              intro w'; go_simp; with_reducible rfl
             rotate_left
             ·
              simp only [Act.put, zS, zI]; rfl
             (refine take_ (i := 1) (N := some 32) (v := ?_) (a' := ?_) #[true, true, false, false, false, true, false, false, true, false, false, false, false, false, true, false, false, false, false] rfl rfl (take_ofW HT_.out HW_.out (by kernel_rfl)) (fun _ _ _ h => h) (Or.inl ⟨by rfl, ?_⟩) hHeld ?_ ?_); rotate_left
             ·
              rintro w' ⟨s0, s1⟩; go_simp; with_reducible rfl
             rotate_left
             ·
              simp only [Act.put, zS, zI]; rfl
             (refine take_ (i := 9) (N := some 40) (v := ?_) (a' := ?_) #[true, true, false, false, false, true, false, false, true, true, false, false, false, false, true, false, false, false, false] rfl rfl (take_ofW HT_.out HW_.out (by kernel_rfl)) (fun _ _ _ h => h) (Or.inl ⟨by rfl, ?_⟩) hHeld ?_ ?_); rotate_left
             ·
              rintro w' ⟨s0, s1⟩; go_simp; with_reducible rfl
             rotate_left
             ·
              simp only [Act.put, zS, zI]; rfl
             (refine pure_ (i := 10) (N := some 41) (v := ?_) (a' := ?_) #[true, true, false, false, false, true, false, false, true, true, true, false, false, false, true, false, false, false, false] rfl rfl (any_of HT_.out (by kernel_rfl)) (fun _ _ _ h => h) (Or.inl ⟨by rfl, ?_⟩) ?_ ?_); rotate_left
             ·
              intro w'; go_simp; with_reducible rfl
             rotate_left
             ·
              simp only [Act.put, zS, zI]; rfl
             (refine take_ (i := 15) (N := some 46) (v := ?_) (a' := ?_) #[true, true, false, false, false, true, false, false, true, true, true, false, false, false, true, true, false, false, false] rfl rfl (take_ofW HT_.out HW_.out (by kernel_rfl)) (fun _ _ _ h => h) (Or.inl ⟨by rfl, ?_⟩) hHeld ?_ ?_); rotate_left
             ·
              rintro w' ⟨s0, s1⟩; go_simp; with_reducible rfl
             rotate_left
             ·
              simp only [Act.put, zS, zI]; rfl
             (refine one_ (i := 2) (N := some 33) #[true, true, true, false, false, true, false, false, true, true, true, false, false, false, true, true, false, false, false] rfl rfl (one_of HT_.out (by kernel_rfl)) (by decide) (fun K hK => ?_)); (refine goes_ Tryz.func30 (by kernel_rfl) rfl #[.int .i64 a0_0] (by rfl) rfl rfl (by (try simp only [zL]); first | done | rfl) ?_); (with_reducible refine (pennantref08_Digits.calls kj9 a0_0 t140 _ A17.out).mono ?_); rintro e w27 ⟨rfl, hb⟩; (refine ⟨_, rfl, ?_⟩); (have n0_ := zM (blk_below (g := gb139) (o := .cells #[.int .i64 a0_0, .string a0_1] 31 (0, 0)) (by (with_reducible repeat (first | refine blk_drewN ?_ _ | refine blk_drew ?_ | refine blk_alloc ?_ _)); exact BK139.out) hb)); (have n1_ := zM (below_step (by repeat (first | exact HB.out | apply zA | apply zN | apply z1 | refine below_set ?_ GE139.out)) hb)); clear BK139; clear HB; (have BK139 := n0_); (have HB := n1_); clear n0_ n1_; (try clear hb); (try clear hb2); (try clear hk); (try clear hi); (refine hK.out _ _ ⟨(blk_cell BK139.out 0).trans rfl, (blk_cell BK139.out 1).trans rfl⟩ (fun hHeld => ?_)); clear hK K; (refine norm_ (a' := ?_) ?_ ?_); rotate_left
             ·
              (show Act.put _ (some 33) _ = _); simp only [Act.put, zS, zI]; rfl
             (refine pure_ (i := 3) (N := some 34) (v := ?_) (a' := ?_) #[true, true, true, true, false, true, false, false, true, true, true, false, false, false, true, true, false, false, false] rfl rfl (any_of HT_.out (by kernel_rfl)) (fun _ _ _ h => h) (Or.inl ⟨by rfl, ?_⟩) ?_ ?_); rotate_left
             ·
              intro w'; go_simp; with_reducible rfl
             rotate_left
             ·
              simp only [Act.put, zS, zI]; rfl
             (refine pure_ (i := 4) (N := some 35) (v := ?_) (a' := ?_) #[true, true, true, true, true, true, false, false, true, true, true, false, false, false, true, true, false, false, false] rfl rfl (any_of HT_.out (by kernel_rfl)) (fun _ _ _ h => h) (Or.inl ⟨by rfl, ?_⟩) ?_ ?_); rotate_left
             ·
              intro w'; go_simp; with_reducible rfl
             rotate_left
             ·
              simp only [Act.put, zS, zI]; rfl
             (refine pure_ (i := 6) (N := some 37) (v := ?_) (a' := ?_) #[true, true, true, true, true, true, true, false, true, true, true, false, false, false, true, true, false, false, false] rfl rfl (any_of HT_.out (by kernel_rfl)) (fun _ _ _ h => h) (Or.inl ⟨by rfl, ?_⟩) ?_ ?_); rotate_left
             ·
              intro w'; go_simp; with_reducible rfl
             rotate_left
             ·
              simp only [Act.put, zS, zI]; rfl
             (refine pure_ (i := 7) (N := some 38) (v := ?_) (a' := ?_) #[true, true, true, true, true, true, true, true, true, true, true, false, false, false, true, true, false, false, false] rfl rfl (any_of HT_.out (by kernel_rfl)) (fun _ _ _ h => h) (Or.inl ⟨by rfl, ?_⟩) ?_ ?_); rotate_left
             ·
              intro w'; go_simp; with_reducible rfl
             rotate_left
             ·
              simp only [Act.put, zS, zI]; rfl
             (refine one_ (i := 11) (N := some 42) #[true, true, true, true, true, true, true, true, true, true, true, true, false, false, true, true, false, false, false] rfl rfl (one_of HT_.out (by kernel_rfl)) (by decide) (fun K hK => ?_)); (refine goes_ Tryz.func30 (by kernel_rfl) rfl #[.int .i64 (a0_1.size : Int)] (by rfl) rfl rfl (by (try simp only [zL]); first | done | rfl) ?_); (with_reducible refine (pennantref08_Digits.calls kj9 (a0_1.size : Int) t141 _ A22.out).mono ?_); rintro e w28 ⟨rfl, hb⟩; (refine ⟨_, rfl, ?_⟩); (have n0_ := zM (blk_below (g := gb139) (o := .cells #[.int .i64 a0_0, .string a0_1] 31 (0, 0)) (by (with_reducible repeat (first | refine blk_drewN ?_ _ | refine blk_drew ?_ | refine blk_alloc ?_ _)); exact BK139.out) hb)); (have n1_ := zM (below_step (by repeat (first | exact HB.out | apply zA | apply zN | apply z1 | refine below_set ?_ GE139.out)) hb)); clear BK139; clear HB; (have BK139 := n0_); (have HB := n1_); clear n0_ n1_; (try clear hb); (try clear hb2); (try clear hk); (try clear hi); (refine hK.out _ _ ⟨(blk_cell BK139.out 0).trans rfl, (blk_cell BK139.out 1).trans rfl⟩ (fun hHeld => ?_)); clear hK K; (refine norm_ (a' := ?_) ?_ ?_); rotate_left
             ·
              (show Act.put _ (some 42) _ = _); simp only [Act.put, zS, zI]; rfl
             (refine pure_ (i := 12) (N := some 43) (v := ?_) (a' := ?_) #[true, true, true, true, true, true, true, true, true, true, true, true, true, false, true, true, false, false, false] rfl rfl (any_of HT_.out (by kernel_rfl)) (fun _ _ _ h => h) (Or.inl ⟨by rfl, ?_⟩) ?_ ?_); rotate_left
             ·
              intro w'; go_simp; with_reducible rfl
             rotate_left
             ·
              simp only [Act.put, zS, zI]; rfl
             (refine pure_ (i := 13) (N := some 44) (v := ?_) (a' := ?_) #[true, true, true, true, true, true, true, true, true, true, true, true, true, true, true, true, false, false, false] rfl rfl (any_of HT_.out (by kernel_rfl)) (fun _ _ _ h => h) (Or.inl ⟨by rfl, ?_⟩) ?_ ?_); rotate_left
             ·
              intro w'; go_simp; with_reducible rfl
             rotate_left
             ·
              simp only [Act.put, zS, zI]; rfl
             (refine pure_ (i := 16) (N := some 47) (v := ?_) (a' := ?_) #[true, true, true, true, true, true, true, true, true, true, true, true, true, true, true, true, true, false, false] rfl rfl (any_of HT_.out (by kernel_rfl)) (fun _ _ _ h => h) (Or.inl ⟨by rfl, ?_⟩) ?_ ?_); rotate_left
             ·
              intro w'; go_simp; with_reducible rfl
             rotate_left
             ·
              simp only [Act.put, zS, zI]; rfl
             (refine pure_ (i := 17) (N := some 2) (v := ?_) (a' := ?_) #[true, true, true, true, true, true, true, true, true, true, true, true, true, true, true, true, true, true, false] rfl rfl (any_of HT_.out (by kernel_rfl)) (fun _ _ _ h => h) (Or.inl ⟨by rfl, ?_⟩) ?_ ?_); rotate_left
             ·
              intro w'; go_simp; with_reducible rfl
             rotate_left
             ·
              simp only [Act.put, zS, zI]; rfl
             (refine pure_ (i := 18) (N := some 3) (v := ?_) (a' := ?_) #[true, true, true, true, true, true, true, true, true, true, true, true, true, true, true, true, true, true, true] rfl rfl (any_of HT_.out (by kernel_rfl)) (fun _ _ _ h => h) (Or.inl ⟨by rfl, ?_⟩) ?_ ?_); rotate_left
             ·
              intro w'; go_simp; with_reducible rfl
             rotate_left
             ·
              simp only [Act.put, zS, zI]; rfl
             (refine done_ (done_of HT_.out (by kernel_rfl)) ?_); (try go_wp2); (go_ret2); exact ⟨by first | rfl | (simp [errW_none, errW_some] <;> rfl) | (simp [*, errW_none, errW_some] <;> rfl), by repeat (first | exact HB.out | apply zA | apply zN | apply z1 | refine below_set ?_ GE139.out)⟩
            ·
             rw [if_neg c25] at H; exact absurd H (by simp)
           ·
            rw [if_neg c24] at H; exact absurd H (by simp)
          ·
           rw [if_neg c23] at H; exact absurd H (by simp)
         ·
          rw [if_neg c21] at H; exact absurd H (by simp)
        ·
         rw [if_neg c20] at H; exact absurd H (by simp)
       ·
        rw [if_neg c19] at H; exact absurd H (by simp)
      ·
       rw [if_neg c18] at H; exact absurd H (by simp)

end Go.Proofs.YtpikebpjlhccbaaGreatDoor.PAll
