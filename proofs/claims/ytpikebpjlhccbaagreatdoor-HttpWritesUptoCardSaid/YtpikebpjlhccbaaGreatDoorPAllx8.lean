-- Laid by a program of this session (wip/pp in the repo) out of the translation. Lean checks it.
import Derived.Test.YtpikebpjlhccbaaGreatDoorShort
import Derived.Test.YtpikebpjlhccbaaGreatDoorPAllx0
namespace Go.Proofs.YtpikebpjlhccbaaGreatDoor.PAll
open Go.RowKit Go.Proofs.YtpikebpjlhccbaaGreatDoorW.PrintWords Go.Proofs.YtpikebpjlhccbaaGreatDoorW.PrintLast Go.Proofs.YtpikebpjlhccbaaGreatDoorW.PrintMore
attribute [local go_sem] max2_int min2_int max_two min_two max_three min_three max_four min_four   -- for this text's walks alone
set_option linter.unusedVariables false
set_option linter.unusedSimpArgs false

/-! ### http_reason: function 31 -/
def http_reason.f (a0 : Int) : Option (ByteArray) := if a0 = 200 then (some (⟨#[79, 75]⟩ : ByteArray)) else (if a0 = 400 then (some (⟨#[66, 97, 100, 32, 82, 101, 113, 117, 101, 115, 116]⟩ : ByteArray)) else (if a0 = 404 then (some (⟨#[78, 111, 116, 32, 70, 111, 117, 110, 100]⟩ : ByteArray)) else (if a0 = 405 then (some (⟨#[77, 101, 116, 104, 111, 100, 32, 78, 111, 116, 32, 65, 108, 108, 111, 119, 101, 100]⟩ : ByteArray)) else (if a0 = 413 then (some (⟨#[67, 111, 110, 116, 101, 110, 116, 32, 84, 111, 111, 32, 76, 97, 114, 103, 101]⟩ : ByteArray)) else (some (⟨#[]⟩ : ByteArray))))))
set_option maxHeartbeats 8000000 in
set_option maxRecDepth 100000 in
theorem http_reason.calls (a0 : Int) (r : ByteArray) (w : World) (h : http_reason.f a0 = some r) :
  Calls Tryz.prog 31 #[.int .i64 a0] w fun e w' => e = .returned (.string r) ∧ Drawn0 w w' := by
 have H : (if a0 = 200 then (some (⟨#[79, 75]⟩ : ByteArray)) else (if a0 = 400 then (some (⟨#[66, 97, 100, 32, 82, 101, 113, 117, 101, 115, 116]⟩ : ByteArray)) else (if a0 = 404 then (some (⟨#[78, 111, 116, 32, 70, 111, 117, 110, 100]⟩ : ByteArray)) else (if a0 = 405 then (some (⟨#[77, 101, 116, 104, 111, 100, 32, 78, 111, 116, 32, 65, 108, 108, 111, 119, 101, 100]⟩ : ByteArray)) else (if a0 = 413 then (some (⟨#[67, 111, 110, 116, 101, 110, 116, 32, 84, 111, 111, 32, 76, 97, 114, 103, 101]⟩ : ByteArray)) else (some (⟨#[]⟩ : ByteArray))))))) = some r := h
 clear h
 by_cases c2 : a0 = 200
 ·
  rw [if_pos c2] at H
  have c2b0 : (a0 == 200) = true := beq_iff_eq.mpr c2
  have c2b1 : (a0 != 200) = false := bne_eq_false_iff_eq.mpr c2
  clear c2
  obtain rfl := Option.some.inj H
  go_enter Tryz.func31, Tryz.ntmps31
  go_wp2
  go_ret
  exact ⟨by first | rfl | (simp; done) | (simp [*]; done), by repeat (first | exact Drawn0.refl _ | apply Drawn0.step)⟩
 ·
  rw [if_neg c2] at H
  have c2b0 : (a0 == 200) = false := beq_eq_false_iff_ne.mpr c2
  have c2b1 : (a0 != 200) = true := bne_iff_ne.mpr c2
  by_cases c3 : a0 = 400
  ·
   rw [if_pos c3] at H
   have c3b0 : (a0 == 400) = true := beq_iff_eq.mpr c3
   have c3b1 : (a0 != 400) = false := bne_eq_false_iff_eq.mpr c3
   clear c3
   obtain rfl := Option.some.inj H
   go_enter Tryz.func31, Tryz.ntmps31
   go_wp2
   go_ret
   exact ⟨by first | rfl | (simp; done) | (simp [*]; done), by repeat (first | exact Drawn0.refl _ | apply Drawn0.step)⟩
  ·
   rw [if_neg c3] at H
   have c3b0 : (a0 == 400) = false := beq_eq_false_iff_ne.mpr c3
   have c3b1 : (a0 != 400) = true := bne_iff_ne.mpr c3
   by_cases c4 : a0 = 404
   ·
    rw [if_pos c4] at H; (have c4b0 : (a0 == 404) = true := beq_iff_eq.mpr c4); (have c4b1 : (a0 != 404) = false := bne_eq_false_iff_eq.mpr c4); clear c4; (obtain rfl := Option.some.inj H); (go_enter Tryz.func31, Tryz.ntmps31); (go_wp2); (go_ret); exact ⟨by first | rfl | (simp; done) | (simp [*]; done), by repeat (first | exact Drawn0.refl _ | apply Drawn0.step)⟩
   ·
    rw [if_neg c4] at H; (have c4b0 : (a0 == 404) = false := beq_eq_false_iff_ne.mpr c4); (have c4b1 : (a0 != 404) = true := bne_iff_ne.mpr c4); by_cases c5 : a0 = 405
    ·
     rw [if_pos c5] at H; (have c5b0 : (a0 == 405) = true := beq_iff_eq.mpr c5); (have c5b1 : (a0 != 405) = false := bne_eq_false_iff_eq.mpr c5); clear c5; (obtain rfl := Option.some.inj H); (go_enter Tryz.func31, Tryz.ntmps31); (go_wp2); (go_ret); exact ⟨by first | rfl | (simp; done) | (simp [*]; done), by repeat (first | exact Drawn0.refl _ | apply Drawn0.step)⟩
    ·
     rw [if_neg c5] at H; (have c5b0 : (a0 == 405) = false := beq_eq_false_iff_ne.mpr c5); (have c5b1 : (a0 != 405) = true := bne_iff_ne.mpr c5); by_cases c6 : a0 = 413
     ·
      rw [if_pos c6] at H; (have c6b0 : (a0 == 413) = true := beq_iff_eq.mpr c6); (have c6b1 : (a0 != 413) = false := bne_eq_false_iff_eq.mpr c6); clear c6; (obtain rfl := Option.some.inj H); (go_enter Tryz.func31, Tryz.ntmps31); (go_wp2); (go_ret); exact ⟨by first | rfl | (simp; done) | (simp [*]; done), by repeat (first | exact Drawn0.refl _ | apply Drawn0.step)⟩
     ·
      rw [if_neg c6] at H; (have c6b0 : (a0 == 413) = false := beq_eq_false_iff_ne.mpr c6); (have c6b1 : (a0 != 413) = true := bne_iff_ne.mpr c6); (obtain rfl := Option.some.inj H); (go_enter Tryz.func31, Tryz.ntmps31); (go_wp2); (go_ret); exact ⟨by first | rfl | (simp; done) | (simp [*]; done), by repeat (first | exact Drawn0.refl _ | apply Drawn0.step)⟩

/-! ### http_WriteResponse: function 16 -/
def http_WriteResponse.j0 : Nat → Bool → Int → ByteArray → Option (ByteArray × Int)
 | 0, _, _, _ => none
 | k + 1, x17, x144000, x144001 => if x17 = true then (some ((⟨#[]⟩ : ByteArray), 1)) else ((strconv_Itoa.f x144000).bind fun t144 => (if 9 + t144.size ≤ 9223372036854775807 then (if ((⟨#[72, 84, 84, 80, 47, 49, 46, 49, 32]⟩ : ByteArray) ++ t144).size + 1 ≤ 9223372036854775807 then ((http_reason.f x144000).bind fun t145 => (if (((⟨#[72, 84, 84, 80, 47, 49, 46, 49, 32]⟩ : ByteArray) ++ t144) ++ (⟨#[32]⟩ : ByteArray)).size + t145.size ≤ 9223372036854775807 then (if ((((⟨#[72, 84, 84, 80, 47, 49, 46, 49, 32]⟩ : ByteArray) ++ t144) ++ (⟨#[32]⟩ : ByteArray)) ++ t145).size + 2 ≤ 9223372036854775807 then (if (((((⟨#[72, 84, 84, 80, 47, 49, 46, 49, 32]⟩ : ByteArray) ++ t144) ++ (⟨#[32]⟩ : ByteArray)) ++ t145) ++ (⟨#[13, 10]⟩ : ByteArray)).size + 16 ≤ 9223372036854775807 then ((strconv_Itoa.f (x144001.size : Int)).bind fun t146 => (if ((((((⟨#[72, 84, 84, 80, 47, 49, 46, 49, 32]⟩ : ByteArray) ++ t144) ++ (⟨#[32]⟩ : ByteArray)) ++ t145) ++ (⟨#[13, 10]⟩ : ByteArray)) ++ (⟨#[67, 111, 110, 116, 101, 110, 116, 45, 76, 101, 110, 103, 116, 104, 58, 32]⟩ : ByteArray)).size + t146.size ≤ 9223372036854775807 then (if (((((((⟨#[72, 84, 84, 80, 47, 49, 46, 49, 32]⟩ : ByteArray) ++ t144) ++ (⟨#[32]⟩ : ByteArray)) ++ t145) ++ (⟨#[13, 10]⟩ : ByteArray)) ++ (⟨#[67, 111, 110, 116, 101, 110, 116, 45, 76, 101, 110, 103, 116, 104, 58, 32]⟩ : ByteArray)) ++ t146).size + 2 ≤ 9223372036854775807 then (if ((((((((⟨#[72, 84, 84, 80, 47, 49, 46, 49, 32]⟩ : ByteArray) ++ t144) ++ (⟨#[32]⟩ : ByteArray)) ++ t145) ++ (⟨#[13, 10]⟩ : ByteArray)) ++ (⟨#[67, 111, 110, 116, 101, 110, 116, 45, 76, 101, 110, 103, 116, 104, 58, 32]⟩ : ByteArray)) ++ t146) ++ (⟨#[13, 10]⟩ : ByteArray)).size + 2 ≤ 9223372036854775807 then (if (((((((((⟨#[72, 84, 84, 80, 47, 49, 46, 49, 32]⟩ : ByteArray) ++ t144) ++ (⟨#[32]⟩ : ByteArray)) ++ t145) ++ (⟨#[13, 10]⟩ : ByteArray)) ++ (⟨#[67, 111, 110, 116, 101, 110, 116, 45, 76, 101, 110, 103, 116, 104, 58, 32]⟩ : ByteArray)) ++ t146) ++ (⟨#[13, 10]⟩ : ByteArray)) ++ (⟨#[13, 10]⟩ : ByteArray)).size + x144001.size ≤ 9223372036854775807 then (some ((((((((((⟨#[72, 84, 84, 80, 47, 49, 46, 49, 32]⟩ : ByteArray) ++ t144) ++ (⟨#[32]⟩ : ByteArray)) ++ t145) ++ (⟨#[13, 10]⟩ : ByteArray)) ++ (⟨#[67, 111, 110, 116, 101, 110, 116, 45, 76, 101, 110, 103, 116, 104, 58, 32]⟩ : ByteArray)) ++ t146) ++ (⟨#[13, 10]⟩ : ByteArray)) ++ (⟨#[13, 10]⟩ : ByteArray)) ++ x144001, 0)) else (none)) else (none)) else (none)) else (none))) else (none)) else (none)) else (none))) else (none)) else (none)))
def http_WriteResponse.f (k : Nat) (a0_0 : Int) (a0_1 : ByteArray) : Option (ByteArray × Int) := if a0_0 < 100 then (http_WriteResponse.j0 k true a0_0 a0_1) else (if a0_0 > 599 then (http_WriteResponse.j0 k true a0_0 a0_1) else (http_WriteResponse.j0 k (decide ((a0_1.size : Int) > 4096)) a0_0 a0_1))
theorem http_WriteResponse.mono_l : ∀ k, (∀ y0 y1 y2, LeO (http_WriteResponse.j0 k y0 y1 y2) (http_WriteResponse.j0 (k + 1) y0 y1 y2))
 | 0 => fun _ _ _ r h => by simp [http_WriteResponse.j0] at h
 | k + 1 => by
  have ih0 := http_WriteResponse.mono_l k
  ·
   intro y0 y1 y2
   unfold http_WriteResponse.j0
   repeat' first
   | (with_reducible exact ih0 _ _ _)
   | (with_reducible exact LeO.refl _)
   | (with_reducible exact LeO.none _)
   | (with_reducible refine LeO.ite ?_ ?_)
   | (with_reducible refine LeO.bind ?_ (fun _ => ?_))
   | exact ih0 _ _ _
   | exact LeO.none _
   | refine LeO.ite ?_ ?_
   | refine LeO.bind ?_ (fun _ => ?_)
theorem http_WriteResponse.mono : ∀ a0 a1 k, LeO (http_WriteResponse.f k a0 a1) (http_WriteResponse.f (k + 1) a0 a1) := by
 intro a0 a1 k
 have ih0 := http_WriteResponse.mono_l k
 unfold http_WriteResponse.f
 repeat' first
   | (with_reducible exact ih0 _ _ _)
   | (with_reducible exact LeO.refl _)
   | (with_reducible exact LeO.none _)
   | (with_reducible refine LeO.ite ?_ ?_)
   | (with_reducible refine LeO.bind ?_ (fun _ => ?_))
   | exact ih0 _ _ _
   | exact LeO.none _
   | refine LeO.ite ?_ ?_
   | refine LeO.bind ?_ (fun _ => ?_)
def http_WriteResponse.T3 : Bool × List (List Nat × List Nat) := (true, [([], []), ([0], [0]), ([1], [1]), ([2], [2]), ([3], [3]), ([], []), ([5], [5]), ([6, 2], [6]), ([4, 7], [4, 7]), ([8], [8]), ([9], [9]), ([], []), ([11], [11]), ([12], [12]), ([13, 7], [13]), ([10, 14], [10, 14]), ([15], [15]), ([16], [16]), ([], []), ([18], [18]), ([17, 19], [17, 19]), ([20, 14, 0, 1, 2, 3, 4, 5, 6, 7, 8, 9, 10, 11, 12, 13, 14, 15, 16, 17, 18, 19, 20], [20]), ([21, 0, 1, 2, 3, 4, 5, 6, 7, 8, 9, 10, 11, 12, 13, 14, 15, 16, 17, 18, 19, 20, 21], [])])
def http_WriteResponse.B3 : List Nat := [0, 1, 3, 7, 15, 0, 32, 103, 255, 511, 1023, 0, 2048, 6144, 14567, 32767, 65535, 131071, 0, 262144, 1048575, 2097151, 4194303]
theorem http_WriteResponse.tab3 : rtab .any (opsOf Tryz.f16 3) = http_WriteResponse.T3 := by kernel_rfl
theorem http_WriteResponse.bits3 : waitsOk http_WriteResponse.T3.2 http_WriteResponse.B3 = true := by kernel_rfl
set_option maxHeartbeats 8000000 in
set_option maxRecDepth 100000 in
theorem http_WriteResponse.calls (k : Nat) (a0_0 : Int) (a0_1 : ByteArray) (r1 : ByteArray) (r2 : Int) (w : World) (hT : Aside0 (TabsOk w)) (h : http_WriteResponse.f k a0_0 a0_1 = some (r1, r2)) :
  Calls Tryz.prog 16 #[.agg #[.int .i64 a0_0, .string a0_1]] w fun e w' => e = .returned (.tuple #[.string r1, .int .i64 r2]) ∧ Below w.heap.size w w' := by
 have hu31 := Tryz.underlying31
 have HB := zM (Below.refl w.heap.size w)
 have H : (if a0_0 < 100 then (http_WriteResponse.j0 k true a0_0 a0_1) else (if a0_0 > 599 then (http_WriteResponse.j0 k true a0_0 a0_1) else (http_WriteResponse.j0 k (decide ((a0_1.size : Int) > 4096)) a0_0 a0_1))) = some (r1, r2) := h
 clear h
 have HC2 := zM H
 clear H
 go_enter Tryz.func16, Tryz.ntmps16
 go_upto_region 1 with (first | ((with_reducible refine gate_dst (N := 1) rfl ?_); (try (refine gate_guard (by rfl) ?_; dsimp only)); refine box_event ?hg (N := 1) ?hd (cs := #[.int .i64 a0_0, .string a0_1]) (t := 31) ?hr ?_; (case hd => rfl); (case hg => rfl); (case hr => first | (go_simp; done) | (go_simp; rfl)); intro gb143 hg w3 hbox hb; have n0_ := zM (below_step (by repeat (first | exact HB.out | apply zA | apply zN | apply z1)) hb); have n1_ := zM (hbox); have n2_ := zM ((by rw [hg]; exact (below_size (by repeat (first | exact HB.out | apply zA | apply zN | apply z1))) : w.heap.size ≤ gb143)); have n3_ := zM ((by rw [hg]; exact (below_size (by repeat (first | exact HB.out | apply zA | apply zN | apply z1))) : w.heap.size ≤ gb143)); clear HB; have HB := n0_; have BK143 := n1_; have GW143 := n2_; have GE143 := n3_; clear n0_ n1_ n2_ n3_; clear hb hbox hg))
 (try simp only [Act.put, zS])
 go_cut [17] (fun v17 wc => ∃ (kq : Nat) (x17_1 : Bool), v17 = .bool x17_1 ∧ Aside0 (http_WriteResponse.j0 kq x17_1 a0_0 a0_1 = some (r1, r2)) ∧ Aside0 (kq ≤ k) ∧ Aside0 (wc.heap[gb143]? = some (.cells #[.int .i64 a0_0, .string a0_1] 31 (0, 0))) ∧ Aside0 (Below w.heap.size w wc))
 case first =>
  have H := HC2.out
  clear HC2
  by_cases c4 : a0_0 < 100
  ·
   rw [if_pos c4] at H
   have c4b0 : decide (a0_0 < 100) = true := decide_eq_true c4
   clear c4
   (first | rw [c4b0] | (simp only [i64_w, i32_w]; rw [c4b0]) | skip)
   have H' := zM H
   clear H
   have hcz5_0 : w3.cell? ⟨gb143, 0, none⟩ = some (.int .i64 a0_0) := (blk_cell BK143.out 0).trans rfl
   have hcz5_1 : w3.cell? ⟨gb143, 1, none⟩ = some (.string a0_1) := (blk_cell BK143.out 1).trans rfl
   have hfz5_0 := blk_frozen BK143.out 0
   have hfz5_1 := blk_frozen BK143.out 1
   go_wp2
   go_meet
   case rel => exact ⟨_, (true), (by first | rfl | (simp; done) | (simp [*]; done)), H', ⟨by first | omega | exact Nat.le_refl _⟩, ⟨by (with_reducible repeat (first | refine blk_drewN ?_ _ | refine blk_drew ?_ | refine blk_alloc ?_ _)); exact BK143.out⟩, ⟨by repeat (first | exact HB.out | apply zA | apply zN | apply z1 | refine below_set ?_ GE143.out)⟩⟩
  ·
   rw [if_neg c4] at H
   have c4b0 : decide (a0_0 < 100) = false := decide_eq_false c4
   clear c4
   (first | rw [c4b0] | (simp only [i64_w, i32_w]; rw [c4b0]) | skip)
   by_cases c6 : a0_0 > 599
   ·
    rw [if_pos c6] at H; (have c6b0 : decide (599 < a0_0) = true := decide_eq_true c6); clear c6; (have H' := zM H); clear H; (have hcz7_0 : w3.cell? ⟨gb143, 0, none⟩ = some (.int .i64 a0_0) := (blk_cell BK143.out 0).trans rfl); (have hcz7_1 : w3.cell? ⟨gb143, 1, none⟩ = some (.string a0_1) := (blk_cell BK143.out 1).trans rfl); (have hfz7_0 := blk_frozen BK143.out 0); (have hfz7_1 := blk_frozen BK143.out 1); (go_wp2); go_meet
    case rel => exact ⟨_, (true), (by first | rfl | (simp; done) | (simp [*]; done)), H', ⟨by first | omega | exact Nat.le_refl _⟩, ⟨by (with_reducible repeat (first | refine blk_drewN ?_ _ | refine blk_drew ?_ | refine blk_alloc ?_ _)); exact BK143.out⟩, ⟨by repeat (first | exact HB.out | apply zA | apply zN | apply z1 | refine below_set ?_ GE143.out)⟩⟩
   ·
    rw [if_neg c6] at H; (have c6b0 : decide (599 < a0_0) = false := decide_eq_false c6); clear c6; (have H' := zM H); clear H; (have hcz8_0 : w3.cell? ⟨gb143, 0, none⟩ = some (.int .i64 a0_0) := (blk_cell BK143.out 0).trans rfl); (have hcz8_1 : w3.cell? ⟨gb143, 1, none⟩ = some (.string a0_1) := (blk_cell BK143.out 1).trans rfl); (have hfz8_0 := blk_frozen BK143.out 0); (have hfz8_1 := blk_frozen BK143.out 1); (go_wp2); go_meet
    case rel => exact ⟨_, (decide ((a0_1.size : Int) > 4096)), (by first | rfl | (simp; done) | (simp [*]; done)), H', ⟨by first | omega | exact Nat.le_refl _⟩, ⟨by (with_reducible repeat (first | refine blk_drewN ?_ _ | refine blk_drew ?_ | refine blk_alloc ?_ _)); exact BK143.out⟩, ⟨by repeat (first | exact HB.out | apply zA | apply zN | apply z1 | refine below_set ?_ GE143.out)⟩⟩
 case rest =>
  clear HC2
  try clear c1
  try clear p2
  try clear c4
  try clear c4b0
  try clear c6
  try clear c6b0
  try clear hcz5_0
  try clear hcz5_1
  try clear hcz7_0
  try clear hcz7_1
  try clear hcz8_0
  try clear hcz8_1
  try clear hfz5_0
  try clear hfz5_1
  try clear hfz7_0
  try clear hfz7_1
  try clear hfz8_0
  try clear hfz8_1
  obtain ⟨kq, x17_1, rfl, HA, HJ1, BK143, HB⟩ := hcut
  cases kq with
  | zero => exact absurd HA.out (by simp [http_WriteResponse.j0])
  | succ kj1 =>
   have H := HA.out
   clear HA
   simp only [http_WriteResponse.j0] at H
   by_cases c9 : x17_1 = true
   ·
    subst c9; (have H1 : (some ((⟨#[]⟩ : ByteArray), 1)) = some (r1, r2) := by rw [if_pos rfl] at H; exact H); clear H; (have H := H1); clear H1; simp only [Option.some.injEq, Prod.mk.injEq] at H; (obtain ⟨rfl, rfl⟩ := H); (go_wp2); (go_ret2); exact ⟨by first | rfl | (simp [errW_none, errW_some] <;> rfl) | (simp [*, errW_none, errW_some] <;> rfl), by repeat (first | exact HB.out | apply zA | apply zN | apply z1 | refine below_set ?_ GE143.out)⟩
   ·
    (replace c9 := Bool.eq_false_iff.mpr c9); subst c9; (have H1 : ((strconv_Itoa.f a0_0).bind fun t144 => (if 9 + t144.size ≤ 9223372036854775807 then (if ((⟨#[72, 84, 84, 80, 47, 49, 46, 49, 32]⟩ : ByteArray) ++ t144).size + 1 ≤ 9223372036854775807 then ((http_reason.f a0_0).bind fun t145 => (if (((⟨#[72, 84, 84, 80, 47, 49, 46, 49, 32]⟩ : ByteArray) ++ t144) ++ (⟨#[32]⟩ : ByteArray)).size + t145.size ≤ 9223372036854775807 then (if ((((⟨#[72, 84, 84, 80, 47, 49, 46, 49, 32]⟩ : ByteArray) ++ t144) ++ (⟨#[32]⟩ : ByteArray)) ++ t145).size + 2 ≤ 9223372036854775807 then (if (((((⟨#[72, 84, 84, 80, 47, 49, 46, 49, 32]⟩ : ByteArray) ++ t144) ++ (⟨#[32]⟩ : ByteArray)) ++ t145) ++ (⟨#[13, 10]⟩ : ByteArray)).size + 16 ≤ 9223372036854775807 then ((strconv_Itoa.f (a0_1.size : Int)).bind fun t146 => (if ((((((⟨#[72, 84, 84, 80, 47, 49, 46, 49, 32]⟩ : ByteArray) ++ t144) ++ (⟨#[32]⟩ : ByteArray)) ++ t145) ++ (⟨#[13, 10]⟩ : ByteArray)) ++ (⟨#[67, 111, 110, 116, 101, 110, 116, 45, 76, 101, 110, 103, 116, 104, 58, 32]⟩ : ByteArray)).size + t146.size ≤ 9223372036854775807 then (if (((((((⟨#[72, 84, 84, 80, 47, 49, 46, 49, 32]⟩ : ByteArray) ++ t144) ++ (⟨#[32]⟩ : ByteArray)) ++ t145) ++ (⟨#[13, 10]⟩ : ByteArray)) ++ (⟨#[67, 111, 110, 116, 101, 110, 116, 45, 76, 101, 110, 103, 116, 104, 58, 32]⟩ : ByteArray)) ++ t146).size + 2 ≤ 9223372036854775807 then (if ((((((((⟨#[72, 84, 84, 80, 47, 49, 46, 49, 32]⟩ : ByteArray) ++ t144) ++ (⟨#[32]⟩ : ByteArray)) ++ t145) ++ (⟨#[13, 10]⟩ : ByteArray)) ++ (⟨#[67, 111, 110, 116, 101, 110, 116, 45, 76, 101, 110, 103, 116, 104, 58, 32]⟩ : ByteArray)) ++ t146) ++ (⟨#[13, 10]⟩ : ByteArray)).size + 2 ≤ 9223372036854775807 then (if (((((((((⟨#[72, 84, 84, 80, 47, 49, 46, 49, 32]⟩ : ByteArray) ++ t144) ++ (⟨#[32]⟩ : ByteArray)) ++ t145) ++ (⟨#[13, 10]⟩ : ByteArray)) ++ (⟨#[67, 111, 110, 116, 101, 110, 116, 45, 76, 101, 110, 103, 116, 104, 58, 32]⟩ : ByteArray)) ++ t146) ++ (⟨#[13, 10]⟩ : ByteArray)) ++ (⟨#[13, 10]⟩ : ByteArray)).size + a0_1.size ≤ 9223372036854775807 then (some ((((((((((⟨#[72, 84, 84, 80, 47, 49, 46, 49, 32]⟩ : ByteArray) ++ t144) ++ (⟨#[32]⟩ : ByteArray)) ++ t145) ++ (⟨#[13, 10]⟩ : ByteArray)) ++ (⟨#[67, 111, 110, 116, 101, 110, 116, 45, 76, 101, 110, 103, 116, 104, 58, 32]⟩ : ByteArray)) ++ t146) ++ (⟨#[13, 10]⟩ : ByteArray)) ++ (⟨#[13, 10]⟩ : ByteArray)) ++ a0_1, 0)) else (none)) else (none)) else (none)) else (none))) else (none)) else (none)) else (none))) else (none)) else (none))) = some (r1, r2) := by rw [if_neg (show ¬ (false = true) by decide)] at H; exact H); clear H; (have H := H1); clear H1; (replace H := Option.bind_eq_some_iff.mp H); (obtain ⟨t144, A100, H⟩ := H); replace H : (if 9 + t144.size ≤ 9223372036854775807 then (if ((⟨#[72, 84, 84, 80, 47, 49, 46, 49, 32]⟩ : ByteArray) ++ t144).size + 1 ≤ 9223372036854775807 then ((http_reason.f a0_0).bind fun t145 => (if (((⟨#[72, 84, 84, 80, 47, 49, 46, 49, 32]⟩ : ByteArray) ++ t144) ++ (⟨#[32]⟩ : ByteArray)).size + t145.size ≤ 9223372036854775807 then (if ((((⟨#[72, 84, 84, 80, 47, 49, 46, 49, 32]⟩ : ByteArray) ++ t144) ++ (⟨#[32]⟩ : ByteArray)) ++ t145).size + 2 ≤ 9223372036854775807 then (if (((((⟨#[72, 84, 84, 80, 47, 49, 46, 49, 32]⟩ : ByteArray) ++ t144) ++ (⟨#[32]⟩ : ByteArray)) ++ t145) ++ (⟨#[13, 10]⟩ : ByteArray)).size + 16 ≤ 9223372036854775807 then ((strconv_Itoa.f (a0_1.size : Int)).bind fun t146 => (if ((((((⟨#[72, 84, 84, 80, 47, 49, 46, 49, 32]⟩ : ByteArray) ++ t144) ++ (⟨#[32]⟩ : ByteArray)) ++ t145) ++ (⟨#[13, 10]⟩ : ByteArray)) ++ (⟨#[67, 111, 110, 116, 101, 110, 116, 45, 76, 101, 110, 103, 116, 104, 58, 32]⟩ : ByteArray)).size + t146.size ≤ 9223372036854775807 then (if (((((((⟨#[72, 84, 84, 80, 47, 49, 46, 49, 32]⟩ : ByteArray) ++ t144) ++ (⟨#[32]⟩ : ByteArray)) ++ t145) ++ (⟨#[13, 10]⟩ : ByteArray)) ++ (⟨#[67, 111, 110, 116, 101, 110, 116, 45, 76, 101, 110, 103, 116, 104, 58, 32]⟩ : ByteArray)) ++ t146).size + 2 ≤ 9223372036854775807 then (if ((((((((⟨#[72, 84, 84, 80, 47, 49, 46, 49, 32]⟩ : ByteArray) ++ t144) ++ (⟨#[32]⟩ : ByteArray)) ++ t145) ++ (⟨#[13, 10]⟩ : ByteArray)) ++ (⟨#[67, 111, 110, 116, 101, 110, 116, 45, 76, 101, 110, 103, 116, 104, 58, 32]⟩ : ByteArray)) ++ t146) ++ (⟨#[13, 10]⟩ : ByteArray)).size + 2 ≤ 9223372036854775807 then (if (((((((((⟨#[72, 84, 84, 80, 47, 49, 46, 49, 32]⟩ : ByteArray) ++ t144) ++ (⟨#[32]⟩ : ByteArray)) ++ t145) ++ (⟨#[13, 10]⟩ : ByteArray)) ++ (⟨#[67, 111, 110, 116, 101, 110, 116, 45, 76, 101, 110, 103, 116, 104, 58, 32]⟩ : ByteArray)) ++ t146) ++ (⟨#[13, 10]⟩ : ByteArray)) ++ (⟨#[13, 10]⟩ : ByteArray)).size + a0_1.size ≤ 9223372036854775807 then (some ((((((((((⟨#[72, 84, 84, 80, 47, 49, 46, 49, 32]⟩ : ByteArray) ++ t144) ++ (⟨#[32]⟩ : ByteArray)) ++ t145) ++ (⟨#[13, 10]⟩ : ByteArray)) ++ (⟨#[67, 111, 110, 116, 101, 110, 116, 45, 76, 101, 110, 103, 116, 104, 58, 32]⟩ : ByteArray)) ++ t146) ++ (⟨#[13, 10]⟩ : ByteArray)) ++ (⟨#[13, 10]⟩ : ByteArray)) ++ a0_1, 0)) else (none)) else (none)) else (none)) else (none))) else (none)) else (none)) else (none))) else (none)) else (none)) = some (r1, r2) := H; (have A10 := zM A100); clear A100; by_cases c11 : 9 + t144.size ≤ 9223372036854775807
    ·
     rw [if_pos c11] at H; (have c11b0 := eq_true c11); (have c11b1 : decide (9 + t144.size ≤ 9223372036854775807) = true := decide_eq_true c11); (try have c11b2 : (9223372036854775807 < 9 + t144.size) = False := eq_false (Nat.not_lt.2 c11)); by_cases c12 : ((⟨#[72, 84, 84, 80, 47, 49, 46, 49, 32]⟩ : ByteArray) ++ t144).size + 1 ≤ 9223372036854775807
     ·
      rw [if_pos c12] at H; (have c12b3 : 9 + t144.size + 1 ≤ 9223372036854775807 := by have h_ := c12; simp only [ByteArray.size_append] at h_; exact h_); (have c12b4 : (9223372036854775807 < 9 + t144.size + 1) = False := eq_false (Nat.not_lt.mpr c12b3)); (have c12b0 := eq_true c12); (have c12b1 : decide (((⟨#[72, 84, 84, 80, 47, 49, 46, 49, 32]⟩ : ByteArray) ++ t144).size + 1 ≤ 9223372036854775807) = true := decide_eq_true c12); (try have c12b2 : (9223372036854775807 < ((⟨#[72, 84, 84, 80, 47, 49, 46, 49, 32]⟩ : ByteArray) ++ t144).size + 1) = False := eq_false (Nat.not_lt.2 c12)); (replace H := Option.bind_eq_some_iff.mp H); (obtain ⟨t145, A130, H⟩ := H); replace H : (if (((⟨#[72, 84, 84, 80, 47, 49, 46, 49, 32]⟩ : ByteArray) ++ t144) ++ (⟨#[32]⟩ : ByteArray)).size + t145.size ≤ 9223372036854775807 then (if ((((⟨#[72, 84, 84, 80, 47, 49, 46, 49, 32]⟩ : ByteArray) ++ t144) ++ (⟨#[32]⟩ : ByteArray)) ++ t145).size + 2 ≤ 9223372036854775807 then (if (((((⟨#[72, 84, 84, 80, 47, 49, 46, 49, 32]⟩ : ByteArray) ++ t144) ++ (⟨#[32]⟩ : ByteArray)) ++ t145) ++ (⟨#[13, 10]⟩ : ByteArray)).size + 16 ≤ 9223372036854775807 then ((strconv_Itoa.f (a0_1.size : Int)).bind fun t146 => (if ((((((⟨#[72, 84, 84, 80, 47, 49, 46, 49, 32]⟩ : ByteArray) ++ t144) ++ (⟨#[32]⟩ : ByteArray)) ++ t145) ++ (⟨#[13, 10]⟩ : ByteArray)) ++ (⟨#[67, 111, 110, 116, 101, 110, 116, 45, 76, 101, 110, 103, 116, 104, 58, 32]⟩ : ByteArray)).size + t146.size ≤ 9223372036854775807 then (if (((((((⟨#[72, 84, 84, 80, 47, 49, 46, 49, 32]⟩ : ByteArray) ++ t144) ++ (⟨#[32]⟩ : ByteArray)) ++ t145) ++ (⟨#[13, 10]⟩ : ByteArray)) ++ (⟨#[67, 111, 110, 116, 101, 110, 116, 45, 76, 101, 110, 103, 116, 104, 58, 32]⟩ : ByteArray)) ++ t146).size + 2 ≤ 9223372036854775807 then (if ((((((((⟨#[72, 84, 84, 80, 47, 49, 46, 49, 32]⟩ : ByteArray) ++ t144) ++ (⟨#[32]⟩ : ByteArray)) ++ t145) ++ (⟨#[13, 10]⟩ : ByteArray)) ++ (⟨#[67, 111, 110, 116, 101, 110, 116, 45, 76, 101, 110, 103, 116, 104, 58, 32]⟩ : ByteArray)) ++ t146) ++ (⟨#[13, 10]⟩ : ByteArray)).size + 2 ≤ 9223372036854775807 then (if (((((((((⟨#[72, 84, 84, 80, 47, 49, 46, 49, 32]⟩ : ByteArray) ++ t144) ++ (⟨#[32]⟩ : ByteArray)) ++ t145) ++ (⟨#[13, 10]⟩ : ByteArray)) ++ (⟨#[67, 111, 110, 116, 101, 110, 116, 45, 76, 101, 110, 103, 116, 104, 58, 32]⟩ : ByteArray)) ++ t146) ++ (⟨#[13, 10]⟩ : ByteArray)) ++ (⟨#[13, 10]⟩ : ByteArray)).size + a0_1.size ≤ 9223372036854775807 then (some ((((((((((⟨#[72, 84, 84, 80, 47, 49, 46, 49, 32]⟩ : ByteArray) ++ t144) ++ (⟨#[32]⟩ : ByteArray)) ++ t145) ++ (⟨#[13, 10]⟩ : ByteArray)) ++ (⟨#[67, 111, 110, 116, 101, 110, 116, 45, 76, 101, 110, 103, 116, 104, 58, 32]⟩ : ByteArray)) ++ t146) ++ (⟨#[13, 10]⟩ : ByteArray)) ++ (⟨#[13, 10]⟩ : ByteArray)) ++ a0_1, 0)) else (none)) else (none)) else (none)) else (none))) else (none)) else (none)) else (none)) = some (r1, r2) := H; (have A13 := zM A130); clear A130; by_cases c14 : (((⟨#[72, 84, 84, 80, 47, 49, 46, 49, 32]⟩ : ByteArray) ++ t144) ++ (⟨#[32]⟩ : ByteArray)).size + t145.size ≤ 9223372036854775807
      ·
       rw [if_pos c14] at H; (have c14b3 : 9 + t144.size + 1 + t145.size ≤ 9223372036854775807 := by have h_ := c14; simp only [ByteArray.size_append] at h_; exact h_); (have c14b4 : (9223372036854775807 < 9 + t144.size + 1 + t145.size) = False := eq_false (Nat.not_lt.mpr c14b3)); (have c14b0 := eq_true c14); (have c14b1 : decide ((((⟨#[72, 84, 84, 80, 47, 49, 46, 49, 32]⟩ : ByteArray) ++ t144) ++ (⟨#[32]⟩ : ByteArray)).size + t145.size ≤ 9223372036854775807) = true := decide_eq_true c14); (try have c14b2 : (9223372036854775807 < (((⟨#[72, 84, 84, 80, 47, 49, 46, 49, 32]⟩ : ByteArray) ++ t144) ++ (⟨#[32]⟩ : ByteArray)).size + t145.size) = False := eq_false (Nat.not_lt.2 c14)); by_cases c15 : ((((⟨#[72, 84, 84, 80, 47, 49, 46, 49, 32]⟩ : ByteArray) ++ t144) ++ (⟨#[32]⟩ : ByteArray)) ++ t145).size + 2 ≤ 9223372036854775807
       ·
        rw [if_pos c15] at H; (have c15b3 : 9 + t144.size + 1 + t145.size + 2 ≤ 9223372036854775807 := by have h_ := c15; simp only [ByteArray.size_append] at h_; exact h_); (have c15b4 : (9223372036854775807 < 9 + t144.size + 1 + t145.size + 2) = False := eq_false (Nat.not_lt.mpr c15b3)); (have c15b0 := eq_true c15); (have c15b1 : decide (((((⟨#[72, 84, 84, 80, 47, 49, 46, 49, 32]⟩ : ByteArray) ++ t144) ++ (⟨#[32]⟩ : ByteArray)) ++ t145).size + 2 ≤ 9223372036854775807) = true := decide_eq_true c15); (try have c15b2 : (9223372036854775807 < ((((⟨#[72, 84, 84, 80, 47, 49, 46, 49, 32]⟩ : ByteArray) ++ t144) ++ (⟨#[32]⟩ : ByteArray)) ++ t145).size + 2) = False := eq_false (Nat.not_lt.2 c15)); by_cases c16 : (((((⟨#[72, 84, 84, 80, 47, 49, 46, 49, 32]⟩ : ByteArray) ++ t144) ++ (⟨#[32]⟩ : ByteArray)) ++ t145) ++ (⟨#[13, 10]⟩ : ByteArray)).size + 16 ≤ 9223372036854775807
        ·
         rw [if_pos c16] at H; (have c16b3 : 9 + t144.size + 1 + t145.size + 2 + 16 ≤ 9223372036854775807 := by have h_ := c16; simp only [ByteArray.size_append] at h_; exact h_); (have c16b4 : (9223372036854775807 < 9 + t144.size + 1 + t145.size + 2 + 16) = False := eq_false (Nat.not_lt.mpr c16b3)); (have c16b0 := eq_true c16); (have c16b1 : decide ((((((⟨#[72, 84, 84, 80, 47, 49, 46, 49, 32]⟩ : ByteArray) ++ t144) ++ (⟨#[32]⟩ : ByteArray)) ++ t145) ++ (⟨#[13, 10]⟩ : ByteArray)).size + 16 ≤ 9223372036854775807) = true := decide_eq_true c16); (try have c16b2 : (9223372036854775807 < (((((⟨#[72, 84, 84, 80, 47, 49, 46, 49, 32]⟩ : ByteArray) ++ t144) ++ (⟨#[32]⟩ : ByteArray)) ++ t145) ++ (⟨#[13, 10]⟩ : ByteArray)).size + 16) = False := eq_false (Nat.not_lt.2 c16)); (replace H := Option.bind_eq_some_iff.mp H); (obtain ⟨t146, A170, H⟩ := H); replace H : (if ((((((⟨#[72, 84, 84, 80, 47, 49, 46, 49, 32]⟩ : ByteArray) ++ t144) ++ (⟨#[32]⟩ : ByteArray)) ++ t145) ++ (⟨#[13, 10]⟩ : ByteArray)) ++ (⟨#[67, 111, 110, 116, 101, 110, 116, 45, 76, 101, 110, 103, 116, 104, 58, 32]⟩ : ByteArray)).size + t146.size ≤ 9223372036854775807 then (if (((((((⟨#[72, 84, 84, 80, 47, 49, 46, 49, 32]⟩ : ByteArray) ++ t144) ++ (⟨#[32]⟩ : ByteArray)) ++ t145) ++ (⟨#[13, 10]⟩ : ByteArray)) ++ (⟨#[67, 111, 110, 116, 101, 110, 116, 45, 76, 101, 110, 103, 116, 104, 58, 32]⟩ : ByteArray)) ++ t146).size + 2 ≤ 9223372036854775807 then (if ((((((((⟨#[72, 84, 84, 80, 47, 49, 46, 49, 32]⟩ : ByteArray) ++ t144) ++ (⟨#[32]⟩ : ByteArray)) ++ t145) ++ (⟨#[13, 10]⟩ : ByteArray)) ++ (⟨#[67, 111, 110, 116, 101, 110, 116, 45, 76, 101, 110, 103, 116, 104, 58, 32]⟩ : ByteArray)) ++ t146) ++ (⟨#[13, 10]⟩ : ByteArray)).size + 2 ≤ 9223372036854775807 then (if (((((((((⟨#[72, 84, 84, 80, 47, 49, 46, 49, 32]⟩ : ByteArray) ++ t144) ++ (⟨#[32]⟩ : ByteArray)) ++ t145) ++ (⟨#[13, 10]⟩ : ByteArray)) ++ (⟨#[67, 111, 110, 116, 101, 110, 116, 45, 76, 101, 110, 103, 116, 104, 58, 32]⟩ : ByteArray)) ++ t146) ++ (⟨#[13, 10]⟩ : ByteArray)) ++ (⟨#[13, 10]⟩ : ByteArray)).size + a0_1.size ≤ 9223372036854775807 then (some ((((((((((⟨#[72, 84, 84, 80, 47, 49, 46, 49, 32]⟩ : ByteArray) ++ t144) ++ (⟨#[32]⟩ : ByteArray)) ++ t145) ++ (⟨#[13, 10]⟩ : ByteArray)) ++ (⟨#[67, 111, 110, 116, 101, 110, 116, 45, 76, 101, 110, 103, 116, 104, 58, 32]⟩ : ByteArray)) ++ t146) ++ (⟨#[13, 10]⟩ : ByteArray)) ++ (⟨#[13, 10]⟩ : ByteArray)) ++ a0_1, 0)) else (none)) else (none)) else (none)) else (none)) = some (r1, r2) := H; (have A17 := zM A170); clear A170; by_cases c18 : ((((((⟨#[72, 84, 84, 80, 47, 49, 46, 49, 32]⟩ : ByteArray) ++ t144) ++ (⟨#[32]⟩ : ByteArray)) ++ t145) ++ (⟨#[13, 10]⟩ : ByteArray)) ++ (⟨#[67, 111, 110, 116, 101, 110, 116, 45, 76, 101, 110, 103, 116, 104, 58, 32]⟩ : ByteArray)).size + t146.size ≤ 9223372036854775807
         ·
          rw [if_pos c18] at H; (have c18b3 : 9 + t144.size + 1 + t145.size + 2 + 16 + t146.size ≤ 9223372036854775807 := by have h_ := c18; simp only [ByteArray.size_append] at h_; exact h_); (have c18b4 : (9223372036854775807 < 9 + t144.size + 1 + t145.size + 2 + 16 + t146.size) = False := eq_false (Nat.not_lt.mpr c18b3)); (have c18b0 := eq_true c18); (have c18b1 : decide (((((((⟨#[72, 84, 84, 80, 47, 49, 46, 49, 32]⟩ : ByteArray) ++ t144) ++ (⟨#[32]⟩ : ByteArray)) ++ t145) ++ (⟨#[13, 10]⟩ : ByteArray)) ++ (⟨#[67, 111, 110, 116, 101, 110, 116, 45, 76, 101, 110, 103, 116, 104, 58, 32]⟩ : ByteArray)).size + t146.size ≤ 9223372036854775807) = true := decide_eq_true c18); (try have c18b2 : (9223372036854775807 < ((((((⟨#[72, 84, 84, 80, 47, 49, 46, 49, 32]⟩ : ByteArray) ++ t144) ++ (⟨#[32]⟩ : ByteArray)) ++ t145) ++ (⟨#[13, 10]⟩ : ByteArray)) ++ (⟨#[67, 111, 110, 116, 101, 110, 116, 45, 76, 101, 110, 103, 116, 104, 58, 32]⟩ : ByteArray)).size + t146.size) = False := eq_false (Nat.not_lt.2 c18)); by_cases c19 : (((((((⟨#[72, 84, 84, 80, 47, 49, 46, 49, 32]⟩ : ByteArray) ++ t144) ++ (⟨#[32]⟩ : ByteArray)) ++ t145) ++ (⟨#[13, 10]⟩ : ByteArray)) ++ (⟨#[67, 111, 110, 116, 101, 110, 116, 45, 76, 101, 110, 103, 116, 104, 58, 32]⟩ : ByteArray)) ++ t146).size + 2 ≤ 9223372036854775807
          ·
           rw [if_pos c19] at H; (have c19b3 : 9 + t144.size + 1 + t145.size + 2 + 16 + t146.size + 2 ≤ 9223372036854775807 := by have h_ := c19; simp only [ByteArray.size_append] at h_; exact h_); (have c19b4 : (9223372036854775807 < 9 + t144.size + 1 + t145.size + 2 + 16 + t146.size + 2) = False := eq_false (Nat.not_lt.mpr c19b3)); (have c19b0 := eq_true c19); (have c19b1 : decide ((((((((⟨#[72, 84, 84, 80, 47, 49, 46, 49, 32]⟩ : ByteArray) ++ t144) ++ (⟨#[32]⟩ : ByteArray)) ++ t145) ++ (⟨#[13, 10]⟩ : ByteArray)) ++ (⟨#[67, 111, 110, 116, 101, 110, 116, 45, 76, 101, 110, 103, 116, 104, 58, 32]⟩ : ByteArray)) ++ t146).size + 2 ≤ 9223372036854775807) = true := decide_eq_true c19); (try have c19b2 : (9223372036854775807 < (((((((⟨#[72, 84, 84, 80, 47, 49, 46, 49, 32]⟩ : ByteArray) ++ t144) ++ (⟨#[32]⟩ : ByteArray)) ++ t145) ++ (⟨#[13, 10]⟩ : ByteArray)) ++ (⟨#[67, 111, 110, 116, 101, 110, 116, 45, 76, 101, 110, 103, 116, 104, 58, 32]⟩ : ByteArray)) ++ t146).size + 2) = False := eq_false (Nat.not_lt.2 c19)); by_cases c20 : ((((((((⟨#[72, 84, 84, 80, 47, 49, 46, 49, 32]⟩ : ByteArray) ++ t144) ++ (⟨#[32]⟩ : ByteArray)) ++ t145) ++ (⟨#[13, 10]⟩ : ByteArray)) ++ (⟨#[67, 111, 110, 116, 101, 110, 116, 45, 76, 101, 110, 103, 116, 104, 58, 32]⟩ : ByteArray)) ++ t146) ++ (⟨#[13, 10]⟩ : ByteArray)).size + 2 ≤ 9223372036854775807
           ·
            rw [if_pos c20] at H; (have c20b3 : 9 + t144.size + 1 + t145.size + 2 + 16 + t146.size + 2 + 2 ≤ 9223372036854775807 := by have h_ := c20; simp only [ByteArray.size_append] at h_; exact h_); (have c20b4 : (9223372036854775807 < 9 + t144.size + 1 + t145.size + 2 + 16 + t146.size + 2 + 2) = False := eq_false (Nat.not_lt.mpr c20b3)); (have c20b0 := eq_true c20); (have c20b1 : decide (((((((((⟨#[72, 84, 84, 80, 47, 49, 46, 49, 32]⟩ : ByteArray) ++ t144) ++ (⟨#[32]⟩ : ByteArray)) ++ t145) ++ (⟨#[13, 10]⟩ : ByteArray)) ++ (⟨#[67, 111, 110, 116, 101, 110, 116, 45, 76, 101, 110, 103, 116, 104, 58, 32]⟩ : ByteArray)) ++ t146) ++ (⟨#[13, 10]⟩ : ByteArray)).size + 2 ≤ 9223372036854775807) = true := decide_eq_true c20); (try have c20b2 : (9223372036854775807 < ((((((((⟨#[72, 84, 84, 80, 47, 49, 46, 49, 32]⟩ : ByteArray) ++ t144) ++ (⟨#[32]⟩ : ByteArray)) ++ t145) ++ (⟨#[13, 10]⟩ : ByteArray)) ++ (⟨#[67, 111, 110, 116, 101, 110, 116, 45, 76, 101, 110, 103, 116, 104, 58, 32]⟩ : ByteArray)) ++ t146) ++ (⟨#[13, 10]⟩ : ByteArray)).size + 2) = False := eq_false (Nat.not_lt.2 c20)); by_cases c21 : (((((((((⟨#[72, 84, 84, 80, 47, 49, 46, 49, 32]⟩ : ByteArray) ++ t144) ++ (⟨#[32]⟩ : ByteArray)) ++ t145) ++ (⟨#[13, 10]⟩ : ByteArray)) ++ (⟨#[67, 111, 110, 116, 101, 110, 116, 45, 76, 101, 110, 103, 116, 104, 58, 32]⟩ : ByteArray)) ++ t146) ++ (⟨#[13, 10]⟩ : ByteArray)) ++ (⟨#[13, 10]⟩ : ByteArray)).size + a0_1.size ≤ 9223372036854775807
            ·
             rw [if_pos c21] at H; (have c21b3 : 9 + t144.size + 1 + t145.size + 2 + 16 + t146.size + 2 + 2 + a0_1.size ≤ 9223372036854775807 := by have h_ := c21; simp only [ByteArray.size_append] at h_; exact h_); (have c21b4 : (9223372036854775807 < 9 + t144.size + 1 + t145.size + 2 + 16 + t146.size + 2 + 2 + a0_1.size) = False := eq_false (Nat.not_lt.mpr c21b3)); (have c21b0 := eq_true c21); (have c21b1 : decide ((((((((((⟨#[72, 84, 84, 80, 47, 49, 46, 49, 32]⟩ : ByteArray) ++ t144) ++ (⟨#[32]⟩ : ByteArray)) ++ t145) ++ (⟨#[13, 10]⟩ : ByteArray)) ++ (⟨#[67, 111, 110, 116, 101, 110, 116, 45, 76, 101, 110, 103, 116, 104, 58, 32]⟩ : ByteArray)) ++ t146) ++ (⟨#[13, 10]⟩ : ByteArray)) ++ (⟨#[13, 10]⟩ : ByteArray)).size + a0_1.size ≤ 9223372036854775807) = true := decide_eq_true c21); (try have c21b2 : (9223372036854775807 < (((((((((⟨#[72, 84, 84, 80, 47, 49, 46, 49, 32]⟩ : ByteArray) ++ t144) ++ (⟨#[32]⟩ : ByteArray)) ++ t145) ++ (⟨#[13, 10]⟩ : ByteArray)) ++ (⟨#[67, 111, 110, 116, 101, 110, 116, 45, 76, 101, 110, 103, 116, 104, 58, 32]⟩ : ByteArray)) ++ t146) ++ (⟨#[13, 10]⟩ : ByteArray)) ++ (⟨#[13, 10]⟩ : ByteArray)).size + a0_1.size) = False := eq_false (Nat.not_lt.2 c21)); simp only [Option.some.injEq, Prod.mk.injEq] at H; (obtain ⟨rfl, rfl⟩ := H); (try go_wp2); (have n0_ := zM (blk_drew BK143.out)); (have n1_ := zM (below_drew1 HB.out)); clear BK143; clear HB; (have BK143 := n0_); (have HB := n1_); clear n0_ n1_; (refine start_ (n := 23) (S := fun w' => w'.cell? ⟨gb143, 0, none⟩ = some (.int .i64 a0_0) ∧ w'.cell? ⟨gb143, 1, none⟩ = some (.string a0_1)) (ds := []) #[false, false, false, false, false, false, false, false, false, false, false, false, false, false, false, false, false, false, false, false, false, false, false] (by kernel_rfl) rfl rfl ⟨(blk_cell BK143.out 0).trans rfl, (blk_cell BK143.out 1).trans rfl⟩ (fun hHeld => ?_); refine with_tabW http_WriteResponse.tab3 http_WriteResponse.bits3 (fun HT_ HW_ => ?_)); (generalize wc.drew = w22 at BK143 HB hHeld ⊢); (refine pure_ (i := 0) (N := some 18) (v := ?_) (a' := ?_) #[true, false, false, false, false, false, false, false, false, false, false, false, false, false, false, false, false, false, false, false, false, false, false] rfl rfl (any_of HT_.out (by kernel_rfl)) (fun _ _ _ h => h) (Or.inl ⟨by rfl, ?_⟩) ?_ ?_); rotate_left
             ·
              intro w'; go_simp; with_reducible rfl
             rotate_left
             ·
              simp only [Act.put, zS, zI]; rfl
             (refine pure_ (i := 5) (N := some 23) (v := ?_) (a' := ?_) #[true, false, false, false, false, true, false, false, false, false, false, false, false, false, false, false, false, false, false, false, false, false, false] rfl rfl (any_of HT_.out (by kernel_rfl)) (fun _ _ _ h => h) (Or.inl ⟨by rfl, ?_⟩) ?_ ?_); rotate_left
             ·
              intro w'; go_simp; with_reducible rfl
             rotate_left
             ·
              simp only [Act.put, zS, zI]; rfl
             (refine pure_ (i := 11) (N := some 29) (v := ?_) (a' := ?_) #[true, false, false, false, false, true, false, false, false, false, false, true, false, false, false, false, false, false, false, false, false, false, false] rfl rfl (any_of HT_.out (by kernel_rfl)) (fun _ _ _ h => h) (Or.inl ⟨by rfl, ?_⟩) ?_ ?_); rotate_left
             ·
              intro w'; go_simp; with_reducible rfl
             rotate_left
             ·
              simp only [Act.put, zS, zI]; rfl
             (refine pure_ (i := 18) (N := some 36) (v := ?_) (a' := ?_) #[true, false, false, false, false, true, false, false, false, false, false, true, false, false, false, false, false, false, true, false, false, false, false] rfl rfl (any_of HT_.out (by kernel_rfl)) (fun _ _ _ h => h) (Or.inl ⟨by rfl, ?_⟩) ?_ ?_); rotate_left
             ·
              intro w'; go_simp; with_reducible rfl
             rotate_left
             ·
              simp only [Act.put, zS, zI]; rfl
             (refine take_ (i := 1) (N := some 19) (v := ?_) (a' := ?_) #[true, true, false, false, false, true, false, false, false, false, false, true, false, false, false, false, false, false, true, false, false, false, false] rfl rfl (take_ofW HT_.out HW_.out (by kernel_rfl)) (fun _ _ _ h => h) (Or.inl ⟨by rfl, ?_⟩) hHeld ?_ ?_); rotate_left
             ·
              rintro w' ⟨s0, s1⟩; go_simp; with_reducible rfl
             rotate_left
             ·
              simp only [Act.put, zS, zI]; rfl
             (refine take_ (i := 6) (N := some 24) (v := ?_) (a' := ?_) #[true, true, false, false, false, true, true, false, false, false, false, true, false, false, false, false, false, false, true, false, false, false, false] rfl rfl (take_ofW HT_.out HW_.out (by kernel_rfl)) (fun _ _ _ h => h) (Or.inl ⟨by rfl, ?_⟩) hHeld ?_ ?_); rotate_left
             ·
              rintro w' ⟨s0, s1⟩; go_simp; with_reducible rfl
             rotate_left
             ·
              simp only [Act.put, zS, zI]; rfl
             (refine take_ (i := 12) (N := some 30) (v := ?_) (a' := ?_) #[true, true, false, false, false, true, true, false, false, false, false, true, true, false, false, false, false, false, true, false, false, false, false] rfl rfl (take_ofW HT_.out HW_.out (by kernel_rfl)) (fun _ _ _ h => h) (Or.inl ⟨by rfl, ?_⟩) hHeld ?_ ?_); rotate_left
             ·
              rintro w' ⟨s0, s1⟩; go_simp; with_reducible rfl
             rotate_left
             ·
              simp only [Act.put, zS, zI]; rfl
             (refine pure_ (i := 13) (N := some 31) (v := ?_) (a' := ?_) #[true, true, false, false, false, true, true, false, false, false, false, true, true, true, false, false, false, false, true, false, false, false, false] rfl rfl (any_of HT_.out (by kernel_rfl)) (fun _ _ _ h => h) (Or.inl ⟨by rfl, ?_⟩) ?_ ?_); rotate_left
             ·
              intro w'; go_simp; with_reducible rfl
             rotate_left
             ·
              simp only [Act.put, zS, zI]; rfl
             (refine take_ (i := 19) (N := some 37) (v := ?_) (a' := ?_) #[true, true, false, false, false, true, true, false, false, false, false, true, true, true, false, false, false, false, true, true, false, false, false] rfl rfl (take_ofW HT_.out HW_.out (by kernel_rfl)) (fun _ _ _ h => h) (Or.inl ⟨by rfl, ?_⟩) hHeld ?_ ?_); rotate_left
             ·
              rintro w' ⟨s0, s1⟩; go_simp; with_reducible rfl
             rotate_left
             ·
              simp only [Act.put, zS, zI]; rfl
             (refine one_ (i := 2) (N := some 20) #[true, true, true, false, false, true, true, false, false, false, false, true, true, true, false, false, false, false, true, true, false, false, false] rfl rfl (one_of HT_.out (by kernel_rfl)) (by decide) (fun K hK => ?_)); (refine goes_ Tryz.func29 (by kernel_rfl) rfl #[.int .i64 a0_0] (by rfl) rfl rfl (by (try simp only [zL]); first | done | rfl) ?_); (with_reducible refine (strconv_Itoa.calls a0_0 t144 _ ?side1 A10.out).mono ?_); (case side1 => exact ⟨TabsOk.below hT.out (by repeat (first | exact HB.out | apply zA | apply zN | apply z1 | refine below_set ?_ GE143.out))⟩); rintro e w23 ⟨rfl, hb⟩; (refine ⟨_, rfl, ?_⟩); (have n0_ := zM (blk_below (g := gb143) (o := .cells #[.int .i64 a0_0, .string a0_1] 31 (0, 0)) (by (with_reducible repeat (first | refine blk_drewN ?_ _ | refine blk_drew ?_ | refine blk_alloc ?_ _)); exact BK143.out) hb)); (have n1_ := zM (below_step (by repeat (first | exact HB.out | apply zA | apply zN | apply z1 | refine below_set ?_ GE143.out)) hb)); clear BK143; clear HB; (have BK143 := n0_); (have HB := n1_); clear n0_ n1_; (try clear hb); (try clear hb2); (try clear hk); (try clear hi); (refine hK.out _ _ ⟨(blk_cell BK143.out 0).trans rfl, (blk_cell BK143.out 1).trans rfl⟩ (fun hHeld => ?_)); clear hK K; (refine norm_ (a' := ?_) ?_ ?_); rotate_left
             ·
              (show Act.put _ (some 20) _ = _); simp only [Act.put, zS, zI]; rfl
             (refine pure_ (i := 3) (N := some 21) (v := ?_) (a' := ?_) #[true, true, true, true, false, true, true, false, false, false, false, true, true, true, false, false, false, false, true, true, false, false, false] rfl rfl (any_of HT_.out (by kernel_rfl)) (fun _ _ _ h => h) (Or.inl ⟨by rfl, ?_⟩) ?_ ?_); rotate_left
             ·
              intro w'; go_simp; with_reducible rfl
             rotate_left
             ·
              simp only [Act.put, zS, zI]; rfl
             (refine pure_ (i := 4) (N := some 22) (v := ?_) (a' := ?_) #[true, true, true, true, true, true, true, false, false, false, false, true, true, true, false, false, false, false, true, true, false, false, false] rfl rfl (any_of HT_.out (by kernel_rfl)) (fun _ _ _ h => h) (Or.inl ⟨by rfl, ?_⟩) ?_ ?_); rotate_left
             ·
              intro w'; go_simp; with_reducible rfl
             rotate_left
             ·
              simp only [Act.put, zS, zI]; rfl
             (refine one_ (i := 7) (N := some 25) #[true, true, true, true, true, true, true, true, false, false, false, true, true, true, false, false, false, false, true, true, false, false, false] rfl rfl (one_of HT_.out (by kernel_rfl)) (by decide) (fun K hK => ?_)); (refine goes_ Tryz.func31 (by kernel_rfl) rfl #[.int .i64 a0_0] (by rfl) rfl rfl (by (try simp only [zL]); first | done | rfl) ?_); (with_reducible refine (http_reason.calls a0_0 t145 _ A13.out).mono ?_); rintro e w' ⟨rfl, ⟨nd, rfl⟩⟩; (refine ⟨_, rfl, ?_⟩); (refine hK.out _ _ ⟨(blk_cell BK143.out 0).trans rfl, (blk_cell BK143.out 1).trans rfl⟩ (fun hHeld => ?_)); clear hK K; (refine norm_ (a' := ?_) ?_ ?_); rotate_left
             ·
              (show Act.put _ (some 25) _ = _); simp only [Act.put, zS, zI]; rfl
             (refine pure_ (i := 8) (N := some 26) (v := ?_) (a' := ?_) #[true, true, true, true, true, true, true, true, true, false, false, true, true, true, false, false, false, false, true, true, false, false, false] rfl rfl (any_of HT_.out (by kernel_rfl)) (fun _ _ _ h => h) (Or.inl ⟨by rfl, ?_⟩) ?_ ?_); rotate_left
             ·
              intro w'; go_simp; with_reducible rfl
             rotate_left
             ·
              simp only [Act.put, zS, zI]; rfl
             (refine pure_ (i := 9) (N := some 27) (v := ?_) (a' := ?_) #[true, true, true, true, true, true, true, true, true, true, false, true, true, true, false, false, false, false, true, true, false, false, false] rfl rfl (any_of HT_.out (by kernel_rfl)) (fun _ _ _ h => h) (Or.inl ⟨by rfl, ?_⟩) ?_ ?_); rotate_left
             ·
              intro w'; go_simp; with_reducible rfl
             rotate_left
             ·
              simp only [Act.put, zS, zI]; rfl
             (refine pure_ (i := 10) (N := some 28) (v := ?_) (a' := ?_) #[true, true, true, true, true, true, true, true, true, true, true, true, true, true, false, false, false, false, true, true, false, false, false] rfl rfl (any_of HT_.out (by kernel_rfl)) (fun _ _ _ h => h) (Or.inl ⟨by rfl, ?_⟩) ?_ ?_); rotate_left
             ·
              intro w'; go_simp; with_reducible rfl
             rotate_left
             ·
              simp only [Act.put, zS, zI]; rfl
             (refine one_ (i := 14) (N := some 32) #[true, true, true, true, true, true, true, true, true, true, true, true, true, true, true, false, false, false, true, true, false, false, false] rfl rfl (one_of HT_.out (by kernel_rfl)) (by decide) (fun K hK => ?_)); (refine goes_ Tryz.func29 (by kernel_rfl) rfl #[.int .i64 (a0_1.size : Int)] (by rfl) rfl rfl (by (try simp only [zL]); first | done | rfl) ?_); (with_reducible refine (strconv_Itoa.calls (a0_1.size : Int) t146 _ ?side1 A17.out).mono ?_); (case side1 => exact ⟨TabsOk.below hT.out (by repeat (first | exact HB.out | apply zA | apply zN | apply z1 | refine below_set ?_ GE143.out))⟩); rintro e w24 ⟨rfl, hb⟩; (refine ⟨_, rfl, ?_⟩); (have n0_ := zM (blk_below (g := gb143) (o := .cells #[.int .i64 a0_0, .string a0_1] 31 (0, 0)) (by (with_reducible repeat (first | refine blk_drewN ?_ _ | refine blk_drew ?_ | refine blk_alloc ?_ _)); exact BK143.out) hb)); (have n1_ := zM (below_step (by repeat (first | exact HB.out | apply zA | apply zN | apply z1 | refine below_set ?_ GE143.out)) hb)); clear BK143; clear HB; (have BK143 := n0_); (have HB := n1_); clear n0_ n1_; (try clear hb); (try clear hb2); (try clear hk); (try clear hi); (refine hK.out _ _ ⟨(blk_cell BK143.out 0).trans rfl, (blk_cell BK143.out 1).trans rfl⟩ (fun hHeld => ?_)); clear hK K; (refine norm_ (a' := ?_) ?_ ?_); rotate_left
             ·
              (show Act.put _ (some 32) _ = _); simp only [Act.put, zS, zI]; rfl
             (refine pure_ (i := 15) (N := some 33) (v := ?_) (a' := ?_) #[true, true, true, true, true, true, true, true, true, true, true, true, true, true, true, true, false, false, true, true, false, false, false] rfl rfl (any_of HT_.out (by kernel_rfl)) (fun _ _ _ h => h) (Or.inl ⟨by rfl, ?_⟩) ?_ ?_); rotate_left
             ·
              intro w'; go_simp; with_reducible rfl
             rotate_left
             ·
              simp only [Act.put, zS, zI]; rfl
             (refine pure_ (i := 16) (N := some 34) (v := ?_) (a' := ?_) #[true, true, true, true, true, true, true, true, true, true, true, true, true, true, true, true, true, false, true, true, false, false, false] rfl rfl (any_of HT_.out (by kernel_rfl)) (fun _ _ _ h => h) (Or.inl ⟨by rfl, ?_⟩) ?_ ?_); rotate_left
             ·
              intro w'; go_simp; with_reducible rfl
             rotate_left
             ·
              simp only [Act.put, zS, zI]; rfl
             (refine pure_ (i := 17) (N := some 35) (v := ?_) (a' := ?_) #[true, true, true, true, true, true, true, true, true, true, true, true, true, true, true, true, true, true, true, true, false, false, false] rfl rfl (any_of HT_.out (by kernel_rfl)) (fun _ _ _ h => h) (Or.inl ⟨by rfl, ?_⟩) ?_ ?_); rotate_left
             ·
              intro w'; go_simp; with_reducible rfl
             rotate_left
             ·
              simp only [Act.put, zS, zI]; rfl
             (refine pure_ (i := 20) (N := some 38) (v := ?_) (a' := ?_) #[true, true, true, true, true, true, true, true, true, true, true, true, true, true, true, true, true, true, true, true, true, false, false] rfl rfl (any_of HT_.out (by kernel_rfl)) (fun _ _ _ h => h) (Or.inl ⟨by rfl, ?_⟩) ?_ ?_); rotate_left
             ·
              intro w'; go_simp; with_reducible rfl
             rotate_left
             ·
              simp only [Act.put, zS, zI]; rfl
             (refine pure_ (i := 21) (N := some 2) (v := ?_) (a' := ?_) #[true, true, true, true, true, true, true, true, true, true, true, true, true, true, true, true, true, true, true, true, true, true, false] rfl rfl (any_of HT_.out (by kernel_rfl)) (fun _ _ _ h => h) (Or.inl ⟨by rfl, ?_⟩) ?_ ?_); rotate_left
             ·
              intro w'; go_simp; with_reducible rfl
             rotate_left
             ·
              simp only [Act.put, zS, zI]; rfl
             (refine pure_ (i := 22) (N := some 3) (v := ?_) (a' := ?_) #[true, true, true, true, true, true, true, true, true, true, true, true, true, true, true, true, true, true, true, true, true, true, true] rfl rfl (any_of HT_.out (by kernel_rfl)) (fun _ _ _ h => h) (Or.inl ⟨by rfl, ?_⟩) ?_ ?_); rotate_left
             ·
              intro w'; go_simp; with_reducible rfl
             rotate_left
             ·
              simp only [Act.put, zS, zI]; rfl
             (refine done_ (done_of HT_.out (by kernel_rfl)) ?_); (try go_wp2); (go_ret2); exact ⟨by first | rfl | (simp [errW_none, errW_some] <;> rfl) | (simp [*, errW_none, errW_some] <;> rfl), by repeat (first | exact HB.out | apply zA | apply zN | apply z1 | refine below_set ?_ GE143.out)⟩
            ·
             rw [if_neg c21] at H; exact absurd H (by simp)
           ·
            rw [if_neg c20] at H; exact absurd H (by simp)
          ·
           rw [if_neg c19] at H; exact absurd H (by simp)
         ·
          rw [if_neg c18] at H; exact absurd H (by simp)
        ·
         rw [if_neg c16] at H; exact absurd H (by simp)
       ·
        rw [if_neg c15] at H; exact absurd H (by simp)
      ·
       rw [if_neg c14] at H; exact absurd H (by simp)
     ·
      rw [if_neg c12] at H; exact absurd H (by simp)
    ·
     rw [if_neg c11] at H; exact absurd H (by simp)

/-! ### pennantref22_Split: function 42 -/
def pennantref22_Split.l0 : Nat → ByteArray → ByteArray → List ByteArray → Int → Int → Option (List ByteArray)
 | 0, _, _, _, _, _ => none
 | k + 1, x0, x1, x5, x6, x7 => if (wrap64 (x7 + (x1.size : Int))) ≤ (x0.size : Int) then (if 0 ≤ x7 then (if x7 ≤ (wrap64 (x7 + (x1.size : Int))) then (if (x0.extract (x7 : Int).toNat ((wrap64 (x7 + (x1.size : Int))) : Int).toNat).toList = x1.toList then (if 0 ≤ x6 then (if x6 ≤ x7 then (if x7 ≤ (x0.size : Int) then (if x5.length < 8796093022208 then (pennantref22_Split.l0 k x0 x1 (x5 ++ [x0.extract (x6 : Int).toNat (x7 : Int).toNat]) (wrap64 (x7 + (x1.size : Int))) (wrap64 (x7 + (x1.size : Int)))) else (none)) else (none)) else (none)) else (none)) else (pennantref22_Split.l0 k x0 x1 x5 x6 (wrap64 (x7 + 1)))) else (none)) else (none)) else (if 0 ≤ x6 then (if x6 ≤ (x0.size : Int) then (if x5.length < 8796093022208 then (some (x5 ++ [x0.extract (x6 : Int).toNat x0.size])) else (none)) else (none)) else (none))
def pennantref22_Split.f (k : Nat) (a0 : ByteArray) (a1 : ByteArray) : Option (List ByteArray) := pennantref22_Split.l0 k a0 a1 ([] : List ByteArray) 0 0
theorem pennantref22_Split.mono_l : ∀ k, (∀ y0 y1 y2 y3 y4, LeO (pennantref22_Split.l0 k y0 y1 y2 y3 y4) (pennantref22_Split.l0 (k + 1) y0 y1 y2 y3 y4))
 | 0 => fun _ _ _ _ _ r h => by simp [pennantref22_Split.l0] at h
 | k + 1 => by
  have ih0 := pennantref22_Split.mono_l k
  ·
   intro y0 y1 y2 y3 y4
   unfold pennantref22_Split.l0
   repeat' first
   | (with_reducible exact ih0 _ _ _ _ _)
   | (with_reducible exact LeO.refl _)
   | (with_reducible exact LeO.none _)
   | (with_reducible refine LeO.ite ?_ ?_)
   | (with_reducible refine LeO.bind ?_ (fun _ => ?_))
   | exact ih0 _ _ _ _ _
   | exact LeO.none _
   | refine LeO.ite ?_ ?_
   | refine LeO.bind ?_ (fun _ => ?_)
theorem pennantref22_Split.mono : ∀ a0 a1 k, LeO (pennantref22_Split.f k a0 a1) (pennantref22_Split.f (k + 1) a0 a1) := by
 intro a0 a1 k
 have ih0 := pennantref22_Split.mono_l k
 unfold pennantref22_Split.f
 repeat' first
   | (with_reducible exact ih0 _ _ _ _ _)
   | (with_reducible exact LeO.refl _)
   | (with_reducible exact LeO.none _)
   | (with_reducible refine LeO.ite ?_ ?_)
   | (with_reducible refine LeO.bind ?_ (fun _ => ?_))
   | exact ih0 _ _ _ _ _
   | exact LeO.none _
   | refine LeO.ite ?_ ?_
   | refine LeO.bind ?_ (fun _ => ?_)
set_option maxHeartbeats 8000000 in
set_option maxRecDepth 100000 in
theorem pennantref22_Split.calls (k : Nat) (a0 : ByteArray) (a1 : ByteArray) (r : List ByteArray) (w : World) (h : pennantref22_Split.f k a0 a1 = some r) :
  Calls Tryz.prog 42 #[.string a0, .string a1] w fun e w' => ∃ v0_ : Value, e = .returned (v0_) ∧ Kd.R Kd.string 9 w' w.heap.size (fun _ => True) v0_ r ∧ Below w.heap.size w w' := by
 have HB := zM (Below.refl w.heap.size w)
 have H : (pennantref22_Split.l0 k a0 a1 ([] : List ByteArray) 0 0) = some r := h
 clear h
 have H' := zM H
 clear H
 go_enter Tryz.func42, Tryz.ntmps42
 go_wp2
 go_loopg [5, 6, 7] k (fun kq v5 v6 v7 w' => ∃ (x5_1 : List ByteArray) (x6_1 : Int) (x7_1 : Int), v6 = .int .i64 x6_1 ∧ v7 = .int .i64 x7_1 ∧ Aside0 (pennantref22_Split.l0 kq a0 a1 x5_1 x6_1 x7_1 = some r) ∧ Aside0 (kq ≤ k) ∧ Aside0 (Kd.R Kd.string 9 w' w.heap.size (fun _ => True) v5 x5_1) ∧ Aside0 (Below w.heap.size w w'))
 case atStart => exact ⟨(([] : List ByteArray)), (0), (0), (by first | rfl | (simp; done) | (simp [*]; done)), (by first | rfl | (simp; done) | (simp [*]; done)), H', ⟨Nat.le_refl _⟩, ⟨by first | exact Kd.R_nil _ _ _ _ _ | exact Kd.N_nil _ _ _ _ _ | exact Kd.V_nil _ _ _ _ _ | exact Kd.Q_nil _ _ _ _ _ | exact Kd.S_nil _ _ _ _ _⟩, ⟨by repeat (first | exact HB.out | apply zA | apply zN | apply z1)⟩⟩
 case round =>
  clear H'
  try clear p2
  obtain ⟨x5_1, x6_1, x7_1, rfl, rfl, HA, HK1, HO_5, HB⟩ := hrel
  cases gk with
  | zero => exact absurd HA.out (by simp [pennantref22_Split.l0])
  | succ k1 =>
   have H := HA.out
   clear HA
   simp only [pennantref22_Split.l0] at H
   by_cases c3 : (wrap64 (x7_1 + (a1.size : Int))) ≤ (a0.size : Int)
   ·
    rw [if_pos c3] at H; (have c3b0 : decide ((wrap64 (x7_1 + (a1.size : Int))) ≤ (a0.size : Int)) = true := decide_eq_true c3); clear c3; by_cases c4 : 0 ≤ x7_1
    ·
     rw [if_pos c4] at H; (have c4b0 := eq_true c4); (have c4b1 : decide (0 ≤ x7_1) = true := decide_eq_true c4); clear c4; by_cases c5 : x7_1 ≤ (wrap64 (x7_1 + (a1.size : Int)))
     ·
      rw [if_pos c5] at H; (have c5b0 := eq_true c5); (have c5b1 : decide (x7_1 ≤ (wrap64 (x7_1 + (a1.size : Int)))) = true := decide_eq_true c5); (have c6b0 := eq_true (of_decide_eq_true (by assumption) : (wrap64 (x7_1 + (a1.size : Int))) ≤ (a0.size : Int))); by_cases c7 : (a0.extract (x7_1 : Int).toNat ((wrap64 (x7_1 + (a1.size : Int))) : Int).toNat).toList = a1.toList
      ·
       rw [if_pos c7] at H; (have c7b0 : ((a0.extract (x7_1 : Int).toNat ((wrap64 (x7_1 + (a1.size : Int))) : Int).toNat).toList == a1.toList) = true := beq_iff_eq.mpr c7); (have c7b1 : ((a0.extract (x7_1 : Int).toNat ((wrap64 (x7_1 + (a1.size : Int))) : Int).toNat).toList != a1.toList) = false := bne_eq_false_iff_eq.mpr c7); clear c7; by_cases c8 : 0 ≤ x6_1
       ·
        rw [if_pos c8] at H; (have c8b0 := eq_true c8); (have c8b1 : decide (0 ≤ x6_1) = true := decide_eq_true c8); clear c8; by_cases c9 : x6_1 ≤ x7_1
        ·
         rw [if_pos c9] at H; (have c9b0 := eq_true c9); (have c9b1 : decide (x6_1 ≤ x7_1) = true := decide_eq_true c9); clear c9; by_cases c10 : x7_1 ≤ (a0.size : Int)
         ·
          rw [if_pos c10] at H; (have c10b0 := eq_true c10); (have c10b1 : decide (x7_1 ≤ (a0.size : Int)) = true := decide_eq_true c10); clear c10; by_cases c11 : x5_1.length < 8796093022208
          ·
           rw [if_pos c11] at H; (have LMc11 := zM c11); clear c11; (obtain ⟨y147, hy147⟩ : ∃ y_ : List ByteArray, y_ = (x5_1 ++ [a0.extract (x6_1 : Int).toNat (x7_1 : Int).toNat]) := ⟨_, rfl⟩); (replace H : (pennantref22_Split.l0 k1 a0 a1 y147 (wrap64 (x7_1 + (a1.size : Int))) (wrap64 (x7_1 + (a1.size : Int)))) = some r := by first | (rw [hy147]; with_reducible exact H) | (have H2_ := (Option.bind_some _ _).symm.trans H; rw [hy147]; with_reducible exact H2_) | (have H2_ := (Option.bind_some _ _).symm.trans H; with_reducible exact H2_) | with_reducible exact H | (rw [hy147]; exact H) | exact H); (have Ny147 := zM hy147); clear hy147; (have H' := zM H); clear H; (go_wp2_with (first | ((with_reducible refine gate_builtin (b := .append) (xs := #[.tmp 24, .tmp 29]) rfl ?_); at_builtin; refine Kd.R_append Kd.string (w0 := w) w.heap.size rfl (.tmp 24) (.tmp 29) 73 9 (.string ⟨#[]⟩) 16 rfl Tryz.underlying73 info9 rfl (by decide) (by omega) u5 x5_1 (a0.extract (x6_1 : Int).toNat (x7_1 : Int).toNat) [.string (a0.extract (x6_1 : Int).toNat (x7_1 : Int).toNat)] (fun _ => True) (fun _ => False) rfl rfl ?aP (fun _ hk => hk.elim) ?aF ?aO ?aB ?aS ?aL ?_; (case aP => exact rfl); (case aB => exact (by repeat (first | exact HB.out | apply zA | apply zN | apply z1))); (case aF => exact (fun _ _ => trivial)); (case aO => exact (by (with_reducible repeat (first | apply Kd.R_alloc | apply Kd.R_drewN | apply Kd.R_drew)); exact HO_5.out)); (case aS => exact (below_size (by repeat (first | exact HB.out | apply zA | apply zN | apply z1)))); (case aL => have := LMc11.out; omega); intro v148 w12 ho hb hg hat; rw [← Ny147.out] at ho; have n0_ := zM (hb); have n1_ := zM (ho); clear HB; clear HO_5; have HB := n0_; have HO149 := n1_; clear n0_ n1_; clear ho hb hg hat))); go_roundg k1
           case measure => have := HK1.out; omega
           case rel => exact ⟨(y147), (wrap64 (x7_1 + (a1.size : Int))), (wrap64 (x7_1 + (a1.size : Int))), (by first | rfl | (simp; done) | (simp [*]; done)), (by first | rfl | (simp; done) | (simp [*]; done)), H', ⟨by have := HK1.out; omega⟩, ⟨by (with_reducible repeat (first | apply Kd.R_alloc | apply Kd.R_drewN | apply Kd.R_drew)); exact HO149.out⟩, ⟨by repeat (first | exact HB.out | apply zA | apply zN | apply z1)⟩⟩
          ·
           rw [if_neg c11] at H; exact absurd H (by simp)
         ·
          rw [if_neg c10] at H; exact absurd H (by simp)
        ·
         rw [if_neg c9] at H; exact absurd H (by simp)
       ·
        rw [if_neg c8] at H; exact absurd H (by simp)
      ·
       rw [if_neg c7] at H; (have c7b0 : ((a0.extract (x7_1 : Int).toNat ((wrap64 (x7_1 + (a1.size : Int))) : Int).toNat).toList == a1.toList) = false := beq_eq_false_iff_ne.mpr c7); (have c7b1 : ((a0.extract (x7_1 : Int).toNat ((wrap64 (x7_1 + (a1.size : Int))) : Int).toNat).toList != a1.toList) = true := bne_iff_ne.mpr c7); (have H' := zM H); clear H; (go_wp2); go_roundg k1
       case measure => have := HK1.out; omega
       case rel => exact ⟨(x5_1), (x6_1), (wrap64 (x7_1 + 1)), (by first | rfl | (simp; done) | (simp [*]; done)), (by first | rfl | (simp; done) | (simp [*]; done)), H', ⟨by have := HK1.out; omega⟩, ⟨by (with_reducible repeat (first | apply Kd.R_alloc | apply Kd.R_drewN | apply Kd.R_drew)); exact HO_5.out⟩, ⟨by repeat (first | exact HB.out | apply zA | apply zN | apply z1)⟩⟩
     ·
      rw [if_neg c5] at H; exact absurd H (by simp)
    ·
     rw [if_neg c4] at H; exact absurd H (by simp)
   ·
    rw [if_neg c3] at H; (have c3b0 : decide ((wrap64 (x7_1 + (a1.size : Int))) ≤ (a0.size : Int)) = false := decide_eq_false c3); clear c3; by_cases c13 : 0 ≤ x6_1
    ·
     rw [if_pos c13] at H; (have c13b0 := eq_true c13); (have c13b1 : decide (0 ≤ x6_1) = true := decide_eq_true c13); clear c13; by_cases c14 : x6_1 ≤ (a0.size : Int)
     ·
      rw [if_pos c14] at H; (have c14b0 := eq_true c14); (have c14b1 : decide (x6_1 ≤ (a0.size : Int)) = true := decide_eq_true c14); clear c14; by_cases c15 : x5_1.length < 8796093022208
      ·
       rw [if_pos c15] at H; (have LMc15 := zM c15); clear c15; (obtain ⟨y150, hy150⟩ : ∃ y_ : List ByteArray, y_ = (x5_1 ++ [a0.extract (x6_1 : Int).toNat a0.size]) := ⟨_, rfl⟩); (replace H : (some y150) = some r := by first | (rw [hy150]; with_reducible exact H) | (have H2_ := (Option.bind_some _ _).symm.trans H; rw [hy150]; with_reducible exact H2_) | (have H2_ := (Option.bind_some _ _).symm.trans H; with_reducible exact H2_) | with_reducible exact H | (rw [hy150]; exact H) | exact H); (have Ny150 := zM hy150); clear hy150; (obtain rfl := Option.some.inj H); (go_wp2_with (first | ((with_reducible refine gate_builtin (b := .append) (xs := #[.tmp 38, .tmp 42]) rfl ?_); at_builtin; refine Kd.R_append Kd.string (w0 := w) w.heap.size rfl (.tmp 38) (.tmp 42) 73 9 (.string ⟨#[]⟩) 16 rfl Tryz.underlying73 info9 rfl (by decide) (by omega) u5 x5_1 (a0.extract (x6_1 : Int).toNat a0.size) [.string (a0.extract (x6_1 : Int).toNat a0.size)] (fun _ => True) (fun _ => False) rfl rfl ?aP (fun _ hk => hk.elim) ?aF ?aO ?aB ?aS ?aL ?_; (case aP => exact rfl); (case aB => exact (by repeat (first | exact HB.out | apply zA | apply zN | apply z1))); (case aF => exact (fun _ _ => trivial)); (case aO => exact (by (with_reducible repeat (first | apply Kd.R_alloc | apply Kd.R_drewN | apply Kd.R_drew)); exact HO_5.out)); (case aS => exact (below_size (by repeat (first | exact HB.out | apply zA | apply zN | apply z1)))); (case aL => have := LMc15.out; omega); intro v151 w16 ho hb hg hat; rw [← Ny150.out] at ho; have n0_ := zM (hb); have n1_ := zM (ho); clear HB; clear HO_5; have HB := n0_; have HO152 := n1_; clear n0_ n1_; clear ho hb hg hat))); (go_ret); exact ⟨_, by first | rfl | (simp [errW_none, errW_some] <;> rfl) | (simp [*, errW_none, errW_some] <;> rfl), by (with_reducible repeat (first | apply Kd.R_alloc | apply Kd.R_drewN | apply Kd.R_drew)); exact HO152.out, by repeat (first | exact HB.out | apply zA | apply zN | apply z1)⟩
      ·
       rw [if_neg c15] at H; exact absurd H (by simp)
     ·
      rw [if_neg c14] at H; exact absurd H (by simp)
    ·
     rw [if_neg c13] at H; exact absurd H (by simp)

end Go.Proofs.YtpikebpjlhccbaaGreatDoor.PAll
