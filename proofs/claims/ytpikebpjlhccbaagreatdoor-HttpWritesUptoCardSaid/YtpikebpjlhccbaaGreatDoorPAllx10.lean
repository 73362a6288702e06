-- Laid by a program of this session (wip/pp in the repo) out of the translation. Lean checks it.
import Derived.Test.YtpikebpjlhccbaaGreatDoorShort
import Derived.Test.YtpikebpjlhccbaaGreatDoorPAllx0
namespace Go.Proofs.YtpikebpjlhccbaaGreatDoor.PAll
open Go.RowKit Go.Proofs.YtpikebpjlhccbaaGreatDoorW.PrintWords Go.Proofs.YtpikebpjlhccbaaGreatDoorW.PrintLast Go.Proofs.YtpikebpjlhccbaaGreatDoorW.PrintMore
attribute [local go_sem] max2_int min2_int max_two min_two max_three min_three max_four min_four   -- for this text's walks alone
set_option linter.unusedVariables false
set_option linter.unusedSimpArgs false

/-! ### pennantref22_Message_Count: function 25 -/
def pennantref22_Message_Count.l0 : Nat → ByteArray → Int → ByteArray → Int → ByteArray → List (S79) → ByteArray → Int → Option (Int × ByteArray)
 | 0, _, _, _, _, _, _, _, _ => none
 | k + 1, x1, x6, x7, x8, x164000, x164001, x164002, x164003 => if x8 < (x164001.length : Int) then (if 0 ≤ x8 then (if ((rd_T79 x164001 x8).f0).toList = x1.toList then (if x6 = 0 then (pennantref22_Message_Count.l0 k x1 (wrap64 (x6 + 1)) ((rd_T79 x164001 x8).f1) (wrap64 (x8 + 1)) x164000 x164001 x164002 x164003) else (pennantref22_Message_Count.l0 k x1 (wrap64 (x6 + 1)) x7 (wrap64 (x8 + 1)) x164000 x164001 x164002 x164003)) else (pennantref22_Message_Count.l0 k x1 x6 x7 (wrap64 (x8 + 1)) x164000 x164001 x164002 x164003)) else (none)) else (some (x6, x7))
def pennantref22_Message_Count.f (k : Nat) (a0_0 : ByteArray) (l0_1 : List (S79)) (a0_2 : ByteArray) (a0_3 : Int) (a1 : ByteArray) : Option (Int × ByteArray) := pennantref22_Message_Count.l0 k a1 0 (⟨#[]⟩ : ByteArray) 0 a0_0 l0_1 a0_2 a0_3
theorem pennantref22_Message_Count.mono_l : ∀ k, (∀ y0 y1 y2 y3 y4 y5 y6 y7, LeO (pennantref22_Message_Count.l0 k y0 y1 y2 y3 y4 y5 y6 y7) (pennantref22_Message_Count.l0 (k + 1) y0 y1 y2 y3 y4 y5 y6 y7))
 | 0 => fun _ _ _ _ _ _ _ _ r h => by simp [pennantref22_Message_Count.l0] at h
 | k + 1 => by
  have ih0 := pennantref22_Message_Count.mono_l k
  ·
   intro y0 y1 y2 y3 y4 y5 y6 y7
   unfold pennantref22_Message_Count.l0
   repeat' first
   | (with_reducible exact ih0 _ _ _ _ _ _ _ _)
   | (with_reducible exact LeO.refl _)
   | (with_reducible exact LeO.none _)
   | (with_reducible refine LeO.ite ?_ ?_)
   | (with_reducible refine LeO.bind ?_ (fun _ => ?_))
   | exact ih0 _ _ _ _ _ _ _ _
   | exact LeO.none _
   | refine LeO.ite ?_ ?_
   | refine LeO.bind ?_ (fun _ => ?_)
theorem pennantref22_Message_Count.mono : ∀ a0 a1 a2 a3 a4 k, LeO (pennantref22_Message_Count.f k a0 a1 a2 a3 a4) (pennantref22_Message_Count.f (k + 1) a0 a1 a2 a3 a4) := by
 intro a0 a1 a2 a3 a4 k
 have ih0 := pennantref22_Message_Count.mono_l k
 unfold pennantref22_Message_Count.f
 repeat' first
   | (with_reducible exact ih0 _ _ _ _ _ _ _ _)
   | (with_reducible exact LeO.refl _)
   | (with_reducible exact LeO.none _)
   | (with_reducible refine LeO.ite ?_ ?_)
   | (with_reducible refine LeO.bind ?_ (fun _ => ?_))
   | exact ih0 _ _ _ _ _ _ _ _
   | exact LeO.none _
   | refine LeO.ite ?_ ?_
   | refine LeO.bind ?_ (fun _ => ?_)
set_option maxHeartbeats 8000000 in
set_option maxRecDepth 100000 in
theorem pennantref22_Message_Count.calls (k : Nat) (a0_0 : ByteArray) (A0_1 : Option Addr) (c0_1 : Nat) (l0_1 : List (S79)) (a0_2 : ByteArray) (a0_3 : Int) (a1 : ByteArray) (r1 : Int) (r2 : ByteArray) (w : World) (hr0_1 : Kd.C k79 w A0_1 l0_1.length l0_1) (hc0_1 : l0_1.length ≤ c0_1) (h : pennantref22_Message_Count.f k a0_0 l0_1 a0_2 a0_3 a1 = some (r1, r2)) :
  Calls Tryz.prog 25 #[.agg #[.string a0_0, .slice A0_1 l0_1.length c0_1, .string a0_2, .int .i64 a0_3], .string a1] w fun e w' => e = .returned (.tuple #[.int .i64 r1, .string r2]) ∧ Below w.heap.size w w' := by
 have hu65 := Tryz.underlying65
 have HR0_1 := zM hr0_1
 have HC0_1 := zM hc0_1
 clear hr0_1 hc0_1
 have HB := zM (Below.refl w.heap.size w)
 have H : (pennantref22_Message_Count.l0 k a1 0 (⟨#[]⟩ : ByteArray) 0 a0_0 l0_1 a0_2 a0_3) = some (r1, r2) := h
 clear h
 have H' := zM H
 clear H
 go_enter Tryz.func25, Tryz.ntmps25
 go_wp2_with (first | ((with_reducible refine gate_dst (N := 2) rfl ?_); refine box_event ?hg (N := 2) ?hd (cs := #[.string a0_0, .slice A0_1 l0_1.length c0_1, .string a0_2, .int .i64 a0_3]) (t := 65) ?hr ?_; (case hd => rfl); (case hg => rfl); (case hr => first | (go_simp; done) | (go_simp; rfl)); intro gb163 hg w3 hbox hb; have n0_ := zM (below_step (by repeat (first | exact HB.out | apply zA | apply zN | apply z1)) hb); have n1_ := zM (hbox); have n2_ := zM ((by rw [hg]; exact (below_size (by repeat (first | exact HB.out | apply zA | apply zN | apply z1))) : w.heap.size ≤ gb163)); have n3_ := zM ((by rw [hg]; exact (below_size (by repeat (first | exact HB.out | apply zA | apply zN | apply z1))) : w.heap.size ≤ gb163)); clear HB; have HB := n0_; have BK163 := n1_; have GW163 := n2_; have GE163 := n3_; clear n0_ n1_ n2_ n3_; clear hb hbox hg))
 go_loopg [6, 7, 8] k (fun kq v6 v7 v8 w' => ∃ (x6_1 : Int) (x7_1 : ByteArray) (x8_1 : Int), v6 = .int .i64 x6_1 ∧ v7 = .string x7_1 ∧ v8 = .int .i64 x8_1 ∧ Aside0 (pennantref22_Message_Count.l0 kq a1 x6_1 x7_1 x8_1 a0_0 l0_1 a0_2 a0_3 = some (r1, r2)) ∧ Aside0 (kq ≤ k) ∧ Aside0 (w'.heap[gb163]? = some (.cells #[.string a0_0, (.slice A0_1 l0_1.length c0_1), .string a0_2, .int .i64 a0_3] 65 (0, 0))) ∧ Aside0 (Below w.heap.size w w'))
 case atStart => exact ⟨(0), ((⟨#[]⟩ : ByteArray)), (0), (by first | rfl | (simp; done) | (simp [*]; done)), (by first | rfl | (simp; done) | (simp [*]; done)), (by first | rfl | (simp; done) | (simp [*]; done)), H', ⟨Nat.le_refl _⟩, ⟨by (with_reducible repeat (first | refine blk_drewN ?_ _ | refine blk_drew ?_ | refine blk_alloc ?_ _)); exact BK163.out⟩, ⟨by repeat (first | exact HB.out | apply zA | apply zN | apply z1 | refine below_set ?_ GE163.out)⟩⟩
 case round =>
  clear H'
  try clear c2
  try clear p2
  obtain ⟨x6_1, x7_1, x8_1, rfl, rfl, rfl, HA, HK1, BK163, HB⟩ := hrel
  cases gk with
  | zero => exact absurd HA.out (by simp [pennantref22_Message_Count.l0])
  | succ k1 =>
   have H := HA.out
   clear HA
   simp only [pennantref22_Message_Count.l0] at H
   by_cases c4 : x8_1 < (l0_1.length : Int)
   ·
    rw [if_pos c4] at H; (have c4b0 : decide (x8_1 < (l0_1.length : Int)) = true := decide_eq_true c4); clear c4; by_cases c5 : 0 ≤ x8_1
    ·
     rw [if_pos c5] at H; (have c5b0 : decide (0 ≤ x8_1) = true := decide_eq_true c5); clear c5; by_cases c6 : ((rd_T79 l0_1 x8_1).f0).toList = a1.toList
     ·
      rw [if_pos c6] at H; (have c6b0 : (((rd_T79 l0_1 x8_1).f0).toList == a1.toList) = true := beq_iff_eq.mpr c6); (have c6b1 : (((rd_T79 l0_1 x8_1).f0).toList != a1.toList) = false := bne_eq_false_iff_eq.mpr c6); clear c6; by_cases c7 : x6_1 = 0
      ·
       rw [if_pos c7] at H; (have c7b0 : (x6_1 == 0) = true := beq_iff_eq.mpr c7); (have c7b1 : (x6_1 != 0) = false := bne_eq_false_iff_eq.mpr c7); clear c7; (have H' := zM H); clear H; (have hcz8_0 : wr.cell? ⟨gb163, 0, none⟩ = some (.string a0_0) := (blk_cell BK163.out 0).trans rfl); (have hcz8_1 : wr.cell? ⟨gb163, 1, none⟩ = some (.slice A0_1 l0_1.length c0_1) := (blk_cell BK163.out 1).trans rfl); (have hcz8_2 : wr.cell? ⟨gb163, 2, none⟩ = some (.string a0_2) := (blk_cell BK163.out 2).trans rfl); (have hcz8_3 : wr.cell? ⟨gb163, 3, none⟩ = some (.int .i64 a0_3) := (blk_cell BK163.out 3).trans rfl); (have hfz8_0 := blk_frozen BK163.out 0); (have hfz8_1 := blk_frozen BK163.out 1); (have hfz8_2 := blk_frozen BK163.out 2); (have hfz8_3 := blk_frozen BK163.out 3); (have p164 : 0 ≤ (x8_1 : Int) := of_decide_eq_true (by assumption)); (have q164 : x8_1 < (l0_1.length : Int) := of_decide_eq_true (by assumption)); obtain ⟨ad164, e164, hx164_0, hx164_1⟩ := at_T79 HR0_1.out x8_1 p164 q164
       cases e164
       (replace hx164_0 := (HB.out.cell (World.block_lt_of_cell? w _ hx164_0)).trans hx164_0); (replace hx164_1 := (HB.out.cell (World.block_lt_of_cell? w _ hx164_1)).trans hx164_1); (replace p164 := eq_true p164); (replace q164 := eq_true q164); (have p165 : 0 ≤ (x8_1 : Int) := of_decide_eq_true (by assumption)); (have q165 : x8_1 < (l0_1.length : Int) := of_decide_eq_true (by assumption)); (obtain ⟨ad165, e165, hx165_0, hx165_1⟩ := at_T79 HR0_1.out x8_1 p165 q165); (obtain rfl : ad164 = ad165 := (by injection e165)); (replace hx165_0 := (HB.out.cell (World.block_lt_of_cell? w _ hx165_0)).trans hx165_0); (replace hx165_1 := (HB.out.cell (World.block_lt_of_cell? w _ hx165_1)).trans hx165_1); (replace p165 := eq_true p165); (replace q165 := eq_true q165); (go_wp2); go_roundg k1
       case measure => have := HK1.out; omega
       case rel => exact ⟨(wrap64 (x6_1 + 1)), ((rd_T79 l0_1 x8_1).f1), (wrap64 (x8_1 + 1)), (by first | rfl | (simp; done) | (simp [*]; done)), (by first | rfl | (simp; done) | (simp [*]; done)), (by first | rfl | (simp; done) | (simp [*]; done)), H', ⟨by have := HK1.out; omega⟩, ⟨by (with_reducible repeat (first | refine blk_drewN ?_ _ | refine blk_drew ?_ | refine blk_alloc ?_ _)); exact BK163.out⟩, ⟨by repeat (first | exact HB.out | apply zA | apply zN | apply z1 | refine below_set ?_ GE163.out)⟩⟩
      ·
       rw [if_neg c7] at H; (have c7b0 : (x6_1 == 0) = false := beq_eq_false_iff_ne.mpr c7); (have c7b1 : (x6_1 != 0) = true := bne_iff_ne.mpr c7); (have H' := zM H); clear H; (have hcz9_0 : wr.cell? ⟨gb163, 0, none⟩ = some (.string a0_0) := (blk_cell BK163.out 0).trans rfl); (have hcz9_1 : wr.cell? ⟨gb163, 1, none⟩ = some (.slice A0_1 l0_1.length c0_1) := (blk_cell BK163.out 1).trans rfl); (have hcz9_2 : wr.cell? ⟨gb163, 2, none⟩ = some (.string a0_2) := (blk_cell BK163.out 2).trans rfl); (have hcz9_3 : wr.cell? ⟨gb163, 3, none⟩ = some (.int .i64 a0_3) := (blk_cell BK163.out 3).trans rfl); (have hfz9_0 := blk_frozen BK163.out 0); (have hfz9_1 := blk_frozen BK163.out 1); (have hfz9_2 := blk_frozen BK163.out 2); (have hfz9_3 := blk_frozen BK163.out 3); (have p164 : 0 ≤ (x8_1 : Int) := of_decide_eq_true (by assumption)); (have q164 : x8_1 < (l0_1.length : Int) := of_decide_eq_true (by assumption)); obtain ⟨ad164, e164, hx164_0, hx164_1⟩ := at_T79 HR0_1.out x8_1 p164 q164
       cases e164
       (replace hx164_0 := (HB.out.cell (World.block_lt_of_cell? w _ hx164_0)).trans hx164_0); (replace hx164_1 := (HB.out.cell (World.block_lt_of_cell? w _ hx164_1)).trans hx164_1); (replace p164 := eq_true p164); (replace q164 := eq_true q164); (go_wp2); go_roundg k1
       case measure => have := HK1.out; omega
       case rel => exact ⟨(wrap64 (x6_1 + 1)), (x7_1), (wrap64 (x8_1 + 1)), (by first | rfl | (simp; done) | (simp [*]; done)), (by first | rfl | (simp; done) | (simp [*]; done)), (by first | rfl | (simp; done) | (simp [*]; done)), H', ⟨by have := HK1.out; omega⟩, ⟨by (with_reducible repeat (first | refine blk_drewN ?_ _ | refine blk_drew ?_ | refine blk_alloc ?_ _)); exact BK163.out⟩, ⟨by repeat (first | exact HB.out | apply zA | apply zN | apply z1 | refine below_set ?_ GE163.out)⟩⟩
     ·
      rw [if_neg c6] at H; (have c6b0 : (((rd_T79 l0_1 x8_1).f0).toList == a1.toList) = false := beq_eq_false_iff_ne.mpr c6); (have c6b1 : (((rd_T79 l0_1 x8_1).f0).toList != a1.toList) = true := bne_iff_ne.mpr c6); (have H' := zM H); clear H; (have hcz10_0 : wr.cell? ⟨gb163, 0, none⟩ = some (.string a0_0) := (blk_cell BK163.out 0).trans rfl); (have hcz10_1 : wr.cell? ⟨gb163, 1, none⟩ = some (.slice A0_1 l0_1.length c0_1) := (blk_cell BK163.out 1).trans rfl); (have hcz10_2 : wr.cell? ⟨gb163, 2, none⟩ = some (.string a0_2) := (blk_cell BK163.out 2).trans rfl); (have hcz10_3 : wr.cell? ⟨gb163, 3, none⟩ = some (.int .i64 a0_3) := (blk_cell BK163.out 3).trans rfl); (have hfz10_0 := blk_frozen BK163.out 0); (have hfz10_1 := blk_frozen BK163.out 1); (have hfz10_2 := blk_frozen BK163.out 2); (have hfz10_3 := blk_frozen BK163.out 3); (have p164 : 0 ≤ (x8_1 : Int) := of_decide_eq_true (by assumption)); (have q164 : x8_1 < (l0_1.length : Int) := of_decide_eq_true (by assumption)); obtain ⟨ad164, e164, hx164_0, hx164_1⟩ := at_T79 HR0_1.out x8_1 p164 q164
      cases e164
      (replace hx164_0 := (HB.out.cell (World.block_lt_of_cell? w _ hx164_0)).trans hx164_0); (replace hx164_1 := (HB.out.cell (World.block_lt_of_cell? w _ hx164_1)).trans hx164_1); (replace p164 := eq_true p164); (replace q164 := eq_true q164); (go_wp2); go_roundg k1
      case measure => have := HK1.out; omega
      case rel => exact ⟨(x6_1), (x7_1), (wrap64 (x8_1 + 1)), (by first | rfl | (simp; done) | (simp [*]; done)), (by first | rfl | (simp; done) | (simp [*]; done)), (by first | rfl | (simp; done) | (simp [*]; done)), H', ⟨by have := HK1.out; omega⟩, ⟨by (with_reducible repeat (first | refine blk_drewN ?_ _ | refine blk_drew ?_ | refine blk_alloc ?_ _)); exact BK163.out⟩, ⟨by repeat (first | exact HB.out | apply zA | apply zN | apply z1 | refine below_set ?_ GE163.out)⟩⟩
    ·
     rw [if_neg c5] at H; exact absurd H (by simp)
   ·
    rw [if_neg c4] at H; (have c4b0 : decide (x8_1 < (l0_1.length : Int)) = false := decide_eq_false c4); clear c4; simp only [Option.some.injEq, Prod.mk.injEq] at H; (obtain ⟨rfl, rfl⟩ := H); (have hcz11_0 : wr.cell? ⟨gb163, 0, none⟩ = some (.string a0_0) := (blk_cell BK163.out 0).trans rfl); (have hcz11_1 : wr.cell? ⟨gb163, 1, none⟩ = some (.slice A0_1 l0_1.length c0_1) := (blk_cell BK163.out 1).trans rfl); (have hcz11_2 : wr.cell? ⟨gb163, 2, none⟩ = some (.string a0_2) := (blk_cell BK163.out 2).trans rfl); (have hcz11_3 : wr.cell? ⟨gb163, 3, none⟩ = some (.int .i64 a0_3) := (blk_cell BK163.out 3).trans rfl); (have hfz11_0 := blk_frozen BK163.out 0); (have hfz11_1 := blk_frozen BK163.out 1); (have hfz11_2 := blk_frozen BK163.out 2); (have hfz11_3 := blk_frozen BK163.out 3); (go_wp2); (go_ret2); exact ⟨by first | rfl | (simp [errW_none, errW_some] <;> rfl) | (simp [*, errW_none, errW_some] <;> rfl), by repeat (first | exact HB.out | apply zA | apply zN | apply z1 | refine below_set ?_ GE163.out)⟩

/-! ### pennantref22_Text: function 44 -/
def pennantref22_Text.l0 : Nat → ByteArray → Int → Option (Bool)
 | 0, _, _ => none
 | k + 1, x0, x3 => if x3 < (x0.size : Int) then (if 0 ≤ x3 then (if (bt x0 x3) = 9 then (pennantref22_Text.l0 k x0 (wrap64 (x3 + 1))) else (if (bt x0 x3) < 32 then (some false) else (if (bt x0 x3) = 127 then (some false) else (pennantref22_Text.l0 k x0 (wrap64 (x3 + 1)))))) else (none)) else (some true)
def pennantref22_Text.f (k : Nat) (a0 : ByteArray) : Option (Bool) := pennantref22_Text.l0 k a0 0
theorem pennantref22_Text.mono_l : ∀ k, (∀ y0 y1, LeO (pennantref22_Text.l0 k y0 y1) (pennantref22_Text.l0 (k + 1) y0 y1))
 | 0 => fun _ _ r h => by simp [pennantref22_Text.l0] at h
 | k + 1 => by
  have ih0 := pennantref22_Text.mono_l k
  ·
   intro y0 y1
   unfold pennantref22_Text.l0
   repeat' first
   | (with_reducible exact ih0 _ _)
   | (with_reducible exact LeO.refl _)
   | (with_reducible exact LeO.none _)
   | (with_reducible refine LeO.ite ?_ ?_)
   | (with_reducible refine LeO.bind ?_ (fun _ => ?_))
   | exact ih0 _ _
   | exact LeO.none _
   | refine LeO.ite ?_ ?_
   | refine LeO.bind ?_ (fun _ => ?_)
theorem pennantref22_Text.mono : ∀ a0 k, LeO (pennantref22_Text.f k a0) (pennantref22_Text.f (k + 1) a0) := by
 intro a0 k
 have ih0 := pennantref22_Text.mono_l k
 unfold pennantref22_Text.f
 repeat' first
   | (with_reducible exact ih0 _ _)
   | (with_reducible exact LeO.refl _)
   | (with_reducible exact LeO.none _)
   | (with_reducible refine LeO.ite ?_ ?_)
   | (with_reducible refine LeO.bind ?_ (fun _ => ?_))
   | exact ih0 _ _
   | exact LeO.none _
   | refine LeO.ite ?_ ?_
   | refine LeO.bind ?_ (fun _ => ?_)
set_option maxHeartbeats 8000000 in
set_option maxRecDepth 100000 in
theorem pennantref22_Text.calls (k : Nat) (a0 : ByteArray) (r : Bool) (w : World) (h : pennantref22_Text.f k a0 = some r) :
  Calls Tryz.prog 44 #[.string a0] w fun e w' => e = .returned (.bool r) ∧ Drawn0 w w' := by
 have H : (pennantref22_Text.l0 k a0 0) = some r := h
 clear h
 have H' := zM H
 clear H
 go_enter Tryz.func44, Tryz.ntmps44
 go_wp2
 go_loopg [3] k (fun kq v3 w' => ∃ (x3_1 : Int), v3 = .int .i64 x3_1 ∧ Aside0 (pennantref22_Text.l0 kq a0 x3_1 = some r) ∧ Aside0 (kq ≤ k) ∧ Drawn0 w w')
 case atStart => exact ⟨(0), (by first | rfl | (simp; done) | (simp [*]; done)), H', ⟨Nat.le_refl _⟩, by repeat (first | exact Drawn0.refl _ | apply Drawn0.step)⟩
 case round =>
  clear H'
  obtain ⟨x3_1, rfl, HA, HK1, ⟨m1, rfl⟩⟩ := hrel
  cases gk with
  | zero => exact absurd HA.out (by simp [pennantref22_Text.l0])
  | succ k1 =>
   have H := HA.out
   clear HA
   simp only [pennantref22_Text.l0] at H
   by_cases c2 : x3_1 < (a0.size : Int)
   ·
    rw [if_pos c2] at H; (have c2b0 : decide (x3_1 < (a0.size : Int)) = true := decide_eq_true c2); clear c2; by_cases c3 : 0 ≤ x3_1
    ·
     rw [if_pos c3] at H; (have c3b0 : decide (0 ≤ x3_1) = true := decide_eq_true c3); clear c3; by_cases c5 : (bt a0 x3_1) = 9
     ·
      rw [if_pos c5] at H; (have c5b0 : ((bt a0 x3_1) == 9) = true := beq_iff_eq.mpr c5); (have c5b1 : ((bt a0 x3_1) != 9) = false := bne_eq_false_iff_eq.mpr c5); clear c5; (have H' := zM H); clear H; (have p4 : 0 ≤ (x3_1 : Int) := of_decide_eq_true (by assumption)); (have q4 : x3_1 < (a0.size : Int) := of_decide_eq_true (by assumption)); (have hx4 := bt_at a0 x3_1); (replace p4 := eq_true p4); (replace q4 := eq_true q4); (go_wp2); go_roundg k1
      case measure => have := HK1.out; omega
      case rel => exact ⟨(wrap64 (x3_1 + 1)), (by first | rfl | (simp; done) | (simp [*]; done)), H', ⟨by have := HK1.out; omega⟩, by repeat (first | exact Drawn0.refl _ | apply Drawn0.step)⟩
     ·
      rw [if_neg c5] at H; (have c5b0 : ((bt a0 x3_1) == 9) = false := beq_eq_false_iff_ne.mpr c5); (have c5b1 : ((bt a0 x3_1) != 9) = true := bne_iff_ne.mpr c5); by_cases c7 : (bt a0 x3_1) < 32
      ·
       rw [if_pos c7] at H; (have c7b0 : decide ((bt a0 x3_1) < 32) = true := decide_eq_true c7); clear c7; (obtain rfl := Option.some.inj H); (have p4 : 0 ≤ (x3_1 : Int) := of_decide_eq_true (by assumption)); (have q4 : x3_1 < (a0.size : Int) := of_decide_eq_true (by assumption)); (have hx4 := bt_at a0 x3_1); (replace p4 := eq_true p4); (replace q4 := eq_true q4); (have p6 : 0 ≤ (x3_1 : Int) := of_decide_eq_true (by assumption)); (have q6 : x3_1 < (a0.size : Int) := of_decide_eq_true (by assumption)); (have hx6 := bt_at a0 x3_1); (replace p6 := eq_true p6); (replace q6 := eq_true q6); (go_wp2); (go_ret); exact ⟨by first | rfl | (simp; done) | (simp [*]; done), by repeat (first | exact Drawn0.refl _ | apply Drawn0.step)⟩
      ·
       rw [if_neg c7] at H; (have c7b0 : decide ((bt a0 x3_1) < 32) = false := decide_eq_false c7); clear c7; by_cases c9 : (bt a0 x3_1) = 127
       ·
        rw [if_pos c9] at H; (have c9b0 : ((bt a0 x3_1) == 127) = true := beq_iff_eq.mpr c9); (have c9b1 : ((bt a0 x3_1) != 127) = false := bne_eq_false_iff_eq.mpr c9); clear c9; (obtain rfl := Option.some.inj H); (have p4 : 0 ≤ (x3_1 : Int) := of_decide_eq_true (by assumption)); (have q4 : x3_1 < (a0.size : Int) := of_decide_eq_true (by assumption)); (have hx4 := bt_at a0 x3_1); (replace p4 := eq_true p4); (replace q4 := eq_true q4); (have p6 : 0 ≤ (x3_1 : Int) := of_decide_eq_true (by assumption)); (have q6 : x3_1 < (a0.size : Int) := of_decide_eq_true (by assumption)); (have hx6 := bt_at a0 x3_1); (replace p6 := eq_true p6); (replace q6 := eq_true q6); (have p8 : 0 ≤ (x3_1 : Int) := of_decide_eq_true (by assumption)); (have q8 : x3_1 < (a0.size : Int) := of_decide_eq_true (by assumption)); (have hx8 := bt_at a0 x3_1); (replace p8 := eq_true p8); (replace q8 := eq_true q8); (go_wp2); (go_ret); exact ⟨by first | rfl | (simp; done) | (simp [*]; done), by repeat (first | exact Drawn0.refl _ | apply Drawn0.step)⟩
       ·
        rw [if_neg c9] at H; (have c9b0 : ((bt a0 x3_1) == 127) = false := beq_eq_false_iff_ne.mpr c9); (have c9b1 : ((bt a0 x3_1) != 127) = true := bne_iff_ne.mpr c9); (have H' := zM H); clear H; (have p4 : 0 ≤ (x3_1 : Int) := of_decide_eq_true (by assumption)); (have q4 : x3_1 < (a0.size : Int) := of_decide_eq_true (by assumption)); (have hx4 := bt_at a0 x3_1); (replace p4 := eq_true p4); (replace q4 := eq_true q4); (have p6 : 0 ≤ (x3_1 : Int) := of_decide_eq_true (by assumption)); (have q6 : x3_1 < (a0.size : Int) := of_decide_eq_true (by assumption)); (have hx6 := bt_at a0 x3_1); (replace p6 := eq_true p6); (replace q6 := eq_true q6); (have p8 : 0 ≤ (x3_1 : Int) := of_decide_eq_true (by assumption)); (have q8 : x3_1 < (a0.size : Int) := of_decide_eq_true (by assumption)); (have hx8 := bt_at a0 x3_1); (replace p8 := eq_true p8); (replace q8 := eq_true q8); (go_wp2); go_roundg k1
        case measure => have := HK1.out; omega
        case rel => exact ⟨(wrap64 (x3_1 + 1)), (by first | rfl | (simp; done) | (simp [*]; done)), H', ⟨by have := HK1.out; omega⟩, by repeat (first | exact Drawn0.refl _ | apply Drawn0.step)⟩
    ·
     rw [if_neg c3] at H; exact absurd H (by simp)
   ·
    rw [if_neg c2] at H; (have c2b0 : decide (x3_1 < (a0.size : Int)) = false := decide_eq_false c2); clear c2; (obtain rfl := Option.some.inj H); (go_wp2); (go_ret); exact ⟨by first | rfl | (simp; done) | (simp [*]; done), by repeat (first | exact Drawn0.refl _ | apply Drawn0.step)⟩

/-! ### pennantref22_Digits: function 47 -/
mutual
def pennantref22_Digits.l0 : Nat → ByteArray → Int → Int → Option (Int)
 | 0, _, _, _ => none
 | k + 1, x0, x3, x4 => if x4 < (x0.size : Int) then (if 0 ≤ x4 then (if (bt x0 x4) < 48 then (pennantref22_Digits.j1 k x0 x3 x4 true) else (pennantref22_Digits.j1 k x0 x3 x4 (decide ((bt x0 x4) > 57)))) else (none)) else (if (x0.size : Int) = 0 then (some (-1)) else (if (x0.size : Int) > 9 then (some (-1)) else (some x3)))
def pennantref22_Digits.j1 : Nat → ByteArray → Int → Int → Bool → Option (Int)
 | 0, _, _, _, _ => none
 | k + 1, x0, x3, x4, x20 => if x20 = true then (some (-1)) else (if x4 < 10 then (if 0 ≤ x4 then (if x4 < (x0.size : Int) then (pennantref22_Digits.l0 k x0 (wrap64 ((wrap64 (x3 * 10)) + (((bt x0 x4) - 48) % 256))) (wrap64 (x4 + 1))) else (none)) else (none)) else (pennantref22_Digits.l0 k x0 x3 (wrap64 (x4 + 1))))
end
def pennantref22_Digits.f (k : Nat) (a0 : ByteArray) : Option (Int) := pennantref22_Digits.l0 k a0 0 0
theorem pennantref22_Digits.mono_l : ∀ k, (∀ y0 y1 y2, LeO (pennantref22_Digits.l0 k y0 y1 y2) (pennantref22_Digits.l0 (k + 1) y0 y1 y2)) ∧ (∀ y0 y1 y2 y3, LeO (pennantref22_Digits.j1 k y0 y1 y2 y3) (pennantref22_Digits.j1 (k + 1) y0 y1 y2 y3))
 | 0 => ⟨fun _ _ _ r h => by simp [pennantref22_Digits.l0] at h, fun _ _ _ _ r h => by simp [pennantref22_Digits.j1] at h⟩
 | k + 1 => by
  obtain ⟨ih0, ih1⟩ := pennantref22_Digits.mono_l k
  refine ⟨?_, ?_⟩
  ·
   intro y0 y1 y2
   unfold pennantref22_Digits.l0
   repeat' first
   | (with_reducible exact ih0 _ _ _)
   | (with_reducible exact ih1 _ _ _ _)
   | (with_reducible exact LeO.refl _)
   | (with_reducible exact LeO.none _)
   | (with_reducible refine LeO.ite ?_ ?_)
   | (with_reducible refine LeO.bind ?_ (fun _ => ?_))
   | exact ih0 _ _ _
   | exact ih1 _ _ _ _
   | exact LeO.none _
   | refine LeO.ite ?_ ?_
   | refine LeO.bind ?_ (fun _ => ?_)
  ·
   intro y0 y1 y2 y3
   unfold pennantref22_Digits.j1
   repeat' first
   | (with_reducible exact ih0 _ _ _)
   | (with_reducible exact ih1 _ _ _ _)
   | (with_reducible exact LeO.refl _)
   | (with_reducible exact LeO.none _)
   | (with_reducible refine LeO.ite ?_ ?_)
   | (with_reducible refine LeO.bind ?_ (fun _ => ?_))
   | exact ih0 _ _ _
   | exact ih1 _ _ _ _
   | exact LeO.none _
   | refine LeO.ite ?_ ?_
   | refine LeO.bind ?_ (fun _ => ?_)
theorem pennantref22_Digits.mono : ∀ a0 k, LeO (pennantref22_Digits.f k a0) (pennantref22_Digits.f (k + 1) a0) := by
 intro a0 k
 obtain ⟨ih0, ih1⟩ := pennantref22_Digits.mono_l k
 unfold pennantref22_Digits.f
 repeat' first
   | (with_reducible exact ih0 _ _ _)
   | (with_reducible exact ih1 _ _ _ _)
   | (with_reducible exact LeO.refl _)
   | (with_reducible exact LeO.none _)
   | (with_reducible refine LeO.ite ?_ ?_)
   | (with_reducible refine LeO.bind ?_ (fun _ => ?_))
   | exact ih0 _ _ _
   | exact ih1 _ _ _ _
   | exact LeO.none _
   | refine LeO.ite ?_ ?_
   | refine LeO.bind ?_ (fun _ => ?_)
set_option maxHeartbeats 8000000 in
set_option maxRecDepth 100000 in
theorem pennantref22_Digits.calls (k : Nat) (a0 : ByteArray) (r : Int) (w : World) (h : pennantref22_Digits.f k a0 = some r) :
  Calls Tryz.prog 47 #[.string a0] w fun e w' => e = .returned (.int .i64 r) ∧ Drawn0 w w' := by
 have H : (pennantref22_Digits.l0 k a0 0 0) = some r := h
 clear h
 have H' := zM H
 clear H
 go_enter Tryz.func47, Tryz.ntmps47
 go_wp2
 go_loopg [3, 4] k (fun kq v3 v4 w' => ∃ (x3_1 : Int) (x4_1 : Int), v3 = .int .i64 x3_1 ∧ v4 = .int .i64 x4_1 ∧ Aside0 (pennantref22_Digits.l0 kq a0 x3_1 x4_1 = some r) ∧ Aside0 (kq ≤ k) ∧ Drawn0 w w')
 case atStart => exact ⟨(0), (0), (by first | rfl | (simp; done) | (simp [*]; done)), (by first | rfl | (simp; done) | (simp [*]; done)), H', ⟨Nat.le_refl _⟩, by repeat (first | exact Drawn0.refl _ | apply Drawn0.step)⟩
 case round =>
  clear H'
  obtain ⟨x3_1, x4_1, rfl, rfl, HA, HK1, ⟨m1, rfl⟩⟩ := hrel
  cases gk with
  | zero => exact absurd HA.out (by simp [pennantref22_Digits.l0])
  | succ k1 =>
   have H := HA.out
   clear HA
   simp only [pennantref22_Digits.l0] at H
   by_cases c2 : x4_1 < (a0.size : Int)
   ·
    rw [if_pos c2] at H; (have c2b0 : decide (x4_1 < (a0.size : Int)) = true := decide_eq_true c2); clear c2; (have HC3 := zM H); clear H; (go_upto_region 5 with (fail)); go_cut [20] (fun v20 wc => ∃ (kq : Nat) (x20_2 : Bool), v20 = .bool x20_2 ∧ Aside0 (pennantref22_Digits.j1 kq a0 x3_1 x4_1 x20_2 = some r) ∧ Aside0 (kq ≤ k1) ∧ Drawn0 w wc)
    case first =>
     (have H := HC3.out); clear HC3; by_cases c4 : 0 ≤ x4_1
     ·
      rw [if_pos c4] at H; (have c4b0 : decide (0 ≤ x4_1) = true := decide_eq_true c4); clear c4; (first | rw [c4b0] | (simp only [i64_w, i32_w]; rw [c4b0]) | skip); by_cases c6 : (bt a0 x4_1) < 48
      ·
       rw [if_pos c6] at H; (have c6b0 : decide ((bt a0 x4_1) < 48) = true := decide_eq_true c6); clear c6; (have H' := zM H); clear H; (have p5 : 0 ≤ (x4_1 : Int) := of_decide_eq_true (by assumption)); (have q5 : x4_1 < (a0.size : Int) := of_decide_eq_true (by assumption)); (have hx5 := bt_at a0 x4_1); (replace p5 := eq_true p5); (replace q5 := eq_true q5); (go_wp2); go_meet
       case rel => exact ⟨_, (true), (by first | rfl | (simp; done) | (simp [*]; done)), H', ⟨by have := HK1.out; first | omega | exact Nat.le_refl _⟩, by repeat (first | exact Drawn0.refl _ | apply Drawn0.step)⟩
      ·
       rw [if_neg c6] at H; (have c6b0 : decide ((bt a0 x4_1) < 48) = false := decide_eq_false c6); clear c6; (have H' := zM H); clear H; (have p5 : 0 ≤ (x4_1 : Int) := of_decide_eq_true (by assumption)); (have q5 : x4_1 < (a0.size : Int) := of_decide_eq_true (by assumption)); (have hx5 := bt_at a0 x4_1); (replace p5 := eq_true p5); (replace q5 := eq_true q5); (have p7 : 0 ≤ (x4_1 : Int) := of_decide_eq_true (by assumption)); (have q7 : x4_1 < (a0.size : Int) := of_decide_eq_true (by assumption)); (have hx7 := bt_at a0 x4_1); (replace p7 := eq_true p7); (replace q7 := eq_true q7); (go_wp2); go_meet
       case rel => exact ⟨_, (decide ((bt a0 x4_1) > 57)), (by first | rfl | (simp; done) | (simp [*]; done)), H', ⟨by have := HK1.out; first | omega | exact Nat.le_refl _⟩, by repeat (first | exact Drawn0.refl _ | apply Drawn0.step)⟩
     ·
      rw [if_neg c4] at H; exact absurd H (by simp)
    case rest =>
     clear HC3; (try clear c2); (try clear c2b0); (try clear p2); (try clear c4); (try clear c4b0); (try clear p5); (try clear q5); (try clear hx5); (try clear c6); (try clear c6b0); (try clear p7); (try clear q7); (try clear hx7); (try clear p5); (try clear p7); (try clear q5); (try clear q7); obtain ⟨kq, x20_2, rfl, HA, HJ2, ⟨mc2, rfl⟩⟩ := hcut
     cases kq with
     | zero => exact absurd HA.out (by simp [pennantref22_Digits.j1])
     | succ kj2 =>
      (have H := HA.out); clear HA; simp only [pennantref22_Digits.j1] at H; by_cases c8 : x20_2 = true
      ·
       subst c8; (have H1 : (some (-1)) = some r := by rw [if_pos rfl] at H; exact H); clear H; (have H := H1); clear H1; (obtain rfl := Option.some.inj H); (go_wp2); (go_ret); exact ⟨by first | rfl | (simp; done) | (simp [*]; done), by repeat (first | exact Drawn0.refl _ | apply Drawn0.step)⟩
      ·
       (replace c8 := Bool.eq_false_iff.mpr c8); subst c8; (have H1 : (if x4_1 < 10 then (if 0 ≤ x4_1 then (if x4_1 < (a0.size : Int) then (pennantref22_Digits.l0 kj2 a0 (wrap64 ((wrap64 (x3_1 * 10)) + (((bt a0 x4_1) - 48) % 256))) (wrap64 (x4_1 + 1))) else (none)) else (none)) else (pennantref22_Digits.l0 kj2 a0 x3_1 (wrap64 (x4_1 + 1)))) = some r := by rw [if_neg (show ¬ (false = true) by decide)] at H; exact H); clear H; (have H := H1); clear H1; by_cases c9 : x4_1 < 10
       ·
        rw [if_pos c9] at H; (have c9b0 : decide (x4_1 < 10) = true := decide_eq_true c9); clear c9; by_cases c10 : 0 ≤ x4_1
        ·
         rw [if_pos c10] at H; (have c10b0 : decide (0 ≤ x4_1) = true := decide_eq_true c10); clear c10; by_cases c11 : x4_1 < (a0.size : Int)
         ·
          rw [if_pos c11] at H; (have c11b0 : decide (x4_1 < (a0.size : Int)) = true := decide_eq_true c11); clear c11; (have H' := zM H); clear H; (have p12 : 0 ≤ (x4_1 : Int) := of_decide_eq_true (by assumption)); (have q12 : x4_1 < (a0.size : Int) := of_decide_eq_true (by assumption)); (have hx12 := bt_at a0 x4_1); (replace p12 := eq_true p12); (replace q12 := eq_true q12); (go_wp2); go_roundg kj2
          case measure => have := HK1.out; have := HJ2.out; omega
          case rel => exact ⟨(wrap64 ((wrap64 (x3_1 * 10)) + (((bt a0 x4_1) - 48) % 256))), (wrap64 (x4_1 + 1)), (by first | rfl | (simp; done) | (simp [*]; done)), (by first | rfl | (simp; done) | (simp [*]; done)), H', ⟨by have := HK1.out; have := HJ2.out; omega⟩, by repeat (first | exact Drawn0.refl _ | apply Drawn0.step)⟩
         ·
          rw [if_neg c11] at H; exact absurd H (by simp)
        ·
         rw [if_neg c10] at H; exact absurd H (by simp)
       ·
        rw [if_neg c9] at H; (have c9b0 : decide (x4_1 < 10) = false := decide_eq_false c9); clear c9; (have H' := zM H); clear H; (go_wp2); go_roundg kj2
        case measure => have := HK1.out; have := HJ2.out; omega
        case rel => exact ⟨(x3_1), (wrap64 (x4_1 + 1)), (by first | rfl | (simp; done) | (simp [*]; done)), (by first | rfl | (simp; done) | (simp [*]; done)), H', ⟨by have := HK1.out; have := HJ2.out; omega⟩, by repeat (first | exact Drawn0.refl _ | apply Drawn0.step)⟩
   ·
    rw [if_neg c2] at H; (have c2b0 : decide (x4_1 < (a0.size : Int)) = false := decide_eq_false c2); clear c2; by_cases c13 : (a0.size : Int) = 0
    ·
     rw [if_pos c13] at H; (have c13b0 : ((a0.size : Int) == 0) = true := beq_iff_eq.mpr c13); (have c13b1 : ((a0.size : Int) != 0) = false := bne_eq_false_iff_eq.mpr c13); clear c13; (obtain rfl := Option.some.inj H); (go_wp2); (go_ret); exact ⟨by first | rfl | (simp; done) | (simp [*]; done), by repeat (first | exact Drawn0.refl _ | apply Drawn0.step)⟩
    ·
     rw [if_neg c13] at H; (have c13b0 : ((a0.size : Int) == 0) = false := beq_eq_false_iff_ne.mpr c13); (have c13b1 : ((a0.size : Int) != 0) = true := bne_iff_ne.mpr c13); by_cases c14 : (a0.size : Int) > 9
     ·
      rw [if_pos c14] at H; (have c14b0 : decide (9 < (a0.size : Int)) = true := decide_eq_true c14); (have c14b1 : decide (9 < a0.size) = true := decide_eq_true (by omega)); clear c14; (obtain rfl := Option.some.inj H); (go_wp2); (go_ret); exact ⟨by first | rfl | (simp; done) | (simp [*]; done), by repeat (first | exact Drawn0.refl _ | apply Drawn0.step)⟩
     ·
      rw [if_neg c14] at H; (have c14b0 : decide (9 < (a0.size : Int)) = false := decide_eq_false c14); (have c14b1 : decide (9 < a0.size) = false := decide_eq_false (by omega)); clear c14; (obtain rfl := Option.some.inj H); (go_wp2); (go_ret); exact ⟨by first | rfl | (simp; done) | (simp [*]; done), by repeat (first | exact Drawn0.refl _ | apply Drawn0.step)⟩

/-! ### pennantref22_Status: function 28 -/
def pennantref22_Status.j0 : Nat → ByteArray → Bool → Option (Int)
 | 0, _, _ => none
 | k + 1, x0, x21 => if x21 = true then (some (-1)) else (if 9 ≤ 12 then (if 12 ≤ (x0.size : Int) then ((pennantref22_Digits.f k (x0.extract 9 12)).bind fun t166 => (if t166 < 0 then (some (-1)) else (if (x0.size : Int) > 12 then (if 12 < (x0.size : Int) then (if (bt x0 12) = 32 then ((pennantref22_Text.f k (x0.extract 12 x0.size)).bind fun t167 => (if t167 = true then (some t166) else (some (-1)))) else (some (-1))) else (none)) else (some t166)))) else (none)) else (none))
def pennantref22_Status.f (k : Nat) (a0 : ByteArray) : Option (Int) := if (a0.size : Int) < 12 then (pennantref22_Status.j0 k a0 true) else (if 0 ≤ 9 then (if 9 ≤ (a0.size : Int) then (if (a0.extract 0 9).toList = ([72, 84, 84, 80, 47, 49, 46, 49, 32] : List UInt8) then (if 9 < (a0.size : Int) then (if (bt a0 9) < 49 then (pennantref22_Status.j0 k a0 true) else (pennantref22_Status.j0 k a0 (decide ((bt a0 9) > 53)))) else (none)) else (pennantref22_Status.j0 k a0 true)) else (none)) else (none))
theorem pennantref22_Status.mono_l : ∀ k, (∀ y0 y1, LeO (pennantref22_Status.j0 k y0 y1) (pennantref22_Status.j0 (k + 1) y0 y1))
 | 0 => fun _ _ r h => by simp [pennantref22_Status.j0] at h
 | k + 1 => by
  have ih0 := pennantref22_Status.mono_l k
  ·
   intro y0 y1
   unfold pennantref22_Status.j0
   repeat' first
   | (with_reducible exact ih0 _ _)
   | (with_reducible exact pennantref22_Digits.mono _ _)
   | (with_reducible exact pennantref22_Text.mono _ _)
   | (with_reducible exact LeO.refl _)
   | (with_reducible exact LeO.none _)
   | (with_reducible refine LeO.ite ?_ ?_)
   | (with_reducible refine LeO.bind ?_ (fun _ => ?_))
   | exact ih0 _ _
   | exact pennantref22_Digits.mono _ _
   | exact pennantref22_Text.mono _ _
   | exact LeO.none _
   | refine LeO.ite ?_ ?_
   | refine LeO.bind ?_ (fun _ => ?_)
theorem pennantref22_Status.mono : ∀ a0 k, LeO (pennantref22_Status.f k a0) (pennantref22_Status.f (k + 1) a0) := by
 intro a0 k
 have ih0 := pennantref22_Status.mono_l k
 unfold pennantref22_Status.f
 repeat' first
   | (with_reducible exact ih0 _ _)
   | (with_reducible exact pennantref22_Digits.mono _ _)
   | (with_reducible exact pennantref22_Text.mono _ _)
   | (with_reducible exact LeO.refl _)
   | (with_reducible exact LeO.none _)
   | (with_reducible refine LeO.ite ?_ ?_)
   | (with_reducible refine LeO.bind ?_ (fun _ => ?_))
   | exact ih0 _ _
   | exact pennantref22_Digits.mono _ _
   | exact pennantref22_Text.mono _ _
   | exact LeO.none _
   | refine LeO.ite ?_ ?_
   | refine LeO.bind ?_ (fun _ => ?_)
set_option maxHeartbeats 8000000 in
set_option maxRecDepth 100000 in
theorem pennantref22_Status.calls (k : Nat) (a0 : ByteArray) (r : Int) (w : World) (h : pennantref22_Status.f k a0 = some r) :
  Calls Tryz.prog 28 #[.string a0] w fun e w' => e = .returned (.int .i64 r) ∧ Drawn0 w w' := by
 have H : (if (a0.size : Int) < 12 then (pennantref22_Status.j0 k a0 true) else (if 0 ≤ 9 then (if 9 ≤ (a0.size : Int) then (if (a0.extract 0 9).toList = ([72, 84, 84, 80, 47, 49, 46, 49, 32] : List UInt8) then (if 9 < (a0.size : Int) then (if (bt a0 9) < 49 then (pennantref22_Status.j0 k a0 true) else (pennantref22_Status.j0 k a0 (decide ((bt a0 9) > 53)))) else (none)) else (pennantref22_Status.j0 k a0 true)) else (none)) else (none))) = some r := h
 clear h
 have HC2 := zM H
 clear H
 go_enter Tryz.func28, Tryz.ntmps28
 go_upto_region 1 with (fail)
 go_cut [21] (fun v21 wc => ∃ (kq : Nat) (x21_1 : Bool), v21 = .bool x21_1 ∧ Aside0 (pennantref22_Status.j0 kq a0 x21_1 = some r) ∧ Aside0 (kq ≤ k) ∧ Drawn0 w wc)
 case first =>
  have H := HC2.out
  clear HC2
  by_cases c3 : (a0.size : Int) < 12
  ·
   rw [if_pos c3] at H
   have c3b0 : decide ((a0.size : Int) < 12) = true := decide_eq_true c3
   have c3b1 : decide (a0.size < 12) = true := decide_eq_true (by omega)
   clear c3
   (first | rw [c3b0] | (simp only [i64_w, i32_w]; rw [c3b0]) | skip)
   have H' := zM H
   clear H
   go_wp2
   go_meet
   case rel => exact ⟨_, (true), (by first | rfl | (simp; done) | (simp [*]; done)), H', ⟨by first | omega | exact Nat.le_refl _⟩, by repeat (first | exact Drawn0.refl _ | apply Drawn0.step)⟩
  ·
   rw [if_neg c3] at H
   have c3b0 : decide ((a0.size : Int) < 12) = false := decide_eq_false c3
   have c3b1 : decide (a0.size < 12) = false := decide_eq_false (by omega)
   clear c3
   (first | rw [c3b0] | (simp only [i64_w, i32_w]; rw [c3b0]) | skip)
   by_cases c4 : 0 ≤ 9
   ·
    rw [if_pos c4] at H; (have c4b0 := eq_true c4); (have c4b1 : decide (0 ≤ 9) = true := decide_eq_true c4); clear c4; by_cases c5 : 9 ≤ (a0.size : Int)
    ·
     rw [if_pos c5] at H; (have c5b0 := eq_true c5); (have c5b1 : decide (9 ≤ (a0.size : Int)) = true := decide_eq_true c5); clear c5; by_cases c6 : (a0.extract 0 9).toList = ([72, 84, 84, 80, 47, 49, 46, 49, 32] : List UInt8)
     ·
      rw [if_pos c6] at H; (have c6b0 : ((a0.extract 0 9).toList == ([72, 84, 84, 80, 47, 49, 46, 49, 32] : List UInt8)) = true := beq_iff_eq.mpr c6); (have c6b1 : ((a0.extract 0 9).toList != ([72, 84, 84, 80, 47, 49, 46, 49, 32] : List UInt8)) = false := bne_eq_false_iff_eq.mpr c6); clear c6; by_cases c7 : 9 < (a0.size : Int)
      ·
       rw [if_pos c7] at H; (have c7b0 : decide (9 < (a0.size : Int)) = true := decide_eq_true c7); (have c7b1 : decide (9 < a0.size) = true := decide_eq_true (by omega)); clear c7; by_cases c9 : (bt a0 9) < 49
       ·
        rw [if_pos c9] at H; (have c9b0 : decide ((bt a0 9) < 49) = true := decide_eq_true c9); clear c9; (have H' := zM H); clear H; (have p8 : 0 ≤ (9 : Int) := (by omega)); (have q8 : 9 < a0.size := (by have : (9 : Int) < (a0.size : Int) := of_decide_eq_true (by assumption); omega)); (have hx8 : ∀ h : 9 < a0.size, ((a0[9]'h).toNat : Int) = bt a0 9 := bt_at a0 9); clear p8; (have qi8 : (9 < (a0.size : Int)) = True := eq_true (of_decide_eq_true (by assumption))); (replace q8 := eq_true q8); (go_wp2); go_meet
        case rel => exact ⟨_, (true), (by first | rfl | (simp; done) | (simp [*]; done)), H', ⟨by first | omega | exact Nat.le_refl _⟩, by repeat (first | exact Drawn0.refl _ | apply Drawn0.step)⟩
       ·
        rw [if_neg c9] at H; (have c9b0 : decide ((bt a0 9) < 49) = false := decide_eq_false c9); clear c9; (have H' := zM H); clear H; (have p8 : 0 ≤ (9 : Int) := (by omega)); (have q8 : 9 < a0.size := (by have : (9 : Int) < (a0.size : Int) := of_decide_eq_true (by assumption); omega)); (have hx8 : ∀ h : 9 < a0.size, ((a0[9]'h).toNat : Int) = bt a0 9 := bt_at a0 9); clear p8; (have qi8 : (9 < (a0.size : Int)) = True := eq_true (of_decide_eq_true (by assumption))); (replace q8 := eq_true q8); (have p10 : 0 ≤ (9 : Int) := (by omega)); (have q10 : 9 < a0.size := (by have : (9 : Int) < (a0.size : Int) := of_decide_eq_true (by assumption); omega)); (have hx10 : ∀ h : 9 < a0.size, ((a0[9]'h).toNat : Int) = bt a0 9 := bt_at a0 9); clear p10; (have qi10 : (9 < (a0.size : Int)) = True := eq_true (of_decide_eq_true (by assumption))); (replace q10 := eq_true q10); (go_wp2); go_meet
        case rel => exact ⟨_, (decide ((bt a0 9) > 53)), (by first | rfl | (simp; done) | (simp [*]; done)), H', ⟨by first | omega | exact Nat.le_refl _⟩, by repeat (first | exact Drawn0.refl _ | apply Drawn0.step)⟩
      ·
       rw [if_neg c7] at H; exact absurd H (by simp)
     ·
      rw [if_neg c6] at H; (have c6b0 : ((a0.extract 0 9).toList == ([72, 84, 84, 80, 47, 49, 46, 49, 32] : List UInt8)) = false := beq_eq_false_iff_ne.mpr c6); (have c6b1 : ((a0.extract 0 9).toList != ([72, 84, 84, 80, 47, 49, 46, 49, 32] : List UInt8)) = true := bne_iff_ne.mpr c6); (have H' := zM H); clear H; (go_wp2); go_meet
      case rel => exact ⟨_, (true), (by first | rfl | (simp; done) | (simp [*]; done)), H', ⟨by first | omega | exact Nat.le_refl _⟩, by repeat (first | exact Drawn0.refl _ | apply Drawn0.step)⟩
    ·
     rw [if_neg c5] at H; exact absurd H (by simp)
   ·
    rw [if_neg c4] at H; exact absurd H (by simp)
 case rest =>
  clear HC2
  try clear p1
  try clear q1
  try clear hx1
  try clear qi1
  try clear c2
  try clear p2
  try clear c3
  try clear c3b0
  try clear c3b1
  try clear c4
  try clear c4b0
  try clear c4b1
  try clear c5
  try clear c5b0
  try clear c5b1
  try clear c6
  try clear c6b0
  try clear c6b1
  try clear c7
  try clear c7b0
  try clear c7b1
  try clear p8
  try clear q8
  try clear hx8
  try clear qi8
  try clear c9
  try clear c9b0
  try clear p10
  try clear q10
  try clear hx10
  try clear qi10
  try clear p10
  try clear p8
  try clear q10
  try clear q8
  obtain ⟨kq, x21_1, rfl, HA, HJ1, ⟨mc1, rfl⟩⟩ := hcut
  cases kq with
  | zero => exact absurd HA.out (by simp [pennantref22_Status.j0])
  | succ kj1 =>
   have H := HA.out
   clear HA
   simp only [pennantref22_Status.j0] at H
   by_cases c11 : x21_1 = true
   ·
    subst c11; (have H1 : (some (-1)) = some r := by rw [if_pos rfl] at H; exact H); clear H; (have H := H1); clear H1; (obtain rfl := Option.some.inj H); (go_wp2); (go_ret); exact ⟨by first | rfl | (simp; done) | (simp [*]; done), by repeat (first | exact Drawn0.refl _ | apply Drawn0.step)⟩
   ·
    (replace c11 := Bool.eq_false_iff.mpr c11); subst c11; (have H1 : (if 9 ≤ 12 then (if 12 ≤ (a0.size : Int) then ((pennantref22_Digits.f kj1 (a0.extract 9 12)).bind fun t166 => (if t166 < 0 then (some (-1)) else (if (a0.size : Int) > 12 then (if 12 < (a0.size : Int) then (if (bt a0 12) = 32 then ((pennantref22_Text.f kj1 (a0.extract 12 a0.size)).bind fun t167 => (if t167 = true then (some t166) else (some (-1)))) else (some (-1))) else (none)) else (some t166)))) else (none)) else (none)) = some r := by rw [if_neg (show ¬ (false = true) by decide)] at H; exact H); clear H; (have H := H1); clear H1; by_cases c12 : 9 ≤ 12
    ·
     rw [if_pos c12] at H; (have c12b0 := eq_true c12); (have c12b1 : decide (9 ≤ 12) = true := decide_eq_true c12); clear c12; by_cases c13 : 12 ≤ (a0.size : Int)
     ·
      rw [if_pos c13] at H; (have c13b0 := eq_true c13); (have c13b1 : decide (12 ≤ (a0.size : Int)) = true := decide_eq_true c13); clear c13; (replace H := Option.bind_eq_some_iff.mp H); (obtain ⟨t166, A140, H⟩ := H); replace H : (if t166 < 0 then (some (-1)) else (if (a0.size : Int) > 12 then (if 12 < (a0.size : Int) then (if (bt a0 12) = 32 then ((pennantref22_Text.f kj1 (a0.extract 12 a0.size)).bind fun t167 => (if t167 = true then (some t166) else (some (-1)))) else (some (-1))) else (none)) else (some t166))) = some r := H; (have A14 := zM A140); clear A140; by_cases c15 : t166 < 0
      ·
       rw [if_pos c15] at H; (have c15b0 : decide (t166 < 0) = true := decide_eq_true c15); clear c15; (obtain rfl := Option.some.inj H); (go_wp2_with (first | ((with_reducible refine gate_callee (f := 47) rfl ?_); refine goesL_ (some 24) rfl rfl Tryz.func47 (by kernel_rfl) rfl #[.string (a0.extract 9 12)] rfl (by (try simp only [zL]); first | done | rfl) ?_; (with_reducible refine (pennantref22_Digits.calls kj1 (a0.extract 9 12) t166 _ A14.out).mono ?_); rintro e w' ⟨rfl, ⟨nd, rfl⟩⟩; refine ⟨_, rfl, ?_⟩))); (go_ret); exact ⟨by first | rfl | (simp; done) | (simp [*]; done), by repeat (first | exact Drawn0.refl _ | apply Drawn0.step)⟩
      ·
       rw [if_neg c15] at H; (have c15b0 : decide (t166 < 0) = false := decide_eq_false c15); clear c15; by_cases c16 : (a0.size : Int) > 12
       ·
        rw [if_pos c16] at H; (have c16b0 : decide (12 < (a0.size : Int)) = true := decide_eq_true c16); (have c16b1 : decide (12 < a0.size) = true := decide_eq_true (by omega)); clear c16; by_cases c17 : 12 < (a0.size : Int)
        ·
         rw [if_pos c17] at H; (have c17b0 : decide (12 < (a0.size : Int)) = true := decide_eq_true c17); (have c17b1 : decide (12 < a0.size) = true := decide_eq_true (by omega)); clear c17; by_cases c19 : (bt a0 12) = 32
         ·
          rw [if_pos c19] at H; (have c19b0 : ((bt a0 12) == 32) = true := beq_iff_eq.mpr c19); (have c19b1 : ((bt a0 12) != 32) = false := bne_eq_false_iff_eq.mpr c19); clear c19; (have c20b0 := eq_true (of_decide_eq_true (by assumption) : 12 ≤ (a0.size : Int))); (replace H := Option.bind_eq_some_iff.mp H); (obtain ⟨t167, A210, H⟩ := H); replace H : (if t167 = true then (some t166) else (some (-1))) = some r := H; (have A21 := zM A210); clear A210; by_cases c22 : t167 = true
          ·
           subst c22; (have H1 : (some t166) = some r := by rw [if_pos rfl] at H; exact H); clear H; (have H := H1); clear H1; (obtain rfl := Option.some.inj H); (go_wp2_with (first | ((with_reducible refine gate_callee (f := 47) rfl ?_); refine goesL_ (some 24) rfl rfl Tryz.func47 (by kernel_rfl) rfl #[.string (a0.extract 9 12)] rfl (by (try simp only [zL]); first | done | rfl) ?_; (with_reducible refine (pennantref22_Digits.calls kj1 (a0.extract 9 12) t166 _ A14.out).mono ?_); rintro e w' ⟨rfl, ⟨nd, rfl⟩⟩; refine ⟨_, rfl, ?_⟩; have p18 : 0 ≤ (12 : Int) := (by omega); have q18 : 12 < a0.size := (by have : (12 : Int) < (a0.size : Int) := of_decide_eq_true (by assumption); omega); have hx18 : ∀ h : 12 < a0.size, ((a0[12]'h).toNat : Int) = bt a0 12 := bt_at a0 12; clear p18; have qi18 : (12 < (a0.size : Int)) = True := eq_true (of_decide_eq_true (by assumption)); replace q18 := eq_true q18) | (go_at_call 44; (with_reducible refine (pennantref22_Text.calls kj1 (a0.extract 12 a0.size) true _ A21.out).mono ?_); rintro e w' ⟨rfl, ⟨nd, rfl⟩⟩))); (go_ret); exact ⟨by first | rfl | (simp; done) | (simp [*]; done), by repeat (first | exact Drawn0.refl _ | apply Drawn0.step)⟩
          ·
           (replace c22 := Bool.eq_false_iff.mpr c22); subst c22; (have H1 : (some (-1)) = some r := by rw [if_neg (show ¬ (false = true) by decide)] at H; exact H); clear H; (have H := H1); clear H1; (obtain rfl := Option.some.inj H); (go_wp2_with (first | ((with_reducible refine gate_callee (f := 47) rfl ?_); refine goesL_ (some 24) rfl rfl Tryz.func47 (by kernel_rfl) rfl #[.string (a0.extract 9 12)] rfl (by (try simp only [zL]); first | done | rfl) ?_; (with_reducible refine (pennantref22_Digits.calls kj1 (a0.extract 9 12) t166 _ A14.out).mono ?_); rintro e w' ⟨rfl, ⟨nd, rfl⟩⟩; refine ⟨_, rfl, ?_⟩; have p18 : 0 ≤ (12 : Int) := (by omega); have q18 : 12 < a0.size := (by have : (12 : Int) < (a0.size : Int) := of_decide_eq_true (by assumption); omega); have hx18 : ∀ h : 12 < a0.size, ((a0[12]'h).toNat : Int) = bt a0 12 := bt_at a0 12; clear p18; have qi18 : (12 < (a0.size : Int)) = True := eq_true (of_decide_eq_true (by assumption)); replace q18 := eq_true q18) | (go_at_call 44; (with_reducible refine (pennantref22_Text.calls kj1 (a0.extract 12 a0.size) false _ A21.out).mono ?_); rintro e w' ⟨rfl, ⟨nd, rfl⟩⟩))); (go_ret); exact ⟨by first | rfl | (simp; done) | (simp [*]; done), by repeat (first | exact Drawn0.refl _ | apply Drawn0.step)⟩
         ·
          rw [if_neg c19] at H; (have c19b0 : ((bt a0 12) == 32) = false := beq_eq_false_iff_ne.mpr c19); (have c19b1 : ((bt a0 12) != 32) = true := bne_iff_ne.mpr c19); (obtain rfl := Option.some.inj H); (go_wp2_with (first | ((with_reducible refine gate_callee (f := 47) rfl ?_); refine goesL_ (some 24) rfl rfl Tryz.func47 (by kernel_rfl) rfl #[.string (a0.extract 9 12)] rfl (by (try simp only [zL]); first | done | rfl) ?_; (with_reducible refine (pennantref22_Digits.calls kj1 (a0.extract 9 12) t166 _ A14.out).mono ?_); rintro e w' ⟨rfl, ⟨nd, rfl⟩⟩; refine ⟨_, rfl, ?_⟩; have p18 : 0 ≤ (12 : Int) := (by omega); have q18 : 12 < a0.size := (by have : (12 : Int) < (a0.size : Int) := of_decide_eq_true (by assumption); omega); have hx18 : ∀ h : 12 < a0.size, ((a0[12]'h).toNat : Int) = bt a0 12 := bt_at a0 12; clear p18; have qi18 : (12 < (a0.size : Int)) = True := eq_true (of_decide_eq_true (by assumption)); replace q18 := eq_true q18))); (go_ret); exact ⟨by first | rfl | (simp; done) | (simp [*]; done), by repeat (first | exact Drawn0.refl _ | apply Drawn0.step)⟩
        ·
         rw [if_neg c17] at H; exact absurd H (by simp)
       ·
        rw [if_neg c16] at H; (have c16b0 : decide (12 < (a0.size : Int)) = false := decide_eq_false c16); (have c16b1 : decide (12 < a0.size) = false := decide_eq_false (by omega)); clear c16; (obtain rfl := Option.some.inj H); (go_wp2_with (first | ((with_reducible refine gate_callee (f := 47) rfl ?_); refine goesL_ (some 24) rfl rfl Tryz.func47 (by kernel_rfl) rfl #[.string (a0.extract 9 12)] rfl (by (try simp only [zL]); first | done | rfl) ?_; (with_reducible refine (pennantref22_Digits.calls kj1 (a0.extract 9 12) t166 _ A14.out).mono ?_); rintro e w' ⟨rfl, ⟨nd, rfl⟩⟩; refine ⟨_, rfl, ?_⟩))); (go_ret); exact ⟨by first | rfl | (simp; done) | (simp [*]; done), by repeat (first | exact Drawn0.refl _ | apply Drawn0.step)⟩
     ·
      rw [if_neg c13] at H; exact absurd H (by simp)
    ·
     rw [if_neg c12] at H; exact absurd H (by simp)

end Go.Proofs.YtpikebpjlhccbaaGreatDoor.PAll
