-- Laid by a program of this session (wip/pp in the repo) out of the translation. Lean checks it.
import Derived.Test.YtpikebpjlhccbaaGreatDoorShort
import Derived.Test.YtpikebpjlhccbaaGreatDoorPAllx0
namespace Go.Proofs.YtpikebpjlhccbaaGreatDoor.PAll
open Go.RowKit Go.Proofs.YtpikebpjlhccbaaGreatDoorW.PrintWords Go.Proofs.YtpikebpjlhccbaaGreatDoorW.PrintLast Go.Proofs.YtpikebpjlhccbaaGreatDoorW.PrintMore
attribute [local go_sem] max2_int min2_int max_two min_two max_three min_three max_four min_four   -- for this text's walks alone
set_option linter.unusedVariables false
set_option linter.unusedSimpArgs false

/-! ### pennantref22_Small: function 45 -/
def pennantref22_Small.l0 : Nat → ByteArray → ByteArray → Int → Option (ByteArray)
 | 0, _, _, _ => none
 | k + 1, x0, x3, x4 => if x4 < (x0.size : Int) then (if 0 ≤ x4 then (if (bt x0 x4) ≥ 65 then (if (bt x0 x4) ≤ 90 then ((some (([((bt x0 x4) + 32) % 256] : List Int) : List Int)).bind fun y168 => (if x3.size + (strOfNums y168).size ≤ 9223372036854775807 then (pennantref22_Small.l0 k x0 (x3 ++ (strOfNums y168)) (wrap64 (x4 + 1))) else (none))) else ((some (([bt x0 x4] : List Int) : List Int)).bind fun y171 => (if x3.size + (strOfNums y171).size ≤ 9223372036854775807 then (pennantref22_Small.l0 k x0 (x3 ++ (strOfNums y171)) (wrap64 (x4 + 1))) else (none)))) else ((some (([bt x0 x4] : List Int) : List Int)).bind fun y174 => (if x3.size + (strOfNums y174).size ≤ 9223372036854775807 then (pennantref22_Small.l0 k x0 (x3 ++ (strOfNums y174)) (wrap64 (x4 + 1))) else (none)))) else (none)) else (some x3)
def pennantref22_Small.f (k : Nat) (a0 : ByteArray) : Option (ByteArray) := pennantref22_Small.l0 k a0 (⟨#[]⟩ : ByteArray) 0
theorem pennantref22_Small.mono_l : ∀ k, (∀ y0 y1 y2, LeO (pennantref22_Small.l0 k y0 y1 y2) (pennantref22_Small.l0 (k + 1) y0 y1 y2))
 | 0 => fun _ _ _ r h => by simp [pennantref22_Small.l0] at h
 | k + 1 => by
  have ih0 := pennantref22_Small.mono_l k
  ·
   intro y0 y1 y2
   unfold pennantref22_Small.l0
   repeat' first
   | (with_reducible exact ih0 _ _ _)
   | (with_reducible exact LeO.refl _)
   | (with_reducible exact LeO.none _)
   | (with_reducible refine LeO.ite ?_ ?_)
   | (with_reducible refine LeO.bind ?_ (fun _ => ?_))
   | exact ih0 _ _ _
   | exact LeO.none _
   | refine LeO.ite ?_ ?_
   | refine LeO.bind ?_ (fun _ => ?_)
theorem pennantref22_Small.mono : ∀ a0 k, LeO (pennantref22_Small.f k a0) (pennantref22_Small.f (k + 1) a0) := by
 intro a0 k
 have ih0 := pennantref22_Small.mono_l k
 unfold pennantref22_Small.f
 repeat' first
   | (with_reducible exact ih0 _ _ _)
   | (with_reducible exact LeO.refl _)
   | (with_reducible exact LeO.none _)
   | (with_reducible refine LeO.ite ?_ ?_)
   | (with_reducible refine LeO.bind ?_ (fun _ => ?_))
   | exact ih0 _ _ _
   | exact LeO.none _
   | refine LeO.ite ?_ ?_
   | refine LeO.bind ?_ (fun _ => ?_)
set_option maxHeartbeats 8000000 in
set_option maxRecDepth 100000 in
theorem pennantref22_Small.calls (k : Nat) (a0 : ByteArray) (r : ByteArray) (w : World) (h : pennantref22_Small.f k a0 = some r) :
  Calls Tryz.prog 45 #[.string a0] w fun e w' => e = .returned (.string r) ∧ Below w.heap.size w w' := by
 have HB := zM (Below.refl w.heap.size w)
 have H : (pennantref22_Small.l0 k a0 (⟨#[]⟩ : ByteArray) 0) = some r := h
 clear h
 have H' := zM H
 clear H
 go_enter Tryz.func45, Tryz.ntmps45
 go_wp2
 go_loopg [3, 4] k (fun kq v3 v4 w' => ∃ (x3_1 : ByteArray) (x4_1 : Int), v3 = .string x3_1 ∧ v4 = .int .i64 x4_1 ∧ Aside0 (pennantref22_Small.l0 kq a0 x3_1 x4_1 = some r) ∧ Aside0 (kq ≤ k) ∧ Aside0 (Below w.heap.size w w'))
 case atStart => exact ⟨((⟨#[]⟩ : ByteArray)), (0), (by first | rfl | (simp; done) | (simp [*]; done)), (by first | rfl | (simp; done) | (simp [*]; done)), H', ⟨Nat.le_refl _⟩, ⟨by repeat (first | exact HB.out | apply zA | apply zN | apply z1)⟩⟩
 case round =>
  clear H'
  obtain ⟨x3_1, x4_1, rfl, rfl, HA, HK1, HB⟩ := hrel
  cases gk with
  | zero => exact absurd HA.out (by simp [pennantref22_Small.l0])
  | succ k1 =>
   have H := HA.out
   clear HA
   simp only [pennantref22_Small.l0] at H
   by_cases c2 : x4_1 < (a0.size : Int)
   ·
    rw [if_pos c2] at H; (have c2b0 : decide (x4_1 < (a0.size : Int)) = true := decide_eq_true c2); clear c2; by_cases c3 : 0 ≤ x4_1
    ·
     rw [if_pos c3] at H; (have c3b0 : decide (0 ≤ x4_1) = true := decide_eq_true c3); clear c3; by_cases c5 : (bt a0 x4_1) ≥ 65
     ·
      rw [if_pos c5] at H; (have c5b0 : decide (65 ≤ (bt a0 x4_1)) = true := decide_eq_true c5); clear c5; by_cases c6 : (bt a0 x4_1) ≤ 90
      ·
       rw [if_pos c6] at H; (have c6b0 : decide ((bt a0 x4_1) ≤ 90) = true := decide_eq_true c6); clear c6; (obtain ⟨y168, hy168⟩ : ∃ y_ : List Int, y_ = (([((bt a0 x4_1) + 32) % 256] : List Int)) := ⟨_, rfl⟩); (replace H : (if x3_1.size + (strOfNums y168).size ≤ 9223372036854775807 then (pennantref22_Small.l0 k1 a0 (x3_1 ++ (strOfNums y168)) (wrap64 (x4_1 + 1))) else (none)) = some r := by first | (rw [hy168]; with_reducible exact H) | (have H2_ := (Option.bind_some _ _).symm.trans H; rw [hy168]; with_reducible exact H2_) | (have H2_ := (Option.bind_some _ _).symm.trans H; with_reducible exact H2_) | with_reducible exact H | (rw [hy168]; exact H) | exact H); (have Ny168 := zM hy168); clear hy168; by_cases c7 : x3_1.size + (strOfNums y168).size ≤ 9223372036854775807
       ·
        rw [if_pos c7] at H; (have c7b0 := eq_true c7); (have c7b1 : decide (x3_1.size + (strOfNums y168).size ≤ 9223372036854775807) = true := decide_eq_true c7); (try have c7b2 : (9223372036854775807 < x3_1.size + (strOfNums y168).size) = False := eq_false (Nat.not_lt.2 c7)); (have H' := zM H); clear H; (have p4 : 0 ≤ (x4_1 : Int) := of_decide_eq_true (by assumption)); (have q4 : x4_1 < (a0.size : Int) := of_decide_eq_true (by assumption)); (have hx4 := bt_at a0 x4_1); (replace p4 := eq_true p4); (replace q4 := eq_true q4); (go_wp2_with (first | ((with_reducible refine gate_dst (N := 25) rfl ?_); refine Kd.R_lit (Kd.int .u8) _ 5 ?hg (N := 25) ?hd (xs := ([((bt a0 x4_1) + 32) % 256] : List Int)) (inner := [.int .u8 (((bt a0 x4_1) + 32) % 256)]) (ok := fun _ => True) (okp := fun _ => True) ?hr ?hp (fun _ hk => hk) trivial (Below.refl _ _) (Nat.le_refl _) (by simp) ?_; (case hd => rfl); (case hg => rfl); (case hr => first | (go_simp; done) | (go_simp; rfl)); (case hp => exact (Reps.one (show Kd.M (Kd.int .u8) _ _ _ (((bt a0 x4_1) + 32) % 256) [.int .u8 (((bt a0 x4_1) + 32) % 256)] from rfl) (Reps.none _ _))); intro v169 w8 ho9 hb hg_ hnew_; clear hg_ hnew_; (first | rw [← Ny168.out] at ho9 | (simp only [Int.reduceToNat] at ho9; rw [← Ny168.out] at ho9)); have n0_ := zM (Kd.R_lower ho9 (below_size (by repeat (first | exact HB.out | apply zA | apply zN | apply z1)))); have n1_ := zM (below_step (by repeat (first | exact HB.out | apply zA | apply zN | apply z1)) hb); clear HB; have HO170 := n0_; have HB := n1_; clear n0_ n1_; clear hb ho9; have hcv10 := own_string (P := Tryz.prog) Tryz.underlying49 Tryz.underlying5 Tryz.underlying9 (Kd.own_of_R HO170.out)))); go_roundg k1
        case measure => have := HK1.out; omega
        case rel => exact ⟨(x3_1 ++ (strOfNums y168)), (wrap64 (x4_1 + 1)), (by first | rfl | (simp; done) | (simp [*]; done)), (by first | rfl | (simp; done) | (simp [*]; done)), H', ⟨by have := HK1.out; omega⟩, ⟨by repeat (first | exact HB.out | apply zA | apply zN | apply z1)⟩⟩
       ·
        rw [if_neg c7] at H; exact absurd H (by simp)
      ·
       rw [if_neg c6] at H; (have c6b0 : decide ((bt a0 x4_1) ≤ 90) = false := decide_eq_false c6); clear c6; (obtain ⟨y171, hy171⟩ : ∃ y_ : List Int, y_ = (([bt a0 x4_1] : List Int)) := ⟨_, rfl⟩); (replace H : (if x3_1.size + (strOfNums y171).size ≤ 9223372036854775807 then (pennantref22_Small.l0 k1 a0 (x3_1 ++ (strOfNums y171)) (wrap64 (x4_1 + 1))) else (none)) = some r := by first | (rw [hy171]; with_reducible exact H) | (have H2_ := (Option.bind_some _ _).symm.trans H; rw [hy171]; with_reducible exact H2_) | (have H2_ := (Option.bind_some _ _).symm.trans H; with_reducible exact H2_) | with_reducible exact H | (rw [hy171]; exact H) | exact H); (have Ny171 := zM hy171); clear hy171; by_cases c11 : x3_1.size + (strOfNums y171).size ≤ 9223372036854775807
       ·
        rw [if_pos c11] at H; (have c11b0 := eq_true c11); (have c11b1 : decide (x3_1.size + (strOfNums y171).size ≤ 9223372036854775807) = true := decide_eq_true c11); (try have c11b2 : (9223372036854775807 < x3_1.size + (strOfNums y171).size) = False := eq_false (Nat.not_lt.2 c11)); (have H' := zM H); clear H; (have p4 : 0 ≤ (x4_1 : Int) := of_decide_eq_true (by assumption)); (have q4 : x4_1 < (a0.size : Int) := of_decide_eq_true (by assumption)); (have hx4 := bt_at a0 x4_1); (replace p4 := eq_true p4); (replace q4 := eq_true q4); (go_wp2_with (first | ((with_reducible refine gate_dst (N := 25) rfl ?_); refine Kd.R_lit (Kd.int .u8) _ 5 ?hg (N := 25) ?hd (xs := ([bt a0 x4_1] : List Int)) (inner := [.int .u8 (bt a0 x4_1)]) (ok := fun _ => True) (okp := fun _ => True) ?hr ?hp (fun _ hk => hk) trivial (Below.refl _ _) (Nat.le_refl _) (by simp) ?_; (case hd => rfl); (case hg => rfl); (case hr => first | (go_simp; done) | (go_simp; rfl)); (case hp => exact (Reps.one (show Kd.M (Kd.int .u8) _ _ _ (bt a0 x4_1) [.int .u8 (bt a0 x4_1)] from rfl) (Reps.none _ _))); intro v172 w12 ho13 hb hg_ hnew_; clear hg_ hnew_; (first | rw [← Ny171.out] at ho13 | (simp only [Int.reduceToNat] at ho13; rw [← Ny171.out] at ho13)); have n0_ := zM (Kd.R_lower ho13 (below_size (by repeat (first | exact HB.out | apply zA | apply zN | apply z1)))); have n1_ := zM (below_step (by repeat (first | exact HB.out | apply zA | apply zN | apply z1)) hb); clear HB; have HO173 := n0_; have HB := n1_; clear n0_ n1_; clear hb ho13; have hcv14 := own_string (P := Tryz.prog) Tryz.underlying49 Tryz.underlying5 Tryz.underlying9 (Kd.own_of_R HO173.out)))); go_roundg k1
        case measure => have := HK1.out; omega
        case rel => exact ⟨(x3_1 ++ (strOfNums y171)), (wrap64 (x4_1 + 1)), (by first | rfl | (simp; done) | (simp [*]; done)), (by first | rfl | (simp; done) | (simp [*]; done)), H', ⟨by have := HK1.out; omega⟩, ⟨by repeat (first | exact HB.out | apply zA | apply zN | apply z1)⟩⟩
       ·
        rw [if_neg c11] at H; exact absurd H (by simp)
     ·
      rw [if_neg c5] at H; (have c5b0 : decide (65 ≤ (bt a0 x4_1)) = false := decide_eq_false c5); clear c5; (obtain ⟨y174, hy174⟩ : ∃ y_ : List Int, y_ = (([bt a0 x4_1] : List Int)) := ⟨_, rfl⟩); (replace H : (if x3_1.size + (strOfNums y174).size ≤ 9223372036854775807 then (pennantref22_Small.l0 k1 a0 (x3_1 ++ (strOfNums y174)) (wrap64 (x4_1 + 1))) else (none)) = some r := by first | (rw [hy174]; with_reducible exact H) | (have H2_ := (Option.bind_some _ _).symm.trans H; rw [hy174]; with_reducible exact H2_) | (have H2_ := (Option.bind_some _ _).symm.trans H; with_reducible exact H2_) | with_reducible exact H | (rw [hy174]; exact H) | exact H); (have Ny174 := zM hy174); clear hy174; by_cases c15 : x3_1.size + (strOfNums y174).size ≤ 9223372036854775807
      ·
       rw [if_pos c15] at H; (have c15b0 := eq_true c15); (have c15b1 : decide (x3_1.size + (strOfNums y174).size ≤ 9223372036854775807) = true := decide_eq_true c15); (try have c15b2 : (9223372036854775807 < x3_1.size + (strOfNums y174).size) = False := eq_false (Nat.not_lt.2 c15)); (have H' := zM H); clear H; (have p4 : 0 ≤ (x4_1 : Int) := of_decide_eq_true (by assumption)); (have q4 : x4_1 < (a0.size : Int) := of_decide_eq_true (by assumption)); (have hx4 := bt_at a0 x4_1); (replace p4 := eq_true p4); (replace q4 := eq_true q4); (go_wp2_with (first | ((with_reducible refine gate_dst (N := 25) rfl ?_); refine Kd.R_lit (Kd.int .u8) _ 5 ?hg (N := 25) ?hd (xs := ([bt a0 x4_1] : List Int)) (inner := [.int .u8 (bt a0 x4_1)]) (ok := fun _ => True) (okp := fun _ => True) ?hr ?hp (fun _ hk => hk) trivial (Below.refl _ _) (Nat.le_refl _) (by simp) ?_; (case hd => rfl); (case hg => rfl); (case hr => first | (go_simp; done) | (go_simp; rfl)); (case hp => exact (Reps.one (show Kd.M (Kd.int .u8) _ _ _ (bt a0 x4_1) [.int .u8 (bt a0 x4_1)] from rfl) (Reps.none _ _))); intro v175 w16 ho17 hb hg_ hnew_; clear hg_ hnew_; (first | rw [← Ny174.out] at ho17 | (simp only [Int.reduceToNat] at ho17; rw [← Ny174.out] at ho17)); have n0_ := zM (Kd.R_lower ho17 (below_size (by repeat (first | exact HB.out | apply zA | apply zN | apply z1)))); have n1_ := zM (below_step (by repeat (first | exact HB.out | apply zA | apply zN | apply z1)) hb); clear HB; have HO176 := n0_; have HB := n1_; clear n0_ n1_; clear hb ho17; have hcv18 := own_string (P := Tryz.prog) Tryz.underlying49 Tryz.underlying5 Tryz.underlying9 (Kd.own_of_R HO176.out)))); go_roundg k1
       case measure => have := HK1.out; omega
       case rel => exact ⟨(x3_1 ++ (strOfNums y174)), (wrap64 (x4_1 + 1)), (by first | rfl | (simp; done) | (simp [*]; done)), (by first | rfl | (simp; done) | (simp [*]; done)), H', ⟨by have := HK1.out; omega⟩, ⟨by repeat (first | exact HB.out | apply zA | apply zN | apply z1)⟩⟩
      ·
       rw [if_neg c15] at H; exact absurd H (by simp)
    ·
     rw [if_neg c3] at H; exact absurd H (by simp)
   ·
    rw [if_neg c2] at H; (have c2b0 : decide (x4_1 < (a0.size : Int)) = false := decide_eq_false c2); clear c2; (obtain rfl := Option.some.inj H); (go_wp2); (go_ret); exact ⟨by first | rfl | (simp [errW_none, errW_some] <;> rfl) | (simp [*, errW_none, errW_some] <;> rfl), by repeat (first | exact HB.out | apply zA | apply zN | apply z1)⟩

/-! ### pennantref22_blankless: function 46 -/
mutual
def pennantref22_blankless.j1 : Nat → ByteArray → Option (ByteArray)
 | 0, _ => none
 | k + 1, x0 => pennantref22_blankless.l1 k x0
def pennantref22_blankless.l1 : Nat → ByteArray → Option (ByteArray)
 | 0, _ => none
 | k + 1, x0 => if (x0.size : Int) > 0 then (if 0 ≤ (wrap64 ((x0.size : Int) - 1)) then (if (wrap64 ((x0.size : Int) - 1)) < (x0.size : Int) then (if (bt x0 (wrap64 ((x0.size : Int) - 1))) = 32 then (if (wrap64 ((x0.size : Int) - 1)) ≤ (x0.size : Int) then (pennantref22_blankless.l1 k (x0.extract 0 ((wrap64 ((x0.size : Int) - 1)) : Int).toNat)) else (none)) else (if (bt x0 (wrap64 ((x0.size : Int) - 1))) = 9 then (if (wrap64 ((x0.size : Int) - 1)) ≤ (x0.size : Int) then (pennantref22_blankless.l1 k (x0.extract 0 ((wrap64 ((x0.size : Int) - 1)) : Int).toNat)) else (none)) else (some x0))) else (none)) else (none)) else (some x0)
def pennantref22_blankless.l0 : Nat → ByteArray → Option (ByteArray)
 | 0, _ => none
 | k + 1, x0 => if (x0.size : Int) > 0 then (if 0 < (x0.size : Int) then (if (bt x0 0) = 32 then (if 1 ≤ (x0.size : Int) then (pennantref22_blankless.l0 k (x0.extract 1 x0.size)) else (none)) else (if (bt x0 0) = 9 then (if 1 ≤ (x0.size : Int) then (pennantref22_blankless.l0 k (x0.extract 1 x0.size)) else (none)) else (pennantref22_blankless.j1 k x0))) else (none)) else (pennantref22_blankless.j1 k x0)
end
def pennantref22_blankless.f (k : Nat) (a0 : ByteArray) : Option (ByteArray) := pennantref22_blankless.l0 k a0
theorem pennantref22_blankless.mono_l : ∀ k, (∀ y0, LeO (pennantref22_blankless.j1 k y0) (pennantref22_blankless.j1 (k + 1) y0)) ∧ (∀ y0, LeO (pennantref22_blankless.l1 k y0) (pennantref22_blankless.l1 (k + 1) y0)) ∧ (∀ y0, LeO (pennantref22_blankless.l0 k y0) (pennantref22_blankless.l0 (k + 1) y0))
 | 0 => ⟨fun _ r h => by simp [pennantref22_blankless.j1] at h, fun _ r h => by simp [pennantref22_blankless.l1] at h, fun _ r h => by simp [pennantref22_blankless.l0] at h⟩
 | k + 1 => by
  obtain ⟨ih0, ih1, ih2⟩ := pennantref22_blankless.mono_l k
  refine ⟨?_, ?_, ?_⟩
  ·
   intro y0
   unfold pennantref22_blankless.j1
   repeat' first
   | (with_reducible exact ih0 _)
   | (with_reducible exact ih1 _)
   | (with_reducible exact ih2 _)
   | (with_reducible exact LeO.refl _)
   | (with_reducible exact LeO.none _)
   | (with_reducible refine LeO.ite ?_ ?_)
   | (with_reducible refine LeO.bind ?_ (fun _ => ?_))
   | exact ih0 _
   | exact ih1 _
   | exact ih2 _
   | exact LeO.none _
   | refine LeO.ite ?_ ?_
   | refine LeO.bind ?_ (fun _ => ?_)
  ·
   intro y0
   unfold pennantref22_blankless.l1
   repeat' first
   | (with_reducible exact ih0 _)
   | (with_reducible exact ih1 _)
   | (with_reducible exact ih2 _)
   | (with_reducible exact LeO.refl _)
   | (with_reducible exact LeO.none _)
   | (with_reducible refine LeO.ite ?_ ?_)
   | (with_reducible refine LeO.bind ?_ (fun _ => ?_))
   | exact ih0 _
   | exact ih1 _
   | exact ih2 _
   | exact LeO.none _
   | refine LeO.ite ?_ ?_
   | refine LeO.bind ?_ (fun _ => ?_)
  ·
   intro y0
   unfold pennantref22_blankless.l0
   repeat' first
   | (with_reducible exact ih0 _)
   | (with_reducible exact ih1 _)
   | (with_reducible exact ih2 _)
   | (with_reducible exact LeO.refl _)
   | (with_reducible exact LeO.none _)
   | (with_reducible refine LeO.ite ?_ ?_)
   | (with_reducible refine LeO.bind ?_ (fun _ => ?_))
   | exact ih0 _
   | exact ih1 _
   | exact ih2 _
   | exact LeO.none _
   | refine LeO.ite ?_ ?_
   | refine LeO.bind ?_ (fun _ => ?_)
theorem pennantref22_blankless.mono : ∀ a0 k, LeO (pennantref22_blankless.f k a0) (pennantref22_blankless.f (k + 1) a0) := by
 intro a0 k
 obtain ⟨ih0, ih1, ih2⟩ := pennantref22_blankless.mono_l k
 unfold pennantref22_blankless.f
 repeat' first
   | (with_reducible exact ih0 _)
   | (with_reducible exact ih1 _)
   | (with_reducible exact ih2 _)
   | (with_reducible exact LeO.refl _)
   | (with_reducible exact LeO.none _)
   | (with_reducible refine LeO.ite ?_ ?_)
   | (with_reducible refine LeO.bind ?_ (fun _ => ?_))
   | exact ih0 _
   | exact ih1 _
   | exact ih2 _
   | exact LeO.none _
   | refine LeO.ite ?_ ?_
   | refine LeO.bind ?_ (fun _ => ?_)
set_option maxHeartbeats 8000000 in
set_option maxRecDepth 100000 in
theorem pennantref22_blankless.calls (k : Nat) (a0 : ByteArray) (r : ByteArray) (w : World) (h : pennantref22_blankless.f k a0 = some r) :
  Calls Tryz.prog 46 #[.string a0] w fun e w' => e = .returned (.string r) ∧ Drawn0 w w' := by
 have H : (pennantref22_blankless.l0 k a0) = some r := h
 clear h
 have HC2 := zM H
 clear H
 go_enter Tryz.func46, Tryz.ntmps46
 go_upto_block 0 with (fail)
 go_cut [0] (fun v0 wc => ∃ (kq : Nat) (x0_1 : ByteArray), v0 = .string x0_1 ∧ Aside0 (pennantref22_blankless.j1 kq x0_1 = some r) ∧ Aside0 (kq ≤ k) ∧ Drawn0 w wc)
 case first =>
  have H := HC2.out
  clear HC2
  have H' := zM H
  clear H
  go_wp2
  go_loopg [0] k (fun kq v0 w' => ∃ (x0_1 : ByteArray), v0 = .string x0_1 ∧ Aside0 (pennantref22_blankless.l0 kq x0_1 = some r) ∧ Aside0 (kq ≤ k) ∧ Drawn0 w w')
  case atStart => exact ⟨(a0), (by first | rfl | (simp; done) | (simp [*]; done)), H', ⟨Nat.le_refl _⟩, by repeat (first | exact Drawn0.refl _ | apply Drawn0.step)⟩
  case round =>
   clear H'
   try clear p2
   obtain ⟨x0_1, rfl, HA, HK1, ⟨m1, rfl⟩⟩ := hrel
   cases gk with
   | zero => exact absurd HA.out (by simp [pennantref22_blankless.l0])
   | succ k1 =>
    (have H := HA.out); clear HA; simp only [pennantref22_blankless.l0] at H; by_cases c3 : (x0_1.size : Int) > 0
    ·
     rw [if_pos c3] at H; (have c3b0 : decide (0 < (x0_1.size : Int)) = true := decide_eq_true c3); (have c3b1 : decide (0 < x0_1.size) = true := decide_eq_true (by omega)); clear c3; (first | rw [c3b0] | (simp only [i64_w, i32_w]; rw [c3b0]) | skip); by_cases c4 : 0 < (x0_1.size : Int)
     ·
      rw [if_pos c4] at H; (have c4b0 : decide (0 < (x0_1.size : Int)) = true := decide_eq_true c4); (have c4b1 : decide (0 < x0_1.size) = true := decide_eq_true (by omega)); clear c4; by_cases c6 : (bt x0_1 0) = 32
      ·
       rw [if_pos c6] at H; (have c6b0 : ((bt x0_1 0) == 32) = true := beq_iff_eq.mpr c6); (have c6b1 : ((bt x0_1 0) != 32) = false := bne_eq_false_iff_eq.mpr c6); clear c6; by_cases c7 : 1 ≤ (x0_1.size : Int)
       ·
        rw [if_pos c7] at H; (have c7b0 := eq_true c7); (have c7b1 : decide (1 ≤ (x0_1.size : Int)) = true := decide_eq_true c7); clear c7; (have H' := zM H); clear H; (have p5 : 0 ≤ (0 : Int) := (by omega)); (have q5 : 0 < x0_1.size := (by have : (0 : Int) < (x0_1.size : Int) := of_decide_eq_true (by assumption); omega)); (have hx5 : ∀ h : 0 < x0_1.size, ((x0_1[0]'h).toNat : Int) = bt x0_1 0 := bt_at x0_1 0); clear p5; (have qi5 : (0 < (x0_1.size : Int)) = True := eq_true (of_decide_eq_true (by assumption))); (replace q5 := eq_true q5); (go_wp2); go_roundg k1
        case measure => have := HK1.out; omega
        case rel => exact ⟨(x0_1.extract 1 x0_1.size), (by first | rfl | (simp; done) | (simp [*]; done)), H', ⟨by have := HK1.out; omega⟩, by repeat (first | exact Drawn0.refl _ | apply Drawn0.step)⟩
       ·
        rw [if_neg c7] at H; exact absurd H (by simp)
      ·
       rw [if_neg c6] at H; (have c6b0 : ((bt x0_1 0) == 32) = false := beq_eq_false_iff_ne.mpr c6); (have c6b1 : ((bt x0_1 0) != 32) = true := bne_iff_ne.mpr c6); by_cases c9 : (bt x0_1 0) = 9
       ·
        rw [if_pos c9] at H; (have c9b0 : ((bt x0_1 0) == 9) = true := beq_iff_eq.mpr c9); (have c9b1 : ((bt x0_1 0) != 9) = false := bne_eq_false_iff_eq.mpr c9); clear c9; by_cases c10 : 1 ≤ (x0_1.size : Int)
        ·
         rw [if_pos c10] at H; (have c10b0 := eq_true c10); (have c10b1 : decide (1 ≤ (x0_1.size : Int)) = true := decide_eq_true c10); clear c10; (have H' := zM H); clear H; (have p5 : 0 ≤ (0 : Int) := (by omega)); (have q5 : 0 < x0_1.size := (by have : (0 : Int) < (x0_1.size : Int) := of_decide_eq_true (by assumption); omega)); (have hx5 : ∀ h : 0 < x0_1.size, ((x0_1[0]'h).toNat : Int) = bt x0_1 0 := bt_at x0_1 0); clear p5; (have qi5 : (0 < (x0_1.size : Int)) = True := eq_true (of_decide_eq_true (by assumption))); (replace q5 := eq_true q5); (have p8 : 0 ≤ (0 : Int) := (by omega)); (have q8 : 0 < x0_1.size := (by have : (0 : Int) < (x0_1.size : Int) := of_decide_eq_true (by assumption); omega)); (have hx8 : ∀ h : 0 < x0_1.size, ((x0_1[0]'h).toNat : Int) = bt x0_1 0 := bt_at x0_1 0); clear p8; (have qi8 : (0 < (x0_1.size : Int)) = True := eq_true (of_decide_eq_true (by assumption))); (replace q8 := eq_true q8); (go_wp2); go_roundg k1
         case measure => have := HK1.out; omega
         case rel => exact ⟨(x0_1.extract 1 x0_1.size), (by first | rfl | (simp; done) | (simp [*]; done)), H', ⟨by have := HK1.out; omega⟩, by repeat (first | exact Drawn0.refl _ | apply Drawn0.step)⟩
        ·
         rw [if_neg c10] at H; exact absurd H (by simp)
       ·
        rw [if_neg c9] at H; (have c9b0 : ((bt x0_1 0) == 9) = false := beq_eq_false_iff_ne.mpr c9); (have c9b1 : ((bt x0_1 0) != 9) = true := bne_iff_ne.mpr c9); (have H' := zM H); clear H; (have p5 : 0 ≤ (0 : Int) := (by omega)); (have q5 : 0 < x0_1.size := (by have : (0 : Int) < (x0_1.size : Int) := of_decide_eq_true (by assumption); omega)); (have hx5 : ∀ h : 0 < x0_1.size, ((x0_1[0]'h).toNat : Int) = bt x0_1 0 := bt_at x0_1 0); clear p5; (have qi5 : (0 < (x0_1.size : Int)) = True := eq_true (of_decide_eq_true (by assumption))); (replace q5 := eq_true q5); (have p8 : 0 ≤ (0 : Int) := (by omega)); (have q8 : 0 < x0_1.size := (by have : (0 : Int) < (x0_1.size : Int) := of_decide_eq_true (by assumption); omega)); (have hx8 : ∀ h : 0 < x0_1.size, ((x0_1[0]'h).toNat : Int) = bt x0_1 0 := bt_at x0_1 0); clear p8; (have qi8 : (0 < (x0_1.size : Int)) = True := eq_true (of_decide_eq_true (by assumption))); (replace q8 := eq_true q8); (go_wp2); go_meet
        case rel => exact ⟨_, (x0_1), (by first | rfl | (simp; done) | (simp [*]; done)), H', ⟨by have := HK1.out; first | omega | exact Nat.le_refl _⟩, by repeat (first | exact Drawn0.refl _ | apply Drawn0.step)⟩
     ·
      rw [if_neg c4] at H; exact absurd H (by simp)
    ·
     rw [if_neg c3] at H; (have c3b0 : decide (0 < (x0_1.size : Int)) = false := decide_eq_false c3); (have c3b1 : decide (0 < x0_1.size) = false := decide_eq_false (by omega)); clear c3; (first | rw [c3b0] | (simp only [i64_w, i32_w]; rw [c3b0]) | skip); (have H' := zM H); clear H; (go_wp2); go_meet
     case rel => exact ⟨_, (x0_1), (by first | rfl | (simp; done) | (simp [*]; done)), H', ⟨by have := HK1.out; first | omega | exact Nat.le_refl _⟩, by repeat (first | exact Drawn0.refl _ | apply Drawn0.step)⟩
 case rest =>
  clear HC2
  try clear c1
  try clear p2
  try clear c3
  try clear c3b0
  try clear c3b1
  try clear c4
  try clear c4b0
  try clear c4b1
  try clear p5
  try clear q5
  try clear hx5
  try clear qi5
  try clear c6
  try clear c6b0
  try clear c6b1
  try clear c7
  try clear c7b0
  try clear c7b1
  try clear p8
  try clear q8
  try clear hx8
  try clear qi8
  try clear c9
  try clear c9b0
  try clear c9b1
  try clear c10
  try clear c10b0
  try clear c10b1
  try clear p2
  try clear p5
  try clear p8
  try clear q5
  try clear q8
  obtain ⟨kq, x0_1, rfl, HA, HJ1, ⟨mc1, rfl⟩⟩ := hcut
  cases kq with
  | zero => exact absurd HA.out (by simp [pennantref22_blankless.j1])
  | succ kj1 =>
   have H := HA.out
   clear HA
   simp only [pennantref22_blankless.j1] at H
   have H' := zM H
   clear H
   go_wp2
   go_loopg [0] kj1 (fun kq v0 w' => ∃ (x0_2 : ByteArray), v0 = .string x0_2 ∧ Aside0 (pennantref22_blankless.l1 kq x0_2 = some r) ∧ Aside0 (kq ≤ kj1) ∧ Drawn0 w w')
   case atStart => exact ⟨(x0_1), (by first | rfl | (simp; done) | (simp [*]; done)), H', ⟨Nat.le_refl _⟩, by repeat (first | exact Drawn0.refl _ | apply Drawn0.step)⟩
   case round =>
    clear H'; (try clear c1); (try clear p2); (try clear c3); (try clear c3b0); (try clear c3b1); (try clear c4); (try clear c4b0); (try clear c4b1); (try clear p5); (try clear q5); (try clear hx5); (try clear qi5); (try clear c6); (try clear c6b0); (try clear c6b1); (try clear c7); (try clear c7b0); (try clear c7b1); (try clear p8); (try clear q8); (try clear hx8); (try clear qi8); (try clear c9); (try clear c9b0); (try clear c9b1); (try clear c10); (try clear c10b0); (try clear c10b1); (try clear p2); (try clear p5); (try clear p8); (try clear q5); (try clear q8); obtain ⟨x0_2, rfl, HA, HK2, ⟨m2, rfl⟩⟩ := hrel
    cases gk with
    | zero => exact absurd HA.out (by simp [pennantref22_blankless.l1])
    | succ k2 =>
     (have H := HA.out); clear HA; simp only [pennantref22_blankless.l1] at H; by_cases c11 : (x0_2.size : Int) > 0
     ·
      rw [if_pos c11] at H; (have c11b0 : decide (0 < (x0_2.size : Int)) = true := decide_eq_true c11); (have c11b1 : decide (0 < x0_2.size) = true := decide_eq_true (by omega)); clear c11; (obtain ⟨ji12, hji12⟩ : ∃ j_ : Int, (wrap64 ((x0_2.size : Int) - 1)) = j_ := ⟨_, rfl⟩); (replace H : (if 0 ≤ (ji12) then (if (ji12) < (x0_2.size : Int) then (if (bt x0_2 (ji12)) = 32 then (if (ji12) ≤ (x0_2.size : Int) then (pennantref22_blankless.l1 k2 (x0_2.extract 0 ((ji12) : Int).toNat)) else (none)) else (if (bt x0_2 (ji12)) = 9 then (if (ji12) ≤ (x0_2.size : Int) then (pennantref22_blankless.l1 k2 (x0_2.extract 0 ((ji12) : Int).toNat)) else (none)) else (some x0_2))) else (none)) else (none)) = some r := by first | (rw [hji12] at H; exact H) | (simp only [hji12] at H ⊢; exact H)); (have hji12w : (IntKind.i64.wrap ((x0_2.size : Int) - 1)) = ji12 := (i64_w _).trans hji12); by_cases c13 : 0 ≤ (ji12)
      ·
       rw [if_pos c13] at H; (have c13b0 : decide (0 ≤ (ji12)) = true := decide_eq_true c13); clear c13; by_cases c14 : (ji12) < (x0_2.size : Int)
       ·
        rw [if_pos c14] at H; (have c14b0 : decide ((ji12) < (x0_2.size : Int)) = true := decide_eq_true c14); clear c14; by_cases c16 : (bt x0_2 (ji12)) = 32
        ·
         rw [if_pos c16] at H; (have c16b0 : ((bt x0_2 (ji12)) == 32) = true := beq_iff_eq.mpr c16); (have c16b1 : ((bt x0_2 (ji12)) != 32) = false := bne_eq_false_iff_eq.mpr c16); clear c16; (have c17b0 := eq_true (of_decide_eq_true (by assumption) : 0 ≤ (ji12))); by_cases c18 : (ji12) ≤ (x0_2.size : Int)
         ·
          rw [if_pos c18] at H; (have c18b0 := eq_true c18); (have c18b1 : decide ((ji12) ≤ (x0_2.size : Int)) = true := decide_eq_true c18); clear c18; (have H' := zM H); clear H; (have p15 : 0 ≤ ((ji12) : Int) := of_decide_eq_true (by assumption)); (have q15 : (ji12) < (x0_2.size : Int) := of_decide_eq_true (by assumption)); (have hx15 := bt_at x0_2 (ji12)); (replace p15 := eq_true p15); (replace q15 := eq_true q15); (go_wp2); go_roundg k2
          case measure => have := HJ1.out; have := HK2.out; omega
          case rel => exact ⟨(x0_2.extract 0 ((ji12) : Int).toNat), (by first | rfl | (simp; done) | (simp only [← hji12] <;> (first | rfl | simp)) | (simp [*]; done)), H', ⟨by have := HJ1.out; have := HK2.out; omega⟩, by repeat (first | exact Drawn0.refl _ | apply Drawn0.step)⟩
         ·
          rw [if_neg c18] at H; exact absurd H (by simp)
        ·
         rw [if_neg c16] at H; (have c16b0 : ((bt x0_2 (ji12)) == 32) = false := beq_eq_false_iff_ne.mpr c16); (have c16b1 : ((bt x0_2 (ji12)) != 32) = true := bne_iff_ne.mpr c16); by_cases c20 : (bt x0_2 (ji12)) = 9
         ·
          rw [if_pos c20] at H; (have c20b0 : ((bt x0_2 (ji12)) == 9) = true := beq_iff_eq.mpr c20); (have c20b1 : ((bt x0_2 (ji12)) != 9) = false := bne_eq_false_iff_eq.mpr c20); clear c20; (have c21b0 := eq_true (of_decide_eq_true (by assumption) : 0 ≤ (ji12))); by_cases c22 : (ji12) ≤ (x0_2.size : Int)
          ·
           rw [if_pos c22] at H; (have c22b0 := eq_true c22); (have c22b1 : decide ((ji12) ≤ (x0_2.size : Int)) = true := decide_eq_true c22); clear c22; (have H' := zM H); clear H; (have p15 : 0 ≤ ((ji12) : Int) := of_decide_eq_true (by assumption)); (have q15 : (ji12) < (x0_2.size : Int) := of_decide_eq_true (by assumption)); (have hx15 := bt_at x0_2 (ji12)); (replace p15 := eq_true p15); (replace q15 := eq_true q15); (have p19 : 0 ≤ ((ji12) : Int) := of_decide_eq_true (by assumption)); (have q19 : (ji12) < (x0_2.size : Int) := of_decide_eq_true (by assumption)); (have hx19 := bt_at x0_2 (ji12)); (replace p19 := eq_true p19); (replace q19 := eq_true q19); (go_wp2); go_roundg k2
           case measure => have := HJ1.out; have := HK2.out; omega
           case rel => exact ⟨(x0_2.extract 0 ((ji12) : Int).toNat), (by first | rfl | (simp; done) | (simp only [← hji12] <;> (first | rfl | simp)) | (simp [*]; done)), H', ⟨by have := HJ1.out; have := HK2.out; omega⟩, by repeat (first | exact Drawn0.refl _ | apply Drawn0.step)⟩
          ·
           rw [if_neg c22] at H; exact absurd H (by simp)
         ·
          rw [if_neg c20] at H; (have c20b0 : ((bt x0_2 (ji12)) == 9) = false := beq_eq_false_iff_ne.mpr c20); (have c20b1 : ((bt x0_2 (ji12)) != 9) = true := bne_iff_ne.mpr c20); (obtain rfl := Option.some.inj H); (have p15 : 0 ≤ ((ji12) : Int) := of_decide_eq_true (by assumption)); (have q15 : (ji12) < (x0_2.size : Int) := of_decide_eq_true (by assumption)); (have hx15 := bt_at x0_2 (ji12)); (replace p15 := eq_true p15); (replace q15 := eq_true q15); (have p19 : 0 ≤ ((ji12) : Int) := of_decide_eq_true (by assumption)); (have q19 : (ji12) < (x0_2.size : Int) := of_decide_eq_true (by assumption)); (have hx19 := bt_at x0_2 (ji12)); (replace p19 := eq_true p19); (replace q19 := eq_true q19); (go_wp2); (go_ret); exact ⟨by first | rfl | (simp; done) | (simp only [← hji12] <;> (first | rfl | simp)) | (simp [*]; done), by repeat (first | exact Drawn0.refl _ | apply Drawn0.step)⟩
       ·
        rw [if_neg c14] at H; exact absurd H (by simp)
      ·
       rw [if_neg c13] at H; exact absurd H (by simp)
     ·
      rw [if_neg c11] at H; (have c11b0 : decide (0 < (x0_2.size : Int)) = false := decide_eq_false c11); (have c11b1 : decide (0 < x0_2.size) = false := decide_eq_false (by omega)); clear c11; (obtain rfl := Option.some.inj H); (go_wp2); (go_ret); exact ⟨by first | rfl | (simp; done) | (simp [*]; done), by repeat (first | exact Drawn0.refl _ | apply Drawn0.step)⟩

end Go.Proofs.YtpikebpjlhccbaaGreatDoor.PAll
