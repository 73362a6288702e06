-- Laid by a program of this session (wip/pp in the repo) out of the translation. Lean checks it.
import Derived.Test.YtpikebpjlhccbaaGreatDoorShort
import Derived.Test.YtpikebpjlhccbaaGreatDoorPAllx0
import Derived.Test.YtpikebpjlhccbaaGreatDoorPAllx9
import Derived.Test.YtpikebpjlhccbaaGreatDoorPAllx10
import Derived.Test.YtpikebpjlhccbaaGreatDoorPAllx12
namespace Go.Proofs.YtpikebpjlhccbaaGreatDoor.PAll
open Go.RowKit Go.Proofs.YtpikebpjlhccbaaGreatDoorW.PrintWords Go.Proofs.YtpikebpjlhccbaaGreatDoorW.PrintLast Go.Proofs.YtpikebpjlhccbaaGreatDoorW.PrintMore
attribute [local go_sem] max2_int min2_int max_two min_two max_three min_three max_four min_four   -- for this text's walks alone
set_option linter.unusedVariables false
set_option linter.unusedSimpArgs false

/-! ### pennantref22_ReadRequest: function 11 -/
def pennantref22_ReadRequest.f (k : Nat) (a0 : ByteArray) : Option (ByteArray × ByteArray × ByteArray × ByteArray × ByteArray × Int × Int) := (pennantref22_Read.f k a0 true).bind fun bt211 => (if bt211.2.2.2.2 = 0 then ((pennantref22_Request.f k bt211.1).bind fun bt219 => ((pennantref22_Message_Count.f k bt211.1 bt211.2.1 bt211.2.2.1 bt211.2.2.2.1 (⟨#[104, 111, 115, 116]⟩ : ByteArray)).bind fun bt222 => ((pennantref22_Message_Count.f k bt211.1 bt211.2.1 bt211.2.2.1 bt211.2.2.2.1 (⟨#[99, 111, 110, 116, 101, 110, 116, 45, 116, 121, 112, 101]⟩ : ByteArray)).bind fun bt224 => (some (bt219.1, bt219.2.1, bt222.2, bt224.2, bt211.2.2.1, bt211.2.2.2.1, 0))))) else (some ((⟨#[]⟩ : ByteArray), (⟨#[]⟩ : ByteArray), (⟨#[]⟩ : ByteArray), (⟨#[]⟩ : ByteArray), (⟨#[]⟩ : ByteArray), 0, bt211.2.2.2.2)))
theorem pennantref22_ReadRequest.mono : ∀ a0 k, LeO (pennantref22_ReadRequest.f k a0) (pennantref22_ReadRequest.f (k + 1) a0) := by
 intro a0 k
 unfold pennantref22_ReadRequest.f
 repeat' first
   | (with_reducible exact pennantref22_Message_Count.mono _ _ _ _ _ _)
   | (with_reducible exact pennantref22_Read.mono _ _ _)
   | (with_reducible exact pennantref22_Request.mono _ _)
   | (with_reducible exact LeO.refl _)
   | (with_reducible exact LeO.none _)
   | (with_reducible refine LeO.ite ?_ ?_)
   | (with_reducible refine LeO.bind ?_ (fun _ => ?_))
   | exact pennantref22_Message_Count.mono _ _ _ _ _ _
   | exact pennantref22_Read.mono _ _ _
   | exact pennantref22_Request.mono _ _
   | exact LeO.none _
   | refine LeO.ite ?_ ?_
   | refine LeO.bind ?_ (fun _ => ?_)
def pennantref22_ReadRequest.T7 : Bool × List (List Nat × List Nat) := (true, [([], []), ([], []), ([], []), ([], []), ([], []), ([4], [4]), ([0, 1, 2, 3, 5], [0, 1, 2, 3, 5]), ([], []), ([7], [7]), ([6, 0, 1, 2, 3, 4, 5, 6], [6]), ([8, 9, 0, 1, 2, 3, 4, 5, 6, 7, 8, 9], [8]), ([10, 0, 1, 2, 3, 4, 5, 6, 7, 8, 9, 10], [])])
def pennantref22_ReadRequest.B7 : List Nat := [0, 0, 0, 0, 0, 16, 63, 0, 128, 127, 1023, 2047]
theorem pennantref22_ReadRequest.tab7 : rtab .any (opsOf Tryz.f11 7) = pennantref22_ReadRequest.T7 := by kernel_rfl
theorem pennantref22_ReadRequest.bits7 : waitsOk pennantref22_ReadRequest.T7.2 pennantref22_ReadRequest.B7 = true := by kernel_rfl
set_option maxHeartbeats 8000000 in
set_option maxRecDepth 100000 in
theorem pennantref22_ReadRequest.calls (k : Nat) (a0 : ByteArray) (r1 : ByteArray) (r2 : ByteArray) (r3 : ByteArray) (r4 : ByteArray) (r5 : ByteArray) (r6 : Int) (r7 : Int) (w : World) (h : pennantref22_ReadRequest.f k a0 = some (r1, r2, r3, r4, r5, r6, r7)) :
  Calls Tryz.prog 11 #[.string a0] w fun e w' => e = .returned (.tuple #[.agg #[.string r1, .string r2, .string r3, .string r4, .string r5], .int .i64 r6, .int .i64 r7]) ∧ Below w.heap.size w w' := by
 have hu24 := Tryz.underlying24
 have hu65 := Tryz.underlying65
 have HB := zM (Below.refl w.heap.size w)
 have H : ((pennantref22_Read.f k a0 true).bind fun bt211 => (if bt211.2.2.2.2 = 0 then ((pennantref22_Request.f k bt211.1).bind fun bt219 => ((pennantref22_Message_Count.f k bt211.1 bt211.2.1 bt211.2.2.1 bt211.2.2.2.1 (⟨#[104, 111, 115, 116]⟩ : ByteArray)).bind fun bt222 => ((pennantref22_Message_Count.f k bt211.1 bt211.2.1 bt211.2.2.1 bt211.2.2.2.1 (⟨#[99, 111, 110, 116, 101, 110, 116, 45, 116, 121, 112, 101]⟩ : ByteArray)).bind fun bt224 => (some (bt219.1, bt219.2.1, bt222.2, bt224.2, bt211.2.2.1, bt211.2.2.2.1, 0))))) else (some ((⟨#[]⟩ : ByteArray), (⟨#[]⟩ : ByteArray), (⟨#[]⟩ : ByteArray), (⟨#[]⟩ : ByteArray), (⟨#[]⟩ : ByteArray), 0, bt211.2.2.2.2)))) = some (r1, r2, r3, r4, r5, r6, r7) := h
 clear h
 replace H := Option.bind_eq_some_iff.mp H
 obtain ⟨⟨t211, t212, t215, t216, t217⟩, A20, H⟩ := H
 replace H : (if t217 = 0 then ((pennantref22_Request.f k t211).bind fun bt219 => ((pennantref22_Message_Count.f k t211 t212 t215 t216 (⟨#[104, 111, 115, 116]⟩ : ByteArray)).bind fun bt222 => ((pennantref22_Message_Count.f k t211 t212 t215 t216 (⟨#[99, 111, 110, 116, 101, 110, 116, 45, 116, 121, 112, 101]⟩ : ByteArray)).bind fun bt224 => (some (bt219.1, bt219.2.1, bt222.2, bt224.2, t215, t216, 0))))) else (some ((⟨#[]⟩ : ByteArray), (⟨#[]⟩ : ByteArray), (⟨#[]⟩ : ByteArray), (⟨#[]⟩ : ByteArray), (⟨#[]⟩ : ByteArray), 0, t217))) = some (r1, r2, r3, r4, r5, r6, r7) := H
 have A2 := zM A20
 clear A20
 by_cases c3 : t217 = 0
 ·
  rw [if_pos c3] at H
  have c3b0 : (t217 == 0) = true := beq_iff_eq.mpr c3
  have c3b1 : (t217 != 0) = false := bne_eq_false_iff_eq.mpr c3
  clear c3
  replace H := Option.bind_eq_some_iff.mp H
  obtain ⟨⟨t219, t220, t221⟩, A40, H⟩ := H
  replace H : ((pennantref22_Message_Count.f k t211 t212 t215 t216 (⟨#[104, 111, 115, 116]⟩ : ByteArray)).bind fun bt222 => ((pennantref22_Message_Count.f k t211 t212 t215 t216 (⟨#[99, 111, 110, 116, 101, 110, 116, 45, 116, 121, 112, 101]⟩ : ByteArray)).bind fun bt224 => (some (t219, t220, bt222.2, bt224.2, t215, t216, 0)))) = some (r1, r2, r3, r4, r5, r6, r7) := H
  have A4 := zM A40
  clear A40
  replace H := Option.bind_eq_some_iff.mp H
  obtain ⟨⟨t222, t223⟩, A50, H⟩ := H
  replace H : ((pennantref22_Message_Count.f k t211 t212 t215 t216 (⟨#[99, 111, 110, 116, 101, 110, 116, 45, 116, 121, 112, 101]⟩ : ByteArray)).bind fun bt224 => (some (t219, t220, t223, bt224.2, t215, t216, 0))) = some (r1, r2, r3, r4, r5, r6, r7) := H
  have A5 := zM A50
  clear A50
  replace H := Option.bind_eq_some_iff.mp H
  obtain ⟨⟨t224, t225⟩, A60, H⟩ := H
  replace H : (some (t219, t220, t223, t225, t215, t216, 0)) = some (r1, r2, r3, r4, r5, r6, r7) := H
  have A6 := zM A60
  clear A60
  simp only [Option.some.injEq, Prod.mk.injEq] at H
  obtain ⟨rfl, rfl, rfl, rfl, rfl, rfl, rfl⟩ := H
  go_enter Tryz.func11, Tryz.ntmps11
  try go_wp2_with (first | ((with_reducible refine gate_dst (N := 2) rfl ?_); refine box_event ?hg (N := 2) ?hd (cs := #[.string (⟨#[]⟩ : ByteArray), .string (⟨#[]⟩ : ByteArray), .string (⟨#[]⟩ : ByteArray), .string (⟨#[]⟩ : ByteArray), .string (⟨#[]⟩ : ByteArray)]) (t := 24) ?hr ?_; (case hd => rfl); (case hg => rfl); (case hr => first | (go_simp; done) | (go_simp; rfl)); intro gb210 hg w7 hbox hb; have n0_ := zM (below_step (by repeat (first | (with_reducible first | exact HB.out | apply below_alloc | apply pw_below_drewN | apply below_drew1) | exact HB.out)) hb); have n1_ := zM (hbox); have n2_ := zM ((by rw [hg]; exact (below_size (by repeat (first | (with_reducible first | exact HB.out | apply below_alloc | apply pw_below_drewN | apply below_drew1) | exact HB.out))) : w.heap.size ≤ gb210)); have n3_ := zM ((by rw [hg]; exact (below_size (by repeat (first | (with_reducible first | exact HB.out | apply below_alloc | apply pw_below_drewN | apply below_drew1) | exact HB.out))) : w.heap.size ≤ gb210)); clear HB; have HB := n0_; have BK210 := n1_; have GW210 := n2_; have GE210 := n3_; clear n0_ n1_ n2_ n3_; clear hb hbox hg) | ((with_reducible refine gate_callee (f := 23) rfl ?_); refine goesL_ (some 16) rfl rfl Tryz.func23 (by kernel_rfl) rfl #[.string a0, .bool true] rfl (by (try simp only [zL]); first | done | rfl) ?_; (with_reducible refine (pennantref22_Read.calls k a0 true t211 t212 t215 t216 t217 _ A2.out).mono ?_); rintro e w8 ⟨v213, rfl, ho0, hb⟩; refine ⟨_, rfl, ?_⟩; have n0_ := zM (Kd.R_lower ho0 (below_size (by repeat (first | (with_reducible first | exact HB.out | apply below_alloc | apply pw_below_drewN | apply below_drew1 | refine below_set ?_ GE210.out) | exact HB.out)))); have n1_ := zM (blk_below (g := gb210) (o := .cells #[.string (⟨#[]⟩ : ByteArray), .string (⟨#[]⟩ : ByteArray), .string (⟨#[]⟩ : ByteArray), .string (⟨#[]⟩ : ByteArray), .string (⟨#[]⟩ : ByteArray)] 24 (0, 0)) (by (with_reducible repeat (first | refine blk_drewN ?_ _ | refine blk_drew ?_ | refine blk_alloc ?_ _)); exact BK210.out) hb); have n2_ := zM (below_step (by repeat (first | (with_reducible first | exact HB.out | apply below_alloc | apply pw_below_drewN | apply below_drew1 | refine below_set ?_ GE210.out) | exact HB.out)) hb); clear BK210; clear HB; have HO214 := n0_; have BK210 := n1_; have HB := n2_; clear n0_ n1_ n2_; (try clear hb); (try clear hb2); (try clear hk); (try clear hi); (try clear ho0)) | ((with_reducible refine gate_dst (N := 5) rfl ?_); refine box_event ?hg (N := 5) ?hd (cs := #[.string (⟨#[]⟩ : ByteArray), .slice none 0 0, .string (⟨#[]⟩ : ByteArray), .int .i64 0]) (t := 65) ?hr ?_; (case hd => rfl); (case hg => rfl); (case hr => first | (go_simp; done) | (go_simp; rfl)); intro gb218 hg w9 hbox hb; have n0_ := zM (Kd.R_below (by (with_reducible repeat (first | apply Kd.R_alloc | apply Kd.R_drewN | apply Kd.R_drew)); exact HO214.out) hb); have n1_ := zM (blk_below (g := gb210) (o := .cells #[.string (⟨#[]⟩ : ByteArray), .string (⟨#[]⟩ : ByteArray), .string (⟨#[]⟩ : ByteArray), .string (⟨#[]⟩ : ByteArray), .string (⟨#[]⟩ : ByteArray)] 24 (0, 0)) (by (with_reducible repeat (first | refine blk_drewN ?_ _ | refine blk_drew ?_ | refine blk_alloc ?_ _)); exact BK210.out) hb); have n2_ := zM (below_step (by repeat (first | (with_reducible first | exact HB.out | apply below_alloc | apply pw_below_drewN | apply below_drew1 | refine below_set ?_ GE210.out) | exact HB.out)) hb); have n3_ := zM (hbox); have n4_ := zM ((by rw [hg]; exact (below_size (by repeat (first | (with_reducible first | exact HB.out | apply below_alloc | apply pw_below_drewN | apply below_drew1 | refine below_set ?_ GE210.out) | exact HB.out))) : w.heap.size ≤ gb218)); have n5_ := zM ((by rw [hg]; exact (below_size (by repeat (first | (with_reducible first | exact HB.out | apply below_alloc | apply pw_below_drewN | apply below_drew1 | refine below_set ?_ GE210.out) | exact HB.out))) : w.heap.size ≤ gb218)); have n6_ := zM ((by rw [hg]; exact Nat.ne_of_lt (blk_lt (g := gb210) (o := .cells #[.string (⟨#[]⟩ : ByteArray), .string (⟨#[]⟩ : ByteArray), .string (⟨#[]⟩ : ByteArray), .string (⟨#[]⟩ : ByteArray), .string (⟨#[]⟩ : ByteArray)] 24 (0, 0)) (by (with_reducible repeat (first | refine blk_drewN ?_ _ | refine blk_drew ?_ | refine blk_alloc ?_ _)); exact BK210.out)) : gb210 ≠ gb218)); have n7_ := zM ((by rw [hg]; exact Nat.ne_of_gt (blk_lt (g := gb210) (o := .cells #[.string (⟨#[]⟩ : ByteArray), .string (⟨#[]⟩ : ByteArray), .string (⟨#[]⟩ : ByteArray), .string (⟨#[]⟩ : ByteArray), .string (⟨#[]⟩ : ByteArray)] 24 (0, 0)) (by (with_reducible repeat (first | refine blk_drewN ?_ _ | refine blk_drew ?_ | refine blk_alloc ?_ _)); exact BK210.out)) : gb218 ≠ gb210)); clear HO214; clear BK210; clear HB; have HO214 := n0_; have BK210 := n1_; have HB := n2_; have BK218 := n3_; have GW218 := n4_; have GE218 := n5_; have NB210_218 := n6_; have NB218_210 := n7_; clear n0_ n1_ n2_ n3_ n4_ n5_ n6_ n7_; clear hb hbox hg; have hnb10 := NB218_210.out; have hnc10 := NB210_218.out; have hcz11_0 : w9.cell? ⟨gb218, 0, none⟩ = some (.string (⟨#[]⟩ : ByteArray)) := (blk_cell BK218.out 0).trans rfl; have hcz11_1 : w9.cell? ⟨gb218, 1, none⟩ = some (.slice none 0 0) := (blk_cell BK218.out 1).trans rfl; have hcz11_2 : w9.cell? ⟨gb218, 2, none⟩ = some (.string (⟨#[]⟩ : ByteArray)) := (blk_cell BK218.out 2).trans rfl; have hcz11_3 : w9.cell? ⟨gb218, 3, none⟩ = some (.int .i64 0) := (blk_cell BK218.out 3).trans rfl; have hfz11_0 := blk_frozen BK218.out 0; have hfz11_1 := blk_frozen BK218.out 1; have hfz11_2 := blk_frozen BK218.out 2; have hfz11_3 := blk_frozen BK218.out 3; obtain ⟨Ao12, co12, eo12⟩ := Kd.R_slice HO214.out; subst eo12) | ((with_reducible refine gate_callee (f := 24) rfl ?_); refine goesL_ (some 26) rfl rfl Tryz.func24 (by kernel_rfl) rfl #[.string t211] rfl (by (try simp only [zL]); first | done | rfl) ?_; (with_reducible refine (pennantref22_Request.calls k t211 t219 t220 t221 _ A4.out).mono ?_); rintro e w13 ⟨rfl, hb⟩; refine ⟨_, rfl, ?_⟩; have n0_ := zM (Kd.R_below (by (with_reducible repeat (first | apply Kd.R_alloc | apply Kd.R_drewN | apply Kd.R_drew)); exact (Kd.R_mono (Kd.R_far (p := ⟨gb218, 3, none⟩) (Kd.R_far (p := ⟨gb218, 2, none⟩) (Kd.R_far (p := ⟨gb218, 1, none⟩) (Kd.R_far (p := ⟨gb218, 0, none⟩) (Kd.R_types HO214.out BK218.out (by decide)) (fun _ hk => hk.2) (.string t211)) (fun _ hk => hk.2) (.slice Ao12 t212.length co12)) (fun _ hk => hk.2) (.string t215)) (fun _ hk => hk.2) (.int .i64 t216)) (fun _ h_ => h_.1))) hb); have n1_ := zM (blk_below (g := gb210) (o := .cells #[.string (⟨#[]⟩ : ByteArray), .string (⟨#[]⟩ : ByteArray), .string (⟨#[]⟩ : ByteArray), .string (⟨#[]⟩ : ByteArray), .string (⟨#[]⟩ : ByteArray)] 24 (0, 0)) (by (with_reducible repeat (first | refine blk_drewN ?_ _ | refine blk_drew ?_ | refine blk_alloc ?_ _)); refine blk_far ?_ NB210_218.out _; (with_reducible repeat (first | refine blk_drewN ?_ _ | refine blk_drew ?_ | refine blk_alloc ?_ _)); refine blk_far ?_ NB210_218.out _; (with_reducible repeat (first | refine blk_drewN ?_ _ | refine blk_drew ?_ | refine blk_alloc ?_ _)); refine blk_far ?_ NB210_218.out _; (with_reducible repeat (first | refine blk_drewN ?_ _ | refine blk_drew ?_ | refine blk_alloc ?_ _)); refine blk_far ?_ NB210_218.out _; (with_reducible repeat (first | refine blk_drewN ?_ _ | refine blk_drew ?_ | refine blk_alloc ?_ _)); exact BK210.out) hb); have n2_ := zM (blk_below (g := gb218) (o := .cells #[.string t211, .slice Ao12 t212.length co12, .string t215, .int .i64 t216] 65 (0, 0)) (by (with_reducible repeat (first | refine blk_drewN ?_ _ | refine blk_drew ?_ | refine blk_alloc ?_ _)); refine blk_put (cs := #[.string t211, .slice Ao12 t212.length co12, .string t215, .int .i64 0]) ?_ 3 _ rfl; (with_reducible repeat (first | refine blk_drewN ?_ _ | refine blk_drew ?_ | refine blk_alloc ?_ _)); refine blk_put (cs := #[.string t211, .slice Ao12 t212.length co12, .string (⟨#[]⟩ : ByteArray), .int .i64 0]) ?_ 2 _ rfl; (with_reducible repeat (first | refine blk_drewN ?_ _ | refine blk_drew ?_ | refine blk_alloc ?_ _)); refine blk_put (cs := #[.string t211, .slice none 0 0, .string (⟨#[]⟩ : ByteArray), .int .i64 0]) ?_ 1 _ rfl; (with_reducible repeat (first | refine blk_drewN ?_ _ | refine blk_drew ?_ | refine blk_alloc ?_ _)); refine blk_put (cs := #[.string (⟨#[]⟩ : ByteArray), .slice none 0 0, .string (⟨#[]⟩ : ByteArray), .int .i64 0]) ?_ 0 _ rfl; (with_reducible repeat (first | refine blk_drewN ?_ _ | refine blk_drew ?_ | refine blk_alloc ?_ _)); exact BK218.out) hb); have n3_ := zM (below_step (by repeat (first | (with_reducible first | exact HB.out | apply below_alloc | apply pw_below_drewN | apply below_drew1 | refine below_set ?_ GE210.out | refine below_set ?_ GE218.out) | exact HB.out)) hb); clear HO214; clear BK210; clear BK218; clear HB; have HO214 := n0_; have BK210 := n1_; have BK218 := n2_; have HB := n3_; clear n0_ n1_ n2_ n3_; (try clear hb); (try clear hb2); (try clear hk); (try clear hi); have hcz14_0 : w13.cell? ⟨gb218, 0, none⟩ = some (.string t211) := (blk_cell BK218.out 0).trans rfl; have hcz14_1 : w13.cell? ⟨gb218, 1, none⟩ = some (.slice Ao12 t212.length co12) := (blk_cell BK218.out 1).trans rfl; have hcz14_2 : w13.cell? ⟨gb218, 2, none⟩ = some (.string t215) := (blk_cell BK218.out 2).trans rfl; have hcz14_3 : w13.cell? ⟨gb218, 3, none⟩ = some (.int .i64 t216) := (blk_cell BK218.out 3).trans rfl; have hfz14_0 := blk_frozen BK218.out 0; have hfz14_1 := blk_frozen BK218.out 1; have hfz14_2 := blk_frozen BK218.out 2; have hfz14_3 := blk_frozen BK218.out 3) | ((with_reducible refine gate_callee (f := 25) rfl ?_); refine goesL_ (some 32) rfl rfl Tryz.func25 (by kernel_rfl) rfl #[.agg #[.string t211, .slice Ao12 t212.length co12, .string t215, .int .i64 t216], .string (⟨#[104, 111, 115, 116]⟩ : ByteArray)] rfl (by (try simp only [zL]); first | done | rfl) ?_; (with_reducible refine (pennantref22_Message_Count.calls k t211 _ _ t212 t215 t216 (⟨#[104, 111, 115, 116]⟩ : ByteArray) t222 t223 _ ?side1 ?side2 A5.out).mono ?_); (case side1 => repeat (first | exact (Kd.R_reads' HO214.out).2.2 | (with_reducible refine Kd.C_alloc ?_ _) | (with_reducible refine Kd.C_drewN ?_ _) | (with_reducible refine Kd.C_drew ?_))); (case side2 => exact (Kd.R_reads' HO214.out).2.1); rintro e w15 ⟨rfl, hb⟩; refine ⟨_, rfl, ?_⟩; have n0_ := zM (Kd.R_below (by (with_reducible repeat (first | apply Kd.R_alloc | apply Kd.R_drewN | apply Kd.R_drew)); exact HO214.out) hb); have n1_ := zM (blk_below (g := gb210) (o := .cells #[.string (⟨#[]⟩ : ByteArray), .string (⟨#[]⟩ : ByteArray), .string (⟨#[]⟩ : ByteArray), .string (⟨#[]⟩ : ByteArray), .string (⟨#[]⟩ : ByteArray)] 24 (0, 0)) (by (with_reducible repeat (first | refine blk_drewN ?_ _ | refine blk_drew ?_ | refine blk_alloc ?_ _)); exact BK210.out) hb); have n2_ := zM (blk_below (g := gb218) (o := .cells #[.string t211, .slice Ao12 t212.length co12, .string t215, .int .i64 t216] 65 (0, 0)) (by (with_reducible repeat (first | refine blk_drewN ?_ _ | refine blk_drew ?_ | refine blk_alloc ?_ _)); exact BK218.out) hb); have n3_ := zM (below_step (by repeat (first | (with_reducible first | exact HB.out | apply below_alloc | apply pw_below_drewN | apply below_drew1 | refine below_set ?_ GE210.out | refine below_set ?_ GE218.out) | exact HB.out)) hb); clear HO214; clear BK210; clear BK218; clear HB; have HO214 := n0_; have BK210 := n1_; have BK218 := n2_; have HB := n3_; clear n0_ n1_ n2_ n3_; (try clear hb); (try clear hb2); (try clear hk); (try clear hi); have hcz16_0 : w15.cell? ⟨gb218, 0, none⟩ = some (.string t211) := (blk_cell BK218.out 0).trans rfl; have hcz16_1 : w15.cell? ⟨gb218, 1, none⟩ = some (.slice Ao12 t212.length co12) := (blk_cell BK218.out 1).trans rfl; have hcz16_2 : w15.cell? ⟨gb218, 2, none⟩ = some (.string t215) := (blk_cell BK218.out 2).trans rfl; have hcz16_3 : w15.cell? ⟨gb218, 3, none⟩ = some (.int .i64 t216) := (blk_cell BK218.out 3).trans rfl; have hfz16_0 := blk_frozen BK218.out 0; have hfz16_1 := blk_frozen BK218.out 1; have hfz16_2 := blk_frozen BK218.out 2; have hfz16_3 := blk_frozen BK218.out 3) | ((with_reducible refine gate_callee (f := 25) rfl ?_); refine goesL_ (some 37) rfl rfl Tryz.func25 (by kernel_rfl) rfl #[.agg #[.string t211, .slice Ao12 t212.length co12, .string t215, .int .i64 t216], .string (⟨#[99, 111, 110, 116, 101, 110, 116, 45, 116, 121, 112, 101]⟩ : ByteArray)] rfl (by (try simp only [zL]); first | done | rfl) ?_; (with_reducible refine (pennantref22_Message_Count.calls k t211 _ _ t212 t215 t216 (⟨#[99, 111, 110, 116, 101, 110, 116, 45, 116, 121, 112, 101]⟩ : ByteArray) t224 t225 _ ?side1 ?side2 A6.out).mono ?_); (case side1 => repeat (first | exact (Kd.R_reads' HO214.out).2.2 | (with_reducible refine Kd.C_alloc ?_ _) | (with_reducible refine Kd.C_drewN ?_ _) | (with_reducible refine Kd.C_drew ?_))); (case side2 => exact (Kd.R_reads' HO214.out).2.1); rintro e w17 ⟨rfl, hb⟩; refine ⟨_, rfl, ?_⟩; have n0_ := zM (Kd.R_below (by (with_reducible repeat (first | apply Kd.R_alloc | apply Kd.R_drewN | apply Kd.R_drew)); exact HO214.out) hb); have n1_ := zM (blk_below (g := gb210) (o := .cells #[.string (⟨#[]⟩ : ByteArray), .string (⟨#[]⟩ : ByteArray), .string (⟨#[]⟩ : ByteArray), .string (⟨#[]⟩ : ByteArray), .string (⟨#[]⟩ : ByteArray)] 24 (0, 0)) (by (with_reducible repeat (first | refine blk_drewN ?_ _ | refine blk_drew ?_ | refine blk_alloc ?_ _)); exact BK210.out) hb); have n2_ := zM (blk_below (g := gb218) (o := .cells #[.string t211, .slice Ao12 t212.length co12, .string t215, .int .i64 t216] 65 (0, 0)) (by (with_reducible repeat (first | refine blk_drewN ?_ _ | refine blk_drew ?_ | refine blk_alloc ?_ _)); exact BK218.out) hb); have n3_ := zM (below_step (by repeat (first | (with_reducible first | exact HB.out | apply below_alloc | apply pw_below_drewN | apply below_drew1 | refine below_set ?_ GE210.out | refine below_set ?_ GE218.out) | exact HB.out)) hb); clear HO214; clear BK210; clear BK218; clear HB; have HO214 := n0_; have BK210 := n1_; have BK218 := n2_; have HB := n3_; clear n0_ n1_ n2_ n3_; (try clear hb); (try clear hb2); (try clear hk); (try clear hi)))
  have n0_ := zM (Kd.R_drew HO214.out)
  have n1_ := zM (blk_drew BK210.out)
  have n2_ := zM (blk_drew BK218.out)
  have n3_ := zM (below_drew1 HB.out)
  clear HO214
  clear BK210
  clear BK218
  clear HB
  have HO214 := n0_
  have BK210 := n1_
  have BK218 := n2_
  have HB := n3_
  clear n0_ n1_ n2_ n3_
  refine start_ (n := 12) (S := fun w' => w'.cell? ⟨gb218, 0, none⟩ = some (.string t211) ∧ w'.cell? ⟨gb218, 1, none⟩ = some (.slice Ao12 t212.length co12) ∧ w'.cell? ⟨gb218, 2, none⟩ = some (.string t215) ∧ w'.cell? ⟨gb218, 3, none⟩ = some (.int .i64 t216)) (ds := []) #[false, false, false, false, false, false, false, false, false, false, false, false] (by kernel_rfl) rfl rfl ⟨(blk_cell BK218.out 0).trans rfl, (blk_cell BK218.out 1).trans rfl, (blk_cell BK218.out 2).trans rfl, (blk_cell BK218.out 3).trans rfl⟩ (fun hHeld => ?_); refine with_tabW pennantref22_ReadRequest.tab7 pennantref22_ReadRequest.bits7 (fun HT_ HW_ => ?_)
  generalize w17.drew = w18 at HO214 BK210 BK218 HB hHeld ⊢
  refine pure_ (i := 0) (N := some 40) (v := ?_) (a' := ?_) #[true, false, false, false, false, false, false, false, false, false, false, false] rfl rfl (any_of HT_.out (by kernel_rfl)) (fun _ _ _ h => h) (Or.inl ⟨by rfl, ?_⟩) ?_ ?_
  rotate_left
  ·
   intro w'
   go_simp
   with_reducible rfl
  rotate_left
  ·
   simp only [Act.put, zS, zI]
   rfl
  refine pure_ (i := 1) (N := some 41) (v := ?_) (a' := ?_) #[true, true, false, false, false, false, false, false, false, false, false, false] rfl rfl (any_of HT_.out (by kernel_rfl)) (fun _ _ _ h => h) (Or.inl ⟨by rfl, ?_⟩) ?_ ?_
  rotate_left
  ·
   intro w'
   go_simp
   with_reducible rfl
  rotate_left
  ·
   simp only [Act.put, zS, zI]
   rfl
  refine pure_ (i := 2) (N := some 42) (v := ?_) (a' := ?_) #[true, true, true, false, false, false, false, false, false, false, false, false] rfl rfl (any_of HT_.out (by kernel_rfl)) (fun _ _ _ h => h) (Or.inl ⟨by rfl, ?_⟩) ?_ ?_
  rotate_left
  ·
   intro w'
   go_simp
   with_reducible rfl
  rotate_left
  ·
   simp only [Act.put, zS, zI]
   rfl
  refine pure_ (i := 3) (N := some 43) (v := ?_) (a' := ?_) #[true, true, true, true, false, false, false, false, false, false, false, false] rfl rfl (any_of HT_.out (by kernel_rfl)) (fun _ _ _ h => h) (Or.inl ⟨by rfl, ?_⟩) ?_ ?_
  rotate_left
  ·
   intro w'
   go_simp
   with_reducible rfl
  rotate_left
  ·
   simp only [Act.put, zS, zI]
   rfl
  refine pure_ (i := 4) (N := some 44) (v := ?_) (a' := ?_) #[true, true, true, true, true, false, false, false, false, false, false, false] rfl rfl (any_of HT_.out (by kernel_rfl)) (fun _ _ _ h => h) (Or.inl ⟨by rfl, ?_⟩) ?_ ?_
  rotate_left
  ·
   intro w'
   go_simp
   with_reducible rfl
  rotate_left
  ·
   simp only [Act.put, zS, zI]
   rfl
  refine pure_ (i := 7) (N := some 47) (v := ?_) (a' := ?_) #[true, true, true, true, true, false, false, true, false, false, false, false] rfl rfl (any_of HT_.out (by kernel_rfl)) (fun _ _ _ h => h) (Or.inl ⟨by rfl, ?_⟩) ?_ ?_
  rotate_left
  ·
   intro w'
   go_simp
   with_reducible rfl
  rotate_left
  ·
   simp only [Act.put, zS, zI]
   rfl
  refine take_ (i := 5) (N := some 45) (v := ?_) (a' := ?_) #[true, true, true, true, true, true, false, true, false, false, false, false] rfl rfl (take_ofW HT_.out HW_.out (by kernel_rfl)) (fun _ _ _ h => h) (Or.inl ⟨by rfl, ?_⟩) hHeld ?_ ?_
  rotate_left
  ·
   rintro w' ⟨s0, s1, s2, s3⟩
   go_simp
   with_reducible rfl
  rotate_left
  ·
   simp only [Act.put, zS, zI]
   rfl
  refine pure_ (i := 6) (N := some 46) (v := ?_) (a' := ?_) #[true, true, true, true, true, true, true, true, false, false, false, false] rfl rfl (any_of HT_.out (by kernel_rfl)) (fun _ _ _ h => h) (Or.inl ⟨by rfl, ?_⟩) ?_ ?_
  rotate_left
  ·
   intro w'
   go_simp
   with_reducible rfl
  rotate_left
  ·
   simp only [Act.put, zS, zI]
   rfl
  refine take_ (i := 8) (N := some 48) (v := ?_) (a' := ?_) #[true, true, true, true, true, true, true, true, true, false, false, false] rfl rfl (take_ofW HT_.out HW_.out (by kernel_rfl)) (fun _ _ _ h => h) (Or.inl ⟨by rfl, ?_⟩) hHeld ?_ ?_
  rotate_left
  ·
   rintro w' ⟨s0, s1, s2, s3⟩
   go_simp
   with_reducible rfl
  rotate_left
  ·
   simp only [Act.put, zS, zI]
   rfl
  refine one_ (i := 9) (N := none) #[true, true, true, true, true, true, true, true, true, true, false, false] rfl rfl (one_of HT_.out (by kernel_rfl)) (by decide) (fun K hK => ?_)
  have hs19 : w18.cell? ⟨gb210, 0, none⟩ = some (.string (⟨#[]⟩ : ByteArray)) := (blk_cell BK210.out 0).trans rfl
  have hfs19 := blk_frozen BK210.out 0
  have hns19_1 := NB218_210.out
  have hms19_1 := NB210_218.out
  have hs20 : w18.cell? ⟨gb210, 1, none⟩ = some (.string (⟨#[]⟩ : ByteArray)) := (blk_cell BK210.out 1).trans rfl
  have hfs20 := blk_frozen BK210.out 1
  have hns20_1 := NB218_210.out
  have hms20_1 := NB210_218.out
  have hs21 : w18.cell? ⟨gb210, 2, none⟩ = some (.string (⟨#[]⟩ : ByteArray)) := (blk_cell BK210.out 2).trans rfl
  have hfs21 := blk_frozen BK210.out 2
  have hns21_1 := NB218_210.out
  have hms21_1 := NB210_218.out
  have hs22 : w18.cell? ⟨gb210, 3, none⟩ = some (.string (⟨#[]⟩ : ByteArray)) := (blk_cell BK210.out 3).trans rfl
  have hfs22 := blk_frozen BK210.out 3
  have hns22_1 := NB218_210.out
  have hms22_1 := NB210_218.out
  have hs23 : w18.cell? ⟨gb210, 4, none⟩ = some (.string (⟨#[]⟩ : ByteArray)) := (blk_cell BK210.out 4).trans rfl
  have hfs23 := blk_frozen BK210.out 4
  have hns23_1 := NB218_210.out
  have hms23_1 := NB210_218.out
  refine skip_ (w1 := ?_) (by rfl) rfl ?_ ?_
  rotate_left
  ·
   go_simp
   rfl
  refine hK.out _ _ ⟨((cell_far (p := ⟨gb210, _, none⟩) NB218_210.out _).trans (((cell_far (p := ⟨gb210, _, none⟩) NB218_210.out _).trans (((cell_far (p := ⟨gb210, _, none⟩) NB218_210.out _).trans (((cell_far (p := ⟨gb210, _, none⟩) NB218_210.out _).trans (((cell_far (p := ⟨gb210, _, none⟩) NB218_210.out _).trans (hHeld.1)))))))))), ((cell_far (p := ⟨gb210, _, none⟩) NB218_210.out _).trans (((cell_far (p := ⟨gb210, _, none⟩) NB218_210.out _).trans (((cell_far (p := ⟨gb210, _, none⟩) NB218_210.out _).trans (((cell_far (p := ⟨gb210, _, none⟩) NB218_210.out _).trans (((cell_far (p := ⟨gb210, _, none⟩) NB218_210.out _).trans (hHeld.2.1)))))))))), ((cell_far (p := ⟨gb210, _, none⟩) NB218_210.out _).trans (((cell_far (p := ⟨gb210, _, none⟩) NB218_210.out _).trans (((cell_far (p := ⟨gb210, _, none⟩) NB218_210.out _).trans (((cell_far (p := ⟨gb210, _, none⟩) NB218_210.out _).trans (((cell_far (p := ⟨gb210, _, none⟩) NB218_210.out _).trans (hHeld.2.2.1)))))))))), ((cell_far (p := ⟨gb210, _, none⟩) NB218_210.out _).trans (((cell_far (p := ⟨gb210, _, none⟩) NB218_210.out _).trans (((cell_far (p := ⟨gb210, _, none⟩) NB218_210.out _).trans (((cell_far (p := ⟨gb210, _, none⟩) NB218_210.out _).trans (((cell_far (p := ⟨gb210, _, none⟩) NB218_210.out _).trans (hHeld.2.2.2))))))))))⟩ (fun hHeld => ?_)
  clear hK K
  refine pure_ (i := 10) (N := some 3) (v := ?_) (a' := ?_) #[true, true, true, true, true, true, true, true, true, true, true, false] rfl rfl (any_of HT_.out (by kernel_rfl)) (fun _ _ _ h => h) (Or.inl ⟨by rfl, ?_⟩) ?_ ?_
  rotate_left
  ·
   intro w'
   go_simp
   with_reducible rfl
  rotate_left
  ·
   simp only [Act.put, zS, zI]
   rfl
  refine pure_ (i := 11) (N := some 4) (v := ?_) (a' := ?_) #[true, true, true, true, true, true, true, true, true, true, true, true] rfl rfl (any_of HT_.out (by kernel_rfl)) (fun _ _ _ h => h) (Or.inl ⟨by rfl, ?_⟩) ?_ ?_
  rotate_left
  ·
   intro w'
   go_simp
   with_reducible rfl
  rotate_left
  ·
   simp only [Act.put, zS, zI]
   rfl
  refine done_ (done_of HT_.out (by kernel_rfl)) ?_
  try go_wp2
  refine bodyPost_ret (results_ctt rfl _ _ gb210 24 #[.string t219, .string t220, .string t223, .string t225, .string t215] (0, 0) _ rfl (by (with_reducible repeat (first | refine blk_drewN ?_ _ | refine blk_drew ?_ | refine blk_alloc ?_ _)); refine blk_put (cs := #[.string t219, .string t220, .string t223, .string t225, .string (⟨#[]⟩ : ByteArray)]) ?_ 4 _ rfl; (with_reducible repeat (first | refine blk_drewN ?_ _ | refine blk_drew ?_ | refine blk_alloc ?_ _)); refine blk_put (cs := #[.string t219, .string t220, .string t223, .string (⟨#[]⟩ : ByteArray), .string (⟨#[]⟩ : ByteArray)]) ?_ 3 _ rfl; (with_reducible repeat (first | refine blk_drewN ?_ _ | refine blk_drew ?_ | refine blk_alloc ?_ _)); refine blk_put (cs := #[.string t219, .string t220, .string (⟨#[]⟩ : ByteArray), .string (⟨#[]⟩ : ByteArray), .string (⟨#[]⟩ : ByteArray)]) ?_ 2 _ rfl; (with_reducible repeat (first | refine blk_drewN ?_ _ | refine blk_drew ?_ | refine blk_alloc ?_ _)); refine blk_put (cs := #[.string t219, .string (⟨#[]⟩ : ByteArray), .string (⟨#[]⟩ : ByteArray), .string (⟨#[]⟩ : ByteArray), .string (⟨#[]⟩ : ByteArray)]) ?_ 1 _ rfl; (with_reducible repeat (first | refine blk_drewN ?_ _ | refine blk_drew ?_ | refine blk_alloc ?_ _)); refine blk_put (cs := #[.string (⟨#[]⟩ : ByteArray), .string (⟨#[]⟩ : ByteArray), .string (⟨#[]⟩ : ByteArray), .string (⟨#[]⟩ : ByteArray), .string (⟨#[]⟩ : ByteArray)]) ?_ 0 _ rfl; (with_reducible repeat (first | refine blk_drewN ?_ _ | refine blk_drew ?_ | refine blk_alloc ?_ _)); exact BK210.out) Tryz.underlying24 rfl (by kernel_rfl)) rfl ?_
  exact ⟨by first | rfl | (simp [errW_none, errW_some] <;> rfl) | (simp [*, errW_none, errW_some] <;> rfl), by repeat (first | (with_reducible first | exact HB.out | apply below_alloc | apply pw_below_drewN | apply below_drew1 | refine below_set ?_ GE210.out | refine below_set ?_ GE218.out) | exact HB.out)⟩
 ·
  rw [if_neg c3] at H
  have c3b0 : (t217 == 0) = false := beq_eq_false_iff_ne.mpr c3
  have c3b1 : (t217 != 0) = true := bne_iff_ne.mpr c3
  simp only [Option.some.injEq, Prod.mk.injEq] at H
  obtain ⟨rfl, rfl, rfl, rfl, rfl, rfl, rfl⟩ := H
  go_enter Tryz.func11, Tryz.ntmps11
  go_wp2_with (first | ((with_reducible refine gate_dst (N := 2) rfl ?_); refine box_event ?hg (N := 2) ?hd (cs := #[.string (⟨#[]⟩ : ByteArray), .string (⟨#[]⟩ : ByteArray), .string (⟨#[]⟩ : ByteArray), .string (⟨#[]⟩ : ByteArray), .string (⟨#[]⟩ : ByteArray)]) (t := 24) ?hr ?_; (case hd => rfl); (case hg => rfl); (case hr => first | (go_simp; done) | (go_simp; rfl)); intro gb210 hg w24 hbox hb; have n0_ := zM (below_step (by repeat (first | (with_reducible first | exact HB.out | apply below_alloc | apply pw_below_drewN | apply below_drew1) | exact HB.out)) hb); have n1_ := zM (hbox); have n2_ := zM ((by rw [hg]; exact (below_size (by repeat (first | (with_reducible first | exact HB.out | apply below_alloc | apply pw_below_drewN | apply below_drew1) | exact HB.out))) : w.heap.size ≤ gb210)); have n3_ := zM ((by rw [hg]; exact (below_size (by repeat (first | (with_reducible first | exact HB.out | apply below_alloc | apply pw_below_drewN | apply below_drew1) | exact HB.out))) : w.heap.size ≤ gb210)); clear HB; have HB := n0_; have BK210 := n1_; have GW210 := n2_; have GE210 := n3_; clear n0_ n1_ n2_ n3_; clear hb hbox hg) | ((with_reducible refine gate_callee (f := 23) rfl ?_); refine goesL_ (some 16) rfl rfl Tryz.func23 (by kernel_rfl) rfl #[.string a0, .bool true] rfl (by (try simp only [zL]); first | done | rfl) ?_; (with_reducible refine (pennantref22_Read.calls k a0 true t211 t212 t215 t216 t217 _ A2.out).mono ?_); rintro e w25 ⟨v213, rfl, ho0, hb⟩; refine ⟨_, rfl, ?_⟩; have n0_ := zM (Kd.R_lower ho0 (below_size (by repeat (first | (with_reducible first | exact HB.out | apply below_alloc | apply pw_below_drewN | apply below_drew1 | refine below_set ?_ GE210.out) | exact HB.out)))); have n1_ := zM (blk_below (g := gb210) (o := .cells #[.string (⟨#[]⟩ : ByteArray), .string (⟨#[]⟩ : ByteArray), .string (⟨#[]⟩ : ByteArray), .string (⟨#[]⟩ : ByteArray), .string (⟨#[]⟩ : ByteArray)] 24 (0, 0)) (by (with_reducible repeat (first | refine blk_drewN ?_ _ | refine blk_drew ?_ | refine blk_alloc ?_ _)); exact BK210.out) hb); have n2_ := zM (below_step (by repeat (first | (with_reducible first | exact HB.out | apply below_alloc | apply pw_below_drewN | apply below_drew1 | refine below_set ?_ GE210.out) | exact HB.out)) hb); clear BK210; clear HB; have HO214 := n0_; have BK210 := n1_; have HB := n2_; clear n0_ n1_ n2_; (try clear hb); (try clear hb2); (try clear hk); (try clear hi); (try clear ho0)) | ((with_reducible refine gate_dst (N := 5) rfl ?_); refine box_event ?hg (N := 5) ?hd (cs := #[.string (⟨#[]⟩ : ByteArray), .slice none 0 0, .string (⟨#[]⟩ : ByteArray), .int .i64 0]) (t := 65) ?hr ?_; (case hd => rfl); (case hg => rfl); (case hr => first | (go_simp; done) | (go_simp; rfl)); intro gb218 hg w26 hbox hb; have n0_ := zM (Kd.R_below (by (with_reducible repeat (first | apply Kd.R_alloc | apply Kd.R_drewN | apply Kd.R_drew)); exact HO214.out) hb); have n1_ := zM (blk_below (g := gb210) (o := .cells #[.string (⟨#[]⟩ : ByteArray), .string (⟨#[]⟩ : ByteArray), .string (⟨#[]⟩ : ByteArray), .string (⟨#[]⟩ : ByteArray), .string (⟨#[]⟩ : ByteArray)] 24 (0, 0)) (by (with_reducible repeat (first | refine blk_drewN ?_ _ | refine blk_drew ?_ | refine blk_alloc ?_ _)); exact BK210.out) hb); have n2_ := zM (below_step (by repeat (first | (with_reducible first | exact HB.out | apply below_alloc | apply pw_below_drewN | apply below_drew1 | refine below_set ?_ GE210.out) | exact HB.out)) hb); have n3_ := zM (hbox); have n4_ := zM ((by rw [hg]; exact (below_size (by repeat (first | (with_reducible first | exact HB.out | apply below_alloc | apply pw_below_drewN | apply below_drew1 | refine below_set ?_ GE210.out) | exact HB.out))) : w.heap.size ≤ gb218)); have n5_ := zM ((by rw [hg]; exact (below_size (by repeat (first | (with_reducible first | exact HB.out | apply below_alloc | apply pw_below_drewN | apply below_drew1 | refine below_set ?_ GE210.out) | exact HB.out))) : w.heap.size ≤ gb218)); have n6_ := zM ((by rw [hg]; exact Nat.ne_of_lt (blk_lt (g := gb210) (o := .cells #[.string (⟨#[]⟩ : ByteArray), .string (⟨#[]⟩ : ByteArray), .string (⟨#[]⟩ : ByteArray), .string (⟨#[]⟩ : ByteArray), .string (⟨#[]⟩ : ByteArray)] 24 (0, 0)) (by (with_reducible repeat (first | refine blk_drewN ?_ _ | refine blk_drew ?_ | refine blk_alloc ?_ _)); exact BK210.out)) : gb210 ≠ gb218)); have n7_ := zM ((by rw [hg]; exact Nat.ne_of_gt (blk_lt (g := gb210) (o := .cells #[.string (⟨#[]⟩ : ByteArray), .string (⟨#[]⟩ : ByteArray), .string (⟨#[]⟩ : ByteArray), .string (⟨#[]⟩ : ByteArray), .string (⟨#[]⟩ : ByteArray)] 24 (0, 0)) (by (with_reducible repeat (first | refine blk_drewN ?_ _ | refine blk_drew ?_ | refine blk_alloc ?_ _)); exact BK210.out)) : gb218 ≠ gb210)); clear HO214; clear BK210; clear HB; have HO214 := n0_; have BK210 := n1_; have HB := n2_; have BK218 := n3_; have GW218 := n4_; have GE218 := n5_; have NB210_218 := n6_; have NB218_210 := n7_; clear n0_ n1_ n2_ n3_ n4_ n5_ n6_ n7_; clear hb hbox hg; have hnb27 := NB218_210.out; have hnc27 := NB210_218.out; have hcz28_0 : w26.cell? ⟨gb218, 0, none⟩ = some (.string (⟨#[]⟩ : ByteArray)) := (blk_cell BK218.out 0).trans rfl; have hcz28_1 : w26.cell? ⟨gb218, 1, none⟩ = some (.slice none 0 0) := (blk_cell BK218.out 1).trans rfl; have hcz28_2 : w26.cell? ⟨gb218, 2, none⟩ = some (.string (⟨#[]⟩ : ByteArray)) := (blk_cell BK218.out 2).trans rfl; have hcz28_3 : w26.cell? ⟨gb218, 3, none⟩ = some (.int .i64 0) := (blk_cell BK218.out 3).trans rfl; have hfz28_0 := blk_frozen BK218.out 0; have hfz28_1 := blk_frozen BK218.out 1; have hfz28_2 := blk_frozen BK218.out 2; have hfz28_3 := blk_frozen BK218.out 3; obtain ⟨Ao29, co29, eo29⟩ := Kd.R_slice HO214.out; subst eo29; have hcz30_0 : w26.cell? ⟨gb210, 0, none⟩ = some (.string (⟨#[]⟩ : ByteArray)) := (blk_cell BK210.out 0).trans rfl; have hcz30_1 : w26.cell? ⟨gb210, 1, none⟩ = some (.string (⟨#[]⟩ : ByteArray)) := (blk_cell BK210.out 1).trans rfl; have hcz30_2 : w26.cell? ⟨gb210, 2, none⟩ = some (.string (⟨#[]⟩ : ByteArray)) := (blk_cell BK210.out 2).trans rfl; have hcz30_3 : w26.cell? ⟨gb210, 3, none⟩ = some (.string (⟨#[]⟩ : ByteArray)) := (blk_cell BK210.out 3).trans rfl; have hcz30_4 : w26.cell? ⟨gb210, 4, none⟩ = some (.string (⟨#[]⟩ : ByteArray)) := (blk_cell BK210.out 4).trans rfl; have hfz30_0 := blk_frozen BK210.out 0; have hfz30_1 := blk_frozen BK210.out 1; have hfz30_2 := blk_frozen BK210.out 2; have hfz30_3 := blk_frozen BK210.out 3; have hfz30_4 := blk_frozen BK210.out 4))
  refine bodyPost_ret (results_ctt rfl _ _ gb210 24 #[.string (⟨#[]⟩ : ByteArray), .string (⟨#[]⟩ : ByteArray), .string (⟨#[]⟩ : ByteArray), .string (⟨#[]⟩ : ByteArray), .string (⟨#[]⟩ : ByteArray)] (0, 0) _ rfl (by (with_reducible repeat (first | refine blk_drewN ?_ _ | refine blk_drew ?_ | refine blk_alloc ?_ _)); refine blk_put (cs := #[.string (⟨#[]⟩ : ByteArray), .string (⟨#[]⟩ : ByteArray), .string (⟨#[]⟩ : ByteArray), .string (⟨#[]⟩ : ByteArray), .string (⟨#[]⟩ : ByteArray)]) ?_ 4 _ rfl; (with_reducible repeat (first | refine blk_drewN ?_ _ | refine blk_drew ?_ | refine blk_alloc ?_ _)); refine blk_put (cs := #[.string (⟨#[]⟩ : ByteArray), .string (⟨#[]⟩ : ByteArray), .string (⟨#[]⟩ : ByteArray), .string (⟨#[]⟩ : ByteArray), .string (⟨#[]⟩ : ByteArray)]) ?_ 3 _ rfl; (with_reducible repeat (first | refine blk_drewN ?_ _ | refine blk_drew ?_ | refine blk_alloc ?_ _)); refine blk_put (cs := #[.string (⟨#[]⟩ : ByteArray), .string (⟨#[]⟩ : ByteArray), .string (⟨#[]⟩ : ByteArray), .string (⟨#[]⟩ : ByteArray), .string (⟨#[]⟩ : ByteArray)]) ?_ 2 _ rfl; (with_reducible repeat (first | refine blk_drewN ?_ _ | refine blk_drew ?_ | refine blk_alloc ?_ _)); refine blk_put (cs := #[.string (⟨#[]⟩ : ByteArray), .string (⟨#[]⟩ : ByteArray), .string (⟨#[]⟩ : ByteArray), .string (⟨#[]⟩ : ByteArray), .string (⟨#[]⟩ : ByteArray)]) ?_ 1 _ rfl; (with_reducible repeat (first | refine blk_drewN ?_ _ | refine blk_drew ?_ | refine blk_alloc ?_ _)); refine blk_put (cs := #[.string (⟨#[]⟩ : ByteArray), .string (⟨#[]⟩ : ByteArray), .string (⟨#[]⟩ : ByteArray), .string (⟨#[]⟩ : ByteArray), .string (⟨#[]⟩ : ByteArray)]) ?_ 0 _ rfl; (with_reducible repeat (first | refine blk_drewN ?_ _ | refine blk_drew ?_ | refine blk_alloc ?_ _)); refine blk_far ?_ NB210_218.out _; (with_reducible repeat (first | refine blk_drewN ?_ _ | refine blk_drew ?_ | refine blk_alloc ?_ _)); refine blk_far ?_ NB210_218.out _; (with_reducible repeat (first | refine blk_drewN ?_ _ | refine blk_drew ?_ | refine blk_alloc ?_ _)); refine blk_far ?_ NB210_218.out _; (with_reducible repeat (first | refine blk_drewN ?_ _ | refine blk_drew ?_ | refine blk_alloc ?_ _)); refine blk_far ?_ NB210_218.out _; (with_reducible repeat (first | refine blk_drewN ?_ _ | refine blk_drew ?_ | refine blk_alloc ?_ _)); exact BK210.out) Tryz.underlying24 rfl (by kernel_rfl)) rfl ?_
  exact ⟨by first | rfl | (simp [errW_none, errW_some] <;> rfl) | (simp [*, errW_none, errW_some] <;> rfl), by repeat (first | (with_reducible first | exact HB.out | apply below_alloc | apply pw_below_drewN | apply below_drew1 | refine below_set ?_ GE210.out | refine below_set ?_ GE218.out) | exact HB.out)⟩

/-! ### pennantref08_Digits: function 30 -/
mutual
def pennantref08_Digits.j0 : Nat → Int → ByteArray → ByteArray → Option (ByteArray)
 | 0, _, _, _ => none
 | k + 1, x0, x3, x4 => pennantref08_Digits.l0 k x0 x3 x4
def pennantref08_Digits.l0 : Nat → Int → ByteArray → ByteArray → Option (ByteArray)
 | 0, _, _, _ => none
 | k + 1, x0, x3, x4 => if (Int.tmod x0 10) < 0 then ((some (([(wrap64 (48 + (wrap64 (-(Int.tmod x0 10))))) % 256] : List Int) : List Int)).bind fun y236 => (if (strOfNums y236).size + x3.size ≤ 9223372036854775807 then (if (wrap64 (Int.tdiv x0 10)) = 0 then (if x4.size + ((strOfNums y236) ++ x3).size ≤ 9223372036854775807 then (some (x4 ++ ((strOfNums y236) ++ x3))) else (none)) else (pennantref08_Digits.l0 k (wrap64 (Int.tdiv x0 10)) ((strOfNums y236) ++ x3) x4)) else (none))) else ((some (([(wrap64 (48 + (Int.tmod x0 10))) % 256] : List Int) : List Int)).bind fun y239 => (if (strOfNums y239).size + x3.size ≤ 9223372036854775807 then (if (wrap64 (Int.tdiv x0 10)) = 0 then (if x4.size + ((strOfNums y239) ++ x3).size ≤ 9223372036854775807 then (some (x4 ++ ((strOfNums y239) ++ x3))) else (none)) else (pennantref08_Digits.l0 k (wrap64 (Int.tdiv x0 10)) ((strOfNums y239) ++ x3) x4)) else (none)))
end
def pennantref08_Digits.f (k : Nat) (a0 : Int) : Option (ByteArray) := if a0 < 0 then (pennantref08_Digits.j0 k a0 (⟨#[]⟩ : ByteArray) (⟨#[45]⟩ : ByteArray)) else (pennantref08_Digits.j0 k a0 (⟨#[]⟩ : ByteArray) (⟨#[]⟩ : ByteArray))
theorem pennantref08_Digits.mono_l : ∀ k, (∀ y0 y1 y2, LeO (pennantref08_Digits.j0 k y0 y1 y2) (pennantref08_Digits.j0 (k + 1) y0 y1 y2)) ∧ (∀ y0 y1 y2, LeO (pennantref08_Digits.l0 k y0 y1 y2) (pennantref08_Digits.l0 (k + 1) y0 y1 y2))
 | 0 => ⟨fun _ _ _ r h => by simp [pennantref08_Digits.j0] at h, fun _ _ _ r h => by simp [pennantref08_Digits.l0] at h⟩
 | k + 1 => by
  obtain ⟨ih0, ih1⟩ := pennantref08_Digits.mono_l k
  refine ⟨?_, ?_⟩
  ·
   intro y0 y1 y2
   unfold pennantref08_Digits.j0
   repeat' first
   | (with_reducible exact ih0 _ _ _)
   | (with_reducible exact ih1 _ _ _)
   | (with_reducible exact LeO.refl _)
   | (with_reducible exact LeO.none _)
   | (with_reducible refine LeO.ite ?_ ?_)
   | (with_reducible refine LeO.bind ?_ (fun _ => ?_))
   | exact ih0 _ _ _
   | exact ih1 _ _ _
   | exact LeO.none _
   | refine LeO.ite ?_ ?_
   | refine LeO.bind ?_ (fun _ => ?_)
  ·
   intro y0 y1 y2
   unfold pennantref08_Digits.l0
   repeat' first
   | (with_reducible exact ih0 _ _ _)
   | (with_reducible exact ih1 _ _ _)
   | (with_reducible exact LeO.refl _)
   | (with_reducible exact LeO.none _)
   | (with_reducible refine LeO.ite ?_ ?_)
   | (with_reducible refine LeO.bind ?_ (fun _ => ?_))
   | exact ih0 _ _ _
   | exact ih1 _ _ _
   | exact LeO.none _
   | refine LeO.ite ?_ ?_
   | refine LeO.bind ?_ (fun _ => ?_)
theorem pennantref08_Digits.mono : ∀ a0 k, LeO (pennantref08_Digits.f k a0) (pennantref08_Digits.f (k + 1) a0) := by
 intro a0 k
 obtain ⟨ih0, ih1⟩ := pennantref08_Digits.mono_l k
 unfold pennantref08_Digits.f
 repeat' first
   | (with_reducible exact ih0 _ _ _)
   | (with_reducible exact ih1 _ _ _)
   | (with_reducible exact LeO.refl _)
   | (with_reducible exact LeO.none _)
   | (with_reducible refine LeO.ite ?_ ?_)
   | (with_reducible refine LeO.bind ?_ (fun _ => ?_))
   | exact ih0 _ _ _
   | exact ih1 _ _ _
   | exact LeO.none _
   | refine LeO.ite ?_ ?_
   | refine LeO.bind ?_ (fun _ => ?_)
set_option maxHeartbeats 8000000 in
set_option maxRecDepth 100000 in
theorem pennantref08_Digits.calls (k : Nat) (a0 : Int) (r : ByteArray) (w : World) (h : pennantref08_Digits.f k a0 = some r) :
  Calls Tryz.prog 30 #[.int .i64 a0] w fun e w' => e = .returned (.string r) ∧ Below w.heap.size w w' := by
 have HB := zM (Below.refl w.heap.size w)
 have H : (if a0 < 0 then (pennantref08_Digits.j0 k a0 (⟨#[]⟩ : ByteArray) (⟨#[45]⟩ : ByteArray)) else (pennantref08_Digits.j0 k a0 (⟨#[]⟩ : ByteArray) (⟨#[]⟩ : ByteArray))) = some r := h
 clear h
 have HC2 := zM H
 clear H
 go_enter Tryz.func30, Tryz.ntmps30
 go_upto_if 7 with (fail)
 go_cut [4] (fun v4 wc => ∃ (kq : Nat) (x4_1 : ByteArray), v4 = .string x4_1 ∧ Aside0 (pennantref08_Digits.j0 kq a0 (⟨#[]⟩ : ByteArray) x4_1 = some r) ∧ Aside0 (kq ≤ k) ∧ Aside0 (Below w.heap.size w wc))
 case first =>
  have H := HC2.out
  clear HC2
  by_cases c3 : a0 < 0
  ·
   rw [if_pos c3] at H
   have c3b0 : decide (a0 < 0) = true := decide_eq_true c3
   clear c3
   (first | rw [c3b0] | (simp only [i64_w, i32_w]; rw [c3b0]) | skip)
   have H' := zM H
   clear H
   go_wp2
   go_meet
   case rel => exact ⟨_, ((⟨#[45]⟩ : ByteArray)), (by first | rfl | (simp; done) | (simp [*]; done)), H', ⟨by first | omega | exact Nat.le_refl _⟩, ⟨by repeat (first | (with_reducible first | exact HB.out | apply below_alloc | apply pw_below_drewN | apply below_drew1) | exact HB.out)⟩⟩
  ·
   rw [if_neg c3] at H
   have c3b0 : decide (a0 < 0) = false := decide_eq_false c3
   clear c3
   (first | rw [c3b0] | (simp only [i64_w, i32_w]; rw [c3b0]) | skip)
   have H' := zM H
   clear H
   go_wp2
   go_meet
   case rel => exact ⟨_, ((⟨#[]⟩ : ByteArray)), (by first | rfl | (simp; done) | (simp [*]; done)), H', ⟨by first | omega | exact Nat.le_refl _⟩, ⟨by repeat (first | (with_reducible first | exact HB.out | apply below_alloc | apply pw_below_drewN | apply below_drew1) | exact HB.out)⟩⟩
 case rest =>
  clear HC2
  try clear p2
  try clear c3
  try clear c3b0
  obtain ⟨kq, x4_1, rfl, HA, HJ1, HB⟩ := hcut
  cases kq with
  | zero => exact absurd HA.out (by simp [pennantref08_Digits.j0])
  | succ kj1 =>
   have H := HA.out
   clear HA
   simp only [pennantref08_Digits.j0] at H
   have H' := zM H
   clear H
   go_wp2
   go_loopg [0, 3] kj1 (fun kq v0 v3 w' => ∃ (x0_2 : Int) (x3_2 : ByteArray), v0 = .int .i64 x0_2 ∧ v3 = .string x3_2 ∧ Aside0 (pennantref08_Digits.l0 kq x0_2 x3_2 x4_1 = some r) ∧ Aside0 (kq ≤ kj1) ∧ Aside0 (Below w.heap.size w w'))
   case atStart => exact ⟨(a0), ((⟨#[]⟩ : ByteArray)), (by first | rfl | (simp; done) | (simp [*]; done)), (by first | rfl | (simp; done) | (simp [*]; done)), H', ⟨Nat.le_refl _⟩, ⟨by repeat (first | (with_reducible first | exact HB.out | apply below_alloc | apply pw_below_drewN | apply below_drew1) | exact HB.out)⟩⟩
   case round =>
    clear H'; (try clear p2); (try clear c3); (try clear c3b0); (try clear p2); obtain ⟨x0_2, x3_2, rfl, rfl, HA, HK2, HB⟩ := hrel
    cases gk with
    | zero => exact absurd HA.out (by simp [pennantref08_Digits.l0])
    | succ k2 =>
     (have H := HA.out); clear HA; simp only [pennantref08_Digits.l0] at H; by_cases c4 : (Int.tmod x0_2 10) < 0
     ·
      rw [if_pos c4] at H; (have c4b0 : decide ((Int.tmod x0_2 10) < 0) = true := decide_eq_true c4); clear c4; (obtain ⟨y236, hy236⟩ : ∃ y_ : List Int, y_ = (([(wrap64 (48 + (wrap64 (-(Int.tmod x0_2 10))))) % 256] : List Int)) := ⟨_, rfl⟩); (replace H : (if (strOfNums y236).size + x3_2.size ≤ 9223372036854775807 then (if (wrap64 (Int.tdiv x0_2 10)) = 0 then (if x4_1.size + ((strOfNums y236) ++ x3_2).size ≤ 9223372036854775807 then (some (x4_1 ++ ((strOfNums y236) ++ x3_2))) else (none)) else (pennantref08_Digits.l0 k2 (wrap64 (Int.tdiv x0_2 10)) ((strOfNums y236) ++ x3_2) x4_1)) else (none)) = some r := by first | (rw [hy236]; with_reducible exact H) | (have H2_ := (Option.bind_some _ _).symm.trans H; rw [hy236]; with_reducible exact H2_) | (have H2_ := (Option.bind_some _ _).symm.trans H; with_reducible exact H2_) | with_reducible exact H | (rw [hy236]; exact H) | exact H); (have Ny236 := zM hy236); clear hy236; by_cases c5 : (strOfNums y236).size + x3_2.size ≤ 9223372036854775807
      ·
       rw [if_pos c5] at H; (have c5b0 := eq_true c5); (have c5b1 : decide ((strOfNums y236).size + x3_2.size ≤ 9223372036854775807) = true := decide_eq_true c5); (try have c5b2 : (9223372036854775807 < (strOfNums y236).size + x3_2.size) = False := eq_false (Nat.not_lt.2 c5)); by_cases c6 : (wrap64 (Int.tdiv x0_2 10)) = 0
       ·
        rw [if_pos c6] at H; (have c6b0 : ((wrap64 (Int.tdiv x0_2 10)) == 0) = true := beq_iff_eq.mpr c6); (have c6b1 : ((wrap64 (Int.tdiv x0_2 10)) != 0) = false := bne_eq_false_iff_eq.mpr c6); clear c6; by_cases c7 : x4_1.size + ((strOfNums y236) ++ x3_2).size ≤ 9223372036854775807
        ·
         rw [if_pos c7] at H; (have c7b3 : x4_1.size + ((strOfNums y236).size + x3_2.size) ≤ 9223372036854775807 := by have h_ := c7; simp only [ByteArray.size_append] at h_; exact h_); (have c7b4 : (9223372036854775807 < x4_1.size + ((strOfNums y236).size + x3_2.size)) = False := eq_false (Nat.not_lt.mpr c7b3)); (have c7b0 := eq_true c7); (have c7b1 : decide (x4_1.size + ((strOfNums y236) ++ x3_2).size ≤ 9223372036854775807) = true := decide_eq_true c7); (try have c7b2 : (9223372036854775807 < x4_1.size + ((strOfNums y236) ++ x3_2).size) = False := eq_false (Nat.not_lt.2 c7)); (obtain rfl := Option.some.inj H); (go_wp2_with (first | ((with_reducible refine gate_dst (N := 17) rfl ?_); refine Kd.R_lit (Kd.int .u8) _ 5 ?hg (N := 17) ?hd (xs := ([(wrap64 (48 + (wrap64 (-(Int.tmod x0_2 10))))) % 256] : List Int)) (inner := [.int .u8 ((wrap64 (48 + (wrap64 (-(Int.tmod x0_2 10))))) % 256)]) (ok := fun _ => True) (okp := fun _ => True) ?hr ?hp (fun _ hk => hk) trivial (Below.refl _ _) (Nat.le_refl _) (by simp) ?_; (case hd => rfl); (case hg => rfl); (case hr => first | (go_simp; done) | (go_simp; rfl)); (case hp => exact (Reps.one (show Kd.M (Kd.int .u8) _ _ _ ((wrap64 (48 + (wrap64 (-(Int.tmod x0_2 10))))) % 256) [.int .u8 ((wrap64 (48 + (wrap64 (-(Int.tmod x0_2 10))))) % 256)] from rfl) (Reps.none _ _))); intro v237 w8 ho9 hb hg_ hnew_; clear hg_ hnew_; (first | rw [← Ny236.out] at ho9 | (simp only [Int.reduceToNat] at ho9; rw [← Ny236.out] at ho9)); have n0_ := zM (Kd.R_lower ho9 (below_size (by repeat (first | (with_reducible first | exact HB.out | apply below_alloc | apply pw_below_drewN | apply below_drew1) | exact HB.out)))); have n1_ := zM (below_step (by repeat (first | (with_reducible first | exact HB.out | apply below_alloc | apply pw_below_drewN | apply below_drew1) | exact HB.out)) hb); clear HB; have HO238 := n0_; have HB := n1_; clear n0_ n1_; clear hb ho9; have hcv10 := own_string (P := Tryz.prog) Tryz.underlying49 Tryz.underlying5 Tryz.underlying9 (Kd.own_of_R HO238.out)))); (go_ret); exact ⟨by first | rfl | (simp [errW_none, errW_some] <;> rfl) | (simp [*, errW_none, errW_some] <;> rfl), by repeat (first | (with_reducible first | exact HB.out | apply below_alloc | apply pw_below_drewN | apply below_drew1) | exact HB.out)⟩
        ·
         rw [if_neg c7] at H; exact absurd H (by simp)
       ·
        rw [if_neg c6] at H; (have c6b0 : ((wrap64 (Int.tdiv x0_2 10)) == 0) = false := beq_eq_false_iff_ne.mpr c6); (have c6b1 : ((wrap64 (Int.tdiv x0_2 10)) != 0) = true := bne_iff_ne.mpr c6); (have H' := zM H); clear H; (go_wp2_with (first | ((with_reducible refine gate_dst (N := 17) rfl ?_); refine Kd.R_lit (Kd.int .u8) _ 5 ?hg (N := 17) ?hd (xs := ([(wrap64 (48 + (wrap64 (-(Int.tmod x0_2 10))))) % 256] : List Int)) (inner := [.int .u8 ((wrap64 (48 + (wrap64 (-(Int.tmod x0_2 10))))) % 256)]) (ok := fun _ => True) (okp := fun _ => True) ?hr ?hp (fun _ hk => hk) trivial (Below.refl _ _) (Nat.le_refl _) (by simp) ?_; (case hd => rfl); (case hg => rfl); (case hr => first | (go_simp; done) | (go_simp; rfl)); (case hp => exact (Reps.one (show Kd.M (Kd.int .u8) _ _ _ ((wrap64 (48 + (wrap64 (-(Int.tmod x0_2 10))))) % 256) [.int .u8 ((wrap64 (48 + (wrap64 (-(Int.tmod x0_2 10))))) % 256)] from rfl) (Reps.none _ _))); intro v237 w11 ho12 hb hg_ hnew_; clear hg_ hnew_; (first | rw [← Ny236.out] at ho12 | (simp only [Int.reduceToNat] at ho12; rw [← Ny236.out] at ho12)); have n0_ := zM (Kd.R_lower ho12 (below_size (by repeat (first | (with_reducible first | exact HB.out | apply below_alloc | apply pw_below_drewN | apply below_drew1) | exact HB.out)))); have n1_ := zM (below_step (by repeat (first | (with_reducible first | exact HB.out | apply below_alloc | apply pw_below_drewN | apply below_drew1) | exact HB.out)) hb); clear HB; have HO238 := n0_; have HB := n1_; clear n0_ n1_; clear hb ho12; have hcv13 := own_string (P := Tryz.prog) Tryz.underlying49 Tryz.underlying5 Tryz.underlying9 (Kd.own_of_R HO238.out)))); go_roundg k2
        case measure => have := HJ1.out; have := HK2.out; omega
        case rel => exact ⟨(wrap64 (Int.tdiv x0_2 10)), ((strOfNums y236) ++ x3_2), (by first | rfl | (simp; done) | (simp [*]; done)), (by first | rfl | (simp; done) | (simp [*]; done)), H', ⟨by have := HJ1.out; have := HK2.out; omega⟩, ⟨by repeat (first | (with_reducible first | exact HB.out | apply below_alloc | apply pw_below_drewN | apply below_drew1) | exact HB.out)⟩⟩
      ·
       rw [if_neg c5] at H; exact absurd H (by simp)
     ·
      rw [if_neg c4] at H; (have c4b0 : decide ((Int.tmod x0_2 10) < 0) = false := decide_eq_false c4); clear c4; (obtain ⟨y239, hy239⟩ : ∃ y_ : List Int, y_ = (([(wrap64 (48 + (Int.tmod x0_2 10))) % 256] : List Int)) := ⟨_, rfl⟩); (replace H : (if (strOfNums y239).size + x3_2.size ≤ 9223372036854775807 then (if (wrap64 (Int.tdiv x0_2 10)) = 0 then (if x4_1.size + ((strOfNums y239) ++ x3_2).size ≤ 9223372036854775807 then (some (x4_1 ++ ((strOfNums y239) ++ x3_2))) else (none)) else (pennantref08_Digits.l0 k2 (wrap64 (Int.tdiv x0_2 10)) ((strOfNums y239) ++ x3_2) x4_1)) else (none)) = some r := by first | (rw [hy239]; with_reducible exact H) | (have H2_ := (Option.bind_some _ _).symm.trans H; rw [hy239]; with_reducible exact H2_) | (have H2_ := (Option.bind_some _ _).symm.trans H; with_reducible exact H2_) | with_reducible exact H | (rw [hy239]; exact H) | exact H); (have Ny239 := zM hy239); clear hy239; by_cases c14 : (strOfNums y239).size + x3_2.size ≤ 9223372036854775807
      ·
       rw [if_pos c14] at H; (have c14b0 := eq_true c14); (have c14b1 : decide ((strOfNums y239).size + x3_2.size ≤ 9223372036854775807) = true := decide_eq_true c14); (try have c14b2 : (9223372036854775807 < (strOfNums y239).size + x3_2.size) = False := eq_false (Nat.not_lt.2 c14)); by_cases c15 : (wrap64 (Int.tdiv x0_2 10)) = 0
       ·
        rw [if_pos c15] at H; (have c15b0 : ((wrap64 (Int.tdiv x0_2 10)) == 0) = true := beq_iff_eq.mpr c15); (have c15b1 : ((wrap64 (Int.tdiv x0_2 10)) != 0) = false := bne_eq_false_iff_eq.mpr c15); clear c15; by_cases c16 : x4_1.size + ((strOfNums y239) ++ x3_2).size ≤ 9223372036854775807
        ·
         rw [if_pos c16] at H; (have c16b3 : x4_1.size + ((strOfNums y239).size + x3_2.size) ≤ 9223372036854775807 := by have h_ := c16; simp only [ByteArray.size_append] at h_; exact h_); (have c16b4 : (9223372036854775807 < x4_1.size + ((strOfNums y239).size + x3_2.size)) = False := eq_false (Nat.not_lt.mpr c16b3)); (have c16b0 := eq_true c16); (have c16b1 : decide (x4_1.size + ((strOfNums y239) ++ x3_2).size ≤ 9223372036854775807) = true := decide_eq_true c16); (try have c16b2 : (9223372036854775807 < x4_1.size + ((strOfNums y239) ++ x3_2).size) = False := eq_false (Nat.not_lt.2 c16)); (obtain rfl := Option.some.inj H); (go_wp2_with (first | ((with_reducible refine gate_dst (N := 17) rfl ?_); refine Kd.R_lit (Kd.int .u8) _ 5 ?hg (N := 17) ?hd (xs := ([(wrap64 (48 + (Int.tmod x0_2 10))) % 256] : List Int)) (inner := [.int .u8 ((wrap64 (48 + (Int.tmod x0_2 10))) % 256)]) (ok := fun _ => True) (okp := fun _ => True) ?hr ?hp (fun _ hk => hk) trivial (Below.refl _ _) (Nat.le_refl _) (by simp) ?_; (case hd => rfl); (case hg => rfl); (case hr => first | (go_simp; done) | (go_simp; rfl)); (case hp => exact (Reps.one (show Kd.M (Kd.int .u8) _ _ _ ((wrap64 (48 + (Int.tmod x0_2 10))) % 256) [.int .u8 ((wrap64 (48 + (Int.tmod x0_2 10))) % 256)] from rfl) (Reps.none _ _))); intro v240 w17 ho18 hb hg_ hnew_; clear hg_ hnew_; (first | rw [← Ny239.out] at ho18 | (simp only [Int.reduceToNat] at ho18; rw [← Ny239.out] at ho18)); have n0_ := zM (Kd.R_lower ho18 (below_size (by repeat (first | (with_reducible first | exact HB.out | apply below_alloc | apply pw_below_drewN | apply below_drew1) | exact HB.out)))); have n1_ := zM (below_step (by repeat (first | (with_reducible first | exact HB.out | apply below_alloc | apply pw_below_drewN | apply below_drew1) | exact HB.out)) hb); clear HB; have HO241 := n0_; have HB := n1_; clear n0_ n1_; clear hb ho18; have hcv19 := own_string (P := Tryz.prog) Tryz.underlying49 Tryz.underlying5 Tryz.underlying9 (Kd.own_of_R HO241.out)))); (go_ret); exact ⟨by first | rfl | (simp [errW_none, errW_some] <;> rfl) | (simp [*, errW_none, errW_some] <;> rfl), by repeat (first | (with_reducible first | exact HB.out | apply below_alloc | apply pw_below_drewN | apply below_drew1) | exact HB.out)⟩
        ·
         rw [if_neg c16] at H; exact absurd H (by simp)
       ·
        rw [if_neg c15] at H; (have c15b0 : ((wrap64 (Int.tdiv x0_2 10)) == 0) = false := beq_eq_false_iff_ne.mpr c15); (have c15b1 : ((wrap64 (Int.tdiv x0_2 10)) != 0) = true := bne_iff_ne.mpr c15); (have H' := zM H); clear H; (go_wp2_with (first | ((with_reducible refine gate_dst (N := 17) rfl ?_); refine Kd.R_lit (Kd.int .u8) _ 5 ?hg (N := 17) ?hd (xs := ([(wrap64 (48 + (Int.tmod x0_2 10))) % 256] : List Int)) (inner := [.int .u8 ((wrap64 (48 + (Int.tmod x0_2 10))) % 256)]) (ok := fun _ => True) (okp := fun _ => True) ?hr ?hp (fun _ hk => hk) trivial (Below.refl _ _) (Nat.le_refl _) (by simp) ?_; (case hd => rfl); (case hg => rfl); (case hr => first | (go_simp; done) | (go_simp; rfl)); (case hp => exact (Reps.one (show Kd.M (Kd.int .u8) _ _ _ ((wrap64 (48 + (Int.tmod x0_2 10))) % 256) [.int .u8 ((wrap64 (48 + (Int.tmod x0_2 10))) % 256)] from rfl) (Reps.none _ _))); intro v240 w20 ho21 hb hg_ hnew_; clear hg_ hnew_; (first | rw [← Ny239.out] at ho21 | (simp only [Int.reduceToNat] at ho21; rw [← Ny239.out] at ho21)); have n0_ := zM (Kd.R_lower ho21 (below_size (by repeat (first | (with_reducible first | exact HB.out | apply below_alloc | apply pw_below_drewN | apply below_drew1) | exact HB.out)))); have n1_ := zM (below_step (by repeat (first | (with_reducible first | exact HB.out | apply below_alloc | apply pw_below_drewN | apply below_drew1) | exact HB.out)) hb); clear HB; have HO241 := n0_; have HB := n1_; clear n0_ n1_; clear hb ho21; have hcv22 := own_string (P := Tryz.prog) Tryz.underlying49 Tryz.underlying5 Tryz.underlying9 (Kd.own_of_R HO241.out)))); go_roundg k2
        case measure => have := HJ1.out; have := HK2.out; omega
        case rel => exact ⟨(wrap64 (Int.tdiv x0_2 10)), ((strOfNums y239) ++ x3_2), (by first | rfl | (simp; done) | (simp [*]; done)), (by first | rfl | (simp; done) | (simp [*]; done)), H', ⟨by have := HJ1.out; have := HK2.out; omega⟩, ⟨by repeat (first | (with_reducible first | exact HB.out | apply below_alloc | apply pw_below_drewN | apply below_drew1) | exact HB.out)⟩⟩
      ·
       rw [if_neg c14] at H; exact absurd H (by simp)

end Go.Proofs.YtpikebpjlhccbaaGreatDoor.PAll
