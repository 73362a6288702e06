-- Laid by a program of this session (wip/pp in the repo) out of the translation. Lean checks it.
import Derived.Test.YtpikebpjlhccbaaGreatDoorPAllx0
import Derived.Test.YtpikebpjlhccbaaGreatDoorPAllx3
namespace Go.Proofs.YtpikebpjlhccbaaGreatDoor.PAll
open Go.RowKit Go.Proofs.YtpikebpjlhccbaaGreatDoorW.PrintWords Go.Proofs.YtpikebpjlhccbaaGreatDoorW.PrintLast Go.Proofs.YtpikebpjlhccbaaGreatDoorW.PrintMore
attribute [local go_sem] max2_int min2_int max_two min_two max_three min_three max_four min_four   -- for this text's walks alone
set_option linter.unusedVariables false
set_option linter.unusedSimpArgs false

/-! ### strings_CutPrefix: function 49 -/
def strings_CutPrefix.f (a0 : ByteArray) (a1 : ByteArray) : Option (ByteArray × Bool) := (stringslite_CutPrefix.f a0 a1).bind fun bt118 => (some (bt118.1, bt118.2))
set_option maxHeartbeats 8000000 in
set_option maxRecDepth 100000 in
theorem strings_CutPrefix.calls (a0 : ByteArray) (a1 : ByteArray) (r1 : ByteArray) (r2 : Bool) (w : World) (h : strings_CutPrefix.f a0 a1 = some (r1, r2)) :
  Calls Tryz.prog 49 #[.string a0, .string a1] w fun e w' => e = .returned (.tuple #[.string r1, .bool r2]) ∧ Drawn0 w w' := by
 have H : ((stringslite_CutPrefix.f a0 a1).bind fun bt118 => (some (bt118.1, bt118.2))) = some (r1, r2) := h
 clear h
 replace H := Option.bind_eq_some_iff.mp H
 obtain ⟨⟨t118, t119⟩, A30, H⟩ := H
 replace H : (some (t118, t119)) = some (r1, r2) := H
 have A3 := Aside0.mk A30
 clear A30
 simp only [Option.some.injEq, Prod.mk.injEq] at H
 obtain ⟨rfl, rfl⟩ := H
 go_enter Tryz.func49, Tryz.ntmps49
 go_wp2_with (first | ((with_reducible refine gate_callee (f := 71) rfl ?_); refine goesL_ (some 8) rfl rfl Tryz.func71 (by kernel_rfl) rfl #[.string a0, .string a1] rfl (by (try simp only [List.map_toArray, List.map_cons, List.map_nil]); first | done | rfl | (simp only [List.length_drop, List.length_take]; rfl)) ?_; (with_reducible refine (stringslite_CutPrefix.calls a0 a1 t118 t119 _ A3.out).mono ?_); rintro e w' ⟨rfl, ⟨nd, rfl⟩⟩; refine ⟨_, rfl, ?_⟩))
 go_ret2
 exact ⟨by first | rfl | (simp; done) | (simp [*]; done), by repeat (first | exact Drawn0.refl _ | apply Drawn0.step)⟩

/-! ### http_statusLine: function 27 -/
def http_statusLine.f (k : Nat) (a0 : ByteArray) : Option (Int × Bool) := (strings_CutPrefix.f a0 (⟨#[72, 84, 84, 80, 47, 49, 46, 49, 32]⟩ : ByteArray)).bind fun bt120 => (if bt120.2 = true then (if (bt120.1.size : Int) < 3 then (some (0, false)) else (if 0 < (bt120.1.size : Int) then (if (bt bt120.1 0) < 49 then (some (0, false)) else (if (bt bt120.1 0) > 53 then (some (0, false)) else (if 0 ≤ 3 then (if 3 ≤ (bt120.1.size : Int) then ((strings_Trim.f (bt120.1.extract 0 3) (⟨#[48, 49, 50, 51, 52, 53, 54, 55, 56, 57]⟩ : ByteArray)).bind fun t122 => (if t122.toList = ([] : List UInt8) then (if (bt120.1.size : Int) > 3 then (if 3 < (bt120.1.size : Int) then (if (bt bt120.1 3) = 32 then ((http_text.f k bt120.1).bind fun t123 => (if t123 = true then ((strconv_Atoi.f (bt120.1.extract 0 3)).bind fun bt124 => (some (bt124.1, true))) else (some (0, false)))) else (some (0, false))) else (none)) else ((strconv_Atoi.f (bt120.1.extract 0 3)).bind fun bt126 => (some (bt126.1, true)))) else (some (0, false)))) else (none)) else (none)))) else (none))) else (some (0, false)))
theorem http_statusLine.mono : ∀ a0 k, LeO (http_statusLine.f k a0) (http_statusLine.f (k + 1) a0) := by
 intro a0 k
 unfold http_statusLine.f
 repeat' first
   | (with_reducible exact http_text.mono _ _)
   | (with_reducible exact LeO.refl _)
   | (with_reducible exact LeO.none _)
   | (with_reducible refine LeO.ite ?_ ?_)
   | (with_reducible refine LeO.bind ?_ (fun _ => ?_))
   | exact http_text.mono _ _
   | exact LeO.none _
   | refine LeO.ite ?_ ?_
   | refine LeO.bind ?_ (fun _ => ?_)
set_option maxHeartbeats 8000000 in
set_option maxRecDepth 100000 in
theorem http_statusLine.calls (k : Nat) (a0 : ByteArray) (r1 : Int) (r2 : Bool) (w : World) (hT : Aside0 (TabsOk w)) (h : http_statusLine.f k a0 = some (r1, r2)) :
  Calls Tryz.prog 27 #[.string a0] w fun e w' => e = .returned (.tuple #[.int .i64 r1, .bool r2]) ∧ Below w.heap.size w w' := by
 have HB := Aside0.mk (Below.refl w.heap.size w)
 have H : ((strings_CutPrefix.f a0 (⟨#[72, 84, 84, 80, 47, 49, 46, 49, 32]⟩ : ByteArray)).bind fun bt120 => (if bt120.2 = true then (if (bt120.1.size : Int) < 3 then (some (0, false)) else (if 0 < (bt120.1.size : Int) then (if (bt bt120.1 0) < 49 then (some (0, false)) else (if (bt bt120.1 0) > 53 then (some (0, false)) else (if 0 ≤ 3 then (if 3 ≤ (bt120.1.size : Int) then ((strings_Trim.f (bt120.1.extract 0 3) (⟨#[48, 49, 50, 51, 52, 53, 54, 55, 56, 57]⟩ : ByteArray)).bind fun t122 => (if t122.toList = ([] : List UInt8) then (if (bt120.1.size : Int) > 3 then (if 3 < (bt120.1.size : Int) then (if (bt bt120.1 3) = 32 then ((http_text.f k bt120.1).bind fun t123 => (if t123 = true then ((strconv_Atoi.f (bt120.1.extract 0 3)).bind fun bt124 => (some (bt124.1, true))) else (some (0, false)))) else (some (0, false))) else (none)) else ((strconv_Atoi.f (bt120.1.extract 0 3)).bind fun bt126 => (some (bt126.1, true)))) else (some (0, false)))) else (none)) else (none)))) else (none))) else (some (0, false)))) = some (r1, r2) := h
 clear h
 replace H := Option.bind_eq_some_iff.mp H
 obtain ⟨⟨t120, t121⟩, A20, H⟩ := H
 replace H : (if t121 = true then (if (t120.size : Int) < 3 then (some (0, false)) else (if 0 < (t120.size : Int) then (if (bt t120 0) < 49 then (some (0, false)) else (if (bt t120 0) > 53 then (some (0, false)) else (if 0 ≤ 3 then (if 3 ≤ (t120.size : Int) then ((strings_Trim.f (t120.extract 0 3) (⟨#[48, 49, 50, 51, 52, 53, 54, 55, 56, 57]⟩ : ByteArray)).bind fun t122 => (if t122.toList = ([] : List UInt8) then (if (t120.size : Int) > 3 then (if 3 < (t120.size : Int) then (if (bt t120 3) = 32 then ((http_text.f k t120).bind fun t123 => (if t123 = true then ((strconv_Atoi.f (t120.extract 0 3)).bind fun bt124 => (some (bt124.1, true))) else (some (0, false)))) else (some (0, false))) else (none)) else ((strconv_Atoi.f (t120.extract 0 3)).bind fun bt126 => (some (bt126.1, true)))) else (some (0, false)))) else (none)) else (none)))) else (none))) else (some (0, false))) = some (r1, r2) := H
 have A2 := Aside0.mk A20
 clear A20
 by_cases c3 : t121 = true
 ·
  subst c3
  have H1 : (if (t120.size : Int) < 3 then (some (0, false)) else (if 0 < (t120.size : Int) then (if (bt t120 0) < 49 then (some (0, false)) else (if (bt t120 0) > 53 then (some (0, false)) else (if 0 ≤ 3 then (if 3 ≤ (t120.size : Int) then ((strings_Trim.f (t120.extract 0 3) (⟨#[48, 49, 50, 51, 52, 53, 54, 55, 56, 57]⟩ : ByteArray)).bind fun t122 => (if t122.toList = ([] : List UInt8) then (if (t120.size : Int) > 3 then (if 3 < (t120.size : Int) then (if (bt t120 3) = 32 then ((http_text.f k t120).bind fun t123 => (if t123 = true then ((strconv_Atoi.f (t120.extract 0 3)).bind fun bt124 => (some (bt124.1, true))) else (some (0, false)))) else (some (0, false))) else (none)) else ((strconv_Atoi.f (t120.extract 0 3)).bind fun bt126 => (some (bt126.1, true)))) else (some (0, false)))) else (none)) else (none)))) else (none))) = some (r1, r2) := by rw [if_pos rfl] at H; exact H
  clear H
  have H := H1
  clear H1
  by_cases c4 : (t120.size : Int) < 3
  ·
   rw [if_pos c4] at H
   have c4b0 : decide ((t120.size : Int) < 3) = true := decide_eq_true c4
   have c4b1 : decide (t120.size < 3) = true := decide_eq_true (by omega)
   clear c4
   simp only [Option.some.injEq, Prod.mk.injEq] at H
   obtain ⟨rfl, rfl⟩ := H
   go_enter Tryz.func27, Tryz.ntmps27
   go_wp2_with (first | ((with_reducible refine gate_callee (f := 49) rfl ?_); refine goesL_ (some 10) rfl rfl Tryz.func49 (by kernel_rfl) rfl #[.string a0, .string (⟨#[72, 84, 84, 80, 47, 49, 46, 49, 32]⟩ : ByteArray)] rfl (by (try simp only [List.map_toArray, List.map_cons, List.map_nil]); first | done | rfl | (simp only [List.length_drop, List.length_take]; rfl)) ?_; (with_reducible refine (strings_CutPrefix.calls a0 (⟨#[72, 84, 84, 80, 47, 49, 46, 49, 32]⟩ : ByteArray) t120 true _ A2.out).mono ?_); rintro e w' ⟨rfl, ⟨nd, rfl⟩⟩; refine ⟨_, rfl, ?_⟩))
   go_ret2
   exact ⟨by first | rfl | (simp [errW_none, errW_some] <;> rfl) | (simp [*, errW_none, errW_some] <;> rfl), by repeat (first | (with_reducible first | exact HB.out | apply below_alloc | apply pw_below_drewN | apply below_drew1) | exact HB.out)⟩
  ·
   rw [if_neg c4] at H
   have c4b0 : decide ((t120.size : Int) < 3) = false := decide_eq_false c4
   have c4b1 : decide (t120.size < 3) = false := decide_eq_false (by omega)
   clear c4
   by_cases c5 : 0 < (t120.size : Int)
   ·
    rw [if_pos c5] at H
    have c5b0 : decide (0 < (t120.size : Int)) = true := decide_eq_true c5
    have c5b1 : decide (0 < t120.size) = true := decide_eq_true (by omega)
    clear c5
    by_cases c7 : (bt t120 0) < 49
    ·
     rw [if_pos c7] at H
     have c7b0 : decide ((bt t120 0) < 49) = true := decide_eq_true c7
     clear c7
     simp only [Option.some.injEq, Prod.mk.injEq] at H
     obtain ⟨rfl, rfl⟩ := H
     go_enter Tryz.func27, Tryz.ntmps27
     go_wp2_with (first | ((with_reducible refine gate_callee (f := 49) rfl ?_); refine goesL_ (some 10) rfl rfl Tryz.func49 (by kernel_rfl) rfl #[.string a0, .string (⟨#[72, 84, 84, 80, 47, 49, 46, 49, 32]⟩ : ByteArray)] rfl (by (try simp only [List.map_toArray, List.map_cons, List.map_nil]); first | done | rfl | (simp only [List.length_drop, List.length_take]; rfl)) ?_; (with_reducible refine (strings_CutPrefix.calls a0 (⟨#[72, 84, 84, 80, 47, 49, 46, 49, 32]⟩ : ByteArray) t120 true _ A2.out).mono ?_); rintro e w' ⟨rfl, ⟨nd, rfl⟩⟩; refine ⟨_, rfl, ?_⟩; have p6 : 0 ≤ (0 : Int) := (by omega); have q6 : 0 < t120.size := (by have : (0 : Int) < (t120.size : Int) := of_decide_eq_true (by first | (with_reducible assumption) | assumption); omega); have hx6 : ∀ h : 0 < t120.size, ((t120[0]'h).toNat : Int) = bt t120 0 := bt_at t120 0; clear p6; have qi6 : (0 < (t120.size : Int)) = True := eq_true (of_decide_eq_true (by first | (with_reducible assumption) | assumption)); replace q6 := eq_true q6))
     go_ret2
     exact ⟨by first | rfl | (simp [errW_none, errW_some] <;> rfl) | (simp [*, errW_none, errW_some] <;> rfl), by repeat (first | (with_reducible first | exact HB.out | apply below_alloc | apply pw_below_drewN | apply below_drew1) | exact HB.out)⟩
    ·
     rw [if_neg c7] at H
     have c7b0 : decide ((bt t120 0) < 49) = false := decide_eq_false c7
     clear c7
     by_cases c9 : (bt t120 0) > 53
     ·
      rw [if_pos c9] at H
      have c9b0 : decide (53 < (bt t120 0)) = true := decide_eq_true c9
      clear c9
      simp only [Option.some.injEq, Prod.mk.injEq] at H
      obtain ⟨rfl, rfl⟩ := H
      go_enter Tryz.func27, Tryz.ntmps27
      go_wp2_with (first | ((with_reducible refine gate_callee (f := 49) rfl ?_); refine goesL_ (some 10) rfl rfl Tryz.func49 (by kernel_rfl) rfl #[.string a0, .string (⟨#[72, 84, 84, 80, 47, 49, 46, 49, 32]⟩ : ByteArray)] rfl (by (try simp only [List.map_toArray, List.map_cons, List.map_nil]); first | done | rfl | (simp only [List.length_drop, List.length_take]; rfl)) ?_; (with_reducible refine (strings_CutPrefix.calls a0 (⟨#[72, 84, 84, 80, 47, 49, 46, 49, 32]⟩ : ByteArray) t120 true _ A2.out).mono ?_); rintro e w' ⟨rfl, ⟨nd, rfl⟩⟩; refine ⟨_, rfl, ?_⟩; have p6 : 0 ≤ (0 : Int) := (by omega); have q6 : 0 < t120.size := (by have : (0 : Int) < (t120.size : Int) := of_decide_eq_true (by first | (with_reducible assumption) | assumption); omega); have hx6 : ∀ h : 0 < t120.size, ((t120[0]'h).toNat : Int) = bt t120 0 := bt_at t120 0; clear p6; have qi6 : (0 < (t120.size : Int)) = True := eq_true (of_decide_eq_true (by first | (with_reducible assumption) | assumption)); replace q6 := eq_true q6; have p8 : 0 ≤ (0 : Int) := (by omega); have q8 : 0 < t120.size := (by have : (0 : Int) < (t120.size : Int) := of_decide_eq_true (by first | (with_reducible assumption) | assumption); omega); have hx8 : ∀ h : 0 < t120.size, ((t120[0]'h).toNat : Int) = bt t120 0 := bt_at t120 0; clear p8; have qi8 : (0 < (t120.size : Int)) = True := eq_true (of_decide_eq_true (by first | (with_reducible assumption) | assumption)); replace q8 := eq_true q8))
      go_ret2
      exact ⟨by first | rfl | (simp [errW_none, errW_some] <;> rfl) | (simp [*, errW_none, errW_some] <;> rfl), by repeat (first | (with_reducible first | exact HB.out | apply below_alloc | apply pw_below_drewN | apply below_drew1) | exact HB.out)⟩
     ·
      rw [if_neg c9] at H
      have c9b0 : decide (53 < (bt t120 0)) = false := decide_eq_false c9
      clear c9
      by_cases c10 : 0 ≤ 3
      ·
       rw [if_pos c10] at H
       have c10b0 := eq_true c10
       have c10b1 : decide (0 ≤ 3) = true := decide_eq_true c10
       clear c10
       by_cases c11 : 3 ≤ (t120.size : Int)
       ·
        rw [if_pos c11] at H
        have c11b0 := eq_true c11
        have c11b1 : decide (3 ≤ (t120.size : Int)) = true := decide_eq_true c11
        clear c11
        replace H := Option.bind_eq_some_iff.mp H
        obtain ⟨t122, A120, H⟩ := H
        replace H : (if t122.toList = ([] : List UInt8) then (if (t120.size : Int) > 3 then (if 3 < (t120.size : Int) then (if (bt t120 3) = 32 then ((http_text.f k t120).bind fun t123 => (if t123 = true then ((strconv_Atoi.f (t120.extract 0 3)).bind fun bt124 => (some (bt124.1, true))) else (some (0, false)))) else (some (0, false))) else (none)) else ((strconv_Atoi.f (t120.extract 0 3)).bind fun bt126 => (some (bt126.1, true)))) else (some (0, false))) = some (r1, r2) := H
        have A12 := Aside0.mk A120
        clear A120
        by_cases c13 : t122.toList = ([] : List UInt8)
        ·
         rw [if_pos c13] at H
         have c13b0 : (t122.toList == ([] : List UInt8)) = true := beq_iff_eq.mpr c13
         have c13b1 : (t122.toList != ([] : List UInt8)) = false := bne_eq_false_iff_eq.mpr c13
         have c13b2 : t122.toList.isEmpty = true := List.isEmpty_iff.mpr c13
         clear c13
         by_cases c14 : (t120.size : Int) > 3
         ·
          rw [if_pos c14] at H
          have c14b0 : decide (3 < (t120.size : Int)) = true := decide_eq_true c14
          have c14b1 : decide (3 < t120.size) = true := decide_eq_true (by omega)
          clear c14
          by_cases c15 : 3 < (t120.size : Int)
          ·
           rw [if_pos c15] at H
           have c15b0 : decide (3 < (t120.size : Int)) = true := decide_eq_true c15
           have c15b1 : decide (3 < t120.size) = true := decide_eq_true (by omega)
           clear c15
           by_cases c17 : (bt t120 3) = 32
           ·
            rw [if_pos c17] at H
            have c17b0 : ((bt t120 3) == 32) = true := beq_iff_eq.mpr c17
            have c17b1 : ((bt t120 3) != 32) = false := bne_eq_false_iff_eq.mpr c17
            clear c17
            replace H := Option.bind_eq_some_iff.mp H
            obtain ⟨t123, A180, H⟩ := H
            replace H : (if t123 = true then ((strconv_Atoi.f (t120.extract 0 3)).bind fun bt124 => (some (bt124.1, true))) else (some (0, false))) = some (r1, r2) := H
            have A18 := Aside0.mk A180
            clear A180
            by_cases c19 : t123 = true
            ·
             subst c19
             have H1 : ((strconv_Atoi.f (t120.extract 0 3)).bind fun bt124 => (some (bt124.1, true))) = some (r1, r2) := by rw [if_pos rfl] at H; exact H
             clear H
             have H := H1
             clear H1
             have c20b0 := eq_true (of_decide_eq_true (by first | (with_reducible assumption) | assumption) : 0 ≤ 3)
             have c21b0 := eq_true (of_decide_eq_true (by first | (with_reducible assumption) | assumption) : 3 ≤ (t120.size : Int))
             replace H := Option.bind_eq_some_iff.mp H
             obtain ⟨⟨t124, t125⟩, A220, H⟩ := H
             replace H : (some (t124, true)) = some (r1, r2) := H
             have A22 := Aside0.mk A220
             clear A220
             simp only [Option.some.injEq, Prod.mk.injEq] at H
             obtain ⟨rfl, rfl⟩ := H
             go_enter Tryz.func27, Tryz.ntmps27
             go_wp2_with (first | ((with_reducible refine gate_callee (f := 49) rfl ?_); refine goesL_ (some 10) rfl rfl Tryz.func49 (by kernel_rfl) rfl #[.string a0, .string (⟨#[72, 84, 84, 80, 47, 49, 46, 49, 32]⟩ : ByteArray)] rfl (by (try simp only [List.map_toArray, List.map_cons, List.map_nil]); first | done | rfl | (simp only [List.length_drop, List.length_take]; rfl)) ?_; (with_reducible refine (strings_CutPrefix.calls a0 (⟨#[72, 84, 84, 80, 47, 49, 46, 49, 32]⟩ : ByteArray) t120 true _ A2.out).mono ?_); rintro e w' ⟨rfl, ⟨nd, rfl⟩⟩; refine ⟨_, rfl, ?_⟩; have p6 : 0 ≤ (0 : Int) := (by omega); have q6 : 0 < t120.size := (by have : (0 : Int) < (t120.size : Int) := of_decide_eq_true (by first | (with_reducible assumption) | assumption); omega); have hx6 : ∀ h : 0 < t120.size, ((t120[0]'h).toNat : Int) = bt t120 0 := bt_at t120 0; clear p6; have qi6 : (0 < (t120.size : Int)) = True := eq_true (of_decide_eq_true (by first | (with_reducible assumption) | assumption)); replace q6 := eq_true q6; have p8 : 0 ≤ (0 : Int) := (by omega); have q8 : 0 < t120.size := (by have : (0 : Int) < (t120.size : Int) := of_decide_eq_true (by first | (with_reducible assumption) | assumption); omega); have hx8 : ∀ h : 0 < t120.size, ((t120[0]'h).toNat : Int) = bt t120 0 := bt_at t120 0; clear p8; have qi8 : (0 < (t120.size : Int)) = True := eq_true (of_decide_eq_true (by first | (with_reducible assumption) | assumption)); replace q8 := eq_true q8) | (go_at_call 35; (with_reducible refine (strings_Trim.calls (t120.extract 0 3) (⟨#[48, 49, 50, 51, 52, 53, 54, 55, 56, 57]⟩ : ByteArray) t122 _ A12.out).mono ?_); rintro e w23 ⟨rfl, hb⟩; have n0_ := Aside0.mk (below_step (by repeat (first | (with_reducible first | exact HB.out | apply below_alloc | apply pw_below_drewN | apply below_drew1) | exact HB.out)) hb); clear HB; have HB := n0_; clear n0_; (try clear hb); (try clear hb2); (try clear hk); (try clear hi); have p16 : 0 ≤ (3 : Int) := (by omega); have q16 : 3 < t120.size := (by have : (3 : Int) < (t120.size : Int) := of_decide_eq_true (by first | (with_reducible assumption) | assumption); omega); have hx16 : ∀ h : 3 < t120.size, ((t120[3]'h).toNat : Int) = bt t120 3 := bt_at t120 3; clear p16; have qi16 : (3 < (t120.size : Int)) = True := eq_true (of_decide_eq_true (by first | (with_reducible assumption) | assumption)); replace q16 := eq_true q16) | (go_at_call 37; (with_reducible refine (http_text.calls k t120 true _ A18.out).mono ?_); rintro e w' ⟨rfl, ⟨nd, rfl⟩⟩) | ((with_reducible refine gate_callee (f := 39) rfl ?_); refine goesL_ (some 54) rfl rfl Tryz.func39 (by kernel_rfl) rfl #[.string (t120.extract 0 3)] rfl (by (try simp only [List.map_toArray, List.map_cons, List.map_nil]); first | done | rfl | (simp only [List.length_drop, List.length_take]; rfl)) ?_; (with_reducible refine (strconv_Atoi.calls (t120.extract 0 3) t124 t125 _ ?side1 A22.out).mono ?_); (case side1 => exact ⟨TabsOk.below hT.out (by repeat (first | (with_reducible first | exact HB.out | apply below_alloc | apply pw_below_drewN | apply below_drew1) | exact HB.out))⟩); rintro e w24 ⟨rfl, hb⟩; refine ⟨_, rfl, ?_⟩; have n0_ := Aside0.mk (below_step (by repeat (first | (with_reducible first | exact HB.out | apply below_alloc | apply pw_below_drewN | apply below_drew1) | exact HB.out)) hb); clear HB; have HB := n0_; clear n0_; (try clear hb); (try clear hb2); (try clear hk); (try clear hi); (try simp only [errW_none, errW_some])))
             go_ret2
             exact ⟨by first | rfl | (simp [errW_none, errW_some] <;> rfl) | (simp [*, errW_none, errW_some] <;> rfl), by repeat (first | (with_reducible first | exact HB.out | apply below_alloc | apply pw_below_drewN | apply below_drew1) | exact HB.out)⟩
            ·
             replace c19 := Bool.eq_false_iff.mpr c19
             subst c19
             have H1 : (some (0, false)) = some (r1, r2) := by rw [if_neg (show ¬ (false = true) by decide)] at H; exact H
             clear H
             have H := H1
             clear H1
             simp only [Option.some.injEq, Prod.mk.injEq] at H
             obtain ⟨rfl, rfl⟩ := H
             go_enter Tryz.func27, Tryz.ntmps27
             go_wp2_with (first | ((with_reducible refine gate_callee (f := 49) rfl ?_); refine goesL_ (some 10) rfl rfl Tryz.func49 (by kernel_rfl) rfl #[.string a0, .string (⟨#[72, 84, 84, 80, 47, 49, 46, 49, 32]⟩ : ByteArray)] rfl (by (try simp only [List.map_toArray, List.map_cons, List.map_nil]); first | done | rfl | (simp only [List.length_drop, List.length_take]; rfl)) ?_; (with_reducible refine (strings_CutPrefix.calls a0 (⟨#[72, 84, 84, 80, 47, 49, 46, 49, 32]⟩ : ByteArray) t120 true _ A2.out).mono ?_); rintro e w' ⟨rfl, ⟨nd, rfl⟩⟩; refine ⟨_, rfl, ?_⟩; have p6 : 0 ≤ (0 : Int) := (by omega); have q6 : 0 < t120.size := (by have : (0 : Int) < (t120.size : Int) := of_decide_eq_true (by first | (with_reducible assumption) | assumption); omega); have hx6 : ∀ h : 0 < t120.size, ((t120[0]'h).toNat : Int) = bt t120 0 := bt_at t120 0; clear p6; have qi6 : (0 < (t120.size : Int)) = True := eq_true (of_decide_eq_true (by first | (with_reducible assumption) | assumption)); replace q6 := eq_true q6; have p8 : 0 ≤ (0 : Int) := (by omega); have q8 : 0 < t120.size := (by have : (0 : Int) < (t120.size : Int) := of_decide_eq_true (by first | (with_reducible assumption) | assumption); omega); have hx8 : ∀ h : 0 < t120.size, ((t120[0]'h).toNat : Int) = bt t120 0 := bt_at t120 0; clear p8; have qi8 : (0 < (t120.size : Int)) = True := eq_true (of_decide_eq_true (by first | (with_reducible assumption) | assumption)); replace q8 := eq_true q8) | (go_at_call 35; (with_reducible refine (strings_Trim.calls (t120.extract 0 3) (⟨#[48, 49, 50, 51, 52, 53, 54, 55, 56, 57]⟩ : ByteArray) t122 _ A12.out).mono ?_); rintro e w25 ⟨rfl, hb⟩; have n0_ := Aside0.mk (below_step (by repeat (first | (with_reducible first | exact HB.out | apply below_alloc | apply pw_below_drewN | apply below_drew1) | exact HB.out)) hb); clear HB; have HB := n0_; clear n0_; (try clear hb); (try clear hb2); (try clear hk); (try clear hi); have p16 : 0 ≤ (3 : Int) := (by omega); have q16 : 3 < t120.size := (by have : (3 : Int) < (t120.size : Int) := of_decide_eq_true (by first | (with_reducible assumption) | assumption); omega); have hx16 : ∀ h : 3 < t120.size, ((t120[3]'h).toNat : Int) = bt t120 3 := bt_at t120 3; clear p16; have qi16 : (3 < (t120.size : Int)) = True := eq_true (of_decide_eq_true (by first | (with_reducible assumption) | assumption)); replace q16 := eq_true q16) | (go_at_call 37; (with_reducible refine (http_text.calls k t120 false _ A18.out).mono ?_); rintro e w' ⟨rfl, ⟨nd, rfl⟩⟩))
             go_ret2
             exact ⟨by first | rfl | (simp [errW_none, errW_some] <;> rfl) | (simp [*, errW_none, errW_some] <;> rfl), by repeat (first | (with_reducible first | exact HB.out | apply below_alloc | apply pw_below_drewN | apply below_drew1) | exact HB.out)⟩
           ·
            rw [if_neg c17] at H
            have c17b0 : ((bt t120 3) == 32) = false := beq_eq_false_iff_ne.mpr c17
            have c17b1 : ((bt t120 3) != 32) = true := bne_iff_ne.mpr c17
            simp only [Option.some.injEq, Prod.mk.injEq] at H
            obtain ⟨rfl, rfl⟩ := H
            go_enter Tryz.func27, Tryz.ntmps27
            go_wp2_with (first | ((with_reducible refine gate_callee (f := 49) rfl ?_); refine goesL_ (some 10) rfl rfl Tryz.func49 (by kernel_rfl) rfl #[.string a0, .string (⟨#[72, 84, 84, 80, 47, 49, 46, 49, 32]⟩ : ByteArray)] rfl (by (try simp only [List.map_toArray, List.map_cons, List.map_nil]); first | done | rfl | (simp only [List.length_drop, List.length_take]; rfl)) ?_; (with_reducible refine (strings_CutPrefix.calls a0 (⟨#[72, 84, 84, 80, 47, 49, 46, 49, 32]⟩ : ByteArray) t120 true _ A2.out).mono ?_); rintro e w' ⟨rfl, ⟨nd, rfl⟩⟩; refine ⟨_, rfl, ?_⟩; have p6 : 0 ≤ (0 : Int) := (by omega); have q6 : 0 < t120.size := (by have : (0 : Int) < (t120.size : Int) := of_decide_eq_true (by first | (with_reducible assumption) | assumption); omega); have hx6 : ∀ h : 0 < t120.size, ((t120[0]'h).toNat : Int) = bt t120 0 := bt_at t120 0; clear p6; have qi6 : (0 < (t120.size : Int)) = True := eq_true (of_decide_eq_true (by first | (with_reducible assumption) | assumption)); replace q6 := eq_true q6; have p8 : 0 ≤ (0 : Int) := (by omega); have q8 : 0 < t120.size := (by have : (0 : Int) < (t120.size : Int) := of_decide_eq_true (by first | (with_reducible assumption) | assumption); omega); have hx8 : ∀ h : 0 < t120.size, ((t120[0]'h).toNat : Int) = bt t120 0 := bt_at t120 0; clear p8; have qi8 : (0 < (t120.size : Int)) = True := eq_true (of_decide_eq_true (by first | (with_reducible assumption) | assumption)); replace q8 := eq_true q8) | (go_at_call 35; (with_reducible refine (strings_Trim.calls (t120.extract 0 3) (⟨#[48, 49, 50, 51, 52, 53, 54, 55, 56, 57]⟩ : ByteArray) t122 _ A12.out).mono ?_); rintro e w26 ⟨rfl, hb⟩; have n0_ := Aside0.mk (below_step (by repeat (first | (with_reducible first | exact HB.out | apply below_alloc | apply pw_below_drewN | apply below_drew1) | exact HB.out)) hb); clear HB; have HB := n0_; clear n0_; (try clear hb); (try clear hb2); (try clear hk); (try clear hi); have p16 : 0 ≤ (3 : Int) := (by omega); have q16 : 3 < t120.size := (by have : (3 : Int) < (t120.size : Int) := of_decide_eq_true (by first | (with_reducible assumption) | assumption); omega); have hx16 : ∀ h : 3 < t120.size, ((t120[3]'h).toNat : Int) = bt t120 3 := bt_at t120 3; clear p16; have qi16 : (3 < (t120.size : Int)) = True := eq_true (of_decide_eq_true (by first | (with_reducible assumption) | assumption)); replace q16 := eq_true q16))
            go_ret2
            exact ⟨by first | rfl | (simp [errW_none, errW_some] <;> rfl) | (simp [*, errW_none, errW_some] <;> rfl), by repeat (first | (with_reducible first | exact HB.out | apply below_alloc | apply pw_below_drewN | apply below_drew1) | exact HB.out)⟩
          ·
           rw [if_neg c15] at H
           exact absurd H (by simp)
         ·
          rw [if_neg c14] at H
          have c14b0 : decide (3 < (t120.size : Int)) = false := decide_eq_false c14
          have c14b1 : decide (3 < t120.size) = false := decide_eq_false (by omega)
          clear c14
          have c27b0 := eq_true (of_decide_eq_true (by first | (with_reducible assumption) | assumption) : 0 ≤ 3)
          have c28b0 := eq_true (of_decide_eq_true (by first | (with_reducible assumption) | assumption) : 3 ≤ (t120.size : Int))
          replace H := Option.bind_eq_some_iff.mp H
          obtain ⟨⟨t126, t127⟩, A290, H⟩ := H
          replace H : (some (t126, true)) = some (r1, r2) := H
          have A29 := Aside0.mk A290
          clear A290
          simp only [Option.some.injEq, Prod.mk.injEq] at H
          obtain ⟨rfl, rfl⟩ := H
          go_enter Tryz.func27, Tryz.ntmps27
          go_wp2_with (first | ((with_reducible refine gate_callee (f := 49) rfl ?_); refine goesL_ (some 10) rfl rfl Tryz.func49 (by kernel_rfl) rfl #[.string a0, .string (⟨#[72, 84, 84, 80, 47, 49, 46, 49, 32]⟩ : ByteArray)] rfl (by (try simp only [List.map_toArray, List.map_cons, List.map_nil]); first | done | rfl | (simp only [List.length_drop, List.length_take]; rfl)) ?_; (with_reducible refine (strings_CutPrefix.calls a0 (⟨#[72, 84, 84, 80, 47, 49, 46, 49, 32]⟩ : ByteArray) t120 true _ A2.out).mono ?_); rintro e w' ⟨rfl, ⟨nd, rfl⟩⟩; refine ⟨_, rfl, ?_⟩; have p6 : 0 ≤ (0 : Int) := (by omega); have q6 : 0 < t120.size := (by have : (0 : Int) < (t120.size : Int) := of_decide_eq_true (by first | (with_reducible assumption) | assumption); omega); have hx6 : ∀ h : 0 < t120.size, ((t120[0]'h).toNat : Int) = bt t120 0 := bt_at t120 0; clear p6; have qi6 : (0 < (t120.size : Int)) = True := eq_true (of_decide_eq_true (by first | (with_reducible assumption) | assumption)); replace q6 := eq_true q6; have p8 : 0 ≤ (0 : Int) := (by omega); have q8 : 0 < t120.size := (by have : (0 : Int) < (t120.size : Int) := of_decide_eq_true (by first | (with_reducible assumption) | assumption); omega); have hx8 : ∀ h : 0 < t120.size, ((t120[0]'h).toNat : Int) = bt t120 0 := bt_at t120 0; clear p8; have qi8 : (0 < (t120.size : Int)) = True := eq_true (of_decide_eq_true (by first | (with_reducible assumption) | assumption)); replace q8 := eq_true q8) | (go_at_call 35; (with_reducible refine (strings_Trim.calls (t120.extract 0 3) (⟨#[48, 49, 50, 51, 52, 53, 54, 55, 56, 57]⟩ : ByteArray) t122 _ A12.out).mono ?_); rintro e w30 ⟨rfl, hb⟩; have n0_ := Aside0.mk (below_step (by repeat (first | (with_reducible first | exact HB.out | apply below_alloc | apply pw_below_drewN | apply below_drew1) | exact HB.out)) hb); clear HB; have HB := n0_; clear n0_; (try clear hb); (try clear hb2); (try clear hk); (try clear hi)) | ((with_reducible refine gate_callee (f := 39) rfl ?_); refine goesL_ (some 54) rfl rfl Tryz.func39 (by kernel_rfl) rfl #[.string (t120.extract 0 3)] rfl (by (try simp only [List.map_toArray, List.map_cons, List.map_nil]); first | done | rfl | (simp only [List.length_drop, List.length_take]; rfl)) ?_; (with_reducible refine (strconv_Atoi.calls (t120.extract 0 3) t126 t127 _ ?side1 A29.out).mono ?_); (case side1 => exact ⟨TabsOk.below hT.out (by repeat (first | (with_reducible first | exact HB.out | apply below_alloc | apply pw_below_drewN | apply below_drew1) | exact HB.out))⟩); rintro e w31 ⟨rfl, hb⟩; refine ⟨_, rfl, ?_⟩; have n0_ := Aside0.mk (below_step (by repeat (first | (with_reducible first | exact HB.out | apply below_alloc | apply pw_below_drewN | apply below_drew1) | exact HB.out)) hb); clear HB; have HB := n0_; clear n0_; (try clear hb); (try clear hb2); (try clear hk); (try clear hi); (try simp only [errW_none, errW_some])))
          go_ret2
          exact ⟨by first | rfl | (simp [errW_none, errW_some] <;> rfl) | (simp [*, errW_none, errW_some] <;> rfl), by repeat (first | (with_reducible first | exact HB.out | apply below_alloc | apply pw_below_drewN | apply below_drew1) | exact HB.out)⟩
        ·
         rw [if_neg c13] at H
         have c13b0 : (t122.toList == ([] : List UInt8)) = false := beq_eq_false_iff_ne.mpr c13
         have c13b1 : (t122.toList != ([] : List UInt8)) = true := bne_iff_ne.mpr c13
         have c13b2 : t122.toList.isEmpty = false := List.isEmpty_eq_false_iff.mpr c13
         simp only [Option.some.injEq, Prod.mk.injEq] at H
         obtain ⟨rfl, rfl⟩ := H
         go_enter Tryz.func27, Tryz.ntmps27
         go_wp2_with (first | ((with_reducible refine gate_callee (f := 49) rfl ?_); refine goesL_ (some 10) rfl rfl Tryz.func49 (by kernel_rfl) rfl #[.string a0, .string (⟨#[72, 84, 84, 80, 47, 49, 46, 49, 32]⟩ : ByteArray)] rfl (by (try simp only [List.map_toArray, List.map_cons, List.map_nil]); first | done | rfl | (simp only [List.length_drop, List.length_take]; rfl)) ?_; (with_reducible refine (strings_CutPrefix.calls a0 (⟨#[72, 84, 84, 80, 47, 49, 46, 49, 32]⟩ : ByteArray) t120 true _ A2.out).mono ?_); rintro e w' ⟨rfl, ⟨nd, rfl⟩⟩; refine ⟨_, rfl, ?_⟩; have p6 : 0 ≤ (0 : Int) := (by omega); have q6 : 0 < t120.size := (by have : (0 : Int) < (t120.size : Int) := of_decide_eq_true (by first | (with_reducible assumption) | assumption); omega); have hx6 : ∀ h : 0 < t120.size, ((t120[0]'h).toNat : Int) = bt t120 0 := bt_at t120 0; clear p6; have qi6 : (0 < (t120.size : Int)) = True := eq_true (of_decide_eq_true (by first | (with_reducible assumption) | assumption)); replace q6 := eq_true q6; have p8 : 0 ≤ (0 : Int) := (by omega); have q8 : 0 < t120.size := (by have : (0 : Int) < (t120.size : Int) := of_decide_eq_true (by first | (with_reducible assumption) | assumption); omega); have hx8 : ∀ h : 0 < t120.size, ((t120[0]'h).toNat : Int) = bt t120 0 := bt_at t120 0; clear p8; have qi8 : (0 < (t120.size : Int)) = True := eq_true (of_decide_eq_true (by first | (with_reducible assumption) | assumption)); replace q8 := eq_true q8) | (go_at_call 35; (with_reducible refine (strings_Trim.calls (t120.extract 0 3) (⟨#[48, 49, 50, 51, 52, 53, 54, 55, 56, 57]⟩ : ByteArray) t122 _ A12.out).mono ?_); rintro e w32 ⟨rfl, hb⟩; have n0_ := Aside0.mk (below_step (by repeat (first | (with_reducible first | exact HB.out | apply below_alloc | apply pw_below_drewN | apply below_drew1) | exact HB.out)) hb); clear HB; have HB := n0_; clear n0_; (try clear hb); (try clear hb2); (try clear hk); (try clear hi)))
         go_ret2
         exact ⟨by first | rfl | (simp [errW_none, errW_some] <;> rfl) | (simp [*, errW_none, errW_some] <;> rfl), by repeat (first | (with_reducible first | exact HB.out | apply below_alloc | apply pw_below_drewN | apply below_drew1) | exact HB.out)⟩
       ·
        rw [if_neg c11] at H
        exact absurd H (by simp)
      ·
       rw [if_neg c10] at H
       exact absurd H (by simp)
   ·
    rw [if_neg c5] at H
    exact absurd H (by simp)
 ·
  replace c3 := Bool.eq_false_iff.mpr c3
  subst c3
  have H1 : (some (0, false)) = some (r1, r2) := by rw [if_neg (show ¬ (false = true) by decide)] at H; exact H
  clear H
  have H := H1
  clear H1
  simp only [Option.some.injEq, Prod.mk.injEq] at H
  obtain ⟨rfl, rfl⟩ := H
  go_enter Tryz.func27, Tryz.ntmps27
  go_wp2_with (first | ((with_reducible refine gate_callee (f := 49) rfl ?_); refine goesL_ (some 10) rfl rfl Tryz.func49 (by kernel_rfl) rfl #[.string a0, .string (⟨#[72, 84, 84, 80, 47, 49, 46, 49, 32]⟩ : ByteArray)] rfl (by (try simp only [List.map_toArray, List.map_cons, List.map_nil]); first | done | rfl | (simp only [List.length_drop, List.length_take]; rfl)) ?_; (with_reducible refine (strings_CutPrefix.calls a0 (⟨#[72, 84, 84, 80, 47, 49, 46, 49, 32]⟩ : ByteArray) t120 false _ A2.out).mono ?_); rintro e w' ⟨rfl, ⟨nd, rfl⟩⟩; refine ⟨_, rfl, ?_⟩))
  go_ret2
  exact ⟨by first | rfl | (simp [errW_none, errW_some] <;> rfl) | (simp [*, errW_none, errW_some] <;> rfl), by repeat (first | (with_reducible first | exact HB.out | apply below_alloc | apply pw_below_drewN | apply below_drew1) | exact HB.out)⟩

end Go.Proofs.YtpikebpjlhccbaaGreatDoor.PAll
