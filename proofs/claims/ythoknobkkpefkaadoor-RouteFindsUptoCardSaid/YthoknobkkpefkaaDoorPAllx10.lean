-- Laid by a program of this session (wip/pp in the repo) out of the translation. Lean checks it.
import Derived.Test.YthoknobkkpefkaaDoorPAllx0
import Derived.Test.YthoknobkkpefkaaDoorPAllx1
import Derived.Test.YthoknobkkpefkaaDoorPAllx2
import Derived.Test.YthoknobkkpefkaaDoorPAllx4
import Derived.Test.YthoknobkkpefkaaDoorPAllx7
import Derived.Test.YthoknobkkpefkaaDoorPAllx9
namespace Go.Proofs.YthoknobkkpefkaaDoor.PAll
open Go.RowKit Go.Proofs.YthoknobkkpefkaaDoorW.PrintWords Go.Proofs.YthoknobkkpefkaaDoorW.PrintLast Go.Proofs.YthoknobkkpefkaaDoorW.PrintMore
attribute [local go_sem] max2_int min2_int max_two min_two max_three min_three max_four min_four   -- for this text's walks alone
set_option linter.unusedVariables false
set_option linter.unusedSimpArgs false

attribute [local go_sem high] eqA24
/-! ### pennantlaw16_RouteFinds: function 3 -/
def pennantlaw16_RouteFinds.f (k : Nat) (a0 : ByteArray) (a1 : ByteArray) : Option (Bool) := (pennantlaw16_awake.f k).bind fun t289 => (if t289 = true then ((route_Find.f k a0 a1).bind fun bt290 => ((pennantref16_Find.f k a0 a1).bind fun bt297 => (if (bt290.1 == bt297.1 && (bt290.2.1.toList == bt297.2.1.toList && (bt290.2.2.1.toList == bt297.2.2.1.toList && (bt290.2.2.2.1 == bt297.2.2.2.1 && (bt290.2.2.2.2.1.toList == bt297.2.2.2.2.1.toList))))) = true then (if bt290.2.2.2.2.2 = bt297.2.2.2.2.2 then ((route_Processor.f k a1).bind fun t304 => ((pennantref16_Processor.f k a1).bind fun t305 => (if t304 = t305 then ((route_Session.f a0).bind fun t306 => (if 8 + a0.size ≤ 9223372036854775807 then (if t306.toList = ((⟨#[35, 95, 115, 99, 120, 109, 108, 95]⟩ : ByteArray) ++ a0).toList then ((route_Page.f a1 a0).bind fun t307 => (if 7 + a1.size ≤ 9223372036854775807 then (if ((⟨#[104, 116, 116, 112, 58, 47, 47]⟩ : ByteArray) ++ a1).size + 1 ≤ 9223372036854775807 then (if (((⟨#[104, 116, 116, 112, 58, 47, 47]⟩ : ByteArray) ++ a1) ++ (⟨#[47]⟩ : ByteArray)).size + a0.size ≤ 9223372036854775807 then (some (t307.toList == ((((⟨#[104, 116, 116, 112, 58, 47, 47]⟩ : ByteArray) ++ a1) ++ (⟨#[47]⟩ : ByteArray)) ++ a0).toList)) else (none)) else (none)) else (none))) else (some false)) else (none))) else (some false)))) else (some false)) else (some false)))) else (some false))
theorem pennantlaw16_RouteFinds.mono : ∀ a0 a1 k, LeO (pennantlaw16_RouteFinds.f k a0 a1) (pennantlaw16_RouteFinds.f (k + 1) a0 a1) := by
 intro a0 a1 k
 unfold pennantlaw16_RouteFinds.f
 repeat' first
   | (with_reducible exact pennantlaw16_awake.mono _)
   | (with_reducible exact pennantref16_Find.mono _ _ _)
   | (with_reducible exact pennantref16_Processor.mono _ _)
   | (with_reducible exact route_Find.mono _ _ _)
   | (with_reducible exact route_Processor.mono _ _)
   | (with_reducible exact LeO.refl _)
   | (with_reducible exact LeO.none _)
   | (with_reducible refine LeO.ite ?_ ?_)
   | (with_reducible refine LeO.bind ?_ (fun _ => ?_))
   | exact pennantlaw16_awake.mono _
   | exact pennantref16_Find.mono _ _ _
   | exact pennantref16_Processor.mono _ _
   | exact route_Find.mono _ _ _
   | exact route_Processor.mono _ _
   | exact LeO.none _
   | refine LeO.ite ?_ ?_
   | refine LeO.bind ?_ (fun _ => ?_)
set_option maxHeartbeats 8000000 in
set_option maxRecDepth 100000 in
theorem pennantlaw16_RouteFinds.calls (k : Nat) (a0 : ByteArray) (a1 : ByteArray) (r : Bool) (w : World) (hT : Aside0 (TabsOk w)) (h : pennantlaw16_RouteFinds.f k a0 a1 = some r) (hr_ : r = true := by rfl) :
  Calls Tryd.prog 3 #[.string a0, .string a1] w fun e w' => e = .returned (.bool r) ∧ Below w.heap.size w w' := by
 have hu24 := Tryd.underlying24
 have HR_ := Aside0.mk hr_
 clear hr_
 have HB := Aside0.mk (Below.refl w.heap.size w)
 have H : ((pennantlaw16_awake.f k).bind fun t289 => (if t289 = true then ((route_Find.f k a0 a1).bind fun bt290 => ((pennantref16_Find.f k a0 a1).bind fun bt297 => (if (bt290.1 == bt297.1 && (bt290.2.1.toList == bt297.2.1.toList && (bt290.2.2.1.toList == bt297.2.2.1.toList && (bt290.2.2.2.1 == bt297.2.2.2.1 && (bt290.2.2.2.2.1.toList == bt297.2.2.2.2.1.toList))))) = true then (if bt290.2.2.2.2.2 = bt297.2.2.2.2.2 then ((route_Processor.f k a1).bind fun t304 => ((pennantref16_Processor.f k a1).bind fun t305 => (if t304 = t305 then ((route_Session.f a0).bind fun t306 => (if 8 + a0.size ≤ 9223372036854775807 then (if t306.toList = ((⟨#[35, 95, 115, 99, 120, 109, 108, 95]⟩ : ByteArray) ++ a0).toList then ((route_Page.f a1 a0).bind fun t307 => (if 7 + a1.size ≤ 9223372036854775807 then (if ((⟨#[104, 116, 116, 112, 58, 47, 47]⟩ : ByteArray) ++ a1).size + 1 ≤ 9223372036854775807 then (if (((⟨#[104, 116, 116, 112, 58, 47, 47]⟩ : ByteArray) ++ a1) ++ (⟨#[47]⟩ : ByteArray)).size + a0.size ≤ 9223372036854775807 then (some (t307.toList == ((((⟨#[104, 116, 116, 112, 58, 47, 47]⟩ : ByteArray) ++ a1) ++ (⟨#[47]⟩ : ByteArray)) ++ a0).toList)) else (none)) else (none)) else (none))) else (some false)) else (none))) else (some false)))) else (some false)) else (some false)))) else (some false))) = some r := h
 clear h
 replace H := Option.bind_eq_some_iff.mp H
 obtain ⟨t289, A30, H⟩ := H
 replace H : (if t289 = true then ((route_Find.f k a0 a1).bind fun bt290 => ((pennantref16_Find.f k a0 a1).bind fun bt297 => (if (bt290.1 == bt297.1 && (bt290.2.1.toList == bt297.2.1.toList && (bt290.2.2.1.toList == bt297.2.2.1.toList && (bt290.2.2.2.1 == bt297.2.2.2.1 && (bt290.2.2.2.2.1.toList == bt297.2.2.2.2.1.toList))))) = true then (if bt290.2.2.2.2.2 = bt297.2.2.2.2.2 then ((route_Processor.f k a1).bind fun t304 => ((pennantref16_Processor.f k a1).bind fun t305 => (if t304 = t305 then ((route_Session.f a0).bind fun t306 => (if 8 + a0.size ≤ 9223372036854775807 then (if t306.toList = ((⟨#[35, 95, 115, 99, 120, 109, 108, 95]⟩ : ByteArray) ++ a0).toList then ((route_Page.f a1 a0).bind fun t307 => (if 7 + a1.size ≤ 9223372036854775807 then (if ((⟨#[104, 116, 116, 112, 58, 47, 47]⟩ : ByteArray) ++ a1).size + 1 ≤ 9223372036854775807 then (if (((⟨#[104, 116, 116, 112, 58, 47, 47]⟩ : ByteArray) ++ a1) ++ (⟨#[47]⟩ : ByteArray)).size + a0.size ≤ 9223372036854775807 then (some (t307.toList == ((((⟨#[104, 116, 116, 112, 58, 47, 47]⟩ : ByteArray) ++ a1) ++ (⟨#[47]⟩ : ByteArray)) ++ a0).toList)) else (none)) else (none)) else (none))) else (some false)) else (none))) else (some false)))) else (some false)) else (some false)))) else (some false)) = some r := H
 have A3 := Aside0.mk A30
 clear A30
 by_cases c4 : t289 = true
 ·
  subst c4
  have H1 : ((route_Find.f k a0 a1).bind fun bt290 => ((pennantref16_Find.f k a0 a1).bind fun bt297 => (if (bt290.1 == bt297.1 && (bt290.2.1.toList == bt297.2.1.toList && (bt290.2.2.1.toList == bt297.2.2.1.toList && (bt290.2.2.2.1 == bt297.2.2.2.1 && (bt290.2.2.2.2.1.toList == bt297.2.2.2.2.1.toList))))) = true then (if bt290.2.2.2.2.2 = bt297.2.2.2.2.2 then ((route_Processor.f k a1).bind fun t304 => ((pennantref16_Processor.f k a1).bind fun t305 => (if t304 = t305 then ((route_Session.f a0).bind fun t306 => (if 8 + a0.size ≤ 9223372036854775807 then (if t306.toList = ((⟨#[35, 95, 115, 99, 120, 109, 108, 95]⟩ : ByteArray) ++ a0).toList then ((route_Page.f a1 a0).bind fun t307 => (if 7 + a1.size ≤ 9223372036854775807 then (if ((⟨#[104, 116, 116, 112, 58, 47, 47]⟩ : ByteArray) ++ a1).size + 1 ≤ 9223372036854775807 then (if (((⟨#[104, 116, 116, 112, 58, 47, 47]⟩ : ByteArray) ++ a1) ++ (⟨#[47]⟩ : ByteArray)).size + a0.size ≤ 9223372036854775807 then (some (t307.toList == ((((⟨#[104, 116, 116, 112, 58, 47, 47]⟩ : ByteArray) ++ a1) ++ (⟨#[47]⟩ : ByteArray)) ++ a0).toList)) else (none)) else (none)) else (none))) else (some false)) else (none))) else (some false)))) else (some false)) else (some false)))) = some r := by rw [if_pos rfl] at H; exact H
  clear H
  have H := H1
  clear H1
  replace H := Option.bind_eq_some_iff.mp H
  obtain ⟨⟨t290, t291, t292, t293, t294, t295⟩, A50, H⟩ := H
  replace H : ((pennantref16_Find.f k a0 a1).bind fun bt297 => (if (t290 == bt297.1 && (t291.toList == bt297.2.1.toList && (t292.toList == bt297.2.2.1.toList && (t293 == bt297.2.2.2.1 && (t294.toList == bt297.2.2.2.2.1.toList))))) = true then (if t295 = bt297.2.2.2.2.2 then ((route_Processor.f k a1).bind fun t304 => ((pennantref16_Processor.f k a1).bind fun t305 => (if t304 = t305 then ((route_Session.f a0).bind fun t306 => (if 8 + a0.size ≤ 9223372036854775807 then (if t306.toList = ((⟨#[35, 95, 115, 99, 120, 109, 108, 95]⟩ : ByteArray) ++ a0).toList then ((route_Page.f a1 a0).bind fun t307 => (if 7 + a1.size ≤ 9223372036854775807 then (if ((⟨#[104, 116, 116, 112, 58, 47, 47]⟩ : ByteArray) ++ a1).size + 1 ≤ 9223372036854775807 then (if (((⟨#[104, 116, 116, 112, 58, 47, 47]⟩ : ByteArray) ++ a1) ++ (⟨#[47]⟩ : ByteArray)).size + a0.size ≤ 9223372036854775807 then (some (t307.toList == ((((⟨#[104, 116, 116, 112, 58, 47, 47]⟩ : ByteArray) ++ a1) ++ (⟨#[47]⟩ : ByteArray)) ++ a0).toList)) else (none)) else (none)) else (none))) else (some false)) else (none))) else (some false)))) else (some false)) else (some false))) = some r := H
  have A5 := Aside0.mk A50
  clear A50
  replace H := Option.bind_eq_some_iff.mp H
  obtain ⟨⟨t297, t298, t299, t300, t301, t302⟩, A60, H⟩ := H
  replace H : (if (t290 == t297 && (t291.toList == t298.toList && (t292.toList == t299.toList && (t293 == t300 && (t294.toList == t301.toList))))) = true then (if t295 = t302 then ((route_Processor.f k a1).bind fun t304 => ((pennantref16_Processor.f k a1).bind fun t305 => (if t304 = t305 then ((route_Session.f a0).bind fun t306 => (if 8 + a0.size ≤ 9223372036854775807 then (if t306.toList = ((⟨#[35, 95, 115, 99, 120, 109, 108, 95]⟩ : ByteArray) ++ a0).toList then ((route_Page.f a1 a0).bind fun t307 => (if 7 + a1.size ≤ 9223372036854775807 then (if ((⟨#[104, 116, 116, 112, 58, 47, 47]⟩ : ByteArray) ++ a1).size + 1 ≤ 9223372036854775807 then (if (((⟨#[104, 116, 116, 112, 58, 47, 47]⟩ : ByteArray) ++ a1) ++ (⟨#[47]⟩ : ByteArray)).size + a0.size ≤ 9223372036854775807 then (some (t307.toList == ((((⟨#[104, 116, 116, 112, 58, 47, 47]⟩ : ByteArray) ++ a1) ++ (⟨#[47]⟩ : ByteArray)) ++ a0).toList)) else (none)) else (none)) else (none))) else (some false)) else (none))) else (some false)))) else (some false)) else (some false)) = some r := H
  have A6 := Aside0.mk A60
  clear A60
  by_cases c7 : (t290 == t297 && (t291.toList == t298.toList && (t292.toList == t299.toList && (t293 == t300 && (t294.toList == t301.toList))))) = true
  ·
   rw [if_pos c7] at H
   have c7b0 : (t290 == t297 && (t291.toList == t298.toList && (t292.toList == t299.toList && (t293 == t300 && (t294.toList == t301.toList))))) = true := c7
   (try (have c7b1 : decide (t290 = t297 && (t291.toList == t298.toList && (t292.toList == t299.toList && (t293 == t300 && (t294.toList == t301.toList))))) = true := by simpa using c7))
   (try (have c7b2 : (t290 == t297 && (t291.toList == t298.toList && (t292.toList == t299.toList && (t293 == t300 && (t294.toList == t301.toList))))) = true := by simpa using c7))
   clear c7
   by_cases c8 : t295 = t302
   ·
    rw [if_pos c8] at H
    have c8b0 : (t295 == t302) = true := beq_iff_eq.mpr c8
    have c8b1 : (t295 != t302) = false := bne_eq_false_iff_eq.mpr c8
    clear c8
    replace H := Option.bind_eq_some_iff.mp H
    obtain ⟨t304, A90, H⟩ := H
    replace H : ((pennantref16_Processor.f k a1).bind fun t305 => (if t304 = t305 then ((route_Session.f a0).bind fun t306 => (if 8 + a0.size ≤ 9223372036854775807 then (if t306.toList = ((⟨#[35, 95, 115, 99, 120, 109, 108, 95]⟩ : ByteArray) ++ a0).toList then ((route_Page.f a1 a0).bind fun t307 => (if 7 + a1.size ≤ 9223372036854775807 then (if ((⟨#[104, 116, 116, 112, 58, 47, 47]⟩ : ByteArray) ++ a1).size + 1 ≤ 9223372036854775807 then (if (((⟨#[104, 116, 116, 112, 58, 47, 47]⟩ : ByteArray) ++ a1) ++ (⟨#[47]⟩ : ByteArray)).size + a0.size ≤ 9223372036854775807 then (some (t307.toList == ((((⟨#[104, 116, 116, 112, 58, 47, 47]⟩ : ByteArray) ++ a1) ++ (⟨#[47]⟩ : ByteArray)) ++ a0).toList)) else (none)) else (none)) else (none))) else (some false)) else (none))) else (some false))) = some r := H
    have A9 := Aside0.mk A90
    clear A90
    replace H := Option.bind_eq_some_iff.mp H
    obtain ⟨t305, A100, H⟩ := H
    replace H : (if t304 = t305 then ((route_Session.f a0).bind fun t306 => (if 8 + a0.size ≤ 9223372036854775807 then (if t306.toList = ((⟨#[35, 95, 115, 99, 120, 109, 108, 95]⟩ : ByteArray) ++ a0).toList then ((route_Page.f a1 a0).bind fun t307 => (if 7 + a1.size ≤ 9223372036854775807 then (if ((⟨#[104, 116, 116, 112, 58, 47, 47]⟩ : ByteArray) ++ a1).size + 1 ≤ 9223372036854775807 then (if (((⟨#[104, 116, 116, 112, 58, 47, 47]⟩ : ByteArray) ++ a1) ++ (⟨#[47]⟩ : ByteArray)).size + a0.size ≤ 9223372036854775807 then (some (t307.toList == ((((⟨#[104, 116, 116, 112, 58, 47, 47]⟩ : ByteArray) ++ a1) ++ (⟨#[47]⟩ : ByteArray)) ++ a0).toList)) else (none)) else (none)) else (none))) else (some false)) else (none))) else (some false)) = some r := H
    have A10 := Aside0.mk A100
    clear A100
    by_cases c11 : t304 = t305
    ·
     rw [if_pos c11] at H
     have c11b0 : (t304 == t305) = true := beq_iff_eq.mpr c11
     have c11b1 : (t304 != t305) = false := bne_eq_false_iff_eq.mpr c11
     clear c11
     replace H := Option.bind_eq_some_iff.mp H
     obtain ⟨t306, A120, H⟩ := H
     replace H : (if 8 + a0.size ≤ 9223372036854775807 then (if t306.toList = ((⟨#[35, 95, 115, 99, 120, 109, 108, 95]⟩ : ByteArray) ++ a0).toList then ((route_Page.f a1 a0).bind fun t307 => (if 7 + a1.size ≤ 9223372036854775807 then (if ((⟨#[104, 116, 116, 112, 58, 47, 47]⟩ : ByteArray) ++ a1).size + 1 ≤ 9223372036854775807 then (if (((⟨#[104, 116, 116, 112, 58, 47, 47]⟩ : ByteArray) ++ a1) ++ (⟨#[47]⟩ : ByteArray)).size + a0.size ≤ 9223372036854775807 then (some (t307.toList == ((((⟨#[104, 116, 116, 112, 58, 47, 47]⟩ : ByteArray) ++ a1) ++ (⟨#[47]⟩ : ByteArray)) ++ a0).toList)) else (none)) else (none)) else (none))) else (some false)) else (none)) = some r := H
     have A12 := Aside0.mk A120
     clear A120
     by_cases c13 : 8 + a0.size ≤ 9223372036854775807
     ·
      rw [if_pos c13] at H
      have c13b0 := eq_true c13
      have c13b1 : decide (8 + a0.size ≤ 9223372036854775807) = true := decide_eq_true c13
      try have c13b2 : (9223372036854775807 < 8 + a0.size) = False := eq_false (Nat.not_lt.2 c13)
      by_cases c14 : t306.toList = ((⟨#[35, 95, 115, 99, 120, 109, 108, 95]⟩ : ByteArray) ++ a0).toList
      ·
       rw [if_pos c14] at H
       have c14b0 : (t306.toList == ((⟨#[35, 95, 115, 99, 120, 109, 108, 95]⟩ : ByteArray) ++ a0).toList) = true := beq_iff_eq.mpr c14
       have c14b1 : (t306.toList != ((⟨#[35, 95, 115, 99, 120, 109, 108, 95]⟩ : ByteArray) ++ a0).toList) = false := bne_eq_false_iff_eq.mpr c14
       clear c14
       replace H := Option.bind_eq_some_iff.mp H
       obtain ⟨t307, A150, H⟩ := H
       replace H : (if 7 + a1.size ≤ 9223372036854775807 then (if ((⟨#[104, 116, 116, 112, 58, 47, 47]⟩ : ByteArray) ++ a1).size + 1 ≤ 9223372036854775807 then (if (((⟨#[104, 116, 116, 112, 58, 47, 47]⟩ : ByteArray) ++ a1) ++ (⟨#[47]⟩ : ByteArray)).size + a0.size ≤ 9223372036854775807 then (some (t307.toList == ((((⟨#[104, 116, 116, 112, 58, 47, 47]⟩ : ByteArray) ++ a1) ++ (⟨#[47]⟩ : ByteArray)) ++ a0).toList)) else (none)) else (none)) else (none)) = some r := H
       have A15 := Aside0.mk A150
       clear A150
       by_cases c16 : 7 + a1.size ≤ 9223372036854775807
       ·
        rw [if_pos c16] at H
        have c16b0 := eq_true c16
        have c16b1 : decide (7 + a1.size ≤ 9223372036854775807) = true := decide_eq_true c16
        try have c16b2 : (9223372036854775807 < 7 + a1.size) = False := eq_false (Nat.not_lt.2 c16)
        by_cases c17 : ((⟨#[104, 116, 116, 112, 58, 47, 47]⟩ : ByteArray) ++ a1).size + 1 ≤ 9223372036854775807
        ·
         rw [if_pos c17] at H
         have c17b3 : 7 + a1.size + 1 ≤ 9223372036854775807 := by have h_ := c17; simp only [ByteArray.size_append] at h_; exact h_
         have c17b0 := eq_true c17
         have c17b1 : decide (((⟨#[104, 116, 116, 112, 58, 47, 47]⟩ : ByteArray) ++ a1).size + 1 ≤ 9223372036854775807) = true := decide_eq_true c17
         try have c17b2 : (9223372036854775807 < ((⟨#[104, 116, 116, 112, 58, 47, 47]⟩ : ByteArray) ++ a1).size + 1) = False := eq_false (Nat.not_lt.2 c17)
         by_cases c18 : (((⟨#[104, 116, 116, 112, 58, 47, 47]⟩ : ByteArray) ++ a1) ++ (⟨#[47]⟩ : ByteArray)).size + a0.size ≤ 9223372036854775807
         ·
          rw [if_pos c18] at H
          have c18b3 : 7 + a1.size + 1 + a0.size ≤ 9223372036854775807 := by have h_ := c18; simp only [ByteArray.size_append] at h_; exact h_
          have c18b0 := eq_true c18
          have c18b1 : decide ((((⟨#[104, 116, 116, 112, 58, 47, 47]⟩ : ByteArray) ++ a1) ++ (⟨#[47]⟩ : ByteArray)).size + a0.size ≤ 9223372036854775807) = true := decide_eq_true c18
          try have c18b2 : (9223372036854775807 < (((⟨#[104, 116, 116, 112, 58, 47, 47]⟩ : ByteArray) ++ a1) ++ (⟨#[47]⟩ : ByteArray)).size + a0.size) = False := eq_false (Nat.not_lt.2 c18)
          obtain rfl := Option.some.inj H
          go_enter Tryd.func3, Tryd.ntmps3
          go_wp2_with (first | ((with_reducible refine gate_callee (f := 8) rfl ?_); refine goesL_ (some 9) rfl rfl Tryd.func8 (by kernel_rfl) rfl #[] rfl (by (try simp only [List.map_toArray, List.map_cons, List.map_nil]); first | done | rfl | (simp only [List.length_drop, List.length_take]; rfl)) ?_; (with_reducible refine (pennantlaw16_awake.calls k  true _ ?side1 A3.out).mono ?_); (case side1 => exact ⟨TabsOk.below hT.out (by repeat (first | (with_reducible first | exact HB.out | apply below_alloc | apply pw_below_drewN | apply below_drew1) | exact HB.out))⟩); rintro e w19 ⟨rfl, hb⟩; refine ⟨_, rfl, ?_⟩; have n0_ := Aside0.mk (below_step (by repeat (first | (with_reducible first | exact HB.out | apply below_alloc | apply pw_below_drewN | apply below_drew1) | exact HB.out)) hb); clear HB; have HB := n0_; clear n0_; (try clear hb); (try clear hb2); (try clear hk); (try clear hi)) | ((with_reducible refine gate_callee (f := 9) rfl ?_); refine goesL_ (some 14) rfl rfl Tryd.func9 (by kernel_rfl) rfl #[.string a0, .string a1] rfl (by (try simp only [List.map_toArray, List.map_cons, List.map_nil]); first | done | rfl | (simp only [List.length_drop, List.length_take]; rfl)) ?_; (with_reducible refine (route_Find.calls k a0 a1 t290 t291 t292 t293 t294 t295 _ ?side1 A5.out).mono ?_); (case side1 => exact ⟨TabsOk.below hT.out (by repeat (first | (with_reducible first | exact HB.out | apply below_alloc | apply pw_below_drewN | apply below_drew1) | exact HB.out))⟩); rintro e w20 ⟨rfl, hb⟩; refine ⟨_, rfl, ?_⟩; have n0_ := Aside0.mk (below_step (by repeat (first | (with_reducible first | exact HB.out | apply below_alloc | apply pw_below_drewN | apply below_drew1) | exact HB.out)) hb); clear HB; have HB := n0_; clear n0_; (try clear hb); (try clear hb2); (try clear hk); (try clear hi)) | ((with_reducible refine gate_dst (N := 5) rfl ?_); refine box_event ?hg (N := 5) ?hd (cs := #[.int .i64 0, .string (⟨#[]⟩ : ByteArray), .string (⟨#[]⟩ : ByteArray), .int .i64 0, .string (⟨#[]⟩ : ByteArray)]) (t := 24) ?hr ?_; (case hd => rfl); (case hg => rfl); (case hr => first | (go_simp; done) | (go_simp; rfl)); intro gb296 hg w21 hbox hb; have n0_ := Aside0.mk (below_step (by repeat (first | (with_reducible first | exact HB.out | apply below_alloc | apply pw_below_drewN | apply below_drew1) | exact HB.out)) hb); have n1_ := Aside0.mk (hbox); have n2_ := Aside0.mk ((by rw [hg]; exact (below_size (by repeat (first | (with_reducible first | exact HB.out | apply below_alloc | apply pw_below_drewN | apply below_drew1) | exact HB.out))) : w.heap.size ≤ gb296)); have n3_ := Aside0.mk ((by rw [hg]; exact (below_size (by repeat (first | (with_reducible first | exact HB.out | apply below_alloc | apply pw_below_drewN | apply below_drew1) | exact HB.out))) : w.heap.size ≤ gb296)); clear HB; have HB := n0_; have BK296 := n1_; have GW296 := n2_; have GE296 := n3_; clear n0_ n1_ n2_ n3_; clear hb hbox hg; have hcz22_0 : w21.cell? ⟨gb296, 0, none⟩ = some (.int .i64 0) := (blk_cell BK296.out 0).trans rfl; have hcz22_1 : w21.cell? ⟨gb296, 1, none⟩ = some (.string (⟨#[]⟩ : ByteArray)) := (blk_cell BK296.out 1).trans rfl; have hcz22_2 : w21.cell? ⟨gb296, 2, none⟩ = some (.string (⟨#[]⟩ : ByteArray)) := (blk_cell BK296.out 2).trans rfl; have hcz22_3 : w21.cell? ⟨gb296, 3, none⟩ = some (.int .i64 0) := (blk_cell BK296.out 3).trans rfl; have hcz22_4 : w21.cell? ⟨gb296, 4, none⟩ = some (.string (⟨#[]⟩ : ByteArray)) := (blk_cell BK296.out 4).trans rfl; have hfz22_0 := blk_frozen BK296.out 0; have hfz22_1 := blk_frozen BK296.out 1; have hfz22_2 := blk_frozen BK296.out 2; have hfz22_3 := blk_frozen BK296.out 3; have hfz22_4 := blk_frozen BK296.out 4) | ((with_reducible refine gate_callee (f := 10) rfl ?_); refine goesL_ (some 20) rfl rfl Tryd.func10 (by kernel_rfl) rfl #[.string a0, .string a1] rfl (by (try simp only [List.map_toArray, List.map_cons, List.map_nil]); first | done | rfl | (simp only [List.length_drop, List.length_take]; rfl)) ?_; (with_reducible refine (pennantref16_Find.calls k a0 a1 t297 t298 t299 t300 t301 t302 _ A6.out).mono ?_); rintro e w23 ⟨rfl, hb⟩; refine ⟨_, rfl, ?_⟩; have n0_ := Aside0.mk (blk_below (g := gb296) (o := .cells #[.int .i64 t290, .string t291, .string t292, .int .i64 t293, .string t294] 24 (0, 0)) (by (with_reducible repeat (first | refine blk_drewN ?_ _ | refine blk_drew ?_ | refine blk_alloc ?_ _)); refine blk_put (cs := #[.int .i64 t290, .string t291, .string t292, .int .i64 t293, .string (⟨#[]⟩ : ByteArray)]) ?_ 4 _ rfl; (with_reducible repeat (first | refine blk_drewN ?_ _ | refine blk_drew ?_ | refine blk_alloc ?_ _)); refine blk_put (cs := #[.int .i64 t290, .string t291, .string t292, .int .i64 0, .string (⟨#[]⟩ : ByteArray)]) ?_ 3 _ rfl; (with_reducible repeat (first | refine blk_drewN ?_ _ | refine blk_drew ?_ | refine blk_alloc ?_ _)); refine blk_put (cs := #[.int .i64 t290, .string t291, .string (⟨#[]⟩ : ByteArray), .int .i64 0, .string (⟨#[]⟩ : ByteArray)]) ?_ 2 _ rfl; (with_reducible repeat (first | refine blk_drewN ?_ _ | refine blk_drew ?_ | refine blk_alloc ?_ _)); refine blk_put (cs := #[.int .i64 t290, .string (⟨#[]⟩ : ByteArray), .string (⟨#[]⟩ : ByteArray), .int .i64 0, .string (⟨#[]⟩ : ByteArray)]) ?_ 1 _ rfl; (with_reducible repeat (first | refine blk_drewN ?_ _ | refine blk_drew ?_ | refine blk_alloc ?_ _)); refine blk_put (cs := #[.int .i64 0, .string (⟨#[]⟩ : ByteArray), .string (⟨#[]⟩ : ByteArray), .int .i64 0, .string (⟨#[]⟩ : ByteArray)]) ?_ 0 _ rfl; (with_reducible repeat (first | refine blk_drewN ?_ _ | refine blk_drew ?_ | refine blk_alloc ?_ _)); exact BK296.out) hb); have n1_ := Aside0.mk (below_step (by repeat (first | (with_reducible first | exact HB.out | apply below_alloc | apply pw_below_drewN | apply below_drew1 | refine below_set ?_ GE296.out) | exact HB.out)) hb); clear BK296; clear HB; have BK296 := n0_; have HB := n1_; clear n0_ n1_; (try clear hb); (try clear hb2); (try clear hk); (try clear hi)) | ((with_reducible refine gate_dst (N := 7) rfl ?_); refine box_event ?hg (N := 7) ?hd (cs := #[.int .i64 0, .string (⟨#[]⟩ : ByteArray), .string (⟨#[]⟩ : ByteArray), .int .i64 0, .string (⟨#[]⟩ : ByteArray)]) (t := 24) ?hr ?_; (case hd => rfl); (case hg => rfl); (case hr => first | (go_simp; done) | (go_simp; rfl)); intro gb303 hg w24 hbox hb; have n0_ := Aside0.mk (blk_below (g := gb296) (o := .cells #[.int .i64 t290, .string t291, .string t292, .int .i64 t293, .string t294] 24 (0, 0)) (by (with_reducible repeat (first | refine blk_drewN ?_ _ | refine blk_drew ?_ | refine blk_alloc ?_ _)); exact BK296.out) hb); have n1_ := Aside0.mk (below_step (by repeat (first | (with_reducible first | exact HB.out | apply below_alloc | apply pw_below_drewN | apply below_drew1 | refine below_set ?_ GE296.out) | exact HB.out)) hb); have n2_ := Aside0.mk (hbox); have n3_ := Aside0.mk ((by rw [hg]; exact (below_size (by repeat (first | (with_reducible first | exact HB.out | apply below_alloc | apply pw_below_drewN | apply below_drew1 | refine below_set ?_ GE296.out) | exact HB.out))) : w.heap.size ≤ gb303)); have n4_ := Aside0.mk ((by rw [hg]; exact (below_size (by repeat (first | (with_reducible first | exact HB.out | apply below_alloc | apply pw_below_drewN | apply below_drew1 | refine below_set ?_ GE296.out) | exact HB.out))) : w.heap.size ≤ gb303)); have n5_ := Aside0.mk ((by rw [hg]; exact Nat.ne_of_lt (blk_lt (g := gb296) (o := .cells #[.int .i64 t290, .string t291, .string t292, .int .i64 t293, .string t294] 24 (0, 0)) (by (with_reducible repeat (first | refine blk_drewN ?_ _ | refine blk_drew ?_ | refine blk_alloc ?_ _)); exact BK296.out)) : gb296 ≠ gb303)); have n6_ := Aside0.mk ((by rw [hg]; exact Nat.ne_of_gt (blk_lt (g := gb296) (o := .cells #[.int .i64 t290, .string t291, .string t292, .int .i64 t293, .string t294] 24 (0, 0)) (by (with_reducible repeat (first | refine blk_drewN ?_ _ | refine blk_drew ?_ | refine blk_alloc ?_ _)); exact BK296.out)) : gb303 ≠ gb296)); clear BK296; clear HB; have BK296 := n0_; have HB := n1_; have BK303 := n2_; have GW303 := n3_; have GE303 := n4_; have NB296_303 := n5_; have NB303_296 := n6_; clear n0_ n1_ n2_ n3_ n4_ n5_ n6_; clear hb hbox hg; have hnb25 := NB303_296.out; have hnc25 := NB296_303.out; have hcz26_0 : w24.cell? ⟨gb303, 0, none⟩ = some (.int .i64 0) := (blk_cell BK303.out 0).trans rfl; have hcz26_1 : w24.cell? ⟨gb303, 1, none⟩ = some (.string (⟨#[]⟩ : ByteArray)) := (blk_cell BK303.out 1).trans rfl; have hcz26_2 : w24.cell? ⟨gb303, 2, none⟩ = some (.string (⟨#[]⟩ : ByteArray)) := (blk_cell BK303.out 2).trans rfl; have hcz26_3 : w24.cell? ⟨gb303, 3, none⟩ = some (.int .i64 0) := (blk_cell BK303.out 3).trans rfl; have hcz26_4 : w24.cell? ⟨gb303, 4, none⟩ = some (.string (⟨#[]⟩ : ByteArray)) := (blk_cell BK303.out 4).trans rfl; have hfz26_0 := blk_frozen BK303.out 0; have hfz26_1 := blk_frozen BK303.out 1; have hfz26_2 := blk_frozen BK303.out 2; have hfz26_3 := blk_frozen BK303.out 3; have hfz26_4 := blk_frozen BK303.out 4; have hcz27_0 : w24.cell? ⟨gb296, 0, none⟩ = some (.int .i64 t290) := (blk_cell BK296.out 0).trans rfl; have hcz27_1 : w24.cell? ⟨gb296, 1, none⟩ = some (.string t291) := (blk_cell BK296.out 1).trans rfl; have hcz27_2 : w24.cell? ⟨gb296, 2, none⟩ = some (.string t292) := (blk_cell BK296.out 2).trans rfl; have hcz27_3 : w24.cell? ⟨gb296, 3, none⟩ = some (.int .i64 t293) := (blk_cell BK296.out 3).trans rfl; have hcz27_4 : w24.cell? ⟨gb296, 4, none⟩ = some (.string t294) := (blk_cell BK296.out 4).trans rfl; have hfz27_0 := blk_frozen BK296.out 0; have hfz27_1 := blk_frozen BK296.out 1; have hfz27_2 := blk_frozen BK296.out 2; have hfz27_3 := blk_frozen BK296.out 3; have hfz27_4 := blk_frozen BK296.out 4) | (go_at_call 11; (with_reducible refine (route_Processor.calls k a1 t304 _ A9.out).mono ?_); rintro e w' ⟨rfl, ⟨nd, rfl⟩⟩) | (go_at_call 12; (with_reducible refine (pennantref16_Processor.calls k a1 t305 _ A10.out).mono ?_); rintro e w' ⟨rfl, ⟨nd, rfl⟩⟩) | (go_at_call 13; (with_reducible refine (route_Session.calls a0 t306 _ A12.out).mono ?_); rintro e w' ⟨rfl, ⟨nd, rfl⟩⟩) | (go_at_call 14; (with_reducible refine (route_Page.calls a1 a0 t307 _ A15.out).mono ?_); rintro e w' ⟨rfl, ⟨nd, rfl⟩⟩))
          go_ret
          exact ⟨by first | rfl | (simp [errW_none, errW_some] <;> rfl) | (simp [*, errW_none, errW_some] <;> rfl), by repeat (first | (with_reducible first | exact HB.out | apply below_alloc | apply pw_below_drewN | apply below_drew1 | refine below_set ?_ GE296.out | refine below_set ?_ GE303.out) | exact HB.out)⟩
         ·
          rw [if_neg c18] at H
          exact absurd H (by simp)
        ·
         rw [if_neg c17] at H
         exact absurd H (by simp)
       ·
        rw [if_neg c16] at H
        exact absurd H (by simp)
      ·
       rw [if_neg c14] at H
       have c14b0 : (t306.toList == ((⟨#[35, 95, 115, 99, 120, 109, 108, 95]⟩ : ByteArray) ++ a0).toList) = false := beq_eq_false_iff_ne.mpr c14
       have c14b1 : (t306.toList != ((⟨#[35, 95, 115, 99, 120, 109, 108, 95]⟩ : ByteArray) ++ a0).toList) = true := bne_iff_ne.mpr c14
       exact absurd (Option.some.inj H) (by rw [HR_.out]; simp)
     ·
      rw [if_neg c13] at H
      exact absurd H (by simp)
    ·
     rw [if_neg c11] at H
     have c11b0 : (t304 == t305) = false := beq_eq_false_iff_ne.mpr c11
     have c11b1 : (t304 != t305) = true := bne_iff_ne.mpr c11
     exact absurd (Option.some.inj H) (by rw [HR_.out]; simp)
   ·
    rw [if_neg c8] at H
    have c8b0 : (t295 == t302) = false := beq_eq_false_iff_ne.mpr c8
    have c8b1 : (t295 != t302) = true := bne_iff_ne.mpr c8
    exact absurd (Option.some.inj H) (by rw [HR_.out]; simp)
  ·
   rw [if_neg c7] at H
   have c7b0 : (t290 == t297 && (t291.toList == t298.toList && (t292.toList == t299.toList && (t293 == t300 && (t294.toList == t301.toList))))) = false := by simpa using c7
   (try (have c7b1 : decide (t290 = t297 && (t291.toList == t298.toList && (t292.toList == t299.toList && (t293 == t300 && (t294.toList == t301.toList))))) = false := by simpa using c7))
   (try (have c7b2 : (t290 == t297 && (t291.toList == t298.toList && (t292.toList == t299.toList && (t293 == t300 && (t294.toList == t301.toList))))) = false := by simpa using c7))
   (try (have c7b3 : ¬ (t290 = t297 && (t291.toList == t298.toList && (t292.toList == t299.toList && (t293 == t300 && (t294.toList == t301.toList))))) := by simpa using c7))
   clear c7
   exact absurd (Option.some.inj H) (by rw [HR_.out]; simp)
 ·
  replace c4 := Bool.eq_false_iff.mpr c4
  subst c4
  have H1 : (some false) = some r := by rw [if_neg (show ¬ (false = true) by decide)] at H; exact H
  clear H
  have H := H1
  clear H1
  exact absurd (Option.some.inj H) (by rw [HR_.out]; simp)

end Go.Proofs.YthoknobkkpefkaaDoor.PAll
