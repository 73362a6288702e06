-- Laid by a program of this session (wip/pp in the repo) out of the translation. Lean checks it.
import Derived.Test.YthoknobkkpefkaaDoorPRefx0
import Derived.Test.YthoknobkkpefkaaDoorGiveHost
namespace Go.Proofs.YthoknobkkpefkaaDoor.PRef
open Go.Proofs.YthoknobkkpefkaaDoor.PAll
open Go.RowKit Go.Proofs.YthoknobkkpefkaaDoorW.PrintWords Go.Proofs.YthoknobkkpefkaaDoorW.PrintLast Go.Proofs.YthoknobkkpefkaaDoorW.PrintMore
attribute [local go_sem] max2_int min2_int max_two min_two max_three min_three max_four min_four   -- for this text's walks alone
set_option linter.unusedVariables false
set_option linter.unusedSimpArgs false

/-! ### pennantref16_Url: function 19 -/
mutual
def pennantref16_Url.j0 : Nat → ByteArray → Bool → Option (Int × ByteArray × ByteArray × Int × ByteArray × Int)
 | 0, _, _ => none
 | k + 1, x0, x16 => if x16 = true then (some (0, (⟨#[]⟩ : ByteArray), (⟨#[]⟩ : ByteArray), 0, (⟨#[]⟩ : ByteArray), 190)) else (pennantref16_Url.l0 k x0 7)
def pennantref16_Url.j2 : Nat → ByteArray → Int → Option (Int × ByteArray × ByteArray × Int × ByteArray × Int)
 | 0, _, _ => none
 | k + 1, x0, x4 => if 7 ≤ x4 then (if x4 ≤ (x0.size : Int) then (if x4 < (x0.size : Int) then (if 0 ≤ x4 then (pennantref16_Url.j3 k x0 x4 ((bt x0 x4) == 58) 6 (⟨#[]⟩ : ByteArray) (x0.extract 7 (x4 : Int).toNat) 80 (⟨#[47]⟩ : ByteArray)) else (none)) else (pennantref16_Url.j3 k x0 x4 false 6 (⟨#[]⟩ : ByteArray) (x0.extract 7 (x4 : Int).toNat) 80 (⟨#[47]⟩ : ByteArray))) else (none)) else (none)
def pennantref16_Url.j3 : Nat → ByteArray → Int → Bool → Int → ByteArray → ByteArray → Int → ByteArray → Option (Int × ByteArray × ByteArray × Int × ByteArray × Int)
 | 0, _, _, _, _, _, _, _, _ => none
 | k + 1, x0, x4, x49, x104000, x104001, x104002, x104003, x104004 => if x49 = true then (pennantref16_Url.l1 k x0 (wrap64 (x4 + 1)) (wrap64 (x4 + 1)) 0 x104000 x104001 x104002 x104003 x104004) else (pennantref16_Url.j5 k x0 x4 x104000 x104001 x104002 x104003 x104004)
def pennantref16_Url.j5 : Nat → ByteArray → Int → Int → ByteArray → ByteArray → Int → ByteArray → Option (Int × ByteArray × ByteArray × Int × ByteArray × Int)
 | 0, _, _, _, _, _, _, _ => none
 | k + 1, x0, x4, x104000, x104001, x104002, x104003, x104004 => if x4 < (x0.size : Int) then (if 0 ≤ x4 then (if (bt x0 x4) = 47 then (if x4 ≤ (x0.size : Int) then (pennantref16_Url.j6 k x104000 x104001 x104002 x104003 (x0.extract (x4 : Int).toNat x0.size)) else (none)) else (some (0, (⟨#[]⟩ : ByteArray), (⟨#[]⟩ : ByteArray), 0, (⟨#[]⟩ : ByteArray), 190))) else (none)) else (pennantref16_Url.j6 k x104000 x104001 x104002 x104003 x104004)
def pennantref16_Url.j6 : Nat → Int → ByteArray → ByteArray → Int → ByteArray → Option (Int × ByteArray × ByteArray × Int × ByteArray × Int)
 | 0, _, _, _, _, _ => none
 | k + 1, x104000, x104001, x104002, x104003, x104004 => pennantref16_Url.l2 k 0 x104000 x104001 x104002 x104003 x104004
def pennantref16_Url.l2 : Nat → Int → Int → ByteArray → ByteArray → Int → ByteArray → Option (Int × ByteArray × ByteArray × Int × ByteArray × Int)
 | 0, _, _, _, _, _, _ => none
 | k + 1, x8, x104000, x104001, x104002, x104003, x104004 => if x8 < (x104004.size : Int) then (if 0 ≤ x8 then (if (bt x104004 x8) < 33 then (some (0, (⟨#[]⟩ : ByteArray), (⟨#[]⟩ : ByteArray), 0, (⟨#[]⟩ : ByteArray), 190)) else (if (bt x104004 x8) > 126 then (some (0, (⟨#[]⟩ : ByteArray), (⟨#[]⟩ : ByteArray), 0, (⟨#[]⟩ : ByteArray), 190)) else (if (bt x104004 x8) = 35 then (some (0, (⟨#[]⟩ : ByteArray), (⟨#[]⟩ : ByteArray), 0, (⟨#[]⟩ : ByteArray), 190)) else (pennantref16_Url.l2 k (wrap64 (x8 + 1)) x104000 x104001 x104002 x104003 x104004)))) else (none)) else ((pennantref16_Host.f k x104002).bind fun t104 => (if t104 = true then (some (x104000, x104001, x104002, x104003, x104004, 0)) else (some (0, (⟨#[]⟩ : ByteArray), (⟨#[]⟩ : ByteArray), 0, (⟨#[]⟩ : ByteArray), 190))))
def pennantref16_Url.l1 : Nat → ByteArray → Int → Int → Int → Int → ByteArray → ByteArray → Int → ByteArray → Option (Int × ByteArray × ByteArray × Int × ByteArray × Int)
 | 0, _, _, _, _, _, _, _, _, _ => none
 | k + 1, x0, x4, x6, x7, x104000, x104001, x104002, x104003, x104004 => if x4 < (x0.size : Int) then (if 0 ≤ x4 then (if (bt x0 x4) ≥ 48 then (if (bt x0 x4) ≤ 57 then (pennantref16_Url.l1 k x0 (wrap64 (x4 + 1)) x6 (mn (wrap64 ((wrap64 (x7 * 10)) + (((bt x0 x4) - 48) % 256))) 100000) x104000 x104001 x104002 x104003 x104004) else (if x4 = x6 then (some (0, (⟨#[]⟩ : ByteArray), (⟨#[]⟩ : ByteArray), 0, (⟨#[]⟩ : ByteArray), 190)) else (if 0 ≤ x6 then (if x6 < (x0.size : Int) then (if (bt x0 x6) = 48 then (some (0, (⟨#[]⟩ : ByteArray), (⟨#[]⟩ : ByteArray), 0, (⟨#[]⟩ : ByteArray), 190)) else (if x7 > 65535 then (some (0, (⟨#[]⟩ : ByteArray), (⟨#[]⟩ : ByteArray), 0, (⟨#[]⟩ : ByteArray), 190)) else (pennantref16_Url.j5 k x0 x4 x104000 x104001 x104002 x7 x104004))) else (none)) else (none)))) else (if x4 = x6 then (some (0, (⟨#[]⟩ : ByteArray), (⟨#[]⟩ : ByteArray), 0, (⟨#[]⟩ : ByteArray), 190)) else (if 0 ≤ x6 then (if x6 < (x0.size : Int) then (if (bt x0 x6) = 48 then (some (0, (⟨#[]⟩ : ByteArray), (⟨#[]⟩ : ByteArray), 0, (⟨#[]⟩ : ByteArray), 190)) else (if x7 > 65535 then (some (0, (⟨#[]⟩ : ByteArray), (⟨#[]⟩ : ByteArray), 0, (⟨#[]⟩ : ByteArray), 190)) else (pennantref16_Url.j5 k x0 x4 x104000 x104001 x104002 x7 x104004))) else (none)) else (none)))) else (none)) else (if x4 = x6 then (some (0, (⟨#[]⟩ : ByteArray), (⟨#[]⟩ : ByteArray), 0, (⟨#[]⟩ : ByteArray), 190)) else (if 0 ≤ x6 then (if x6 < (x0.size : Int) then (if (bt x0 x6) = 48 then (some (0, (⟨#[]⟩ : ByteArray), (⟨#[]⟩ : ByteArray), 0, (⟨#[]⟩ : ByteArray), 190)) else (if x7 > 65535 then (some (0, (⟨#[]⟩ : ByteArray), (⟨#[]⟩ : ByteArray), 0, (⟨#[]⟩ : ByteArray), 190)) else (pennantref16_Url.j5 k x0 x4 x104000 x104001 x104002 x7 x104004))) else (none)) else (none)))
def pennantref16_Url.l0 : Nat → ByteArray → Int → Option (Int × ByteArray × ByteArray × Int × ByteArray × Int)
 | 0, _, _ => none
 | k + 1, x0, x4 => if x4 < (x0.size : Int) then (if 0 ≤ x4 then (if (bt x0 x4) = 47 then (pennantref16_Url.j2 k x0 x4) else (if (bt x0 x4) = 58 then (pennantref16_Url.j2 k x0 x4) else (pennantref16_Url.l0 k x0 (wrap64 (x4 + 1))))) else (none)) else (pennantref16_Url.j2 k x0 x4)
end
def pennantref16_Url.f (k : Nat) (a0 : ByteArray) : Option (Int × ByteArray × ByteArray × Int × ByteArray × Int) := (pennantref16_begins.f a0 (⟨#[104, 116, 116, 112, 58, 47, 47]⟩ : ByteArray)).bind fun t102 => (if t102 = true then (pennantref16_Url.j0 k a0 (decide ((a0.size : Int) > 256))) else (pennantref16_Url.j0 k a0 true))
theorem pennantref16_Url.mono_l : ∀ k, (∀ y0 y1, LeO (pennantref16_Url.j0 k y0 y1) (pennantref16_Url.j0 (k + 1) y0 y1)) ∧ (∀ y0 y1, LeO (pennantref16_Url.j2 k y0 y1) (pennantref16_Url.j2 (k + 1) y0 y1)) ∧ (∀ y0 y1 y2 y3 y4 y5 y6 y7, LeO (pennantref16_Url.j3 k y0 y1 y2 y3 y4 y5 y6 y7) (pennantref16_Url.j3 (k + 1) y0 y1 y2 y3 y4 y5 y6 y7)) ∧ (∀ y0 y1 y2 y3 y4 y5 y6, LeO (pennantref16_Url.j5 k y0 y1 y2 y3 y4 y5 y6) (pennantref16_Url.j5 (k + 1) y0 y1 y2 y3 y4 y5 y6)) ∧ (∀ y0 y1 y2 y3 y4, LeO (pennantref16_Url.j6 k y0 y1 y2 y3 y4) (pennantref16_Url.j6 (k + 1) y0 y1 y2 y3 y4)) ∧ (∀ y0 y1 y2 y3 y4 y5, LeO (pennantref16_Url.l2 k y0 y1 y2 y3 y4 y5) (pennantref16_Url.l2 (k + 1) y0 y1 y2 y3 y4 y5)) ∧ (∀ y0 y1 y2 y3 y4 y5 y6 y7 y8, LeO (pennantref16_Url.l1 k y0 y1 y2 y3 y4 y5 y6 y7 y8) (pennantref16_Url.l1 (k + 1) y0 y1 y2 y3 y4 y5 y6 y7 y8)) ∧ (∀ y0 y1, LeO (pennantref16_Url.l0 k y0 y1) (pennantref16_Url.l0 (k + 1) y0 y1))
 | 0 => ⟨fun _ _ r h => by simp [pennantref16_Url.j0] at h, fun _ _ r h => by simp [pennantref16_Url.j2] at h, fun _ _ _ _ _ _ _ _ r h => by simp [pennantref16_Url.j3] at h, fun _ _ _ _ _ _ _ r h => by simp [pennantref16_Url.j5] at h, fun _ _ _ _ _ r h => by simp [pennantref16_Url.j6] at h, fun _ _ _ _ _ _ r h => by simp [pennantref16_Url.l2] at h, fun _ _ _ _ _ _ _ _ _ r h => by simp [pennantref16_Url.l1] at h, fun _ _ r h => by simp [pennantref16_Url.l0] at h⟩
 | k + 1 => by
  obtain ⟨ih0, ih1, ih2, ih3, ih4, ih5, ih6, ih7⟩ := pennantref16_Url.mono_l k
  refine ⟨?_, ?_, ?_, ?_, ?_, ?_, ?_, ?_⟩
  ·
   intro y0 y1
   unfold pennantref16_Url.j0
   repeat' first
   | (with_reducible exact ih0 _ _)
   | (with_reducible exact ih1 _ _)
   | (with_reducible exact ih2 _ _ _ _ _ _ _ _)
   | (with_reducible exact ih3 _ _ _ _ _ _ _)
   | (with_reducible exact ih4 _ _ _ _ _)
   | (with_reducible exact ih5 _ _ _ _ _ _)
   | (with_reducible exact ih6 _ _ _ _ _ _ _ _ _)
   | (with_reducible exact ih7 _ _)
   | (with_reducible exact pennantref16_Host.mono _ _)
   | (with_reducible exact LeO.refl _)
   | (with_reducible exact LeO.none _)
   | (with_reducible refine LeO.ite ?_ ?_)
   | (with_reducible refine LeO.bind ?_ (fun _ => ?_))
   | exact ih0 _ _
   | exact ih1 _ _
   | exact ih2 _ _ _ _ _ _ _ _
   | exact ih3 _ _ _ _ _ _ _
   | exact ih4 _ _ _ _ _
   | exact ih5 _ _ _ _ _ _
   | exact ih6 _ _ _ _ _ _ _ _ _
   | exact ih7 _ _
   | exact pennantref16_Host.mono _ _
   | exact LeO.none _
   | refine LeO.ite ?_ ?_
   | refine LeO.bind ?_ (fun _ => ?_)
  ·
   intro y0 y1
   unfold pennantref16_Url.j2
   repeat' first
   | (with_reducible exact ih0 _ _)
   | (with_reducible exact ih1 _ _)
   | (with_reducible exact ih2 _ _ _ _ _ _ _ _)
   | (with_reducible exact ih3 _ _ _ _ _ _ _)
   | (with_reducible exact ih4 _ _ _ _ _)
   | (with_reducible exact ih5 _ _ _ _ _ _)
   | (with_reducible exact ih6 _ _ _ _ _ _ _ _ _)
   | (with_reducible exact ih7 _ _)
   | (with_reducible exact pennantref16_Host.mono _ _)
   | (with_reducible exact LeO.refl _)
   | (with_reducible exact LeO.none _)
   | (with_reducible refine LeO.ite ?_ ?_)
   | (with_reducible refine LeO.bind ?_ (fun _ => ?_))
   | exact ih0 _ _
   | exact ih1 _ _
   | exact ih2 _ _ _ _ _ _ _ _
   | exact ih3 _ _ _ _ _ _ _
   | exact ih4 _ _ _ _ _
   | exact ih5 _ _ _ _ _ _
   | exact ih6 _ _ _ _ _ _ _ _ _
   | exact ih7 _ _
   | exact pennantref16_Host.mono _ _
   | exact LeO.none _
   | refine LeO.ite ?_ ?_
   | refine LeO.bind ?_ (fun _ => ?_)
  ·
   intro y0 y1 y2 y3 y4 y5 y6 y7
   unfold pennantref16_Url.j3
   repeat' first
   | (with_reducible exact ih0 _ _)
   | (with_reducible exact ih1 _ _)
   | (with_reducible exact ih2 _ _ _ _ _ _ _ _)
   | (with_reducible exact ih3 _ _ _ _ _ _ _)
   | (with_reducible exact ih4 _ _ _ _ _)
   | (with_reducible exact ih5 _ _ _ _ _ _)
   | (with_reducible exact ih6 _ _ _ _ _ _ _ _ _)
   | (with_reducible exact ih7 _ _)
   | (with_reducible exact pennantref16_Host.mono _ _)
   | (with_reducible exact LeO.refl _)
   | (with_reducible exact LeO.none _)
   | (with_reducible refine LeO.ite ?_ ?_)
   | (with_reducible refine LeO.bind ?_ (fun _ => ?_))
   | exact ih0 _ _
   | exact ih1 _ _
   | exact ih2 _ _ _ _ _ _ _ _
   | exact ih3 _ _ _ _ _ _ _
   | exact ih4 _ _ _ _ _
   | exact ih5 _ _ _ _ _ _
   | exact ih6 _ _ _ _ _ _ _ _ _
   | exact ih7 _ _
   | exact pennantref16_Host.mono _ _
   | exact LeO.none _
   | refine LeO.ite ?_ ?_
   | refine LeO.bind ?_ (fun _ => ?_)
  ·
   intro y0 y1 y2 y3 y4 y5 y6
   unfold pennantref16_Url.j5
   repeat' first
   | (with_reducible exact ih0 _ _)
   | (with_reducible exact ih1 _ _)
   | (with_reducible exact ih2 _ _ _ _ _ _ _ _)
   | (with_reducible exact ih3 _ _ _ _ _ _ _)
   | (with_reducible exact ih4 _ _ _ _ _)
   | (with_reducible exact ih5 _ _ _ _ _ _)
   | (with_reducible exact ih6 _ _ _ _ _ _ _ _ _)
   | (with_reducible exact ih7 _ _)
   | (with_reducible exact pennantref16_Host.mono _ _)
   | (with_reducible exact LeO.refl _)
   | (with_reducible exact LeO.none _)
   | (with_reducible refine LeO.ite ?_ ?_)
   | (with_reducible refine LeO.bind ?_ (fun _ => ?_))
   | exact ih0 _ _
   | exact ih1 _ _
   | exact ih2 _ _ _ _ _ _ _ _
   | exact ih3 _ _ _ _ _ _ _
   | exact ih4 _ _ _ _ _
   | exact ih5 _ _ _ _ _ _
   | exact ih6 _ _ _ _ _ _ _ _ _
   | exact ih7 _ _
   | exact pennantref16_Host.mono _ _
   | exact LeO.none _
   | refine LeO.ite ?_ ?_
   | refine LeO.bind ?_ (fun _ => ?_)
  ·
   intro y0 y1 y2 y3 y4
   unfold pennantref16_Url.j6
   repeat' first
   | (with_reducible exact ih0 _ _)
   | (with_reducible exact ih1 _ _)
   | (with_reducible exact ih2 _ _ _ _ _ _ _ _)
   | (with_reducible exact ih3 _ _ _ _ _ _ _)
   | (with_reducible exact ih4 _ _ _ _ _)
   | (with_reducible exact ih5 _ _ _ _ _ _)
   | (with_reducible exact ih6 _ _ _ _ _ _ _ _ _)
   | (with_reducible exact ih7 _ _)
   | (with_reducible exact pennantref16_Host.mono _ _)
   | (with_reducible exact LeO.refl _)
   | (with_reducible exact LeO.none _)
   | (with_reducible refine LeO.ite ?_ ?_)
   | (with_reducible refine LeO.bind ?_ (fun _ => ?_))
   | exact ih0 _ _
   | exact ih1 _ _
   | exact ih2 _ _ _ _ _ _ _ _
   | exact ih3 _ _ _ _ _ _ _
   | exact ih4 _ _ _ _ _
   | exact ih5 _ _ _ _ _ _
   | exact ih6 _ _ _ _ _ _ _ _ _
   | exact ih7 _ _
   | exact pennantref16_Host.mono _ _
   | exact LeO.none _
   | refine LeO.ite ?_ ?_
   | refine LeO.bind ?_ (fun _ => ?_)
  ·
   intro y0 y1 y2 y3 y4 y5
   unfold pennantref16_Url.l2
   repeat' first
   | (with_reducible exact ih0 _ _)
   | (with_reducible exact ih1 _ _)
   | (with_reducible exact ih2 _ _ _ _ _ _ _ _)
   | (with_reducible exact ih3 _ _ _ _ _ _ _)
   | (with_reducible exact ih4 _ _ _ _ _)
   | (with_reducible exact ih5 _ _ _ _ _ _)
   | (with_reducible exact ih6 _ _ _ _ _ _ _ _ _)
   | (with_reducible exact ih7 _ _)
   | (with_reducible exact pennantref16_Host.mono _ _)
   | (with_reducible exact LeO.refl _)
   | (with_reducible exact LeO.none _)
   | (with_reducible refine LeO.ite ?_ ?_)
   | (with_reducible refine LeO.bind ?_ (fun _ => ?_))
   | exact ih0 _ _
   | exact ih1 _ _
   | exact ih2 _ _ _ _ _ _ _ _
   | exact ih3 _ _ _ _ _ _ _
   | exact ih4 _ _ _ _ _
   | exact ih5 _ _ _ _ _ _
   | exact ih6 _ _ _ _ _ _ _ _ _
   | exact ih7 _ _
   | exact pennantref16_Host.mono _ _
   | exact LeO.none _
   | refine LeO.ite ?_ ?_
   | refine LeO.bind ?_ (fun _ => ?_)
  ·
   intro y0 y1 y2 y3 y4 y5 y6 y7 y8
   unfold pennantref16_Url.l1
   repeat' first
   | (with_reducible exact ih0 _ _)
   | (with_reducible exact ih1 _ _)
   | (with_reducible exact ih2 _ _ _ _ _ _ _ _)
   | (with_reducible exact ih3 _ _ _ _ _ _ _)
   | (with_reducible exact ih4 _ _ _ _ _)
   | (with_reducible exact ih5 _ _ _ _ _ _)
   | (with_reducible exact ih6 _ _ _ _ _ _ _ _ _)
   | (with_reducible exact ih7 _ _)
   | (with_reducible exact pennantref16_Host.mono _ _)
   | (with_reducible exact LeO.refl _)
   | (with_reducible exact LeO.none _)
   | (with_reducible refine LeO.ite ?_ ?_)
   | (with_reducible refine LeO.bind ?_ (fun _ => ?_))
   | exact ih0 _ _
   | exact ih1 _ _
   | exact ih2 _ _ _ _ _ _ _ _
   | exact ih3 _ _ _ _ _ _ _
   | exact ih4 _ _ _ _ _
   | exact ih5 _ _ _ _ _ _
   | exact ih6 _ _ _ _ _ _ _ _ _
   | exact ih7 _ _
   | exact pennantref16_Host.mono _ _
   | exact LeO.none _
   | refine LeO.ite ?_ ?_
   | refine LeO.bind ?_ (fun _ => ?_)
  ·
   intro y0 y1
   unfold pennantref16_Url.l0
   repeat' first
   | (with_reducible exact ih0 _ _)
   | (with_reducible exact ih1 _ _)
   | (with_reducible exact ih2 _ _ _ _ _ _ _ _)
   | (with_reducible exact ih3 _ _ _ _ _ _ _)
   | (with_reducible exact ih4 _ _ _ _ _)
   | (with_reducible exact ih5 _ _ _ _ _ _)
   | (with_reducible exact ih6 _ _ _ _ _ _ _ _ _)
   | (with_reducible exact ih7 _ _)
   | (with_reducible exact pennantref16_Host.mono _ _)
   | (with_reducible exact LeO.refl _)
   | (with_reducible exact LeO.none _)
   | (with_reducible refine LeO.ite ?_ ?_)
   | (with_reducible refine LeO.bind ?_ (fun _ => ?_))
   | exact ih0 _ _
   | exact ih1 _ _
   | exact ih2 _ _ _ _ _ _ _ _
   | exact ih3 _ _ _ _ _ _ _
   | exact ih4 _ _ _ _ _
   | exact ih5 _ _ _ _ _ _
   | exact ih6 _ _ _ _ _ _ _ _ _
   | exact ih7 _ _
   | exact pennantref16_Host.mono _ _
   | exact LeO.none _
   | refine LeO.ite ?_ ?_
   | refine LeO.bind ?_ (fun _ => ?_)
theorem pennantref16_Url.mono : ∀ a0 k, LeO (pennantref16_Url.f k a0) (pennantref16_Url.f (k + 1) a0) := by
 intro a0 k
 obtain ⟨ih0, ih1, ih2, ih3, ih4, ih5, ih6, ih7⟩ := pennantref16_Url.mono_l k
 unfold pennantref16_Url.f
 repeat' first
   | (with_reducible exact ih0 _ _)
   | (with_reducible exact ih1 _ _)
   | (with_reducible exact ih2 _ _ _ _ _ _ _ _)
   | (with_reducible exact ih3 _ _ _ _ _ _ _)
   | (with_reducible exact ih4 _ _ _ _ _)
   | (with_reducible exact ih5 _ _ _ _ _ _)
   | (with_reducible exact ih6 _ _ _ _ _ _ _ _ _)
   | (with_reducible exact ih7 _ _)
   | (with_reducible exact pennantref16_Host.mono _ _)
   | (with_reducible exact LeO.refl _)
   | (with_reducible exact LeO.none _)
   | (with_reducible refine LeO.ite ?_ ?_)
   | (with_reducible refine LeO.bind ?_ (fun _ => ?_))
   | exact ih0 _ _
   | exact ih1 _ _
   | exact ih2 _ _ _ _ _ _ _ _
   | exact ih3 _ _ _ _ _ _ _
   | exact ih4 _ _ _ _ _
   | exact ih5 _ _ _ _ _ _
   | exact ih6 _ _ _ _ _ _ _ _ _
   | exact ih7 _ _
   | exact pennantref16_Host.mono _ _
   | exact LeO.none _
   | refine LeO.ite ?_ ?_
   | refine LeO.bind ?_ (fun _ => ?_)
set_option maxHeartbeats 8000000 in
set_option maxRecDepth 100000 in
theorem pennantref16_Url.calls (k : Nat) (a0 : ByteArray) (r1 : Int) (r2 : ByteArray) (r3 : ByteArray) (r4 : Int) (r5 : ByteArray) (r6 : Int) (w : World) (h : pennantref16_Url.f k a0 = some (r1, r2, r3, r4, r5, r6)) :
  Calls Tryd.prog 19 #[.string a0] w fun e w' => e = .returned (.tuple #[.agg #[.int .i64 r1, .string r2, .string r3, .int .i64 r4, .string r5], .int .i64 r6]) ∧ Below w.heap.size w w' := by
 have hu24 := Tryd.underlying24
 have HB := Aside0.mk (Below.refl w.heap.size w)
 have H : ((pennantref16_begins.f a0 (⟨#[104, 116, 116, 112, 58, 47, 47]⟩ : ByteArray)).bind fun t102 => (if t102 = true then (pennantref16_Url.j0 k a0 (decide ((a0.size : Int) > 256))) else (pennantref16_Url.j0 k a0 true))) = some (r1, r2, r3, r4, r5, r6) := h
 clear h
 have HC2 := Aside0.mk H
 clear H
 go_enter Tryd.func19, Tryd.ntmps19
 go_upto_region 1 with (first | ((with_reducible refine gate_dst (N := 2) rfl ?_); (try (refine gate_guard (by rfl) ?_; dsimp only)); refine box_event ?hg (N := 2) ?hd (cs := #[.int .i64 0, .string (⟨#[]⟩ : ByteArray), .string (⟨#[]⟩ : ByteArray), .int .i64 0, .string (⟨#[]⟩ : ByteArray)]) (t := 24) ?hr ?_; (case hd => rfl); (case hg => rfl); (case hr => first | (go_simp; done) | (go_simp; rfl)); intro gb101 hg w3 hbox hb; have n0_ := Aside0.mk (below_step (by repeat (first | (with_reducible first | exact HB.out | apply below_alloc | apply pw_below_drewN | apply below_drew1) | exact HB.out)) hb); have n1_ := Aside0.mk (hbox); have n2_ := Aside0.mk ((by rw [hg]; exact (below_size (by repeat (first | (with_reducible first | exact HB.out | apply below_alloc | apply pw_below_drewN | apply below_drew1) | exact HB.out))) : w.heap.size ≤ gb101)); have n3_ := Aside0.mk ((by rw [hg]; exact (below_size (by repeat (first | (with_reducible first | exact HB.out | apply below_alloc | apply pw_below_drewN | apply below_drew1) | exact HB.out))) : w.heap.size ≤ gb101)); clear HB; have HB := n0_; have BK101 := n1_; have GW101 := n2_; have GE101 := n3_; clear n0_ n1_ n2_ n3_; clear hb hbox hg))
 (try simp only [Act.put, List.setIfInBounds_toArray, List.set_cons_zero, List.set_cons_succ])
 go_cut [16] (fun v16 wc => ∃ (kq : Nat) (x16_1 : Bool), v16 = .bool x16_1 ∧ Aside0 (pennantref16_Url.j0 kq a0 x16_1 = some (r1, r2, r3, r4, r5, r6)) ∧ Aside0 (kq ≤ k) ∧ Aside0 (wc.heap[gb101]? = some (.cells #[.int .i64 0, .string (⟨#[]⟩ : ByteArray), .string (⟨#[]⟩ : ByteArray), .int .i64 0, .string (⟨#[]⟩ : ByteArray)] 24 (0, 0))) ∧ Aside0 (Below w.heap.size w wc))
 case first =>
  have H := HC2.out
  clear HC2
  replace H := Option.bind_eq_some_iff.mp H
  obtain ⟨t102, A40, H⟩ := H
  replace H : (if t102 = true then (pennantref16_Url.j0 k a0 (decide ((a0.size : Int) > 256))) else (pennantref16_Url.j0 k a0 true)) = some (r1, r2, r3, r4, r5, r6) := H
  have A4 := Aside0.mk A40
  clear A40
  by_cases c5 : t102 = true
  ·
   subst c5
   have H1 : (pennantref16_Url.j0 k a0 (decide ((a0.size : Int) > 256))) = some (r1, r2, r3, r4, r5, r6) := by rw [if_pos rfl] at H; exact H
   clear H
   have H := H1
   clear H1
   have H' := Aside0.mk H
   clear H
   go_wp2_with (first | ((with_reducible refine gate_callee (f := 20) rfl ?_); refine goesL_ (some 10) rfl rfl Tryd.func20 (by kernel_rfl) rfl #[.string a0, .string (⟨#[104, 116, 116, 112, 58, 47, 47]⟩ : ByteArray)] rfl (by (try simp only [List.map_toArray, List.map_cons, List.map_nil]); first | done | rfl | (simp only [List.length_drop, List.length_take]; rfl)) ?_; (with_reducible refine (pennantref16_begins.calls a0 (⟨#[104, 116, 116, 112, 58, 47, 47]⟩ : ByteArray) true _ A4.out).mono ?_); rintro e w' ⟨rfl, ⟨nd, rfl⟩⟩; refine ⟨_, rfl, ?_⟩))
   go_meet
   case rel => exact ⟨_, (decide ((a0.size : Int) > 256)), (by first | rfl | (simp; done) | (simp [*]; done)), H', ⟨by first | omega | exact Nat.le_refl _⟩, ⟨by (with_reducible repeat (first | refine blk_drewN ?_ _ | refine blk_drew ?_ | refine blk_alloc ?_ _)); exact BK101.out⟩, ⟨by repeat (first | (with_reducible first | exact HB.out | apply below_alloc | apply pw_below_drewN | apply below_drew1 | refine below_set ?_ GE101.out) | exact HB.out)⟩⟩
  ·
   replace c5 := Bool.eq_false_iff.mpr c5
   subst c5
   have H1 : (pennantref16_Url.j0 k a0 true) = some (r1, r2, r3, r4, r5, r6) := by rw [if_neg (show ¬ (false = true) by decide)] at H; exact H
   clear H
   have H := H1
   clear H1
   have H' := Aside0.mk H
   clear H
   go_wp2_with (first | ((with_reducible refine gate_callee (f := 20) rfl ?_); refine goesL_ (some 10) rfl rfl Tryd.func20 (by kernel_rfl) rfl #[.string a0, .string (⟨#[104, 116, 116, 112, 58, 47, 47]⟩ : ByteArray)] rfl (by (try simp only [List.map_toArray, List.map_cons, List.map_nil]); first | done | rfl | (simp only [List.length_drop, List.length_take]; rfl)) ?_; (with_reducible refine (pennantref16_begins.calls a0 (⟨#[104, 116, 116, 112, 58, 47, 47]⟩ : ByteArray) false _ A4.out).mono ?_); rintro e w' ⟨rfl, ⟨nd, rfl⟩⟩; refine ⟨_, rfl, ?_⟩))
   go_meet
   case rel => exact ⟨_, (true), (by first | rfl | (simp; done) | (simp [*]; done)), H', ⟨by first | omega | exact Nat.le_refl _⟩, ⟨by (with_reducible repeat (first | refine blk_drewN ?_ _ | refine blk_drew ?_ | refine blk_alloc ?_ _)); exact BK101.out⟩, ⟨by repeat (first | (with_reducible first | exact HB.out | apply below_alloc | apply pw_below_drewN | apply below_drew1 | refine below_set ?_ GE101.out) | exact HB.out)⟩⟩
 case rest =>
  clear HC2
  try clear c1
  try clear c2
  try clear p2
  try clear c5
  obtain ⟨kq, x16_1, rfl, HA, HJ1, BK101, HB⟩ := hcut
  cases kq with
  | zero => exact absurd HA.out (by simp [pennantref16_Url.j0])
  | succ kj1 =>
   have H := HA.out
   clear HA
   simp only [pennantref16_Url.j0] at H
   by_cases c6 : x16_1 = true
   ·
    subst c6
    have H1 : (some (0, (⟨#[]⟩ : ByteArray), (⟨#[]⟩ : ByteArray), 0, (⟨#[]⟩ : ByteArray), 190)) = some (r1, r2, r3, r4, r5, r6) := by rw [if_pos rfl] at H; exact H
    clear H
    have H := H1
    clear H1
    simp only [Option.some.injEq, Prod.mk.injEq] at H
    obtain ⟨rfl, rfl, rfl, rfl, rfl, rfl⟩ := H
    have hcz7_0 : wc.cell? ⟨gb101, 0, none⟩ = some (.int .i64 0) := (blk_cell BK101.out 0).trans rfl
    have hcz7_1 : wc.cell? ⟨gb101, 1, none⟩ = some (.string (⟨#[]⟩ : ByteArray)) := (blk_cell BK101.out 1).trans rfl
    have hcz7_2 : wc.cell? ⟨gb101, 2, none⟩ = some (.string (⟨#[]⟩ : ByteArray)) := (blk_cell BK101.out 2).trans rfl
    have hcz7_3 : wc.cell? ⟨gb101, 3, none⟩ = some (.int .i64 0) := (blk_cell BK101.out 3).trans rfl
    have hcz7_4 : wc.cell? ⟨gb101, 4, none⟩ = some (.string (⟨#[]⟩ : ByteArray)) := (blk_cell BK101.out 4).trans rfl
    have hfz7_0 := blk_frozen BK101.out 0
    have hfz7_1 := blk_frozen BK101.out 1
    have hfz7_2 := blk_frozen BK101.out 2
    have hfz7_3 := blk_frozen BK101.out 3
    have hfz7_4 := blk_frozen BK101.out 4
    go_wp2
    refine bodyPost_ret (results_ct rfl _ _ gb101 24 #[.int .i64 0, .string (⟨#[]⟩ : ByteArray), .string (⟨#[]⟩ : ByteArray), .int .i64 0, .string (⟨#[]⟩ : ByteArray)] (0, 0) _ rfl (by (with_reducible repeat (first | refine blk_drewN ?_ _ | refine blk_drew ?_ | refine blk_alloc ?_ _)); refine blk_put (cs := #[.int .i64 0, .string (⟨#[]⟩ : ByteArray), .string (⟨#[]⟩ : ByteArray), .int .i64 0, .string (⟨#[]⟩ : ByteArray)]) ?_ 4 _ rfl; (with_reducible repeat (first | refine blk_drewN ?_ _ | refine blk_drew ?_ | refine blk_alloc ?_ _)); refine blk_put (cs := #[.int .i64 0, .string (⟨#[]⟩ : ByteArray), .string (⟨#[]⟩ : ByteArray), .int .i64 0, .string (⟨#[]⟩ : ByteArray)]) ?_ 3 _ rfl; (with_reducible repeat (first | refine blk_drewN ?_ _ | refine blk_drew ?_ | refine blk_alloc ?_ _)); refine blk_put (cs := #[.int .i64 0, .string (⟨#[]⟩ : ByteArray), .string (⟨#[]⟩ : ByteArray), .int .i64 0, .string (⟨#[]⟩ : ByteArray)]) ?_ 2 _ rfl; (with_reducible repeat (first | refine blk_drewN ?_ _ | refine blk_drew ?_ | refine blk_alloc ?_ _)); refine blk_put (cs := #[.int .i64 0, .string (⟨#[]⟩ : ByteArray), .string (⟨#[]⟩ : ByteArray), .int .i64 0, .string (⟨#[]⟩ : ByteArray)]) ?_ 1 _ rfl; (with_reducible repeat (first | refine blk_drewN ?_ _ | refine blk_drew ?_ | refine blk_alloc ?_ _)); refine blk_put (cs := #[.int .i64 0, .string (⟨#[]⟩ : ByteArray), .string (⟨#[]⟩ : ByteArray), .int .i64 0, .string (⟨#[]⟩ : ByteArray)]) ?_ 0 _ rfl; (with_reducible repeat (first | refine blk_drewN ?_ _ | refine blk_drew ?_ | refine blk_alloc ?_ _)); exact BK101.out) Tryd.underlying24 rfl (by kernel_rfl)) rfl ?_
    exact ⟨by first | rfl | (simp [errW_none, errW_some] <;> rfl) | (simp [*, errW_none, errW_some] <;> rfl), by repeat (first | (with_reducible first | exact HB.out | apply below_alloc | apply pw_below_drewN | apply below_drew1 | refine below_set ?_ GE101.out) | exact HB.out)⟩
   ·
    replace c6 := Bool.eq_false_iff.mpr c6
    subst c6
    have H1 : (pennantref16_Url.l0 kj1 a0 7) = some (r1, r2, r3, r4, r5, r6) := by rw [if_neg (show ¬ (false = true) by decide)] at H; exact H
    clear H
    have H := H1
    clear H1
    have HC8 := Aside0.mk H
    clear H
    go_upto_block 0 with (fail)
    go_cut [4] (fun v4 wc => ∃ (kq : Nat) (x4_7 : Int), v4 = .int .i64 x4_7 ∧ Aside0 (pennantref16_Url.j2 kq a0 x4_7 = some (r1, r2, r3, r4, r5, r6)) ∧ Aside0 (kq ≤ kj1) ∧ Aside0 (wc.heap[gb101]? = some (.cells #[.int .i64 0, .string (⟨#[]⟩ : ByteArray), .string (⟨#[]⟩ : ByteArray), .int .i64 0, .string (⟨#[]⟩ : ByteArray)] 24 (0, 0))) ∧ Aside0 (Below w.heap.size w wc))
    case first =>
     have H := HC8.out
     clear HC8
     have H' := Aside0.mk H
     clear H
     go_wp2
     go_loopg [4] kj1 (fun kq v4 w' => ∃ (x4_2 : Int), v4 = .int .i64 x4_2 ∧ Aside0 (pennantref16_Url.l0 kq a0 x4_2 = some (r1, r2, r3, r4, r5, r6)) ∧ Aside0 (kq ≤ kj1) ∧ Aside0 (w'.heap[gb101]? = some (.cells #[.int .i64 0, .string (⟨#[]⟩ : ByteArray), .string (⟨#[]⟩ : ByteArray), .int .i64 0, .string (⟨#[]⟩ : ByteArray)] 24 (0, 0))) ∧ Aside0 (Below w.heap.size w w'))
     case atStart => exact ⟨(7), (by first | rfl | (simp; done) | (simp [*]; done)), H', ⟨Nat.le_refl _⟩, ⟨by (with_reducible repeat (first | refine blk_drewN ?_ _ | refine blk_drew ?_ | refine blk_alloc ?_ _)); exact BK101.out⟩, ⟨by repeat (first | (with_reducible first | exact HB.out | apply below_alloc | apply pw_below_drewN | apply below_drew1 | refine below_set ?_ GE101.out) | exact HB.out)⟩⟩
     case round =>
      clear H'
      try clear c1
      try clear c2
      try clear p2
      try clear c5
      try clear c6
      try clear hcz7_0
      try clear hcz7_1
      try clear hcz7_2
      try clear hcz7_3
      try clear hcz7_4
      try clear hfz7_0
      try clear hfz7_1
      try clear hfz7_2
      try clear hfz7_3
      try clear hfz7_4
      try clear p2
      obtain ⟨x4_2, rfl, HA, HK2, BK101, HB⟩ := hrel
      cases gk with
      | zero => exact absurd HA.out (by simp [pennantref16_Url.l0])
      | succ k2 =>
       have H := HA.out
       clear HA
       simp only [pennantref16_Url.l0] at H
       by_cases c9 : x4_2 < (a0.size : Int)
       ·
        rw [if_pos c9] at H
        have c9b0 : decide (x4_2 < (a0.size : Int)) = true := decide_eq_true c9
        clear c9
        (first | rw [c9b0] | (simp only [i64_w, i32_w]; rw [c9b0]) | skip)
        by_cases c10 : 0 ≤ x4_2
        ·
         rw [if_pos c10] at H
         have c10b0 : decide (0 ≤ x4_2) = true := decide_eq_true c10
         clear c10
         by_cases c12 : (bt a0 x4_2) = 47
         ·
          rw [if_pos c12] at H
          have c12b0 : ((bt a0 x4_2) == 47) = true := beq_iff_eq.mpr c12
          have c12b1 : ((bt a0 x4_2) != 47) = false := bne_eq_false_iff_eq.mpr c12
          clear c12
          have H' := Aside0.mk H
          clear H
          have p11 : 0 ≤ (x4_2 : Int) := of_decide_eq_true (by first | (with_reducible assumption) | assumption)
          have q11 : x4_2 < (a0.size : Int) := of_decide_eq_true (by first | (with_reducible assumption) | assumption)
          have hx11 := bt_at a0 x4_2
          replace p11 := eq_true p11
          replace q11 := eq_true q11
          go_wp2
          go_meet
          case rel => exact ⟨_, (x4_2), (by first | rfl | (simp; done) | (simp [*]; done)), H', ⟨by have := HJ1.out; have := HK2.out; first | omega | exact Nat.le_refl _⟩, ⟨by (with_reducible repeat (first | refine blk_drewN ?_ _ | refine blk_drew ?_ | refine blk_alloc ?_ _)); exact BK101.out⟩, ⟨by repeat (first | (with_reducible first | exact HB.out | apply below_alloc | apply pw_below_drewN | apply below_drew1 | refine below_set ?_ GE101.out) | exact HB.out)⟩⟩
         ·
          rw [if_neg c12] at H
          have c12b0 : ((bt a0 x4_2) == 47) = false := beq_eq_false_iff_ne.mpr c12
          have c12b1 : ((bt a0 x4_2) != 47) = true := bne_iff_ne.mpr c12
          by_cases c14 : (bt a0 x4_2) = 58
          ·
           rw [if_pos c14] at H
           have c14b0 : ((bt a0 x4_2) == 58) = true := beq_iff_eq.mpr c14
           have c14b1 : ((bt a0 x4_2) != 58) = false := bne_eq_false_iff_eq.mpr c14
           clear c14
           have H' := Aside0.mk H
           clear H
           have p11 : 0 ≤ (x4_2 : Int) := of_decide_eq_true (by first | (with_reducible assumption) | assumption)
           have q11 : x4_2 < (a0.size : Int) := of_decide_eq_true (by first | (with_reducible assumption) | assumption)
           have hx11 := bt_at a0 x4_2
           replace p11 := eq_true p11
           replace q11 := eq_true q11
           have p13 : 0 ≤ (x4_2 : Int) := of_decide_eq_true (by first | (with_reducible assumption) | assumption)
           have q13 : x4_2 < (a0.size : Int) := of_decide_eq_true (by first | (with_reducible assumption) | assumption)
           have hx13 := bt_at a0 x4_2
           replace p13 := eq_true p13
           replace q13 := eq_true q13
           go_wp2
           go_meet
           case rel => exact ⟨_, (x4_2), (by first | rfl | (simp; done) | (simp [*]; done)), H', ⟨by have := HJ1.out; have := HK2.out; first | omega | exact Nat.le_refl _⟩, ⟨by (with_reducible repeat (first | refine blk_drewN ?_ _ | refine blk_drew ?_ | refine blk_alloc ?_ _)); exact BK101.out⟩, ⟨by repeat (first | (with_reducible first | exact HB.out | apply below_alloc | apply pw_below_drewN | apply below_drew1 | refine below_set ?_ GE101.out) | exact HB.out)⟩⟩
          ·
           rw [if_neg c14] at H
           have c14b0 : ((bt a0 x4_2) == 58) = false := beq_eq_false_iff_ne.mpr c14
           have c14b1 : ((bt a0 x4_2) != 58) = true := bne_iff_ne.mpr c14
           have H' := Aside0.mk H
           clear H
           have p11 : 0 ≤ (x4_2 : Int) := of_decide_eq_true (by first | (with_reducible assumption) | assumption)
           have q11 : x4_2 < (a0.size : Int) := of_decide_eq_true (by first | (with_reducible assumption) | assumption)
           have hx11 := bt_at a0 x4_2
           replace p11 := eq_true p11
           replace q11 := eq_true q11
           have p13 : 0 ≤ (x4_2 : Int) := of_decide_eq_true (by first | (with_reducible assumption) | assumption)
           have q13 : x4_2 < (a0.size : Int) := of_decide_eq_true (by first | (with_reducible assumption) | assumption)
           have hx13 := bt_at a0 x4_2
           replace p13 := eq_true p13
           replace q13 := eq_true q13
           go_wp2
           go_roundg k2
           case measure => have := HJ1.out; have := HK2.out; omega
           case rel => exact ⟨(wrap64 (x4_2 + 1)), (by first | rfl | (simp; done) | (simp [*]; done)), H', ⟨by have := HJ1.out; have := HK2.out; omega⟩, ⟨by (with_reducible repeat (first | refine blk_drewN ?_ _ | refine blk_drew ?_ | refine blk_alloc ?_ _)); exact BK101.out⟩, ⟨by repeat (first | (with_reducible first | exact HB.out | apply below_alloc | apply pw_below_drewN | apply below_drew1 | refine below_set ?_ GE101.out) | exact HB.out)⟩⟩
        ·
         rw [if_neg c10] at H
         exact absurd H (by simp)
       ·
        rw [if_neg c9] at H
        have c9b0 : decide (x4_2 < (a0.size : Int)) = false := decide_eq_false c9
        clear c9
        (first | rw [c9b0] | (simp only [i64_w, i32_w]; rw [c9b0]) | skip)
        have H' := Aside0.mk H
        clear H
        go_wp2
        go_meet
        case rel => exact ⟨_, (x4_2), (by first | rfl | (simp; done) | (simp [*]; done)), H', ⟨by have := HJ1.out; have := HK2.out; first | omega | exact Nat.le_refl _⟩, ⟨by (with_reducible repeat (first | refine blk_drewN ?_ _ | refine blk_drew ?_ | refine blk_alloc ?_ _)); exact BK101.out⟩, ⟨by repeat (first | (with_reducible first | exact HB.out | apply below_alloc | apply pw_below_drewN | apply below_drew1 | refine below_set ?_ GE101.out) | exact HB.out)⟩⟩
    case rest =>
     clear HC8
     try clear c1
     try clear p1
     try clear q1
     try clear hx1
     try clear c2
     try clear p2
     try clear c5
     try clear c6
     try clear p6
     try clear c9
     try clear c9b0
     try clear c10
     try clear c10b0
     try clear p11
     try clear q11
     try clear hx11
     try clear c12
     try clear c12b0
     try clear c12b1
     try clear p13
     try clear q13
     try clear hx13
     try clear c14
     try clear c14b0
     try clear c14b1
     try clear hcz7_0
     try clear hcz7_1
     try clear hcz7_2
     try clear hcz7_3
     try clear hcz7_4
     try clear hfz7_0
     try clear hfz7_1
     try clear hfz7_2
     try clear hfz7_3
     try clear hfz7_4
     try clear p11
     try clear p13
     try clear p2
     try clear q11
     try clear q13
     obtain ⟨kq, x4_7, rfl, HA, HJ7, BK101, HB⟩ := hcut
     cases kq with
     | zero => exact absurd HA.out (by simp [pennantref16_Url.j2])
     | succ kj7 =>
      have H := HA.out
      clear HA
      simp only [pennantref16_Url.j2] at H
      by_cases c15 : 7 ≤ x4_7
      ·
       rw [if_pos c15] at H
       have c15b0 := eq_true c15
       have c15b1 : decide (7 ≤ x4_7) = true := decide_eq_true c15
       clear c15
       by_cases c16 : x4_7 ≤ (a0.size : Int)
       ·
        rw [if_pos c16] at H
        have c16b0 := eq_true c16
        have c16b1 : decide (x4_7 ≤ (a0.size : Int)) = true := decide_eq_true c16
        clear c16
        have HC17 := Aside0.mk H
        clear H
        go_upto_region 7 with (first | ((with_reducible refine gate_dst (N := 5) rfl ?_); (try (refine gate_guard (by rfl) ?_; dsimp only)); refine box_event ?hg (N := 5) ?hd (cs := #[.int .i64 0, .string (⟨#[]⟩ : ByteArray), .string (⟨#[]⟩ : ByteArray), .int .i64 0, .string (⟨#[]⟩ : ByteArray)]) (t := 24) ?hr ?_; (case hd => rfl); (case hg => rfl); (case hr => first | (go_simp; done) | (go_simp; rfl)); intro gb103 hg w18 hbox hb; have n0_ := Aside0.mk (blk_below (g := gb101) (o := .cells #[.int .i64 0, .string (⟨#[]⟩ : ByteArray), .string (⟨#[]⟩ : ByteArray), .int .i64 0, .string (⟨#[]⟩ : ByteArray)] 24 (0, 0)) (by (with_reducible repeat (first | refine blk_drewN ?_ _ | refine blk_drew ?_ | refine blk_alloc ?_ _)); exact BK101.out) hb); have n1_ := Aside0.mk (below_step (by repeat (first | (with_reducible first | exact HB.out | apply below_alloc | apply pw_below_drewN | apply below_drew1 | refine below_set ?_ GE101.out) | exact HB.out)) hb); have n2_ := Aside0.mk (hbox); have n3_ := Aside0.mk ((by rw [hg]; exact (below_size (by repeat (first | (with_reducible first | exact HB.out | apply below_alloc | apply pw_below_drewN | apply below_drew1 | refine below_set ?_ GE101.out) | exact HB.out))) : w.heap.size ≤ gb103)); have n4_ := Aside0.mk ((by rw [hg]; exact (below_size (by repeat (first | (with_reducible first | exact HB.out | apply below_alloc | apply pw_below_drewN | apply below_drew1 | refine below_set ?_ GE101.out) | exact HB.out))) : w.heap.size ≤ gb103)); have n5_ := Aside0.mk ((by rw [hg]; exact Nat.ne_of_lt (blk_lt (g := gb101) (o := .cells #[.int .i64 0, .string (⟨#[]⟩ : ByteArray), .string (⟨#[]⟩ : ByteArray), .int .i64 0, .string (⟨#[]⟩ : ByteArray)] 24 (0, 0)) (by (with_reducible repeat (first | refine blk_drewN ?_ _ | refine blk_drew ?_ | refine blk_alloc ?_ _)); exact BK101.out)) : gb101 ≠ gb103)); have n6_ := Aside0.mk ((by rw [hg]; exact Nat.ne_of_gt (blk_lt (g := gb101) (o := .cells #[.int .i64 0, .string (⟨#[]⟩ : ByteArray), .string (⟨#[]⟩ : ByteArray), .int .i64 0, .string (⟨#[]⟩ : ByteArray)] 24 (0, 0)) (by (with_reducible repeat (first | refine blk_drewN ?_ _ | refine blk_drew ?_ | refine blk_alloc ?_ _)); exact BK101.out)) : gb103 ≠ gb101)); clear BK101; clear HB; have BK101 := n0_; have HB := n1_; have BK103 := n2_; have GW103 := n3_; have GE103 := n4_; have NB101_103 := n5_; have NB103_101 := n6_; clear n0_ n1_ n2_ n3_ n4_ n5_ n6_; clear hb hbox hg; have hnb19 := NB103_101.out; have hnc19 := NB101_103.out; have hcz20_0 : w18.cell? ⟨gb103, 0, none⟩ = some (.int .i64 0) := (blk_cell BK103.out 0).trans rfl; have hcz20_1 : w18.cell? ⟨gb103, 1, none⟩ = some (.string (⟨#[]⟩ : ByteArray)) := (blk_cell BK103.out 1).trans rfl; have hcz20_2 : w18.cell? ⟨gb103, 2, none⟩ = some (.string (⟨#[]⟩ : ByteArray)) := (blk_cell BK103.out 2).trans rfl; have hcz20_3 : w18.cell? ⟨gb103, 3, none⟩ = some (.int .i64 0) := (blk_cell BK103.out 3).trans rfl; have hcz20_4 : w18.cell? ⟨gb103, 4, none⟩ = some (.string (⟨#[]⟩ : ByteArray)) := (blk_cell BK103.out 4).trans rfl; have hfz20_0 := blk_frozen BK103.out 0; have hfz20_1 := blk_frozen BK103.out 1; have hfz20_2 := blk_frozen BK103.out 2; have hfz20_3 := blk_frozen BK103.out 3; have hfz20_4 := blk_frozen BK103.out 4))
        (try simp only [Act.put, List.setIfInBounds_toArray, List.set_cons_zero, List.set_cons_succ])
        go_cut [49] (fun v49 wc => ∃ (kq : Nat) (x49_16 : Bool), v49 = .bool x49_16 ∧ Aside0 (pennantref16_Url.j3 kq a0 x4_7 x49_16 6 (⟨#[]⟩ : ByteArray) (a0.extract 7 (x4_7 : Int).toNat) 80 (⟨#[47]⟩ : ByteArray) = some (r1, r2, r3, r4, r5, r6)) ∧ Aside0 (kq ≤ kj7) ∧ Aside0 (wc.heap[gb101]? = some (.cells #[.int .i64 0, .string (⟨#[]⟩ : ByteArray), .string (⟨#[]⟩ : ByteArray), .int .i64 0, .string (⟨#[]⟩ : ByteArray)] 24 (0, 0))) ∧ Aside0 (wc.heap[gb103]? = some (.cells #[.int .i64 6, .string (⟨#[]⟩ : ByteArray), .string (a0.extract 7 (x4_7 : Int).toNat), .int .i64 80, .string (⟨#[47]⟩ : ByteArray)] 24 (0, 0))) ∧ Aside0 (Below w.heap.size w wc))
        case first =>
         have H := HC17.out
         clear HC17
         by_cases c21 : x4_7 < (a0.size : Int)
         ·
          rw [if_pos c21] at H
          have c21b0 : decide (x4_7 < (a0.size : Int)) = true := decide_eq_true c21
          clear c21
          (first | rw [c21b0] | (simp only [i64_w, i32_w]; rw [c21b0]) | skip)
          by_cases c22 : 0 ≤ x4_7
          ·
           rw [if_pos c22] at H
           have c22b0 : decide (0 ≤ x4_7) = true := decide_eq_true c22
           clear c22
           have H' := Aside0.mk H
           clear H
           have p23 : 0 ≤ (x4_7 : Int) := of_decide_eq_true (by first | (with_reducible assumption) | assumption)
           have q23 : x4_7 < (a0.size : Int) := of_decide_eq_true (by first | (with_reducible assumption) | assumption)
           have hx23 := bt_at a0 x4_7
           replace p23 := eq_true p23
           replace q23 := eq_true q23
           go_wp2
           go_meet
           case rel => exact ⟨_, (((bt a0 x4_7) == 58)), (by first | rfl | (simp; done) | (simp [*]; done)), H', ⟨by have := HJ1.out; have := HJ7.out; first | omega | exact Nat.le_refl _⟩, ⟨by (with_reducible repeat (first | refine blk_drewN ?_ _ | refine blk_drew ?_ | refine blk_alloc ?_ _)); refine blk_far ?_ NB101_103.out _; (with_reducible repeat (first | refine blk_drewN ?_ _ | refine blk_drew ?_ | refine blk_alloc ?_ _)); refine blk_far ?_ NB101_103.out _; (with_reducible repeat (first | refine blk_drewN ?_ _ | refine blk_drew ?_ | refine blk_alloc ?_ _)); refine blk_far ?_ NB101_103.out _; (with_reducible repeat (first | refine blk_drewN ?_ _ | refine blk_drew ?_ | refine blk_alloc ?_ _)); refine blk_far ?_ NB101_103.out _; (with_reducible repeat (first | refine blk_drewN ?_ _ | refine blk_drew ?_ | refine blk_alloc ?_ _)); refine blk_far ?_ NB101_103.out _; (with_reducible repeat (first | refine blk_drewN ?_ _ | refine blk_drew ?_ | refine blk_alloc ?_ _)); exact BK101.out⟩, ⟨by (with_reducible repeat (first | refine blk_drewN ?_ _ | refine blk_drew ?_ | refine blk_alloc ?_ _)); refine blk_put (cs := #[.int .i64 6, .string (⟨#[]⟩ : ByteArray), .string (a0.extract 7 (x4_7 : Int).toNat), .int .i64 80, .string (⟨#[]⟩ : ByteArray)]) ?_ 4 _ rfl; (with_reducible repeat (first | refine blk_drewN ?_ _ | refine blk_drew ?_ | refine blk_alloc ?_ _)); refine blk_put (cs := #[.int .i64 6, .string (⟨#[]⟩ : ByteArray), .string (a0.extract 7 (x4_7 : Int).toNat), .int .i64 0, .string (⟨#[]⟩ : ByteArray)]) ?_ 3 _ rfl; (with_reducible repeat (first | refine blk_drewN ?_ _ | refine blk_drew ?_ | refine blk_alloc ?_ _)); refine blk_put (cs := #[.int .i64 6, .string (⟨#[]⟩ : ByteArray), .string (⟨#[]⟩ : ByteArray), .int .i64 0, .string (⟨#[]⟩ : ByteArray)]) ?_ 2 _ rfl; (with_reducible repeat (first | refine blk_drewN ?_ _ | refine blk_drew ?_ | refine blk_alloc ?_ _)); refine blk_put (cs := #[.int .i64 6, .string (⟨#[]⟩ : ByteArray), .string (⟨#[]⟩ : ByteArray), .int .i64 0, .string (⟨#[]⟩ : ByteArray)]) ?_ 1 _ rfl; (with_reducible repeat (first | refine blk_drewN ?_ _ | refine blk_drew ?_ | refine blk_alloc ?_ _)); refine blk_put (cs := #[.int .i64 0, .string (⟨#[]⟩ : ByteArray), .string (⟨#[]⟩ : ByteArray), .int .i64 0, .string (⟨#[]⟩ : ByteArray)]) ?_ 0 _ rfl; (with_reducible repeat (first | refine blk_drewN ?_ _ | refine blk_drew ?_ | refine blk_alloc ?_ _)); exact BK103.out⟩, ⟨by repeat (first | (with_reducible first | exact HB.out | apply below_alloc | apply pw_below_drewN | apply below_drew1 | refine below_set ?_ GE101.out | refine below_set ?_ GE103.out) | exact HB.out)⟩⟩
          ·
           rw [if_neg c22] at H
           exact absurd H (by simp)
         ·
          rw [if_neg c21] at H
          have c21b0 : decide (x4_7 < (a0.size : Int)) = false := decide_eq_false c21
          clear c21
          (first | rw [c21b0] | (simp only [i64_w, i32_w]; rw [c21b0]) | skip)
          have H' := Aside0.mk H
          clear H
          go_wp2
          go_meet
          case rel => exact ⟨_, (false), (by first | rfl | (simp; done) | (simp [*]; done)), H', ⟨by have := HJ1.out; have := HJ7.out; first | omega | exact Nat.le_refl _⟩, ⟨by (with_reducible repeat (first | refine blk_drewN ?_ _ | refine blk_drew ?_ | refine blk_alloc ?_ _)); refine blk_far ?_ NB101_103.out _; (with_reducible repeat (first | refine blk_drewN ?_ _ | refine blk_drew ?_ | refine blk_alloc ?_ _)); refine blk_far ?_ NB101_103.out _; (with_reducible repeat (first | refine blk_drewN ?_ _ | refine blk_drew ?_ | refine blk_alloc ?_ _)); refine blk_far ?_ NB101_103.out _; (with_reducible repeat (first | refine blk_drewN ?_ _ | refine blk_drew ?_ | refine blk_alloc ?_ _)); refine blk_far ?_ NB101_103.out _; (with_reducible repeat (first | refine blk_drewN ?_ _ | refine blk_drew ?_ | refine blk_alloc ?_ _)); refine blk_far ?_ NB101_103.out _; (with_reducible repeat (first | refine blk_drewN ?_ _ | refine blk_drew ?_ | refine blk_alloc ?_ _)); exact BK101.out⟩, ⟨by (with_reducible repeat (first | refine blk_drewN ?_ _ | refine blk_drew ?_ | refine blk_alloc ?_ _)); refine blk_put (cs := #[.int .i64 6, .string (⟨#[]⟩ : ByteArray), .string (a0.extract 7 (x4_7 : Int).toNat), .int .i64 80, .string (⟨#[]⟩ : ByteArray)]) ?_ 4 _ rfl; (with_reducible repeat (first | refine blk_drewN ?_ _ | refine blk_drew ?_ | refine blk_alloc ?_ _)); refine blk_put (cs := #[.int .i64 6, .string (⟨#[]⟩ : ByteArray), .string (a0.extract 7 (x4_7 : Int).toNat), .int .i64 0, .string (⟨#[]⟩ : ByteArray)]) ?_ 3 _ rfl; (with_reducible repeat (first | refine blk_drewN ?_ _ | refine blk_drew ?_ | refine blk_alloc ?_ _)); refine blk_put (cs := #[.int .i64 6, .string (⟨#[]⟩ : ByteArray), .string (⟨#[]⟩ : ByteArray), .int .i64 0, .string (⟨#[]⟩ : ByteArray)]) ?_ 2 _ rfl; (with_reducible repeat (first | refine blk_drewN ?_ _ | refine blk_drew ?_ | refine blk_alloc ?_ _)); refine blk_put (cs := #[.int .i64 6, .string (⟨#[]⟩ : ByteArray), .string (⟨#[]⟩ : ByteArray), .int .i64 0, .string (⟨#[]⟩ : ByteArray)]) ?_ 1 _ rfl; (with_reducible repeat (first | refine blk_drewN ?_ _ | refine blk_drew ?_ | refine blk_alloc ?_ _)); refine blk_put (cs := #[.int .i64 0, .string (⟨#[]⟩ : ByteArray), .string (⟨#[]⟩ : ByteArray), .int .i64 0, .string (⟨#[]⟩ : ByteArray)]) ?_ 0 _ rfl; (with_reducible repeat (first | refine blk_drewN ?_ _ | refine blk_drew ?_ | refine blk_alloc ?_ _)); exact BK103.out⟩, ⟨by repeat (first | (with_reducible first | exact HB.out | apply below_alloc | apply pw_below_drewN | apply below_drew1 | refine below_set ?_ GE101.out | refine below_set ?_ GE103.out) | exact HB.out)⟩⟩
        case rest =>
         clear HC17
         try clear c1
         try clear p1
         try clear q1
         try clear hx1
         try clear c2
         try clear p2
         try clear q2
         try clear hx2
         try clear c5
         try clear c6
         try clear p6
         try clear c9
         try clear c9b0
         try clear c10
         try clear c10b0
         try clear p11
         try clear q11
         try clear hx11
         try clear c12
         try clear c12b0
         try clear c12b1
         try clear p13
         try clear q13
         try clear hx13
         try clear c14
         try clear c14b0
         try clear c14b1
         try clear c15
         try clear c15b0
         try clear c15b1
         try clear c16
         try clear c16b0
         try clear c16b1
         try clear c19
         try clear c20
         try clear c21
         try clear c21b0
         try clear c22
         try clear c22b0
         try clear p23
         try clear q23
         try clear hx23
         try clear hcz20_0
         try clear hcz20_1
         try clear hcz20_2
         try clear hcz20_3
         try clear hcz20_4
         try clear hcz7_0
         try clear hcz7_1
         try clear hcz7_2
         try clear hcz7_3
         try clear hcz7_4
         try clear hfz20_0
         try clear hfz20_1
         try clear hfz20_2
         try clear hfz20_3
         try clear hfz20_4
         try clear hfz7_0
         try clear hfz7_1
         try clear hfz7_2
         try clear hfz7_3
         try clear hfz7_4
         try clear p1
         try clear p11
         try clear p13
         try clear p2
         try clear p23
         try clear p6
         try clear q1
         try clear q11
         try clear q13
         try clear q23
         obtain ⟨kq, x49_16, rfl, HA, HJ16, BK101, BK103, HB⟩ := hcut
         cases kq with
         | zero => exact absurd HA.out (by simp [pennantref16_Url.j3])
         | succ kj16 =>
          have H := HA.out
          clear HA
          simp only [pennantref16_Url.j3] at H
          have HC24 := Aside0.mk H
          clear H
          go_upto_if 49 with (fail)
          go_cut [4] (fun v4 wc => ∃ (kq : Nat) (x4_23 : Int) (x102000_23 : Int) (x102001_23 : ByteArray) (x102002_23 : ByteArray) (x102003_23 : Int) (x102004_23 : ByteArray) (x104003_23 : Int), v4 = .int .i64 x4_23 ∧ Aside0 (pennantref16_Url.j5 kq a0 x4_23 6 (⟨#[]⟩ : ByteArray) (a0.extract 7 (x4_7 : Int).toNat) x104003_23 (⟨#[47]⟩ : ByteArray) = some (r1, r2, r3, r4, r5, r6)) ∧ Aside0 (kq ≤ kj16) ∧ Aside0 (wc.heap[gb101]? = some (.cells #[.int .i64 x102000_23, .string x102001_23, .string x102002_23, .int .i64 x102003_23, .string x102004_23] 24 (0, 0))) ∧ Aside0 (wc.heap[gb103]? = some (.cells #[.int .i64 6, .string (⟨#[]⟩ : ByteArray), .string (a0.extract 7 (x4_7 : Int).toNat), .int .i64 x104003_23, .string (⟨#[47]⟩ : ByteArray)] 24 (0, 0))) ∧ Aside0 (Below w.heap.size w wc))
          case first =>
           have H := HC24.out
           clear HC24
           by_cases c25 : x49_16 = true
           ·
            subst c25
            have H1 : (pennantref16_Url.l1 kj16 a0 (wrap64 (x4_7 + 1)) (wrap64 (x4_7 + 1)) 0 6 (⟨#[]⟩ : ByteArray) (a0.extract 7 (x4_7 : Int).toNat) 80 (⟨#[47]⟩ : ByteArray)) = some (r1, r2, r3, r4, r5, r6) := by rw [if_pos rfl] at H; exact H
            clear H
            have H := H1
            clear H1
            have H' := Aside0.mk H
            clear H
            go_wp2
            go_loopg [4, 7] kj16 (fun kq v4 v7 w' => ∃ (x4_4 : Int) (x7_4 : Int), v4 = .int .i64 x4_4 ∧ v7 = .int .i64 x7_4 ∧ Aside0 (pennantref16_Url.l1 kq a0 x4_4 (wrap64 (x4_7 + 1)) x7_4 6 (⟨#[]⟩ : ByteArray) (a0.extract 7 (x4_7 : Int).toNat) 80 (⟨#[47]⟩ : ByteArray) = some (r1, r2, r3, r4, r5, r6)) ∧ Aside0 (kq ≤ kj16) ∧ Aside0 (w'.heap[gb101]? = some (.cells #[.int .i64 0, .string (⟨#[]⟩ : ByteArray), .string (⟨#[]⟩ : ByteArray), .int .i64 0, .string (⟨#[]⟩ : ByteArray)] 24 (0, 0))) ∧ Aside0 (w'.heap[gb103]? = some (.cells #[.int .i64 6, .string (⟨#[]⟩ : ByteArray), .string (a0.extract 7 (x4_7 : Int).toNat), .int .i64 80, .string (⟨#[47]⟩ : ByteArray)] 24 (0, 0))) ∧ Aside0 (Below w.heap.size w w'))
            case atStart => exact ⟨(wrap64 (x4_7 + 1)), (0), (by first | rfl | (simp; done) | (simp [*]; done)), (by first | rfl | (simp; done) | (simp [*]; done)), H', ⟨Nat.le_refl _⟩, ⟨by (with_reducible repeat (first | refine blk_drewN ?_ _ | refine blk_drew ?_ | refine blk_alloc ?_ _)); exact BK101.out⟩, ⟨by (with_reducible repeat (first | refine blk_drewN ?_ _ | refine blk_drew ?_ | refine blk_alloc ?_ _)); exact BK103.out⟩, ⟨by repeat (first | (with_reducible first | exact HB.out | apply below_alloc | apply pw_below_drewN | apply below_drew1 | refine below_set ?_ GE101.out | refine below_set ?_ GE103.out) | exact HB.out)⟩⟩
            case round =>
             clear H'
             try clear c1
             try clear p1
             try clear q1
             try clear hx1
             try clear c2
             try clear p2
             try clear q2
             try clear hx2
             try clear c5
             try clear c6
             try clear p6
             try clear c9
             try clear c9b0
             try clear c10
             try clear c10b0
             try clear p11
             try clear q11
             try clear hx11
             try clear c12
             try clear c12b0
             try clear c12b1
             try clear p13
             try clear q13
             try clear hx13
             try clear c14
             try clear c14b0
             try clear c14b1
             try clear c15
             try clear c15b0
             try clear c15b1
             try clear c16
             try clear c16b0
             try clear c16b1
             try clear c19
             try clear c20
             try clear c21
             try clear c21b0
             try clear c22
             try clear c22b0
             try clear p23
             try clear q23
             try clear hx23
             try clear c25
             try clear hcz20_0
             try clear hcz20_1
             try clear hcz20_2
             try clear hcz20_3
             try clear hcz20_4
             try clear hcz7_0
             try clear hcz7_1
             try clear hcz7_2
             try clear hcz7_3
             try clear hcz7_4
             try clear hfz20_0
             try clear hfz20_1
             try clear hfz20_2
             try clear hfz20_3
             try clear hfz20_4
             try clear hfz7_0
             try clear hfz7_1
             try clear hfz7_2
             try clear hfz7_3
             try clear hfz7_4
             try clear p1
             try clear p11
             try clear p13
             try clear p2
             try clear p23
             try clear p6
             try clear q1
             try clear q11
             try clear q13
             try clear q2
             try clear q23
             obtain ⟨x4_4, x7_4, rfl, rfl, HA, HK4, BK101, BK103, HB⟩ := hrel
             cases gk with
             | zero => exact absurd HA.out (by simp [pennantref16_Url.l1])
             | succ k4 =>
              have H := HA.out
              clear HA
              simp only [pennantref16_Url.l1] at H
              by_cases c26 : x4_4 < (a0.size : Int)
              ·
               rw [if_pos c26] at H
               have c26b0 : decide (x4_4 < (a0.size : Int)) = true := decide_eq_true c26
               clear c26
               (first | rw [c26b0] | (simp only [i64_w, i32_w]; rw [c26b0]) | skip)
               by_cases c27 : 0 ≤ x4_4
               ·
                rw [if_pos c27] at H
                have c27b0 : decide (0 ≤ x4_4) = true := decide_eq_true c27
                clear c27
                by_cases c29 : (bt a0 x4_4) ≥ 48
                ·
                 rw [if_pos c29] at H
                 have c29b0 : decide (48 ≤ (bt a0 x4_4)) = true := decide_eq_true c29
                 clear c29
                 by_cases c31 : (bt a0 x4_4) ≤ 57
                 ·
                  rw [if_pos c31] at H
                  have c31b0 : decide ((bt a0 x4_4) ≤ 57) = true := decide_eq_true c31
                  clear c31
                  obtain ⟨ji33, hji33⟩ : ∃ j_ : Int, (mn (wrap64 ((wrap64 (x7_4 * 10)) + (((bt a0 x4_4) - 48) % 256))) 100000) = j_ := ⟨_, rfl⟩
                  replace H : (pennantref16_Url.l1 k4 a0 (wrap64 (x4_4 + 1)) (wrap64 (x4_7 + 1)) ji33 6 (⟨#[]⟩ : ByteArray) (a0.extract 7 (x4_7 : Int).toNat) 80 (⟨#[47]⟩ : ByteArray)) = some (r1, r2, r3, r4, r5, r6) := by first | (rw [hji33] at H; exact H) | (simp only [hji33] at H ⊢; exact H)
                  have hji33_ : (if 100000 < (wrap64 ((wrap64 (x7_4 * 10)) + (((bt a0 x4_4) - 48) % 256))) then 100000 else (wrap64 ((wrap64 (x7_4 * 10)) + (((bt a0 x4_4) - 48) % 256)))) = ji33 := hji33
                  have H' := Aside0.mk H
                  clear H
                  have p28 : 0 ≤ (x4_4 : Int) := of_decide_eq_true (by first | (with_reducible assumption) | assumption)
                  have q28 : x4_4 < (a0.size : Int) := of_decide_eq_true (by first | (with_reducible assumption) | assumption)
                  have hx28 := bt_at a0 x4_4
                  replace p28 := eq_true p28
                  replace q28 := eq_true q28
                  have p30 : 0 ≤ (x4_4 : Int) := of_decide_eq_true (by first | (with_reducible assumption) | assumption)
                  have q30 : x4_4 < (a0.size : Int) := of_decide_eq_true (by first | (with_reducible assumption) | assumption)
                  have hx30 := bt_at a0 x4_4
                  replace p30 := eq_true p30
                  replace q30 := eq_true q30
                  have p32 : 0 ≤ (x4_4 : Int) := of_decide_eq_true (by first | (with_reducible assumption) | assumption)
                  have q32 : x4_4 < (a0.size : Int) := of_decide_eq_true (by first | (with_reducible assumption) | assumption)
                  have hx32 := bt_at a0 x4_4
                  replace p32 := eq_true p32
                  replace q32 := eq_true q32
                  go_wp2
                  go_roundg k4
                  case measure => have := HJ1.out; have := HJ7.out; have := HJ16.out; have := HK4.out; omega
                  case rel => exact ⟨(wrap64 (x4_4 + 1)), (ji33), (by first | rfl | (simp; done) | (simp [*]; done)), (by first | rfl | (simp; done) | (simp only [← hji33] <;> (first | rfl | simp)) | (simp [*]; done)), H', ⟨by have := HJ1.out; have := HJ7.out; have := HJ16.out; have := HK4.out; omega⟩, ⟨by (with_reducible repeat (first | refine blk_drewN ?_ _ | refine blk_drew ?_ | refine blk_alloc ?_ _)); exact BK101.out⟩, ⟨by (with_reducible repeat (first | refine blk_drewN ?_ _ | refine blk_drew ?_ | refine blk_alloc ?_ _)); exact BK103.out⟩, ⟨by repeat (first | (with_reducible first | exact HB.out | apply below_alloc | apply pw_below_drewN | apply below_drew1 | refine below_set ?_ GE101.out | refine below_set ?_ GE103.out) | exact HB.out)⟩⟩
                 ·
                  rw [if_neg c31] at H
                  have c31b0 : decide ((bt a0 x4_4) ≤ 57) = false := decide_eq_false c31
                  clear c31
                  by_cases c34 : x4_4 = (wrap64 (x4_7 + 1))
                  ·
                   rw [if_pos c34] at H
                   have c34b0 : (x4_4 == (wrap64 (x4_7 + 1))) = true := beq_iff_eq.mpr c34
                   have c34b1 : (x4_4 != (wrap64 (x4_7 + 1))) = false := bne_eq_false_iff_eq.mpr c34
                   clear c34
                   simp only [Option.some.injEq, Prod.mk.injEq] at H
                   obtain ⟨rfl, rfl, rfl, rfl, rfl, rfl⟩ := H
                   have p28 : 0 ≤ (x4_4 : Int) := of_decide_eq_true (by first | (with_reducible assumption) | assumption)
                   have q28 : x4_4 < (a0.size : Int) := of_decide_eq_true (by first | (with_reducible assumption) | assumption)
                   have hx28 := bt_at a0 x4_4
                   replace p28 := eq_true p28
                   replace q28 := eq_true q28
                   have p30 : 0 ≤ (x4_4 : Int) := of_decide_eq_true (by first | (with_reducible assumption) | assumption)
                   have q30 : x4_4 < (a0.size : Int) := of_decide_eq_true (by first | (with_reducible assumption) | assumption)
                   have hx30 := bt_at a0 x4_4
                   replace p30 := eq_true p30
                   replace q30 := eq_true q30
                   have hnb35 := NB101_103.out
                   have hnc35 := NB103_101.out
                   have hcz36_0 : wr.cell? ⟨gb101, 0, none⟩ = some (.int .i64 0) := (blk_cell BK101.out 0).trans rfl
                   have hcz36_1 : wr.cell? ⟨gb101, 1, none⟩ = some (.string (⟨#[]⟩ : ByteArray)) := (blk_cell BK101.out 1).trans rfl
                   have hcz36_2 : wr.cell? ⟨gb101, 2, none⟩ = some (.string (⟨#[]⟩ : ByteArray)) := (blk_cell BK101.out 2).trans rfl
                   have hcz36_3 : wr.cell? ⟨gb101, 3, none⟩ = some (.int .i64 0) := (blk_cell BK101.out 3).trans rfl
                   have hcz36_4 : wr.cell? ⟨gb101, 4, none⟩ = some (.string (⟨#[]⟩ : ByteArray)) := (blk_cell BK101.out 4).trans rfl
                   have hfz36_0 := blk_frozen BK101.out 0
                   have hfz36_1 := blk_frozen BK101.out 1
                   have hfz36_2 := blk_frozen BK101.out 2
                   have hfz36_3 := blk_frozen BK101.out 3
                   have hfz36_4 := blk_frozen BK101.out 4
                   go_wp2
                   refine bodyPost_ret (results_ct rfl _ _ gb101 24 #[.int .i64 0, .string (⟨#[]⟩ : ByteArray), .string (⟨#[]⟩ : ByteArray), .int .i64 0, .string (⟨#[]⟩ : ByteArray)] (0, 0) _ rfl (by (with_reducible repeat (first | refine blk_drewN ?_ _ | refine blk_drew ?_ | refine blk_alloc ?_ _)); refine blk_put (cs := #[.int .i64 0, .string (⟨#[]⟩ : ByteArray), .string (⟨#[]⟩ : ByteArray), .int .i64 0, .string (⟨#[]⟩ : ByteArray)]) ?_ 4 _ rfl; (with_reducible repeat (first | refine blk_drewN ?_ _ | refine blk_drew ?_ | refine blk_alloc ?_ _)); refine blk_put (cs := #[.int .i64 0, .string (⟨#[]⟩ : ByteArray), .string (⟨#[]⟩ : ByteArray), .int .i64 0, .string (⟨#[]⟩ : ByteArray)]) ?_ 3 _ rfl; (with_reducible repeat (first | refine blk_drewN ?_ _ | refine blk_drew ?_ | refine blk_alloc ?_ _)); refine blk_put (cs := #[.int .i64 0, .string (⟨#[]⟩ : ByteArray), .string (⟨#[]⟩ : ByteArray), .int .i64 0, .string (⟨#[]⟩ : ByteArray)]) ?_ 2 _ rfl; (with_reducible repeat (first | refine blk_drewN ?_ _ | refine blk_drew ?_ | refine blk_alloc ?_ _)); refine blk_put (cs := #[.int .i64 0, .string (⟨#[]⟩ : ByteArray), .string (⟨#[]⟩ : ByteArray), .int .i64 0, .string (⟨#[]⟩ : ByteArray)]) ?_ 1 _ rfl; (with_reducible repeat (first | refine blk_drewN ?_ _ | refine blk_drew ?_ | refine blk_alloc ?_ _)); refine blk_put (cs := #[.int .i64 0, .string (⟨#[]⟩ : ByteArray), .string (⟨#[]⟩ : ByteArray), .int .i64 0, .string (⟨#[]⟩ : ByteArray)]) ?_ 0 _ rfl; (with_reducible repeat (first | refine blk_drewN ?_ _ | refine blk_drew ?_ | refine blk_alloc ?_ _)); exact BK101.out) Tryd.underlying24 rfl (by kernel_rfl)) rfl ?_
                   exact ⟨by first | rfl | (simp [errW_none, errW_some] <;> rfl) | (simp [*, errW_none, errW_some] <;> rfl), by repeat (first | (with_reducible first | exact HB.out | apply below_alloc | apply pw_below_drewN | apply below_drew1 | refine below_set ?_ GE101.out | refine below_set ?_ GE103.out) | exact HB.out)⟩
                  ·
                   rw [if_neg c34] at H
                   have c34b0 : (x4_4 == (wrap64 (x4_7 + 1))) = false := beq_eq_false_iff_ne.mpr c34
                   have c34b1 : (x4_4 != (wrap64 (x4_7 + 1))) = true := bne_iff_ne.mpr c34
                   obtain ⟨ji37, hji37⟩ : ∃ j_ : Int, (wrap64 (x4_7 + 1)) = j_ := ⟨_, rfl⟩
                   replace H : (if 0 ≤ (ji37) then (if (ji37) < (a0.size : Int) then (if (bt a0 (ji37)) = 48 then (some (0, (⟨#[]⟩ : ByteArray), (⟨#[]⟩ : ByteArray), 0, (⟨#[]⟩ : ByteArray), 190)) else (if x7_4 > 65535 then (some (0, (⟨#[]⟩ : ByteArray), (⟨#[]⟩ : ByteArray), 0, (⟨#[]⟩ : ByteArray), 190)) else (pennantref16_Url.j5 k4 a0 x4_4 6 (⟨#[]⟩ : ByteArray) (a0.extract 7 (x4_7 : Int).toNat) x7_4 (⟨#[47]⟩ : ByteArray)))) else (none)) else (none)) = some (r1, r2, r3, r4, r5, r6) := by first | (rw [hji37] at H; exact H) | (simp only [hji37] at H ⊢; exact H)
                   (try rw [hji37] at c34b0)
                   (try rw [hji37] at c34b1)
                   have hji37w : (IntKind.i64.wrap (x4_7 + 1)) = ji37 := (i64_w _).trans hji37
                   by_cases c38 : 0 ≤ (ji37)
                   ·
                    rw [if_pos c38] at H
                    have c38b0 : decide (0 ≤ (ji37)) = true := decide_eq_true c38
                    clear c38
                    by_cases c39 : (ji37) < (a0.size : Int)
                    ·
                     rw [if_pos c39] at H
                     have c39b0 : decide ((ji37) < (a0.size : Int)) = true := decide_eq_true c39
                     clear c39
                     by_cases c41 : (bt a0 (ji37)) = 48
                     ·
                      rw [if_pos c41] at H
                      have c41b0 : ((bt a0 (ji37)) == 48) = true := beq_iff_eq.mpr c41
                      have c41b1 : ((bt a0 (ji37)) != 48) = false := bne_eq_false_iff_eq.mpr c41
                      clear c41
                      simp only [Option.some.injEq, Prod.mk.injEq] at H
                      obtain ⟨rfl, rfl, rfl, rfl, rfl, rfl⟩ := H
                      have p28 : 0 ≤ (x4_4 : Int) := of_decide_eq_true (by first | (with_reducible assumption) | assumption)
                      have q28 : x4_4 < (a0.size : Int) := of_decide_eq_true (by first | (with_reducible assumption) | assumption)
                      have hx28 := bt_at a0 x4_4
                      replace p28 := eq_true p28
                      replace q28 := eq_true q28
                      have p30 : 0 ≤ (x4_4 : Int) := of_decide_eq_true (by first | (with_reducible assumption) | assumption)
                      have q30 : x4_4 < (a0.size : Int) := of_decide_eq_true (by first | (with_reducible assumption) | assumption)
                      have hx30 := bt_at a0 x4_4
                      replace p30 := eq_true p30
                      replace q30 := eq_true q30
                      have p40 : 0 ≤ ((ji37) : Int) := of_decide_eq_true (by first | (with_reducible assumption) | assumption)
                      have q40 : (ji37) < (a0.size : Int) := of_decide_eq_true (by first | (with_reducible assumption) | assumption)
                      have hx40 := bt_at a0 (ji37)
                      replace p40 := eq_true p40
                      replace q40 := eq_true q40
                      have hnb42 := NB101_103.out
                      have hnc42 := NB103_101.out
                      have hcz43_0 : wr.cell? ⟨gb101, 0, none⟩ = some (.int .i64 0) := (blk_cell BK101.out 0).trans rfl
                      have hcz43_1 : wr.cell? ⟨gb101, 1, none⟩ = some (.string (⟨#[]⟩ : ByteArray)) := (blk_cell BK101.out 1).trans rfl
                      have hcz43_2 : wr.cell? ⟨gb101, 2, none⟩ = some (.string (⟨#[]⟩ : ByteArray)) := (blk_cell BK101.out 2).trans rfl
                      have hcz43_3 : wr.cell? ⟨gb101, 3, none⟩ = some (.int .i64 0) := (blk_cell BK101.out 3).trans rfl
                      have hcz43_4 : wr.cell? ⟨gb101, 4, none⟩ = some (.string (⟨#[]⟩ : ByteArray)) := (blk_cell BK101.out 4).trans rfl
                      have hfz43_0 := blk_frozen BK101.out 0
                      have hfz43_1 := blk_frozen BK101.out 1
                      have hfz43_2 := blk_frozen BK101.out 2
                      have hfz43_3 := blk_frozen BK101.out 3
                      have hfz43_4 := blk_frozen BK101.out 4
                      go_wp2
                      refine bodyPost_ret (results_ct rfl _ _ gb101 24 #[.int .i64 0, .string (⟨#[]⟩ : ByteArray), .string (⟨#[]⟩ : ByteArray), .int .i64 0, .string (⟨#[]⟩ : ByteArray)] (0, 0) _ rfl (by (with_reducible repeat (first | refine blk_drewN ?_ _ | refine blk_drew ?_ | refine blk_alloc ?_ _)); refine blk_put (cs := #[.int .i64 0, .string (⟨#[]⟩ : ByteArray), .string (⟨#[]⟩ : ByteArray), .int .i64 0, .string (⟨#[]⟩ : ByteArray)]) ?_ 4 _ rfl; (with_reducible repeat (first | refine blk_drewN ?_ _ | refine blk_drew ?_ | refine blk_alloc ?_ _)); refine blk_put (cs := #[.int .i64 0, .string (⟨#[]⟩ : ByteArray), .string (⟨#[]⟩ : ByteArray), .int .i64 0, .string (⟨#[]⟩ : ByteArray)]) ?_ 3 _ rfl; (with_reducible repeat (first | refine blk_drewN ?_ _ | refine blk_drew ?_ | refine blk_alloc ?_ _)); refine blk_put (cs := #[.int .i64 0, .string (⟨#[]⟩ : ByteArray), .string (⟨#[]⟩ : ByteArray), .int .i64 0, .string (⟨#[]⟩ : ByteArray)]) ?_ 2 _ rfl; (with_reducible repeat (first | refine blk_drewN ?_ _ | refine blk_drew ?_ | refine blk_alloc ?_ _)); refine blk_put (cs := #[.int .i64 0, .string (⟨#[]⟩ : ByteArray), .string (⟨#[]⟩ : ByteArray), .int .i64 0, .string (⟨#[]⟩ : ByteArray)]) ?_ 1 _ rfl; (with_reducible repeat (first | refine blk_drewN ?_ _ | refine blk_drew ?_ | refine blk_alloc ?_ _)); refine blk_put (cs := #[.int .i64 0, .string (⟨#[]⟩ : ByteArray), .string (⟨#[]⟩ : ByteArray), .int .i64 0, .string (⟨#[]⟩ : ByteArray)]) ?_ 0 _ rfl; (with_reducible repeat (first | refine blk_drewN ?_ _ | refine blk_drew ?_ | refine blk_alloc ?_ _)); exact BK101.out) Tryd.underlying24 rfl (by kernel_rfl)) rfl ?_
                      exact ⟨by first | rfl | (simp [errW_none, errW_some] <;> rfl) | (simp only [← hji37]; first | rfl | (simp [errW_none, errW_some] <;> rfl)) | (simp [*, errW_none, errW_some] <;> rfl), by repeat (first | (with_reducible first | exact HB.out | apply below_alloc | apply pw_below_drewN | apply below_drew1 | refine below_set ?_ GE101.out | refine below_set ?_ GE103.out) | exact HB.out)⟩
                     ·
                      rw [if_neg c41] at H
                      have c41b0 : ((bt a0 (ji37)) == 48) = false := beq_eq_false_iff_ne.mpr c41
                      have c41b1 : ((bt a0 (ji37)) != 48) = true := bne_iff_ne.mpr c41
                      by_cases c44 : x7_4 > 65535
                      ·
                       rw [if_pos c44] at H
                       have c44b0 : decide (65535 < x7_4) = true := decide_eq_true c44
                       clear c44
                       simp only [Option.some.injEq, Prod.mk.injEq] at H
                       obtain ⟨rfl, rfl, rfl, rfl, rfl, rfl⟩ := H
                       have p28 : 0 ≤ (x4_4 : Int) := of_decide_eq_true (by first | (with_reducible assumption) | assumption)
                       have q28 : x4_4 < (a0.size : Int) := of_decide_eq_true (by first | (with_reducible assumption) | assumption)
                       have hx28 := bt_at a0 x4_4
                       replace p28 := eq_true p28
                       replace q28 := eq_true q28
                       have p30 : 0 ≤ (x4_4 : Int) := of_decide_eq_true (by first | (with_reducible assumption) | assumption)
                       have q30 : x4_4 < (a0.size : Int) := of_decide_eq_true (by first | (with_reducible assumption) | assumption)
                       have hx30 := bt_at a0 x4_4
                       replace p30 := eq_true p30
                       replace q30 := eq_true q30
                       have p40 : 0 ≤ ((ji37) : Int) := of_decide_eq_true (by first | (with_reducible assumption) | assumption)
                       have q40 : (ji37) < (a0.size : Int) := of_decide_eq_true (by first | (with_reducible assumption) | assumption)
                       have hx40 := bt_at a0 (ji37)
                       replace p40 := eq_true p40
                       replace q40 := eq_true q40
                       have hnb45 := NB101_103.out
                       have hnc45 := NB103_101.out
                       have hcz46_0 : wr.cell? ⟨gb101, 0, none⟩ = some (.int .i64 0) := (blk_cell BK101.out 0).trans rfl
                       have hcz46_1 : wr.cell? ⟨gb101, 1, none⟩ = some (.string (⟨#[]⟩ : ByteArray)) := (blk_cell BK101.out 1).trans rfl
                       have hcz46_2 : wr.cell? ⟨gb101, 2, none⟩ = some (.string (⟨#[]⟩ : ByteArray)) := (blk_cell BK101.out 2).trans rfl
                       have hcz46_3 : wr.cell? ⟨gb101, 3, none⟩ = some (.int .i64 0) := (blk_cell BK101.out 3).trans rfl
                       have hcz46_4 : wr.cell? ⟨gb101, 4, none⟩ = some (.string (⟨#[]⟩ : ByteArray)) := (blk_cell BK101.out 4).trans rfl
                       have hfz46_0 := blk_frozen BK101.out 0
                       have hfz46_1 := blk_frozen BK101.out 1
                       have hfz46_2 := blk_frozen BK101.out 2
                       have hfz46_3 := blk_frozen BK101.out 3
                       have hfz46_4 := blk_frozen BK101.out 4
                       go_wp2
                       refine bodyPost_ret (results_ct rfl _ _ gb101 24 #[.int .i64 0, .string (⟨#[]⟩ : ByteArray), .string (⟨#[]⟩ : ByteArray), .int .i64 0, .string (⟨#[]⟩ : ByteArray)] (0, 0) _ rfl (by (with_reducible repeat (first | refine blk_drewN ?_ _ | refine blk_drew ?_ | refine blk_alloc ?_ _)); refine blk_put (cs := #[.int .i64 0, .string (⟨#[]⟩ : ByteArray), .string (⟨#[]⟩ : ByteArray), .int .i64 0, .string (⟨#[]⟩ : ByteArray)]) ?_ 4 _ rfl; (with_reducible repeat (first | refine blk_drewN ?_ _ | refine blk_drew ?_ | refine blk_alloc ?_ _)); refine blk_put (cs := #[.int .i64 0, .string (⟨#[]⟩ : ByteArray), .string (⟨#[]⟩ : ByteArray), .int .i64 0, .string (⟨#[]⟩ : ByteArray)]) ?_ 3 _ rfl; (with_reducible repeat (first | refine blk_drewN ?_ _ | refine blk_drew ?_ | refine blk_alloc ?_ _)); refine blk_put (cs := #[.int .i64 0, .string (⟨#[]⟩ : ByteArray), .string (⟨#[]⟩ : ByteArray), .int .i64 0, .string (⟨#[]⟩ : ByteArray)]) ?_ 2 _ rfl; (with_reducible repeat (first | refine blk_drewN ?_ _ | refine blk_drew ?_ | refine blk_alloc ?_ _)); refine blk_put (cs := #[.int .i64 0, .string (⟨#[]⟩ : ByteArray), .string (⟨#[]⟩ : ByteArray), .int .i64 0, .string (⟨#[]⟩ : ByteArray)]) ?_ 1 _ rfl; (with_reducible repeat (first | refine blk_drewN ?_ _ | refine blk_drew ?_ | refine blk_alloc ?_ _)); refine blk_put (cs := #[.int .i64 0, .string (⟨#[]⟩ : ByteArray), .string (⟨#[]⟩ : ByteArray), .int .i64 0, .string (⟨#[]⟩ : ByteArray)]) ?_ 0 _ rfl; (with_reducible repeat (first | refine blk_drewN ?_ _ | refine blk_drew ?_ | refine blk_alloc ?_ _)); exact BK101.out) Tryd.underlying24 rfl (by kernel_rfl)) rfl ?_
                       exact ⟨by first | rfl | (simp [errW_none, errW_some] <;> rfl) | (simp only [← hji37]; first | rfl | (simp [errW_none, errW_some] <;> rfl)) | (simp [*, errW_none, errW_some] <;> rfl), by repeat (first | (with_reducible first | exact HB.out | apply below_alloc | apply pw_below_drewN | apply below_drew1 | refine below_set ?_ GE101.out | refine below_set ?_ GE103.out) | exact HB.out)⟩
                      ·
                       rw [if_neg c44] at H
                       have c44b0 : decide (65535 < x7_4) = false := decide_eq_false c44
                       clear c44
                       have H' := Aside0.mk H
                       clear H
                       have p28 : 0 ≤ (x4_4 : Int) := of_decide_eq_true (by first | (with_reducible assumption) | assumption)
                       have q28 : x4_4 < (a0.size : Int) := of_decide_eq_true (by first | (with_reducible assumption) | assumption)
                       have hx28 := bt_at a0 x4_4
                       replace p28 := eq_true p28
                       replace q28 := eq_true q28
                       have p30 : 0 ≤ (x4_4 : Int) := of_decide_eq_true (by first | (with_reducible assumption) | assumption)
                       have q30 : x4_4 < (a0.size : Int) := of_decide_eq_true (by first | (with_reducible assumption) | assumption)
                       have hx30 := bt_at a0 x4_4
                       replace p30 := eq_true p30
                       replace q30 := eq_true q30
                       have p40 : 0 ≤ ((ji37) : Int) := of_decide_eq_true (by first | (with_reducible assumption) | assumption)
                       have q40 : (ji37) < (a0.size : Int) := of_decide_eq_true (by first | (with_reducible assumption) | assumption)
                       have hx40 := bt_at a0 (ji37)
                       replace p40 := eq_true p40
                       replace q40 := eq_true q40
                       have hnb47 := NB103_101.out
                       have hnc47 := NB101_103.out
                       have hcz48_0 : wr.cell? ⟨gb103, 0, none⟩ = some (.int .i64 6) := (blk_cell BK103.out 0).trans rfl
                       have hcz48_1 : wr.cell? ⟨gb103, 1, none⟩ = some (.string (⟨#[]⟩ : ByteArray)) := (blk_cell BK103.out 1).trans rfl
                       have hcz48_2 : wr.cell? ⟨gb103, 2, none⟩ = some (.string (a0.extract 7 (x4_7 : Int).toNat)) := (blk_cell BK103.out 2).trans rfl
                       have hcz48_3 : wr.cell? ⟨gb103, 3, none⟩ = some (.int .i64 80) := (blk_cell BK103.out 3).trans rfl
                       have hcz48_4 : wr.cell? ⟨gb103, 4, none⟩ = some (.string (⟨#[47]⟩ : ByteArray)) := (blk_cell BK103.out 4).trans rfl
                       have hfz48_0 := blk_frozen BK103.out 0
                       have hfz48_1 := blk_frozen BK103.out 1
                       have hfz48_2 := blk_frozen BK103.out 2
                       have hfz48_3 := blk_frozen BK103.out 3
                       have hfz48_4 := blk_frozen BK103.out 4
                       go_wp2
                       go_meet
                       case rel => exact ⟨_, (x4_4), (0), ((⟨#[]⟩ : ByteArray)), ((⟨#[]⟩ : ByteArray)), (0), ((⟨#[]⟩ : ByteArray)), (x7_4), (by first | rfl | (simp; done) | (simp [*]; done)), H', ⟨by have := HJ1.out; have := HJ7.out; have := HJ16.out; have := HK4.out; first | omega | exact Nat.le_refl _⟩, ⟨by (with_reducible repeat (first | refine blk_drewN ?_ _ | refine blk_drew ?_ | refine blk_alloc ?_ _)); refine blk_far ?_ NB101_103.out _; (with_reducible repeat (first | refine blk_drewN ?_ _ | refine blk_drew ?_ | refine blk_alloc ?_ _)); exact BK101.out⟩, ⟨by (with_reducible repeat (first | refine blk_drewN ?_ _ | refine blk_drew ?_ | refine blk_alloc ?_ _)); refine blk_put (cs := #[.int .i64 6, .string (⟨#[]⟩ : ByteArray), .string (a0.extract 7 (x4_7 : Int).toNat), .int .i64 80, .string (⟨#[47]⟩ : ByteArray)]) ?_ 3 _ rfl; (with_reducible repeat (first | refine blk_drewN ?_ _ | refine blk_drew ?_ | refine blk_alloc ?_ _)); exact BK103.out⟩, ⟨by repeat (first | (with_reducible first | exact HB.out | apply below_alloc | apply pw_below_drewN | apply below_drew1 | refine below_set ?_ GE101.out | refine below_set ?_ GE103.out) | exact HB.out)⟩⟩
                    ·
                     rw [if_neg c39] at H
                     exact absurd H (by simp)
                   ·
                    rw [if_neg c38] at H
                    exact absurd H (by simp)
                ·
                 rw [if_neg c29] at H
                 have c29b0 : decide (48 ≤ (bt a0 x4_4)) = false := decide_eq_false c29
                 clear c29
                 by_cases c49 : x4_4 = (wrap64 (x4_7 + 1))
                 ·
                  rw [if_pos c49] at H
                  have c49b0 : (x4_4 == (wrap64 (x4_7 + 1))) = true := beq_iff_eq.mpr c49
                  have c49b1 : (x4_4 != (wrap64 (x4_7 + 1))) = false := bne_eq_false_iff_eq.mpr c49
                  clear c49
                  simp only [Option.some.injEq, Prod.mk.injEq] at H
                  obtain ⟨rfl, rfl, rfl, rfl, rfl, rfl⟩ := H
                  have p28 : 0 ≤ (x4_4 : Int) := of_decide_eq_true (by first | (with_reducible assumption) | assumption)
                  have q28 : x4_4 < (a0.size : Int) := of_decide_eq_true (by first | (with_reducible assumption) | assumption)
                  have hx28 := bt_at a0 x4_4
                  replace p28 := eq_true p28
                  replace q28 := eq_true q28
                  have hnb50 := NB101_103.out
                  have hnc50 := NB103_101.out
                  have hcz51_0 : wr.cell? ⟨gb101, 0, none⟩ = some (.int .i64 0) := (blk_cell BK101.out 0).trans rfl
                  have hcz51_1 : wr.cell? ⟨gb101, 1, none⟩ = some (.string (⟨#[]⟩ : ByteArray)) := (blk_cell BK101.out 1).trans rfl
                  have hcz51_2 : wr.cell? ⟨gb101, 2, none⟩ = some (.string (⟨#[]⟩ : ByteArray)) := (blk_cell BK101.out 2).trans rfl
                  have hcz51_3 : wr.cell? ⟨gb101, 3, none⟩ = some (.int .i64 0) := (blk_cell BK101.out 3).trans rfl
                  have hcz51_4 : wr.cell? ⟨gb101, 4, none⟩ = some (.string (⟨#[]⟩ : ByteArray)) := (blk_cell BK101.out 4).trans rfl
                  have hfz51_0 := blk_frozen BK101.out 0
                  have hfz51_1 := blk_frozen BK101.out 1
                  have hfz51_2 := blk_frozen BK101.out 2
                  have hfz51_3 := blk_frozen BK101.out 3
                  have hfz51_4 := blk_frozen BK101.out 4
                  go_wp2
                  refine bodyPost_ret (results_ct rfl _ _ gb101 24 #[.int .i64 0, .string (⟨#[]⟩ : ByteArray), .string (⟨#[]⟩ : ByteArray), .int .i64 0, .string (⟨#[]⟩ : ByteArray)] (0, 0) _ rfl (by (with_reducible repeat (first | refine blk_drewN ?_ _ | refine blk_drew ?_ | refine blk_alloc ?_ _)); refine blk_put (cs := #[.int .i64 0, .string (⟨#[]⟩ : ByteArray), .string (⟨#[]⟩ : ByteArray), .int .i64 0, .string (⟨#[]⟩ : ByteArray)]) ?_ 4 _ rfl; (with_reducible repeat (first | refine blk_drewN ?_ _ | refine blk_drew ?_ | refine blk_alloc ?_ _)); refine blk_put (cs := #[.int .i64 0, .string (⟨#[]⟩ : ByteArray), .string (⟨#[]⟩ : ByteArray), .int .i64 0, .string (⟨#[]⟩ : ByteArray)]) ?_ 3 _ rfl; (with_reducible repeat (first | refine blk_drewN ?_ _ | refine blk_drew ?_ | refine blk_alloc ?_ _)); refine blk_put (cs := #[.int .i64 0, .string (⟨#[]⟩ : ByteArray), .string (⟨#[]⟩ : ByteArray), .int .i64 0, .string (⟨#[]⟩ : ByteArray)]) ?_ 2 _ rfl; (with_reducible repeat (first | refine blk_drewN ?_ _ | refine blk_drew ?_ | refine blk_alloc ?_ _)); refine blk_put (cs := #[.int .i64 0, .string (⟨#[]⟩ : ByteArray), .string (⟨#[]⟩ : ByteArray), .int .i64 0, .string (⟨#[]⟩ : ByteArray)]) ?_ 1 _ rfl; (with_reducible repeat (first | refine blk_drewN ?_ _ | refine blk_drew ?_ | refine blk_alloc ?_ _)); refine blk_put (cs := #[.int .i64 0, .string (⟨#[]⟩ : ByteArray), .string (⟨#[]⟩ : ByteArray), .int .i64 0, .string (⟨#[]⟩ : ByteArray)]) ?_ 0 _ rfl; (with_reducible repeat (first | refine blk_drewN ?_ _ | refine blk_drew ?_ | refine blk_alloc ?_ _)); exact BK101.out) Tryd.underlying24 rfl (by kernel_rfl)) rfl ?_
                  exact ⟨by first | rfl | (simp [errW_none, errW_some] <;> rfl) | (simp [*, errW_none, errW_some] <;> rfl), by repeat (first | (with_reducible first | exact HB.out | apply below_alloc | apply pw_below_drewN | apply below_drew1 | refine below_set ?_ GE101.out | refine below_set ?_ GE103.out) | exact HB.out)⟩
                 ·
                  rw [if_neg c49] at H
                  have c49b0 : (x4_4 == (wrap64 (x4_7 + 1))) = false := beq_eq_false_iff_ne.mpr c49
                  have c49b1 : (x4_4 != (wrap64 (x4_7 + 1))) = true := bne_iff_ne.mpr c49
                  obtain ⟨ji52, hji52⟩ : ∃ j_ : Int, (wrap64 (x4_7 + 1)) = j_ := ⟨_, rfl⟩
                  replace H : (if 0 ≤ (ji52) then (if (ji52) < (a0.size : Int) then (if (bt a0 (ji52)) = 48 then (some (0, (⟨#[]⟩ : ByteArray), (⟨#[]⟩ : ByteArray), 0, (⟨#[]⟩ : ByteArray), 190)) else (if x7_4 > 65535 then (some (0, (⟨#[]⟩ : ByteArray), (⟨#[]⟩ : ByteArray), 0, (⟨#[]⟩ : ByteArray), 190)) else (pennantref16_Url.j5 k4 a0 x4_4 6 (⟨#[]⟩ : ByteArray) (a0.extract 7 (x4_7 : Int).toNat) x7_4 (⟨#[47]⟩ : ByteArray)))) else (none)) else (none)) = some (r1, r2, r3, r4, r5, r6) := by first | (rw [hji52] at H; exact H) | (simp only [hji52] at H ⊢; exact H)
                  (try rw [hji52] at c49b0)
                  (try rw [hji52] at c49b1)
                  have hji52w : (IntKind.i64.wrap (x4_7 + 1)) = ji52 := (i64_w _).trans hji52
                  by_cases c53 : 0 ≤ (ji52)
                  ·
                   rw [if_pos c53] at H
                   have c53b0 : decide (0 ≤ (ji52)) = true := decide_eq_true c53
                   clear c53
                   by_cases c54 : (ji52) < (a0.size : Int)
                   ·
                    rw [if_pos c54] at H
                    have c54b0 : decide ((ji52) < (a0.size : Int)) = true := decide_eq_true c54
                    clear c54
                    by_cases c56 : (bt a0 (ji52)) = 48
                    ·
                     rw [if_pos c56] at H
                     have c56b0 : ((bt a0 (ji52)) == 48) = true := beq_iff_eq.mpr c56
                     have c56b1 : ((bt a0 (ji52)) != 48) = false := bne_eq_false_iff_eq.mpr c56
                     clear c56
                     simp only [Option.some.injEq, Prod.mk.injEq] at H
                     obtain ⟨rfl, rfl, rfl, rfl, rfl, rfl⟩ := H
                     have p28 : 0 ≤ (x4_4 : Int) := of_decide_eq_true (by first | (with_reducible assumption) | assumption)
                     have q28 : x4_4 < (a0.size : Int) := of_decide_eq_true (by first | (with_reducible assumption) | assumption)
                     have hx28 := bt_at a0 x4_4
                     replace p28 := eq_true p28
                     replace q28 := eq_true q28
                     have p55 : 0 ≤ ((ji52) : Int) := of_decide_eq_true (by first | (with_reducible assumption) | assumption)
                     have q55 : (ji52) < (a0.size : Int) := of_decide_eq_true (by first | (with_reducible assumption) | assumption)
                     have hx55 := bt_at a0 (ji52)
                     replace p55 := eq_true p55
                     replace q55 := eq_true q55
                     have hnb57 := NB101_103.out
                     have hnc57 := NB103_101.out
                     have hcz58_0 : wr.cell? ⟨gb101, 0, none⟩ = some (.int .i64 0) := (blk_cell BK101.out 0).trans rfl
                     have hcz58_1 : wr.cell? ⟨gb101, 1, none⟩ = some (.string (⟨#[]⟩ : ByteArray)) := (blk_cell BK101.out 1).trans rfl
                     have hcz58_2 : wr.cell? ⟨gb101, 2, none⟩ = some (.string (⟨#[]⟩ : ByteArray)) := (blk_cell BK101.out 2).trans rfl
                     have hcz58_3 : wr.cell? ⟨gb101, 3, none⟩ = some (.int .i64 0) := (blk_cell BK101.out 3).trans rfl
                     have hcz58_4 : wr.cell? ⟨gb101, 4, none⟩ = some (.string (⟨#[]⟩ : ByteArray)) := (blk_cell BK101.out 4).trans rfl
                     have hfz58_0 := blk_frozen BK101.out 0
                     have hfz58_1 := blk_frozen BK101.out 1
                     have hfz58_2 := blk_frozen BK101.out 2
                     have hfz58_3 := blk_frozen BK101.out 3
                     have hfz58_4 := blk_frozen BK101.out 4
                     go_wp2
                     refine bodyPost_ret (results_ct rfl _ _ gb101 24 #[.int .i64 0, .string (⟨#[]⟩ : ByteArray), .string (⟨#[]⟩ : ByteArray), .int .i64 0, .string (⟨#[]⟩ : ByteArray)] (0, 0) _ rfl (by (with_reducible repeat (first | refine blk_drewN ?_ _ | refine blk_drew ?_ | refine blk_alloc ?_ _)); refine blk_put (cs := #[.int .i64 0, .string (⟨#[]⟩ : ByteArray), .string (⟨#[]⟩ : ByteArray), .int .i64 0, .string (⟨#[]⟩ : ByteArray)]) ?_ 4 _ rfl; (with_reducible repeat (first | refine blk_drewN ?_ _ | refine blk_drew ?_ | refine blk_alloc ?_ _)); refine blk_put (cs := #[.int .i64 0, .string (⟨#[]⟩ : ByteArray), .string (⟨#[]⟩ : ByteArray), .int .i64 0, .string (⟨#[]⟩ : ByteArray)]) ?_ 3 _ rfl; (with_reducible repeat (first | refine blk_drewN ?_ _ | refine blk_drew ?_ | refine blk_alloc ?_ _)); refine blk_put (cs := #[.int .i64 0, .string (⟨#[]⟩ : ByteArray), .string (⟨#[]⟩ : ByteArray), .int .i64 0, .string (⟨#[]⟩ : ByteArray)]) ?_ 2 _ rfl; (with_reducible repeat (first | refine blk_drewN ?_ _ | refine blk_drew ?_ | refine blk_alloc ?_ _)); refine blk_put (cs := #[.int .i64 0, .string (⟨#[]⟩ : ByteArray), .string (⟨#[]⟩ : ByteArray), .int .i64 0, .string (⟨#[]⟩ : ByteArray)]) ?_ 1 _ rfl; (with_reducible repeat (first | refine blk_drewN ?_ _ | refine blk_drew ?_ | refine blk_alloc ?_ _)); refine blk_put (cs := #[.int .i64 0, .string (⟨#[]⟩ : ByteArray), .string (⟨#[]⟩ : ByteArray), .int .i64 0, .string (⟨#[]⟩ : ByteArray)]) ?_ 0 _ rfl; (with_reducible repeat (first | refine blk_drewN ?_ _ | refine blk_drew ?_ | refine blk_alloc ?_ _)); exact BK101.out) Tryd.underlying24 rfl (by kernel_rfl)) rfl ?_
                     exact ⟨by first | rfl | (simp [errW_none, errW_some] <;> rfl) | (simp only [← hji52]; first | rfl | (simp [errW_none, errW_some] <;> rfl)) | (simp [*, errW_none, errW_some] <;> rfl), by repeat (first | (with_reducible first | exact HB.out | apply below_alloc | apply pw_below_drewN | apply below_drew1 | refine below_set ?_ GE101.out | refine below_set ?_ GE103.out) | exact HB.out)⟩
                    ·
                     rw [if_neg c56] at H
                     have c56b0 : ((bt a0 (ji52)) == 48) = false := beq_eq_false_iff_ne.mpr c56
                     have c56b1 : ((bt a0 (ji52)) != 48) = true := bne_iff_ne.mpr c56
                     by_cases c59 : x7_4 > 65535
                     ·
                      rw [if_pos c59] at H
                      have c59b0 : decide (65535 < x7_4) = true := decide_eq_true c59
                      clear c59
                      simp only [Option.some.injEq, Prod.mk.injEq] at H
                      obtain ⟨rfl, rfl, rfl, rfl, rfl, rfl⟩ := H
                      have p28 : 0 ≤ (x4_4 : Int) := of_decide_eq_true (by first | (with_reducible assumption) | assumption)
                      have q28 : x4_4 < (a0.size : Int) := of_decide_eq_true (by first | (with_reducible assumption) | assumption)
                      have hx28 := bt_at a0 x4_4
                      replace p28 := eq_true p28
                      replace q28 := eq_true q28
                      have p55 : 0 ≤ ((ji52) : Int) := of_decide_eq_true (by first | (with_reducible assumption) | assumption)
                      have q55 : (ji52) < (a0.size : Int) := of_decide_eq_true (by first | (with_reducible assumption) | assumption)
                      have hx55 := bt_at a0 (ji52)
                      replace p55 := eq_true p55
                      replace q55 := eq_true q55
                      have hnb60 := NB101_103.out
                      have hnc60 := NB103_101.out
                      have hcz61_0 : wr.cell? ⟨gb101, 0, none⟩ = some (.int .i64 0) := (blk_cell BK101.out 0).trans rfl
                      have hcz61_1 : wr.cell? ⟨gb101, 1, none⟩ = some (.string (⟨#[]⟩ : ByteArray)) := (blk_cell BK101.out 1).trans rfl
                      have hcz61_2 : wr.cell? ⟨gb101, 2, none⟩ = some (.string (⟨#[]⟩ : ByteArray)) := (blk_cell BK101.out 2).trans rfl
                      have hcz61_3 : wr.cell? ⟨gb101, 3, none⟩ = some (.int .i64 0) := (blk_cell BK101.out 3).trans rfl
                      have hcz61_4 : wr.cell? ⟨gb101, 4, none⟩ = some (.string (⟨#[]⟩ : ByteArray)) := (blk_cell BK101.out 4).trans rfl
                      have hfz61_0 := blk_frozen BK101.out 0
                      have hfz61_1 := blk_frozen BK101.out 1
                      have hfz61_2 := blk_frozen BK101.out 2
                      have hfz61_3 := blk_frozen BK101.out 3
                      have hfz61_4 := blk_frozen BK101.out 4
                      go_wp2
                      refine bodyPost_ret (results_ct rfl _ _ gb101 24 #[.int .i64 0, .string (⟨#[]⟩ : ByteArray), .string (⟨#[]⟩ : ByteArray), .int .i64 0, .string (⟨#[]⟩ : ByteArray)] (0, 0) _ rfl (by (with_reducible repeat (first | refine blk_drewN ?_ _ | refine blk_drew ?_ | refine blk_alloc ?_ _)); refine blk_put (cs := #[.int .i64 0, .string (⟨#[]⟩ : ByteArray), .string (⟨#[]⟩ : ByteArray), .int .i64 0, .string (⟨#[]⟩ : ByteArray)]) ?_ 4 _ rfl; (with_reducible repeat (first | refine blk_drewN ?_ _ | refine blk_drew ?_ | refine blk_alloc ?_ _)); refine blk_put (cs := #[.int .i64 0, .string (⟨#[]⟩ : ByteArray), .string (⟨#[]⟩ : ByteArray), .int .i64 0, .string (⟨#[]⟩ : ByteArray)]) ?_ 3 _ rfl; (with_reducible repeat (first | refine blk_drewN ?_ _ | refine blk_drew ?_ | refine blk_alloc ?_ _)); refine blk_put (cs := #[.int .i64 0, .string (⟨#[]⟩ : ByteArray), .string (⟨#[]⟩ : ByteArray), .int .i64 0, .string (⟨#[]⟩ : ByteArray)]) ?_ 2 _ rfl; (with_reducible repeat (first | refine blk_drewN ?_ _ | refine blk_drew ?_ | refine blk_alloc ?_ _)); refine blk_put (cs := #[.int .i64 0, .string (⟨#[]⟩ : ByteArray), .string (⟨#[]⟩ : ByteArray), .int .i64 0, .string (⟨#[]⟩ : ByteArray)]) ?_ 1 _ rfl; (with_reducible repeat (first | refine blk_drewN ?_ _ | refine blk_drew ?_ | refine blk_alloc ?_ _)); refine blk_put (cs := #[.int .i64 0, .string (⟨#[]⟩ : ByteArray), .string (⟨#[]⟩ : ByteArray), .int .i64 0, .string (⟨#[]⟩ : ByteArray)]) ?_ 0 _ rfl; (with_reducible repeat (first | refine blk_drewN ?_ _ | refine blk_drew ?_ | refine blk_alloc ?_ _)); exact BK101.out) Tryd.underlying24 rfl (by kernel_rfl)) rfl ?_
                      exact ⟨by first | rfl | (simp [errW_none, errW_some] <;> rfl) | (simp only [← hji52]; first | rfl | (simp [errW_none, errW_some] <;> rfl)) | (simp [*, errW_none, errW_some] <;> rfl), by repeat (first | (with_reducible first | exact HB.out | apply below_alloc | apply pw_below_drewN | apply below_drew1 | refine below_set ?_ GE101.out | refine below_set ?_ GE103.out) | exact HB.out)⟩
                     ·
                      rw [if_neg c59] at H
                      have c59b0 : decide (65535 < x7_4) = false := decide_eq_false c59
                      clear c59
                      have H' := Aside0.mk H
                      clear H
                      have p28 : 0 ≤ (x4_4 : Int) := of_decide_eq_true (by first | (with_reducible assumption) | assumption)
                      have q28 : x4_4 < (a0.size : Int) := of_decide_eq_true (by first | (with_reducible assumption) | assumption)
                      have hx28 := bt_at a0 x4_4
                      replace p28 := eq_true p28
                      replace q28 := eq_true q28
                      have p55 : 0 ≤ ((ji52) : Int) := of_decide_eq_true (by first | (with_reducible assumption) | assumption)
                      have q55 : (ji52) < (a0.size : Int) := of_decide_eq_true (by first | (with_reducible assumption) | assumption)
                      have hx55 := bt_at a0 (ji52)
                      replace p55 := eq_true p55
                      replace q55 := eq_true q55
                      have hnb62 := NB103_101.out
                      have hnc62 := NB101_103.out
                      have hcz63_0 : wr.cell? ⟨gb103, 0, none⟩ = some (.int .i64 6) := (blk_cell BK103.out 0).trans rfl
                      have hcz63_1 : wr.cell? ⟨gb103, 1, none⟩ = some (.string (⟨#[]⟩ : ByteArray)) := (blk_cell BK103.out 1).trans rfl
                      have hcz63_2 : wr.cell? ⟨gb103, 2, none⟩ = some (.string (a0.extract 7 (x4_7 : Int).toNat)) := (blk_cell BK103.out 2).trans rfl
                      have hcz63_3 : wr.cell? ⟨gb103, 3, none⟩ = some (.int .i64 80) := (blk_cell BK103.out 3).trans rfl
                      have hcz63_4 : wr.cell? ⟨gb103, 4, none⟩ = some (.string (⟨#[47]⟩ : ByteArray)) := (blk_cell BK103.out 4).trans rfl
                      have hfz63_0 := blk_frozen BK103.out 0
                      have hfz63_1 := blk_frozen BK103.out 1
                      have hfz63_2 := blk_frozen BK103.out 2
                      have hfz63_3 := blk_frozen BK103.out 3
                      have hfz63_4 := blk_frozen BK103.out 4
                      go_wp2
                      go_meet
                      case rel => exact ⟨_, (x4_4), (0), ((⟨#[]⟩ : ByteArray)), ((⟨#[]⟩ : ByteArray)), (0), ((⟨#[]⟩ : ByteArray)), (x7_4), (by first | rfl | (simp; done) | (simp [*]; done)), H', ⟨by have := HJ1.out; have := HJ7.out; have := HJ16.out; have := HK4.out; first | omega | exact Nat.le_refl _⟩, ⟨by (with_reducible repeat (first | refine blk_drewN ?_ _ | refine blk_drew ?_ | refine blk_alloc ?_ _)); refine blk_far ?_ NB101_103.out _; (with_reducible repeat (first | refine blk_drewN ?_ _ | refine blk_drew ?_ | refine blk_alloc ?_ _)); exact BK101.out⟩, ⟨by (with_reducible repeat (first | refine blk_drewN ?_ _ | refine blk_drew ?_ | refine blk_alloc ?_ _)); refine blk_put (cs := #[.int .i64 6, .string (⟨#[]⟩ : ByteArray), .string (a0.extract 7 (x4_7 : Int).toNat), .int .i64 80, .string (⟨#[47]⟩ : ByteArray)]) ?_ 3 _ rfl; (with_reducible repeat (first | refine blk_drewN ?_ _ | refine blk_drew ?_ | refine blk_alloc ?_ _)); exact BK103.out⟩, ⟨by repeat (first | (with_reducible first | exact HB.out | apply below_alloc | apply pw_below_drewN | apply below_drew1 | refine below_set ?_ GE101.out | refine below_set ?_ GE103.out) | exact HB.out)⟩⟩
                   ·
                    rw [if_neg c54] at H
                    exact absurd H (by simp)
                  ·
                   rw [if_neg c53] at H
                   exact absurd H (by simp)
               ·
                rw [if_neg c27] at H
                exact absurd H (by simp)
              ·
               rw [if_neg c26] at H
               have c26b0 : decide (x4_4 < (a0.size : Int)) = false := decide_eq_false c26
               clear c26
               (first | rw [c26b0] | (simp only [i64_w, i32_w]; rw [c26b0]) | skip)
               by_cases c64 : x4_4 = (wrap64 (x4_7 + 1))
               ·
                rw [if_pos c64] at H
                have c64b0 : (x4_4 == (wrap64 (x4_7 + 1))) = true := beq_iff_eq.mpr c64
                have c64b1 : (x4_4 != (wrap64 (x4_7 + 1))) = false := bne_eq_false_iff_eq.mpr c64
                clear c64
                simp only [Option.some.injEq, Prod.mk.injEq] at H
                obtain ⟨rfl, rfl, rfl, rfl, rfl, rfl⟩ := H
                have hnb65 := NB101_103.out
                have hnc65 := NB103_101.out
                have hcz66_0 : wr.cell? ⟨gb101, 0, none⟩ = some (.int .i64 0) := (blk_cell BK101.out 0).trans rfl
                have hcz66_1 : wr.cell? ⟨gb101, 1, none⟩ = some (.string (⟨#[]⟩ : ByteArray)) := (blk_cell BK101.out 1).trans rfl
                have hcz66_2 : wr.cell? ⟨gb101, 2, none⟩ = some (.string (⟨#[]⟩ : ByteArray)) := (blk_cell BK101.out 2).trans rfl
                have hcz66_3 : wr.cell? ⟨gb101, 3, none⟩ = some (.int .i64 0) := (blk_cell BK101.out 3).trans rfl
                have hcz66_4 : wr.cell? ⟨gb101, 4, none⟩ = some (.string (⟨#[]⟩ : ByteArray)) := (blk_cell BK101.out 4).trans rfl
                have hfz66_0 := blk_frozen BK101.out 0
                have hfz66_1 := blk_frozen BK101.out 1
                have hfz66_2 := blk_frozen BK101.out 2
                have hfz66_3 := blk_frozen BK101.out 3
                have hfz66_4 := blk_frozen BK101.out 4
                go_wp2
                refine bodyPost_ret (results_ct rfl _ _ gb101 24 #[.int .i64 0, .string (⟨#[]⟩ : ByteArray), .string (⟨#[]⟩ : ByteArray), .int .i64 0, .string (⟨#[]⟩ : ByteArray)] (0, 0) _ rfl (by (with_reducible repeat (first | refine blk_drewN ?_ _ | refine blk_drew ?_ | refine blk_alloc ?_ _)); refine blk_put (cs := #[.int .i64 0, .string (⟨#[]⟩ : ByteArray), .string (⟨#[]⟩ : ByteArray), .int .i64 0, .string (⟨#[]⟩ : ByteArray)]) ?_ 4 _ rfl; (with_reducible repeat (first | refine blk_drewN ?_ _ | refine blk_drew ?_ | refine blk_alloc ?_ _)); refine blk_put (cs := #[.int .i64 0, .string (⟨#[]⟩ : ByteArray), .string (⟨#[]⟩ : ByteArray), .int .i64 0, .string (⟨#[]⟩ : ByteArray)]) ?_ 3 _ rfl; (with_reducible repeat (first | refine blk_drewN ?_ _ | refine blk_drew ?_ | refine blk_alloc ?_ _)); refine blk_put (cs := #[.int .i64 0, .string (⟨#[]⟩ : ByteArray), .string (⟨#[]⟩ : ByteArray), .int .i64 0, .string (⟨#[]⟩ : ByteArray)]) ?_ 2 _ rfl; (with_reducible repeat (first | refine blk_drewN ?_ _ | refine blk_drew ?_ | refine blk_alloc ?_ _)); refine blk_put (cs := #[.int .i64 0, .string (⟨#[]⟩ : ByteArray), .string (⟨#[]⟩ : ByteArray), .int .i64 0, .string (⟨#[]⟩ : ByteArray)]) ?_ 1 _ rfl; (with_reducible repeat (first | refine blk_drewN ?_ _ | refine blk_drew ?_ | refine blk_alloc ?_ _)); refine blk_put (cs := #[.int .i64 0, .string (⟨#[]⟩ : ByteArray), .string (⟨#[]⟩ : ByteArray), .int .i64 0, .string (⟨#[]⟩ : ByteArray)]) ?_ 0 _ rfl; (with_reducible repeat (first | refine blk_drewN ?_ _ | refine blk_drew ?_ | refine blk_alloc ?_ _)); exact BK101.out) Tryd.underlying24 rfl (by kernel_rfl)) rfl ?_
                exact ⟨by first | rfl | (simp [errW_none, errW_some] <;> rfl) | (simp [*, errW_none, errW_some] <;> rfl), by repeat (first | (with_reducible first | exact HB.out | apply below_alloc | apply pw_below_drewN | apply below_drew1 | refine below_set ?_ GE101.out | refine below_set ?_ GE103.out) | exact HB.out)⟩
               ·
                rw [if_neg c64] at H
                have c64b0 : (x4_4 == (wrap64 (x4_7 + 1))) = false := beq_eq_false_iff_ne.mpr c64
                have c64b1 : (x4_4 != (wrap64 (x4_7 + 1))) = true := bne_iff_ne.mpr c64
                obtain ⟨ji67, hji67⟩ : ∃ j_ : Int, (wrap64 (x4_7 + 1)) = j_ := ⟨_, rfl⟩
                replace H : (if 0 ≤ (ji67) then (if (ji67) < (a0.size : Int) then (if (bt a0 (ji67)) = 48 then (some (0, (⟨#[]⟩ : ByteArray), (⟨#[]⟩ : ByteArray), 0, (⟨#[]⟩ : ByteArray), 190)) else (if x7_4 > 65535 then (some (0, (⟨#[]⟩ : ByteArray), (⟨#[]⟩ : ByteArray), 0, (⟨#[]⟩ : ByteArray), 190)) else (pennantref16_Url.j5 k4 a0 x4_4 6 (⟨#[]⟩ : ByteArray) (a0.extract 7 (x4_7 : Int).toNat) x7_4 (⟨#[47]⟩ : ByteArray)))) else (none)) else (none)) = some (r1, r2, r3, r4, r5, r6) := by first | (rw [hji67] at H; exact H) | (simp only [hji67] at H ⊢; exact H)
                (try rw [hji67] at c64b0)
                (try rw [hji67] at c64b1)
                have hji67w : (IntKind.i64.wrap (x4_7 + 1)) = ji67 := (i64_w _).trans hji67
                by_cases c68 : 0 ≤ (ji67)
                ·
                 rw [if_pos c68] at H
                 have c68b0 : decide (0 ≤ (ji67)) = true := decide_eq_true c68
                 clear c68
                 by_cases c69 : (ji67) < (a0.size : Int)
                 ·
                  rw [if_pos c69] at H
                  have c69b0 : decide ((ji67) < (a0.size : Int)) = true := decide_eq_true c69
                  clear c69
                  by_cases c71 : (bt a0 (ji67)) = 48
                  ·
                   rw [if_pos c71] at H
                   have c71b0 : ((bt a0 (ji67)) == 48) = true := beq_iff_eq.mpr c71
                   have c71b1 : ((bt a0 (ji67)) != 48) = false := bne_eq_false_iff_eq.mpr c71
                   clear c71
                   simp only [Option.some.injEq, Prod.mk.injEq] at H
                   obtain ⟨rfl, rfl, rfl, rfl, rfl, rfl⟩ := H
                   have p70 : 0 ≤ ((ji67) : Int) := of_decide_eq_true (by first | (with_reducible assumption) | assumption)
                   have q70 : (ji67) < (a0.size : Int) := of_decide_eq_true (by first | (with_reducible assumption) | assumption)
                   have hx70 := bt_at a0 (ji67)
                   replace p70 := eq_true p70
                   replace q70 := eq_true q70
                   have hnb72 := NB101_103.out
                   have hnc72 := NB103_101.out
                   have hcz73_0 : wr.cell? ⟨gb101, 0, none⟩ = some (.int .i64 0) := (blk_cell BK101.out 0).trans rfl
                   have hcz73_1 : wr.cell? ⟨gb101, 1, none⟩ = some (.string (⟨#[]⟩ : ByteArray)) := (blk_cell BK101.out 1).trans rfl
                   have hcz73_2 : wr.cell? ⟨gb101, 2, none⟩ = some (.string (⟨#[]⟩ : ByteArray)) := (blk_cell BK101.out 2).trans rfl
                   have hcz73_3 : wr.cell? ⟨gb101, 3, none⟩ = some (.int .i64 0) := (blk_cell BK101.out 3).trans rfl
                   have hcz73_4 : wr.cell? ⟨gb101, 4, none⟩ = some (.string (⟨#[]⟩ : ByteArray)) := (blk_cell BK101.out 4).trans rfl
                   have hfz73_0 := blk_frozen BK101.out 0
                   have hfz73_1 := blk_frozen BK101.out 1
                   have hfz73_2 := blk_frozen BK101.out 2
                   have hfz73_3 := blk_frozen BK101.out 3
                   have hfz73_4 := blk_frozen BK101.out 4
                   go_wp2
                   refine bodyPost_ret (results_ct rfl _ _ gb101 24 #[.int .i64 0, .string (⟨#[]⟩ : ByteArray), .string (⟨#[]⟩ : ByteArray), .int .i64 0, .string (⟨#[]⟩ : ByteArray)] (0, 0) _ rfl (by (with_reducible repeat (first | refine blk_drewN ?_ _ | refine blk_drew ?_ | refine blk_alloc ?_ _)); refine blk_put (cs := #[.int .i64 0, .string (⟨#[]⟩ : ByteArray), .string (⟨#[]⟩ : ByteArray), .int .i64 0, .string (⟨#[]⟩ : ByteArray)]) ?_ 4 _ rfl; (with_reducible repeat (first | refine blk_drewN ?_ _ | refine blk_drew ?_ | refine blk_alloc ?_ _)); refine blk_put (cs := #[.int .i64 0, .string (⟨#[]⟩ : ByteArray), .string (⟨#[]⟩ : ByteArray), .int .i64 0, .string (⟨#[]⟩ : ByteArray)]) ?_ 3 _ rfl; (with_reducible repeat (first | refine blk_drewN ?_ _ | refine blk_drew ?_ | refine blk_alloc ?_ _)); refine blk_put (cs := #[.int .i64 0, .string (⟨#[]⟩ : ByteArray), .string (⟨#[]⟩ : ByteArray), .int .i64 0, .string (⟨#[]⟩ : ByteArray)]) ?_ 2 _ rfl; (with_reducible repeat (first | refine blk_drewN ?_ _ | refine blk_drew ?_ | refine blk_alloc ?_ _)); refine blk_put (cs := #[.int .i64 0, .string (⟨#[]⟩ : ByteArray), .string (⟨#[]⟩ : ByteArray), .int .i64 0, .string (⟨#[]⟩ : ByteArray)]) ?_ 1 _ rfl; (with_reducible repeat (first | refine blk_drewN ?_ _ | refine blk_drew ?_ | refine blk_alloc ?_ _)); refine blk_put (cs := #[.int .i64 0, .string (⟨#[]⟩ : ByteArray), .string (⟨#[]⟩ : ByteArray), .int .i64 0, .string (⟨#[]⟩ : ByteArray)]) ?_ 0 _ rfl; (with_reducible repeat (first | refine blk_drewN ?_ _ | refine blk_drew ?_ | refine blk_alloc ?_ _)); exact BK101.out) Tryd.underlying24 rfl (by kernel_rfl)) rfl ?_
                   exact ⟨by first | rfl | (simp [errW_none, errW_some] <;> rfl) | (simp only [← hji67]; first | rfl | (simp [errW_none, errW_some] <;> rfl)) | (simp [*, errW_none, errW_some] <;> rfl), by repeat (first | (with_reducible first | exact HB.out | apply below_alloc | apply pw_below_drewN | apply below_drew1 | refine below_set ?_ GE101.out | refine below_set ?_ GE103.out) | exact HB.out)⟩
                  ·
                   rw [if_neg c71] at H
                   have c71b0 : ((bt a0 (ji67)) == 48) = false := beq_eq_false_iff_ne.mpr c71
                   have c71b1 : ((bt a0 (ji67)) != 48) = true := bne_iff_ne.mpr c71
                   by_cases c74 : x7_4 > 65535
                   ·
                    rw [if_pos c74] at H
                    have c74b0 : decide (65535 < x7_4) = true := decide_eq_true c74
                    clear c74
                    simp only [Option.some.injEq, Prod.mk.injEq] at H
                    obtain ⟨rfl, rfl, rfl, rfl, rfl, rfl⟩ := H
                    have p70 : 0 ≤ ((ji67) : Int) := of_decide_eq_true (by first | (with_reducible assumption) | assumption)
                    have q70 : (ji67) < (a0.size : Int) := of_decide_eq_true (by first | (with_reducible assumption) | assumption)
                    have hx70 := bt_at a0 (ji67)
                    replace p70 := eq_true p70
                    replace q70 := eq_true q70
                    have hnb75 := NB101_103.out
                    have hnc75 := NB103_101.out
                    have hcz76_0 : wr.cell? ⟨gb101, 0, none⟩ = some (.int .i64 0) := (blk_cell BK101.out 0).trans rfl
                    have hcz76_1 : wr.cell? ⟨gb101, 1, none⟩ = some (.string (⟨#[]⟩ : ByteArray)) := (blk_cell BK101.out 1).trans rfl
                    have hcz76_2 : wr.cell? ⟨gb101, 2, none⟩ = some (.string (⟨#[]⟩ : ByteArray)) := (blk_cell BK101.out 2).trans rfl
                    have hcz76_3 : wr.cell? ⟨gb101, 3, none⟩ = some (.int .i64 0) := (blk_cell BK101.out 3).trans rfl
                    have hcz76_4 : wr.cell? ⟨gb101, 4, none⟩ = some (.string (⟨#[]⟩ : ByteArray)) := (blk_cell BK101.out 4).trans rfl
                    have hfz76_0 := blk_frozen BK101.out 0
                    have hfz76_1 := blk_frozen BK101.out 1
                    have hfz76_2 := blk_frozen BK101.out 2
                    have hfz76_3 := blk_frozen BK101.out 3
                    have hfz76_4 := blk_frozen BK101.out 4
                    go_wp2
                    refine bodyPost_ret (results_ct rfl _ _ gb101 24 #[.int .i64 0, .string (⟨#[]⟩ : ByteArray), .string (⟨#[]⟩ : ByteArray), .int .i64 0, .string (⟨#[]⟩ : ByteArray)] (0, 0) _ rfl (by (with_reducible repeat (first | refine blk_drewN ?_ _ | refine blk_drew ?_ | refine blk_alloc ?_ _)); refine blk_put (cs := #[.int .i64 0, .string (⟨#[]⟩ : ByteArray), .string (⟨#[]⟩ : ByteArray), .int .i64 0, .string (⟨#[]⟩ : ByteArray)]) ?_ 4 _ rfl; (with_reducible repeat (first | refine blk_drewN ?_ _ | refine blk_drew ?_ | refine blk_alloc ?_ _)); refine blk_put (cs := #[.int .i64 0, .string (⟨#[]⟩ : ByteArray), .string (⟨#[]⟩ : ByteArray), .int .i64 0, .string (⟨#[]⟩ : ByteArray)]) ?_ 3 _ rfl; (with_reducible repeat (first | refine blk_drewN ?_ _ | refine blk_drew ?_ | refine blk_alloc ?_ _)); refine blk_put (cs := #[.int .i64 0, .string (⟨#[]⟩ : ByteArray), .string (⟨#[]⟩ : ByteArray), .int .i64 0, .string (⟨#[]⟩ : ByteArray)]) ?_ 2 _ rfl; (with_reducible repeat (first | refine blk_drewN ?_ _ | refine blk_drew ?_ | refine blk_alloc ?_ _)); refine blk_put (cs := #[.int .i64 0, .string (⟨#[]⟩ : ByteArray), .string (⟨#[]⟩ : ByteArray), .int .i64 0, .string (⟨#[]⟩ : ByteArray)]) ?_ 1 _ rfl; (with_reducible repeat (first | refine blk_drewN ?_ _ | refine blk_drew ?_ | refine blk_alloc ?_ _)); refine blk_put (cs := #[.int .i64 0, .string (⟨#[]⟩ : ByteArray), .string (⟨#[]⟩ : ByteArray), .int .i64 0, .string (⟨#[]⟩ : ByteArray)]) ?_ 0 _ rfl; (with_reducible repeat (first | refine blk_drewN ?_ _ | refine blk_drew ?_ | refine blk_alloc ?_ _)); exact BK101.out) Tryd.underlying24 rfl (by kernel_rfl)) rfl ?_
                    exact ⟨by first | rfl | (simp [errW_none, errW_some] <;> rfl) | (simp only [← hji67]; first | rfl | (simp [errW_none, errW_some] <;> rfl)) | (simp [*, errW_none, errW_some] <;> rfl), by repeat (first | (with_reducible first | exact HB.out | apply below_alloc | apply pw_below_drewN | apply below_drew1 | refine below_set ?_ GE101.out | refine below_set ?_ GE103.out) | exact HB.out)⟩
                   ·
                    rw [if_neg c74] at H
                    have c74b0 : decide (65535 < x7_4) = false := decide_eq_false c74
                    clear c74
                    have H' := Aside0.mk H
                    clear H
                    have p70 : 0 ≤ ((ji67) : Int) := of_decide_eq_true (by first | (with_reducible assumption) | assumption)
                    have q70 : (ji67) < (a0.size : Int) := of_decide_eq_true (by first | (with_reducible assumption) | assumption)
                    have hx70 := bt_at a0 (ji67)
                    replace p70 := eq_true p70
                    replace q70 := eq_true q70
                    have hnb77 := NB103_101.out
                    have hnc77 := NB101_103.out
                    have hcz78_0 : wr.cell? ⟨gb103, 0, none⟩ = some (.int .i64 6) := (blk_cell BK103.out 0).trans rfl
                    have hcz78_1 : wr.cell? ⟨gb103, 1, none⟩ = some (.string (⟨#[]⟩ : ByteArray)) := (blk_cell BK103.out 1).trans rfl
                    have hcz78_2 : wr.cell? ⟨gb103, 2, none⟩ = some (.string (a0.extract 7 (x4_7 : Int).toNat)) := (blk_cell BK103.out 2).trans rfl
                    have hcz78_3 : wr.cell? ⟨gb103, 3, none⟩ = some (.int .i64 80) := (blk_cell BK103.out 3).trans rfl
                    have hcz78_4 : wr.cell? ⟨gb103, 4, none⟩ = some (.string (⟨#[47]⟩ : ByteArray)) := (blk_cell BK103.out 4).trans rfl
                    have hfz78_0 := blk_frozen BK103.out 0
                    have hfz78_1 := blk_frozen BK103.out 1
                    have hfz78_2 := blk_frozen BK103.out 2
                    have hfz78_3 := blk_frozen BK103.out 3
                    have hfz78_4 := blk_frozen BK103.out 4
                    go_wp2
                    go_meet
                    case rel => exact ⟨_, (x4_4), (0), ((⟨#[]⟩ : ByteArray)), ((⟨#[]⟩ : ByteArray)), (0), ((⟨#[]⟩ : ByteArray)), (x7_4), (by first | rfl | (simp; done) | (simp [*]; done)), H', ⟨by have := HJ1.out; have := HJ7.out; have := HJ16.out; have := HK4.out; first | omega | exact Nat.le_refl _⟩, ⟨by (with_reducible repeat (first | refine blk_drewN ?_ _ | refine blk_drew ?_ | refine blk_alloc ?_ _)); refine blk_far ?_ NB101_103.out _; (with_reducible repeat (first | refine blk_drewN ?_ _ | refine blk_drew ?_ | refine blk_alloc ?_ _)); exact BK101.out⟩, ⟨by (with_reducible repeat (first | refine blk_drewN ?_ _ | refine blk_drew ?_ | refine blk_alloc ?_ _)); refine blk_put (cs := #[.int .i64 6, .string (⟨#[]⟩ : ByteArray), .string (a0.extract 7 (x4_7 : Int).toNat), .int .i64 80, .string (⟨#[47]⟩ : ByteArray)]) ?_ 3 _ rfl; (with_reducible repeat (first | refine blk_drewN ?_ _ | refine blk_drew ?_ | refine blk_alloc ?_ _)); exact BK103.out⟩, ⟨by repeat (first | (with_reducible first | exact HB.out | apply below_alloc | apply pw_below_drewN | apply below_drew1 | refine below_set ?_ GE101.out | refine below_set ?_ GE103.out) | exact HB.out)⟩⟩
                 ·
                  rw [if_neg c69] at H
                  exact absurd H (by simp)
                ·
                 rw [if_neg c68] at H
                 exact absurd H (by simp)
           ·
            replace c25 := Bool.eq_false_iff.mpr c25
            subst c25
            have H1 : (pennantref16_Url.j5 kj16 a0 x4_7 6 (⟨#[]⟩ : ByteArray) (a0.extract 7 (x4_7 : Int).toNat) 80 (⟨#[47]⟩ : ByteArray)) = some (r1, r2, r3, r4, r5, r6) := by rw [if_neg (show ¬ (false = true) by decide)] at H; exact H
            clear H
            have H := H1
            clear H1
            have H' := Aside0.mk H
            clear H
            go_wp2
            go_meet
            case rel => exact ⟨_, (x4_7), (0), ((⟨#[]⟩ : ByteArray)), ((⟨#[]⟩ : ByteArray)), (0), ((⟨#[]⟩ : ByteArray)), (80), (by first | rfl | (simp; done) | (simp [*]; done)), H', ⟨by have := HJ1.out; have := HJ7.out; have := HJ16.out; first | omega | exact Nat.le_refl _⟩, ⟨by (with_reducible repeat (first | refine blk_drewN ?_ _ | refine blk_drew ?_ | refine blk_alloc ?_ _)); exact BK101.out⟩, ⟨by (with_reducible repeat (first | refine blk_drewN ?_ _ | refine blk_drew ?_ | refine blk_alloc ?_ _)); exact BK103.out⟩, ⟨by repeat (first | (with_reducible first | exact HB.out | apply below_alloc | apply pw_below_drewN | apply below_drew1 | refine below_set ?_ GE101.out | refine below_set ?_ GE103.out) | exact HB.out)⟩⟩
          case rest =>
           clear HC24
           try clear c1
           try clear p1
           try clear q1
           try clear hx1
           try clear c2
           try clear p2
           try clear q2
           try clear hx2
           try clear c3
           try clear p3
           try clear q3
           try clear hx3
           try clear c4
           try clear p4
           try clear q4
           try clear hx4
           try clear c5
           try clear p5
           try clear q5
           try clear hx5
           try clear c6
           try clear p6
           try clear c7
           try clear p7
           try clear q7
           try clear hx7
           try clear c9
           try clear c9b0
           try clear c10
           try clear c10b0
           try clear p11
           try clear q11
           try clear hx11
           try clear c12
           try clear c12b0
           try clear c12b1
           try clear p13
           try clear q13
           try clear hx13
           try clear c14
           try clear c14b0
           try clear c14b1
           try clear c15
           try clear c15b0
           try clear c15b1
           try clear c16
           try clear c16b0
           try clear c16b1
           try clear c19
           try clear c20
           try clear c21
           try clear c21b0
           try clear c22
           try clear c22b0
           try clear p23
           try clear q23
           try clear hx23
           try clear c25
           try clear c26
           try clear c26b0
           try clear c27
           try clear c27b0
           try clear p28
           try clear q28
           try clear hx28
           try clear c29
           try clear c29b0
           try clear p30
           try clear q30
           try clear hx30
           try clear c31
           try clear c31b0
           try clear p32
           try clear q32
           try clear hx32
           try clear c34
           try clear c34b0
           try clear c34b1
           try clear c35
           try clear c38
           try clear c38b0
           try clear c39
           try clear c39b0
           try clear p40
           try clear q40
           try clear hx40
           try clear c41
           try clear c41b0
           try clear c41b1
           try clear c42
           try clear c44
           try clear c44b0
           try clear c45
           try clear c47
           try clear c49
           try clear c49b0
           try clear c49b1
           try clear c50
           try clear c53
           try clear c53b0
           try clear c54
           try clear c54b0
           try clear p55
           try clear q55
           try clear hx55
           try clear c56
           try clear c56b0
           try clear c56b1
           try clear c57
           try clear c59
           try clear c59b0
           try clear c60
           try clear c62
           try clear c64
           try clear c64b0
           try clear c64b1
           try clear p64
           try clear c65
           try clear c68
           try clear c68b0
           try clear c69
           try clear c69b0
           try clear p70
           try clear q70
           try clear hx70
           try clear c71
           try clear c71b0
           try clear c71b1
           try clear c72
           try clear c74
           try clear c74b0
           try clear c75
           try clear c77
           try clear hcz20_0
           try clear hcz20_1
           try clear hcz20_2
           try clear hcz20_3
           try clear hcz20_4
           try clear hcz36_0
           try clear hcz36_1
           try clear hcz36_2
           try clear hcz36_3
           try clear hcz36_4
           try clear hcz43_0
           try clear hcz43_1
           try clear hcz43_2
           try clear hcz43_3
           try clear hcz43_4
           try clear hcz46_0
           try clear hcz46_1
           try clear hcz46_2
           try clear hcz46_3
           try clear hcz46_4
           try clear hcz48_0
           try clear hcz48_1
           try clear hcz48_2
           try clear hcz48_3
           try clear hcz48_4
           try clear hcz51_0
           try clear hcz51_1
           try clear hcz51_2
           try clear hcz51_3
           try clear hcz51_4
           try clear hcz58_0
           try clear hcz58_1
           try clear hcz58_2
           try clear hcz58_3
           try clear hcz58_4
           try clear hcz61_0
           try clear hcz61_1
           try clear hcz61_2
           try clear hcz61_3
           try clear hcz61_4
           try clear hcz63_0
           try clear hcz63_1
           try clear hcz63_2
           try clear hcz63_3
           try clear hcz63_4
           try clear hcz66_0
           try clear hcz66_1
           try clear hcz66_2
           try clear hcz66_3
           try clear hcz66_4
           try clear hcz73_0
           try clear hcz73_1
           try clear hcz73_2
           try clear hcz73_3
           try clear hcz73_4
           try clear hcz76_0
           try clear hcz76_1
           try clear hcz76_2
           try clear hcz76_3
           try clear hcz76_4
           try clear hcz78_0
           try clear hcz78_1
           try clear hcz78_2
           try clear hcz78_3
           try clear hcz78_4
           try clear hcz7_0
           try clear hcz7_1
           try clear hcz7_2
           try clear hcz7_3
           try clear hcz7_4
           try clear hfz20_0
           try clear hfz20_1
           try clear hfz20_2
           try clear hfz20_3
           try clear hfz20_4
           try clear hfz36_0
           try clear hfz36_1
           try clear hfz36_2
           try clear hfz36_3
           try clear hfz36_4
           try clear hfz43_0
           try clear hfz43_1
           try clear hfz43_2
           try clear hfz43_3
           try clear hfz43_4
           try clear hfz46_0
           try clear hfz46_1
           try clear hfz46_2
           try clear hfz46_3
           try clear hfz46_4
           try clear hfz48_0
           try clear hfz48_1
           try clear hfz48_2
           try clear hfz48_3
           try clear hfz48_4
           try clear hfz51_0
           try clear hfz51_1
           try clear hfz51_2
           try clear hfz51_3
           try clear hfz51_4
           try clear hfz58_0
           try clear hfz58_1
           try clear hfz58_2
           try clear hfz58_3
           try clear hfz58_4
           try clear hfz61_0
           try clear hfz61_1
           try clear hfz61_2
           try clear hfz61_3
           try clear hfz61_4
           try clear hfz63_0
           try clear hfz63_1
           try clear hfz63_2
           try clear hfz63_3
           try clear hfz63_4
           try clear hfz66_0
           try clear hfz66_1
           try clear hfz66_2
           try clear hfz66_3
           try clear hfz66_4
           try clear hfz73_0
           try clear hfz73_1
           try clear hfz73_2
           try clear hfz73_3
           try clear hfz73_4
           try clear hfz76_0
           try clear hfz76_1
           try clear hfz76_2
           try clear hfz76_3
           try clear hfz76_4
           try clear hfz78_0
           try clear hfz78_1
           try clear hfz78_2
           try clear hfz78_3
           try clear hfz78_4
           try clear hfz7_0
           try clear hfz7_1
           try clear hfz7_2
           try clear hfz7_3
           try clear hfz7_4
           try clear p1
           try clear p11
           try clear p13
           try clear p2
           try clear p23
           try clear p28
           try clear p30
           try clear p32
           try clear p40
           try clear p55
           try clear p6
           try clear p70
           try clear q1
           try clear q11
           try clear q13
           try clear q2
           try clear q23
           try clear q28
           try clear q30
           try clear q32
           try clear q40
           try clear q55
           try clear q70
           obtain ⟨kq, x4_23, x102000_23, x102001_23, x102002_23, x102003_23, x102004_23, x104003_23, rfl, HA, HJ23, BK101, BK103, HB⟩ := hcut
           cases kq with
           | zero => exact absurd HA.out (by simp [pennantref16_Url.j5])
           | succ kj23 =>
            have H := HA.out
            clear HA
            simp only [pennantref16_Url.j5] at H
            have HC79 := Aside0.mk H
            clear H
            go_upto_if 100 with (fail)
            go_cut [] (fun wc => ∃ (kq : Nat) (x102000_78 : Int) (x102001_78 : ByteArray) (x102002_78 : ByteArray) (x102003_78 : Int) (x102004_78 : ByteArray) (x104004_78 : ByteArray), Aside0 (pennantref16_Url.j6 kq 6 (⟨#[]⟩ : ByteArray) (a0.extract 7 (x4_7 : Int).toNat) x104003_23 x104004_78 = some (r1, r2, r3, r4, r5, r6)) ∧ Aside0 (kq ≤ kj23) ∧ Aside0 (wc.heap[gb101]? = some (.cells #[.int .i64 x102000_78, .string x102001_78, .string x102002_78, .int .i64 x102003_78, .string x102004_78] 24 (0, 0))) ∧ Aside0 (wc.heap[gb103]? = some (.cells #[.int .i64 6, .string (⟨#[]⟩ : ByteArray), .string (a0.extract 7 (x4_7 : Int).toNat), .int .i64 x104003_23, .string x104004_78] 24 (0, 0))) ∧ Aside0 (Below w.heap.size w wc))
            case first =>
             have H := HC79.out
             clear HC79
             by_cases c80 : x4_23 < (a0.size : Int)
             ·
              rw [if_pos c80] at H
              have c80b0 : decide (x4_23 < (a0.size : Int)) = true := decide_eq_true c80
              clear c80
              (first | rw [c80b0] | (simp only [i64_w, i32_w]; rw [c80b0]) | skip)
              by_cases c81 : 0 ≤ x4_23
              ·
               rw [if_pos c81] at H
               have c81b0 : decide (0 ≤ x4_23) = true := decide_eq_true c81
               clear c81
               by_cases c83 : (bt a0 x4_23) = 47
               ·
                rw [if_pos c83] at H
                have c83b0 : ((bt a0 x4_23) == 47) = true := beq_iff_eq.mpr c83
                have c83b1 : ((bt a0 x4_23) != 47) = false := bne_eq_false_iff_eq.mpr c83
                clear c83
                have c84b0 := eq_true (of_decide_eq_true (by first | (with_reducible assumption) | assumption) : 0 ≤ x4_23)
                by_cases c85 : x4_23 ≤ (a0.size : Int)
                ·
                 rw [if_pos c85] at H
                 have c85b0 := eq_true c85
                 have c85b1 : decide (x4_23 ≤ (a0.size : Int)) = true := decide_eq_true c85
                 clear c85
                 have H' := Aside0.mk H
                 clear H
                 have p82 : 0 ≤ (x4_23 : Int) := of_decide_eq_true (by first | (with_reducible assumption) | assumption)
                 have q82 : x4_23 < (a0.size : Int) := of_decide_eq_true (by first | (with_reducible assumption) | assumption)
                 have hx82 := bt_at a0 x4_23
                 replace p82 := eq_true p82
                 replace q82 := eq_true q82
                 have hnb86 := NB103_101.out
                 have hnc86 := NB101_103.out
                 have hcz87_0 : wc.cell? ⟨gb103, 0, none⟩ = some (.int .i64 6) := (blk_cell BK103.out 0).trans rfl
                 have hcz87_1 : wc.cell? ⟨gb103, 1, none⟩ = some (.string (⟨#[]⟩ : ByteArray)) := (blk_cell BK103.out 1).trans rfl
                 have hcz87_2 : wc.cell? ⟨gb103, 2, none⟩ = some (.string (a0.extract 7 (x4_7 : Int).toNat)) := (blk_cell BK103.out 2).trans rfl
                 have hcz87_3 : wc.cell? ⟨gb103, 3, none⟩ = some (.int .i64 x104003_23) := (blk_cell BK103.out 3).trans rfl
                 have hcz87_4 : wc.cell? ⟨gb103, 4, none⟩ = some (.string (⟨#[47]⟩ : ByteArray)) := (blk_cell BK103.out 4).trans rfl
                 have hfz87_0 := blk_frozen BK103.out 0
                 have hfz87_1 := blk_frozen BK103.out 1
                 have hfz87_2 := blk_frozen BK103.out 2
                 have hfz87_3 := blk_frozen BK103.out 3
                 have hfz87_4 := blk_frozen BK103.out 4
                 go_wp2
                 go_meet
                 case rel => exact ⟨_, (x102000_23), (x102001_23), (x102002_23), (x102003_23), (x102004_23), (a0.extract (x4_23 : Int).toNat a0.size), H', ⟨by have := HJ1.out; have := HJ7.out; have := HJ16.out; have := HJ23.out; first | omega | exact Nat.le_refl _⟩, ⟨by (with_reducible repeat (first | refine blk_drewN ?_ _ | refine blk_drew ?_ | refine blk_alloc ?_ _)); refine blk_far ?_ NB101_103.out _; (with_reducible repeat (first | refine blk_drewN ?_ _ | refine blk_drew ?_ | refine blk_alloc ?_ _)); exact BK101.out⟩, ⟨by (with_reducible repeat (first | refine blk_drewN ?_ _ | refine blk_drew ?_ | refine blk_alloc ?_ _)); refine blk_put (cs := #[.int .i64 6, .string (⟨#[]⟩ : ByteArray), .string (a0.extract 7 (x4_7 : Int).toNat), .int .i64 x104003_23, .string (⟨#[47]⟩ : ByteArray)]) ?_ 4 _ rfl; (with_reducible repeat (first | refine blk_drewN ?_ _ | refine blk_drew ?_ | refine blk_alloc ?_ _)); exact BK103.out⟩, ⟨by repeat (first | (with_reducible first | exact HB.out | apply below_alloc | apply pw_below_drewN | apply below_drew1 | refine below_set ?_ GE101.out | refine below_set ?_ GE103.out) | exact HB.out)⟩⟩
                ·
                 rw [if_neg c85] at H
                 exact absurd H (by simp)
               ·
                rw [if_neg c83] at H
                have c83b0 : ((bt a0 x4_23) == 47) = false := beq_eq_false_iff_ne.mpr c83
                have c83b1 : ((bt a0 x4_23) != 47) = true := bne_iff_ne.mpr c83
                simp only [Option.some.injEq, Prod.mk.injEq] at H
                obtain ⟨rfl, rfl, rfl, rfl, rfl, rfl⟩ := H
                have p82 : 0 ≤ (x4_23 : Int) := of_decide_eq_true (by first | (with_reducible assumption) | assumption)
                have q82 : x4_23 < (a0.size : Int) := of_decide_eq_true (by first | (with_reducible assumption) | assumption)
                have hx82 := bt_at a0 x4_23
                replace p82 := eq_true p82
                replace q82 := eq_true q82
                have hnb88 := NB101_103.out
                have hnc88 := NB103_101.out
                have hcz89_0 : wc.cell? ⟨gb101, 0, none⟩ = some (.int .i64 x102000_23) := (blk_cell BK101.out 0).trans rfl
                have hcz89_1 : wc.cell? ⟨gb101, 1, none⟩ = some (.string x102001_23) := (blk_cell BK101.out 1).trans rfl
                have hcz89_2 : wc.cell? ⟨gb101, 2, none⟩ = some (.string x102002_23) := (blk_cell BK101.out 2).trans rfl
                have hcz89_3 : wc.cell? ⟨gb101, 3, none⟩ = some (.int .i64 x102003_23) := (blk_cell BK101.out 3).trans rfl
                have hcz89_4 : wc.cell? ⟨gb101, 4, none⟩ = some (.string x102004_23) := (blk_cell BK101.out 4).trans rfl
                have hfz89_0 := blk_frozen BK101.out 0
                have hfz89_1 := blk_frozen BK101.out 1
                have hfz89_2 := blk_frozen BK101.out 2
                have hfz89_3 := blk_frozen BK101.out 3
                have hfz89_4 := blk_frozen BK101.out 4
                go_wp2
                refine bodyPost_ret (results_ct rfl _ _ gb101 24 #[.int .i64 0, .string (⟨#[]⟩ : ByteArray), .string (⟨#[]⟩ : ByteArray), .int .i64 0, .string (⟨#[]⟩ : ByteArray)] (0, 0) _ rfl (by (with_reducible repeat (first | refine blk_drewN ?_ _ | refine blk_drew ?_ | refine blk_alloc ?_ _)); refine blk_put (cs := #[.int .i64 0, .string (⟨#[]⟩ : ByteArray), .string (⟨#[]⟩ : ByteArray), .int .i64 0, .string x102004_23]) ?_ 4 _ rfl; (with_reducible repeat (first | refine blk_drewN ?_ _ | refine blk_drew ?_ | refine blk_alloc ?_ _)); refine blk_put (cs := #[.int .i64 0, .string (⟨#[]⟩ : ByteArray), .string (⟨#[]⟩ : ByteArray), .int .i64 x102003_23, .string x102004_23]) ?_ 3 _ rfl; (with_reducible repeat (first | refine blk_drewN ?_ _ | refine blk_drew ?_ | refine blk_alloc ?_ _)); refine blk_put (cs := #[.int .i64 0, .string (⟨#[]⟩ : ByteArray), .string x102002_23, .int .i64 x102003_23, .string x102004_23]) ?_ 2 _ rfl; (with_reducible repeat (first | refine blk_drewN ?_ _ | refine blk_drew ?_ | refine blk_alloc ?_ _)); refine blk_put (cs := #[.int .i64 0, .string x102001_23, .string x102002_23, .int .i64 x102003_23, .string x102004_23]) ?_ 1 _ rfl; (with_reducible repeat (first | refine blk_drewN ?_ _ | refine blk_drew ?_ | refine blk_alloc ?_ _)); refine blk_put (cs := #[.int .i64 x102000_23, .string x102001_23, .string x102002_23, .int .i64 x102003_23, .string x102004_23]) ?_ 0 _ rfl; (with_reducible repeat (first | refine blk_drewN ?_ _ | refine blk_drew ?_ | refine blk_alloc ?_ _)); exact BK101.out) Tryd.underlying24 rfl (by kernel_rfl)) rfl ?_
                exact ⟨by first | rfl | (simp [errW_none, errW_some] <;> rfl) | (simp [*, errW_none, errW_some] <;> rfl), by repeat (first | (with_reducible first | exact HB.out | apply below_alloc | apply pw_below_drewN | apply below_drew1 | refine below_set ?_ GE101.out | refine below_set ?_ GE103.out) | exact HB.out)⟩
              ·
               rw [if_neg c81] at H
               exact absurd H (by simp)
             ·
              rw [if_neg c80] at H
              have c80b0 : decide (x4_23 < (a0.size : Int)) = false := decide_eq_false c80
              clear c80
              (first | rw [c80b0] | (simp only [i64_w, i32_w]; rw [c80b0]) | skip)
              have H' := Aside0.mk H
              clear H
              go_wp2
              go_meet
              case rel => exact ⟨_, (x102000_23), (x102001_23), (x102002_23), (x102003_23), (x102004_23), ((⟨#[47]⟩ : ByteArray)), H', ⟨by have := HJ1.out; have := HJ7.out; have := HJ16.out; have := HJ23.out; first | omega | exact Nat.le_refl _⟩, ⟨by (with_reducible repeat (first | refine blk_drewN ?_ _ | refine blk_drew ?_ | refine blk_alloc ?_ _)); exact BK101.out⟩, ⟨by (with_reducible repeat (first | refine blk_drewN ?_ _ | refine blk_drew ?_ | refine blk_alloc ?_ _)); exact BK103.out⟩, ⟨by repeat (first | (with_reducible first | exact HB.out | apply below_alloc | apply pw_below_drewN | apply below_drew1 | refine below_set ?_ GE101.out | refine below_set ?_ GE103.out) | exact HB.out)⟩⟩
            case rest =>
             clear HC79
             try clear c1
             try clear p1
             try clear q1
             try clear hx1
             try clear c2
             try clear p2
             try clear q2
             try clear hx2
             try clear c3
             try clear p3
             try clear q3
             try clear hx3
             try clear c4
             try clear p4
             try clear q4
             try clear hx4
             try clear c5
             try clear p5
             try clear q5
             try clear hx5
             try clear c6
             try clear p6
             try clear c7
             try clear p7
             try clear q7
             try clear hx7
             try clear c8
             try clear p8
             try clear q8
             try clear hx8
             try clear c9
             try clear c9b0
             try clear c10
             try clear c10b0
             try clear p11
             try clear q11
             try clear hx11
             try clear c12
             try clear c12b0
             try clear c12b1
             try clear p13
             try clear q13
             try clear hx13
             try clear c14
             try clear c14b0
             try clear c14b1
             try clear c15
             try clear c15b0
             try clear c15b1
             try clear c16
             try clear c16b0
             try clear c16b1
             try clear c19
             try clear c20
             try clear c21
             try clear c21b0
             try clear c22
             try clear c22b0
             try clear p23
             try clear q23
             try clear hx23
             try clear c25
             try clear c26
             try clear c26b0
             try clear c27
             try clear c27b0
             try clear p28
             try clear q28
             try clear hx28
             try clear c29
             try clear c29b0
             try clear p30
             try clear q30
             try clear hx30
             try clear c31
             try clear c31b0
             try clear p32
             try clear q32
             try clear hx32
             try clear c34
             try clear c34b0
             try clear c34b1
             try clear c35
             try clear c38
             try clear c38b0
             try clear c39
             try clear c39b0
             try clear p40
             try clear q40
             try clear hx40
             try clear c41
             try clear c41b0
             try clear c41b1
             try clear c42
             try clear c44
             try clear c44b0
             try clear c45
             try clear c47
             try clear c49
             try clear c49b0
             try clear c49b1
             try clear c50
             try clear c53
             try clear c53b0
             try clear c54
             try clear c54b0
             try clear p55
             try clear q55
             try clear hx55
             try clear c56
             try clear c56b0
             try clear c56b1
             try clear c57
             try clear c59
             try clear c59b0
             try clear c60
             try clear c62
             try clear c64
             try clear c64b0
             try clear c64b1
             try clear p64
             try clear c65
             try clear c68
             try clear c68b0
             try clear c69
             try clear c69b0
             try clear p70
             try clear q70
             try clear hx70
             try clear c71
             try clear c71b0
             try clear c71b1
             try clear c72
             try clear c74
             try clear c74b0
             try clear c75
             try clear c77
             try clear c80
             try clear c80b0
             try clear c81
             try clear c81b0
             try clear p82
             try clear q82
             try clear hx82
             try clear c83
             try clear c83b0
             try clear c83b1
             try clear c84
             try clear c84b0
             try clear c85
             try clear c85b0
             try clear c85b1
             try clear c86
             try clear c88
             try clear hcz20_0
             try clear hcz20_1
             try clear hcz20_2
             try clear hcz20_3
             try clear hcz20_4
             try clear hcz36_0
             try clear hcz36_1
             try clear hcz36_2
             try clear hcz36_3
             try clear hcz36_4
             try clear hcz43_0
             try clear hcz43_1
             try clear hcz43_2
             try clear hcz43_3
             try clear hcz43_4
             try clear hcz46_0
             try clear hcz46_1
             try clear hcz46_2
             try clear hcz46_3
             try clear hcz46_4
             try clear hcz48_0
             try clear hcz48_1
             try clear hcz48_2
             try clear hcz48_3
             try clear hcz48_4
             try clear hcz51_0
             try clear hcz51_1
             try clear hcz51_2
             try clear hcz51_3
             try clear hcz51_4
             try clear hcz58_0
             try clear hcz58_1
             try clear hcz58_2
             try clear hcz58_3
             try clear hcz58_4
             try clear hcz61_0
             try clear hcz61_1
             try clear hcz61_2
             try clear hcz61_3
             try clear hcz61_4
             try clear hcz63_0
             try clear hcz63_1
             try clear hcz63_2
             try clear hcz63_3
             try clear hcz63_4
             try clear hcz66_0
             try clear hcz66_1
             try clear hcz66_2
             try clear hcz66_3
             try clear hcz66_4
             try clear hcz73_0
             try clear hcz73_1
             try clear hcz73_2
             try clear hcz73_3
             try clear hcz73_4
             try clear hcz76_0
             try clear hcz76_1
             try clear hcz76_2
             try clear hcz76_3
             try clear hcz76_4
             try clear hcz78_0
             try clear hcz78_1
             try clear hcz78_2
             try clear hcz78_3
             try clear hcz78_4
             try clear hcz7_0
             try clear hcz7_1
             try clear hcz7_2
             try clear hcz7_3
             try clear hcz7_4
             try clear hcz87_0
             try clear hcz87_1
             try clear hcz87_2
             try clear hcz87_3
             try clear hcz87_4
             try clear hcz89_0
             try clear hcz89_1
             try clear hcz89_2
             try clear hcz89_3
             try clear hcz89_4
             try clear hfz20_0
             try clear hfz20_1
             try clear hfz20_2
             try clear hfz20_3
             try clear hfz20_4
             try clear hfz36_0
             try clear hfz36_1
             try clear hfz36_2
             try clear hfz36_3
             try clear hfz36_4
             try clear hfz43_0
             try clear hfz43_1
             try clear hfz43_2
             try clear hfz43_3
             try clear hfz43_4
             try clear hfz46_0
             try clear hfz46_1
             try clear hfz46_2
             try clear hfz46_3
             try clear hfz46_4
             try clear hfz48_0
             try clear hfz48_1
             try clear hfz48_2
             try clear hfz48_3
             try clear hfz48_4
             try clear hfz51_0
             try clear hfz51_1
             try clear hfz51_2
             try clear hfz51_3
             try clear hfz51_4
             try clear hfz58_0
             try clear hfz58_1
             try clear hfz58_2
             try clear hfz58_3
             try clear hfz58_4
             try clear hfz61_0
             try clear hfz61_1
             try clear hfz61_2
             try clear hfz61_3
             try clear hfz61_4
             try clear hfz63_0
             try clear hfz63_1
             try clear hfz63_2
             try clear hfz63_3
             try clear hfz63_4
             try clear hfz66_0
             try clear hfz66_1
             try clear hfz66_2
             try clear hfz66_3
             try clear hfz66_4
             try clear hfz73_0
             try clear hfz73_1
             try clear hfz73_2
             try clear hfz73_3
             try clear hfz73_4
             try clear hfz76_0
             try clear hfz76_1
             try clear hfz76_2
             try clear hfz76_3
             try clear hfz76_4
             try clear hfz78_0
             try clear hfz78_1
             try clear hfz78_2
             try clear hfz78_3
             try clear hfz78_4
             try clear hfz7_0
             try clear hfz7_1
             try clear hfz7_2
             try clear hfz7_3
             try clear hfz7_4
             try clear hfz87_0
             try clear hfz87_1
             try clear hfz87_2
             try clear hfz87_3
             try clear hfz87_4
             try clear hfz89_0
             try clear hfz89_1
             try clear hfz89_2
             try clear hfz89_3
             try clear hfz89_4
             try clear p1
             try clear p11
             try clear p13
             try clear p2
             try clear p23
             try clear p28
             try clear p3
             try clear p30
             try clear p32
             try clear p4
             try clear p40
             try clear p5
             try clear p55
             try clear p6
             try clear p64
             try clear p7
             try clear p70
             try clear p82
             try clear q1
             try clear q11
             try clear q13
             try clear q2
             try clear q23
             try clear q28
             try clear q3
             try clear q30
             try clear q32
             try clear q4
             try clear q40
             try clear q5
             try clear q55
             try clear q7
             try clear q70
             try clear q82
             obtain ⟨kq, x102000_78, x102001_78, x102002_78, x102003_78, x102004_78, x104004_78, HA, HJ78, BK101, BK103, HB⟩ := hcut
             cases kq with
             | zero => exact absurd HA.out (by simp [pennantref16_Url.j6])
             | succ kj78 =>
              have H := HA.out
              clear HA
              simp only [pennantref16_Url.j6] at H
              have H' := Aside0.mk H
              clear H
              go_wp2
              go_loopg [8] kj78 (fun kq v8 w' => ∃ (x8_6 : Int) (x102000_6 : Int) (x102001_6 : ByteArray) (x102002_6 : ByteArray) (x102003_6 : Int) (x102004_6 : ByteArray), v8 = .int .i64 x8_6 ∧ Aside0 (pennantref16_Url.l2 kq x8_6 6 (⟨#[]⟩ : ByteArray) (a0.extract 7 (x4_7 : Int).toNat) x104003_23 x104004_78 = some (r1, r2, r3, r4, r5, r6)) ∧ Aside0 (kq ≤ kj78) ∧ Aside0 (w'.heap[gb101]? = some (.cells #[.int .i64 x102000_6, .string x102001_6, .string x102002_6, .int .i64 x102003_6, .string x102004_6] 24 (0, 0))) ∧ Aside0 (w'.heap[gb103]? = some (.cells #[.int .i64 6, .string (⟨#[]⟩ : ByteArray), .string (a0.extract 7 (x4_7 : Int).toNat), .int .i64 x104003_23, .string x104004_78] 24 (0, 0))) ∧ Aside0 (Below w.heap.size w w'))
              case atStart => exact ⟨(0), (x102000_78), (x102001_78), (x102002_78), (x102003_78), (x102004_78), (by first | rfl | (simp; done) | (simp [*]; done)), H', ⟨Nat.le_refl _⟩, ⟨by (with_reducible repeat (first | refine blk_drewN ?_ _ | refine blk_drew ?_ | refine blk_alloc ?_ _)); exact BK101.out⟩, ⟨by (with_reducible repeat (first | refine blk_drewN ?_ _ | refine blk_drew ?_ | refine blk_alloc ?_ _)); exact BK103.out⟩, ⟨by repeat (first | (with_reducible first | exact HB.out | apply below_alloc | apply pw_below_drewN | apply below_drew1 | refine below_set ?_ GE101.out | refine below_set ?_ GE103.out) | exact HB.out)⟩⟩
              case round =>
               clear H'
               try clear c1
               try clear p1
               try clear q1
               try clear hx1
               try clear c2
               try clear p2
               try clear q2
               try clear hx2
               try clear c3
               try clear p3
               try clear q3
               try clear hx3
               try clear c4
               try clear p4
               try clear q4
               try clear hx4
               try clear c5
               try clear p5
               try clear q5
               try clear hx5
               try clear c6
               try clear p6
               try clear c7
               try clear p7
               try clear q7
               try clear hx7
               try clear c8
               try clear p8
               try clear q8
               try clear hx8
               try clear c9
               try clear c9b0
               try clear c10
               try clear c10b0
               try clear p11
               try clear q11
               try clear hx11
               try clear c12
               try clear c12b0
               try clear c12b1
               try clear p13
               try clear q13
               try clear hx13
               try clear c14
               try clear c14b0
               try clear c14b1
               try clear c15
               try clear c15b0
               try clear c15b1
               try clear c16
               try clear c16b0
               try clear c16b1
               try clear c19
               try clear c20
               try clear c21
               try clear c21b0
               try clear c22
               try clear c22b0
               try clear p23
               try clear q23
               try clear hx23
               try clear c25
               try clear c26
               try clear c26b0
               try clear c27
               try clear c27b0
               try clear p28
               try clear q28
               try clear hx28
               try clear c29
               try clear c29b0
               try clear p30
               try clear q30
               try clear hx30
               try clear c31
               try clear c31b0
               try clear p32
               try clear q32
               try clear hx32
               try clear c34
               try clear c34b0
               try clear c34b1
               try clear c35
               try clear c38
               try clear c38b0
               try clear c39
               try clear c39b0
               try clear p40
               try clear q40
               try clear hx40
               try clear c41
               try clear c41b0
               try clear c41b1
               try clear c42
               try clear c44
               try clear c44b0
               try clear c45
               try clear c47
               try clear c49
               try clear c49b0
               try clear c49b1
               try clear c50
               try clear c53
               try clear c53b0
               try clear c54
               try clear c54b0
               try clear p55
               try clear q55
               try clear hx55
               try clear c56
               try clear c56b0
               try clear c56b1
               try clear c57
               try clear c59
               try clear c59b0
               try clear c60
               try clear c62
               try clear c64
               try clear c64b0
               try clear c64b1
               try clear p64
               try clear c65
               try clear c68
               try clear c68b0
               try clear c69
               try clear c69b0
               try clear p70
               try clear q70
               try clear hx70
               try clear c71
               try clear c71b0
               try clear c71b1
               try clear c72
               try clear c74
               try clear c74b0
               try clear c75
               try clear c77
               try clear c80
               try clear c80b0
               try clear c81
               try clear c81b0
               try clear p82
               try clear q82
               try clear hx82
               try clear c83
               try clear c83b0
               try clear c83b1
               try clear c84
               try clear c84b0
               try clear c85
               try clear c85b0
               try clear c85b1
               try clear c86
               try clear c88
               try clear hcz20_0
               try clear hcz20_1
               try clear hcz20_2
               try clear hcz20_3
               try clear hcz20_4
               try clear hcz36_0
               try clear hcz36_1
               try clear hcz36_2
               try clear hcz36_3
               try clear hcz36_4
               try clear hcz43_0
               try clear hcz43_1
               try clear hcz43_2
               try clear hcz43_3
               try clear hcz43_4
               try clear hcz46_0
               try clear hcz46_1
               try clear hcz46_2
               try clear hcz46_3
               try clear hcz46_4
               try clear hcz48_0
               try clear hcz48_1
               try clear hcz48_2
               try clear hcz48_3
               try clear hcz48_4
               try clear hcz51_0
               try clear hcz51_1
               try clear hcz51_2
               try clear hcz51_3
               try clear hcz51_4
               try clear hcz58_0
               try clear hcz58_1
               try clear hcz58_2
               try clear hcz58_3
               try clear hcz58_4
               try clear hcz61_0
               try clear hcz61_1
               try clear hcz61_2
               try clear hcz61_3
               try clear hcz61_4
               try clear hcz63_0
               try clear hcz63_1
               try clear hcz63_2
               try clear hcz63_3
               try clear hcz63_4
               try clear hcz66_0
               try clear hcz66_1
               try clear hcz66_2
               try clear hcz66_3
               try clear hcz66_4
               try clear hcz73_0
               try clear hcz73_1
               try clear hcz73_2
               try clear hcz73_3
               try clear hcz73_4
               try clear hcz76_0
               try clear hcz76_1
               try clear hcz76_2
               try clear hcz76_3
               try clear hcz76_4
               try clear hcz78_0
               try clear hcz78_1
               try clear hcz78_2
               try clear hcz78_3
               try clear hcz78_4
               try clear hcz7_0
               try clear hcz7_1
               try clear hcz7_2
               try clear hcz7_3
               try clear hcz7_4
               try clear hcz87_0
               try clear hcz87_1
               try clear hcz87_2
               try clear hcz87_3
               try clear hcz87_4
               try clear hcz89_0
               try clear hcz89_1
               try clear hcz89_2
               try clear hcz89_3
               try clear hcz89_4
               try clear hfz20_0
               try clear hfz20_1
               try clear hfz20_2
               try clear hfz20_3
               try clear hfz20_4
               try clear hfz36_0
               try clear hfz36_1
               try clear hfz36_2
               try clear hfz36_3
               try clear hfz36_4
               try clear hfz43_0
               try clear hfz43_1
               try clear hfz43_2
               try clear hfz43_3
               try clear hfz43_4
               try clear hfz46_0
               try clear hfz46_1
               try clear hfz46_2
               try clear hfz46_3
               try clear hfz46_4
               try clear hfz48_0
               try clear hfz48_1
               try clear hfz48_2
               try clear hfz48_3
               try clear hfz48_4
               try clear hfz51_0
               try clear hfz51_1
               try clear hfz51_2
               try clear hfz51_3
               try clear hfz51_4
               try clear hfz58_0
               try clear hfz58_1
               try clear hfz58_2
               try clear hfz58_3
               try clear hfz58_4
               try clear hfz61_0
               try clear hfz61_1
               try clear hfz61_2
               try clear hfz61_3
               try clear hfz61_4
               try clear hfz63_0
               try clear hfz63_1
               try clear hfz63_2
               try clear hfz63_3
               try clear hfz63_4
               try clear hfz66_0
               try clear hfz66_1
               try clear hfz66_2
               try clear hfz66_3
               try clear hfz66_4
               try clear hfz73_0
               try clear hfz73_1
               try clear hfz73_2
               try clear hfz73_3
               try clear hfz73_4
               try clear hfz76_0
               try clear hfz76_1
               try clear hfz76_2
               try clear hfz76_3
               try clear hfz76_4
               try clear hfz78_0
               try clear hfz78_1
               try clear hfz78_2
               try clear hfz78_3
               try clear hfz78_4
               try clear hfz7_0
               try clear hfz7_1
               try clear hfz7_2
               try clear hfz7_3
               try clear hfz7_4
               try clear hfz87_0
               try clear hfz87_1
               try clear hfz87_2
               try clear hfz87_3
               try clear hfz87_4
               try clear hfz89_0
               try clear hfz89_1
               try clear hfz89_2
               try clear hfz89_3
               try clear hfz89_4
               try clear p1
               try clear p11
               try clear p13
               try clear p2
               try clear p23
               try clear p28
               try clear p3
               try clear p30
               try clear p32
               try clear p4
               try clear p40
               try clear p5
               try clear p55
               try clear p6
               try clear p64
               try clear p7
               try clear p70
               try clear p8
               try clear p82
               try clear q1
               try clear q11
               try clear q13
               try clear q2
               try clear q23
               try clear q28
               try clear q3
               try clear q30
               try clear q32
               try clear q4
               try clear q40
               try clear q5
               try clear q55
               try clear q7
               try clear q70
               try clear q8
               try clear q82
               obtain ⟨x8_6, x102000_6, x102001_6, x102002_6, x102003_6, x102004_6, rfl, HA, HK6, BK101, BK103, HB⟩ := hrel
               cases gk with
               | zero => exact absurd HA.out (by simp [pennantref16_Url.l2])
               | succ k6 =>
                have H := HA.out
                clear HA
                simp only [pennantref16_Url.l2] at H
                by_cases c90 : x8_6 < (x104004_78.size : Int)
                ·
                 rw [if_pos c90] at H
                 have c90b0 : decide (x8_6 < (x104004_78.size : Int)) = true := decide_eq_true c90
                 clear c90
                 by_cases c91 : 0 ≤ x8_6
                 ·
                  rw [if_pos c91] at H
                  have c91b0 : decide (0 ≤ x8_6) = true := decide_eq_true c91
                  clear c91
                  by_cases c93 : (bt x104004_78 x8_6) < 33
                  ·
                   rw [if_pos c93] at H
                   have c93b0 : decide ((bt x104004_78 x8_6) < 33) = true := decide_eq_true c93
                   clear c93
                   simp only [Option.some.injEq, Prod.mk.injEq] at H
                   obtain ⟨rfl, rfl, rfl, rfl, rfl, rfl⟩ := H
                   have hnb94 := NB103_101.out
                   have hnc94 := NB101_103.out
                   have hcz95_0 : wr.cell? ⟨gb103, 0, none⟩ = some (.int .i64 6) := (blk_cell BK103.out 0).trans rfl
                   have hcz95_1 : wr.cell? ⟨gb103, 1, none⟩ = some (.string (⟨#[]⟩ : ByteArray)) := (blk_cell BK103.out 1).trans rfl
                   have hcz95_2 : wr.cell? ⟨gb103, 2, none⟩ = some (.string (a0.extract 7 (x4_7 : Int).toNat)) := (blk_cell BK103.out 2).trans rfl
                   have hcz95_3 : wr.cell? ⟨gb103, 3, none⟩ = some (.int .i64 x104003_23) := (blk_cell BK103.out 3).trans rfl
                   have hcz95_4 : wr.cell? ⟨gb103, 4, none⟩ = some (.string x104004_78) := (blk_cell BK103.out 4).trans rfl
                   have hfz95_0 := blk_frozen BK103.out 0
                   have hfz95_1 := blk_frozen BK103.out 1
                   have hfz95_2 := blk_frozen BK103.out 2
                   have hfz95_3 := blk_frozen BK103.out 3
                   have hfz95_4 := blk_frozen BK103.out 4
                   have p92 : 0 ≤ (x8_6 : Int) := of_decide_eq_true (by first | (with_reducible assumption) | assumption)
                   have q92 : x8_6 < (x104004_78.size : Int) := of_decide_eq_true (by first | (with_reducible assumption) | assumption)
                   have hx92 := bt_at x104004_78 x8_6
                   replace p92 := eq_true p92
                   replace q92 := eq_true q92
                   have hcz96_0 : wr.cell? ⟨gb101, 0, none⟩ = some (.int .i64 x102000_6) := (blk_cell BK101.out 0).trans rfl
                   have hcz96_1 : wr.cell? ⟨gb101, 1, none⟩ = some (.string x102001_6) := (blk_cell BK101.out 1).trans rfl
                   have hcz96_2 : wr.cell? ⟨gb101, 2, none⟩ = some (.string x102002_6) := (blk_cell BK101.out 2).trans rfl
                   have hcz96_3 : wr.cell? ⟨gb101, 3, none⟩ = some (.int .i64 x102003_6) := (blk_cell BK101.out 3).trans rfl
                   have hcz96_4 : wr.cell? ⟨gb101, 4, none⟩ = some (.string x102004_6) := (blk_cell BK101.out 4).trans rfl
                   have hfz96_0 := blk_frozen BK101.out 0
                   have hfz96_1 := blk_frozen BK101.out 1
                   have hfz96_2 := blk_frozen BK101.out 2
                   have hfz96_3 := blk_frozen BK101.out 3
                   have hfz96_4 := blk_frozen BK101.out 4
                   go_wp2
                   refine bodyPost_ret (results_ct rfl _ _ gb101 24 #[.int .i64 0, .string (⟨#[]⟩ : ByteArray), .string (⟨#[]⟩ : ByteArray), .int .i64 0, .string (⟨#[]⟩ : ByteArray)] (0, 0) _ rfl (by (with_reducible repeat (first | refine blk_drewN ?_ _ | refine blk_drew ?_ | refine blk_alloc ?_ _)); refine blk_put (cs := #[.int .i64 0, .string (⟨#[]⟩ : ByteArray), .string (⟨#[]⟩ : ByteArray), .int .i64 0, .string x102004_6]) ?_ 4 _ rfl; (with_reducible repeat (first | refine blk_drewN ?_ _ | refine blk_drew ?_ | refine blk_alloc ?_ _)); refine blk_put (cs := #[.int .i64 0, .string (⟨#[]⟩ : ByteArray), .string (⟨#[]⟩ : ByteArray), .int .i64 x102003_6, .string x102004_6]) ?_ 3 _ rfl; (with_reducible repeat (first | refine blk_drewN ?_ _ | refine blk_drew ?_ | refine blk_alloc ?_ _)); refine blk_put (cs := #[.int .i64 0, .string (⟨#[]⟩ : ByteArray), .string x102002_6, .int .i64 x102003_6, .string x102004_6]) ?_ 2 _ rfl; (with_reducible repeat (first | refine blk_drewN ?_ _ | refine blk_drew ?_ | refine blk_alloc ?_ _)); refine blk_put (cs := #[.int .i64 0, .string x102001_6, .string x102002_6, .int .i64 x102003_6, .string x102004_6]) ?_ 1 _ rfl; (with_reducible repeat (first | refine blk_drewN ?_ _ | refine blk_drew ?_ | refine blk_alloc ?_ _)); refine blk_put (cs := #[.int .i64 x102000_6, .string x102001_6, .string x102002_6, .int .i64 x102003_6, .string x102004_6]) ?_ 0 _ rfl; (with_reducible repeat (first | refine blk_drewN ?_ _ | refine blk_drew ?_ | refine blk_alloc ?_ _)); exact BK101.out) Tryd.underlying24 rfl (by kernel_rfl)) rfl ?_
                   exact ⟨by first | rfl | (simp [errW_none, errW_some] <;> rfl) | (simp [*, errW_none, errW_some] <;> rfl), by repeat (first | (with_reducible first | exact HB.out | apply below_alloc | apply pw_below_drewN | apply below_drew1 | refine below_set ?_ GE101.out | refine below_set ?_ GE103.out) | exact HB.out)⟩
                  ·
                   rw [if_neg c93] at H
                   have c93b0 : decide ((bt x104004_78 x8_6) < 33) = false := decide_eq_false c93
                   clear c93
                   by_cases c98 : (bt x104004_78 x8_6) > 126
                   ·
                    rw [if_pos c98] at H
                    have c98b0 : decide (126 < (bt x104004_78 x8_6)) = true := decide_eq_true c98
                    clear c98
                    simp only [Option.some.injEq, Prod.mk.injEq] at H
                    obtain ⟨rfl, rfl, rfl, rfl, rfl, rfl⟩ := H
                    have hnb99 := NB103_101.out
                    have hnc99 := NB101_103.out
                    have hcz100_0 : wr.cell? ⟨gb103, 0, none⟩ = some (.int .i64 6) := (blk_cell BK103.out 0).trans rfl
                    have hcz100_1 : wr.cell? ⟨gb103, 1, none⟩ = some (.string (⟨#[]⟩ : ByteArray)) := (blk_cell BK103.out 1).trans rfl
                    have hcz100_2 : wr.cell? ⟨gb103, 2, none⟩ = some (.string (a0.extract 7 (x4_7 : Int).toNat)) := (blk_cell BK103.out 2).trans rfl
                    have hcz100_3 : wr.cell? ⟨gb103, 3, none⟩ = some (.int .i64 x104003_23) := (blk_cell BK103.out 3).trans rfl
                    have hcz100_4 : wr.cell? ⟨gb103, 4, none⟩ = some (.string x104004_78) := (blk_cell BK103.out 4).trans rfl
                    have hfz100_0 := blk_frozen BK103.out 0
                    have hfz100_1 := blk_frozen BK103.out 1
                    have hfz100_2 := blk_frozen BK103.out 2
                    have hfz100_3 := blk_frozen BK103.out 3
                    have hfz100_4 := blk_frozen BK103.out 4
                    have p92 : 0 ≤ (x8_6 : Int) := of_decide_eq_true (by first | (with_reducible assumption) | assumption)
                    have q92 : x8_6 < (x104004_78.size : Int) := of_decide_eq_true (by first | (with_reducible assumption) | assumption)
                    have hx92 := bt_at x104004_78 x8_6
                    replace p92 := eq_true p92
                    replace q92 := eq_true q92
                    have p97 : 0 ≤ (x8_6 : Int) := of_decide_eq_true (by first | (with_reducible assumption) | assumption)
                    have q97 : x8_6 < (x104004_78.size : Int) := of_decide_eq_true (by first | (with_reducible assumption) | assumption)
                    have hx97 := bt_at x104004_78 x8_6
                    replace p97 := eq_true p97
                    replace q97 := eq_true q97
                    have hcz101_0 : wr.cell? ⟨gb101, 0, none⟩ = some (.int .i64 x102000_6) := (blk_cell BK101.out 0).trans rfl
                    have hcz101_1 : wr.cell? ⟨gb101, 1, none⟩ = some (.string x102001_6) := (blk_cell BK101.out 1).trans rfl
                    have hcz101_2 : wr.cell? ⟨gb101, 2, none⟩ = some (.string x102002_6) := (blk_cell BK101.out 2).trans rfl
                    have hcz101_3 : wr.cell? ⟨gb101, 3, none⟩ = some (.int .i64 x102003_6) := (blk_cell BK101.out 3).trans rfl
                    have hcz101_4 : wr.cell? ⟨gb101, 4, none⟩ = some (.string x102004_6) := (blk_cell BK101.out 4).trans rfl
                    have hfz101_0 := blk_frozen BK101.out 0
                    have hfz101_1 := blk_frozen BK101.out 1
                    have hfz101_2 := blk_frozen BK101.out 2
                    have hfz101_3 := blk_frozen BK101.out 3
                    have hfz101_4 := blk_frozen BK101.out 4
                    go_wp2
                    refine bodyPost_ret (results_ct rfl _ _ gb101 24 #[.int .i64 0, .string (⟨#[]⟩ : ByteArray), .string (⟨#[]⟩ : ByteArray), .int .i64 0, .string (⟨#[]⟩ : ByteArray)] (0, 0) _ rfl (by (with_reducible repeat (first | refine blk_drewN ?_ _ | refine blk_drew ?_ | refine blk_alloc ?_ _)); refine blk_put (cs := #[.int .i64 0, .string (⟨#[]⟩ : ByteArray), .string (⟨#[]⟩ : ByteArray), .int .i64 0, .string x102004_6]) ?_ 4 _ rfl; (with_reducible repeat (first | refine blk_drewN ?_ _ | refine blk_drew ?_ | refine blk_alloc ?_ _)); refine blk_put (cs := #[.int .i64 0, .string (⟨#[]⟩ : ByteArray), .string (⟨#[]⟩ : ByteArray), .int .i64 x102003_6, .string x102004_6]) ?_ 3 _ rfl; (with_reducible repeat (first | refine blk_drewN ?_ _ | refine blk_drew ?_ | refine blk_alloc ?_ _)); refine blk_put (cs := #[.int .i64 0, .string (⟨#[]⟩ : ByteArray), .string x102002_6, .int .i64 x102003_6, .string x102004_6]) ?_ 2 _ rfl; (with_reducible repeat (first | refine blk_drewN ?_ _ | refine blk_drew ?_ | refine blk_alloc ?_ _)); refine blk_put (cs := #[.int .i64 0, .string x102001_6, .string x102002_6, .int .i64 x102003_6, .string x102004_6]) ?_ 1 _ rfl; (with_reducible repeat (first | refine blk_drewN ?_ _ | refine blk_drew ?_ | refine blk_alloc ?_ _)); refine blk_put (cs := #[.int .i64 x102000_6, .string x102001_6, .string x102002_6, .int .i64 x102003_6, .string x102004_6]) ?_ 0 _ rfl; (with_reducible repeat (first | refine blk_drewN ?_ _ | refine blk_drew ?_ | refine blk_alloc ?_ _)); exact BK101.out) Tryd.underlying24 rfl (by kernel_rfl)) rfl ?_
                    exact ⟨by first | rfl | (simp [errW_none, errW_some] <;> rfl) | (simp [*, errW_none, errW_some] <;> rfl), by repeat (first | (with_reducible first | exact HB.out | apply below_alloc | apply pw_below_drewN | apply below_drew1 | refine below_set ?_ GE101.out | refine below_set ?_ GE103.out) | exact HB.out)⟩
                   ·
                    rw [if_neg c98] at H
                    have c98b0 : decide (126 < (bt x104004_78 x8_6)) = false := decide_eq_false c98
                    clear c98
                    by_cases c103 : (bt x104004_78 x8_6) = 35
                    ·
                     rw [if_pos c103] at H
                     have c103b0 : ((bt x104004_78 x8_6) == 35) = true := beq_iff_eq.mpr c103
                     have c103b1 : ((bt x104004_78 x8_6) != 35) = false := bne_eq_false_iff_eq.mpr c103
                     clear c103
                     simp only [Option.some.injEq, Prod.mk.injEq] at H
                     obtain ⟨rfl, rfl, rfl, rfl, rfl, rfl⟩ := H
                     have hnb104 := NB103_101.out
                     have hnc104 := NB101_103.out
                     have hcz105_0 : wr.cell? ⟨gb103, 0, none⟩ = some (.int .i64 6) := (blk_cell BK103.out 0).trans rfl
                     have hcz105_1 : wr.cell? ⟨gb103, 1, none⟩ = some (.string (⟨#[]⟩ : ByteArray)) := (blk_cell BK103.out 1).trans rfl
                     have hcz105_2 : wr.cell? ⟨gb103, 2, none⟩ = some (.string (a0.extract 7 (x4_7 : Int).toNat)) := (blk_cell BK103.out 2).trans rfl
                     have hcz105_3 : wr.cell? ⟨gb103, 3, none⟩ = some (.int .i64 x104003_23) := (blk_cell BK103.out 3).trans rfl
                     have hcz105_4 : wr.cell? ⟨gb103, 4, none⟩ = some (.string x104004_78) := (blk_cell BK103.out 4).trans rfl
                     have hfz105_0 := blk_frozen BK103.out 0
                     have hfz105_1 := blk_frozen BK103.out 1
                     have hfz105_2 := blk_frozen BK103.out 2
                     have hfz105_3 := blk_frozen BK103.out 3
                     have hfz105_4 := blk_frozen BK103.out 4
                     have p92 : 0 ≤ (x8_6 : Int) := of_decide_eq_true (by first | (with_reducible assumption) | assumption)
                     have q92 : x8_6 < (x104004_78.size : Int) := of_decide_eq_true (by first | (with_reducible assumption) | assumption)
                     have hx92 := bt_at x104004_78 x8_6
                     replace p92 := eq_true p92
                     replace q92 := eq_true q92
                     have p97 : 0 ≤ (x8_6 : Int) := of_decide_eq_true (by first | (with_reducible assumption) | assumption)
                     have q97 : x8_6 < (x104004_78.size : Int) := of_decide_eq_true (by first | (with_reducible assumption) | assumption)
                     have hx97 := bt_at x104004_78 x8_6
                     replace p97 := eq_true p97
                     replace q97 := eq_true q97
                     have p102 : 0 ≤ (x8_6 : Int) := of_decide_eq_true (by first | (with_reducible assumption) | assumption)
                     have q102 : x8_6 < (x104004_78.size : Int) := of_decide_eq_true (by first | (with_reducible assumption) | assumption)
                     have hx102 := bt_at x104004_78 x8_6
                     replace p102 := eq_true p102
                     replace q102 := eq_true q102
                     have hcz106_0 : wr.cell? ⟨gb101, 0, none⟩ = some (.int .i64 x102000_6) := (blk_cell BK101.out 0).trans rfl
                     have hcz106_1 : wr.cell? ⟨gb101, 1, none⟩ = some (.string x102001_6) := (blk_cell BK101.out 1).trans rfl
                     have hcz106_2 : wr.cell? ⟨gb101, 2, none⟩ = some (.string x102002_6) := (blk_cell BK101.out 2).trans rfl
                     have hcz106_3 : wr.cell? ⟨gb101, 3, none⟩ = some (.int .i64 x102003_6) := (blk_cell BK101.out 3).trans rfl
                     have hcz106_4 : wr.cell? ⟨gb101, 4, none⟩ = some (.string x102004_6) := (blk_cell BK101.out 4).trans rfl
                     have hfz106_0 := blk_frozen BK101.out 0
                     have hfz106_1 := blk_frozen BK101.out 1
                     have hfz106_2 := blk_frozen BK101.out 2
                     have hfz106_3 := blk_frozen BK101.out 3
                     have hfz106_4 := blk_frozen BK101.out 4
                     go_wp2
                     refine bodyPost_ret (results_ct rfl _ _ gb101 24 #[.int .i64 0, .string (⟨#[]⟩ : ByteArray), .string (⟨#[]⟩ : ByteArray), .int .i64 0, .string (⟨#[]⟩ : ByteArray)] (0, 0) _ rfl (by (with_reducible repeat (first | refine blk_drewN ?_ _ | refine blk_drew ?_ | refine blk_alloc ?_ _)); refine blk_put (cs := #[.int .i64 0, .string (⟨#[]⟩ : ByteArray), .string (⟨#[]⟩ : ByteArray), .int .i64 0, .string x102004_6]) ?_ 4 _ rfl; (with_reducible repeat (first | refine blk_drewN ?_ _ | refine blk_drew ?_ | refine blk_alloc ?_ _)); refine blk_put (cs := #[.int .i64 0, .string (⟨#[]⟩ : ByteArray), .string (⟨#[]⟩ : ByteArray), .int .i64 x102003_6, .string x102004_6]) ?_ 3 _ rfl; (with_reducible repeat (first | refine blk_drewN ?_ _ | refine blk_drew ?_ | refine blk_alloc ?_ _)); refine blk_put (cs := #[.int .i64 0, .string (⟨#[]⟩ : ByteArray), .string x102002_6, .int .i64 x102003_6, .string x102004_6]) ?_ 2 _ rfl; (with_reducible repeat (first | refine blk_drewN ?_ _ | refine blk_drew ?_ | refine blk_alloc ?_ _)); refine blk_put (cs := #[.int .i64 0, .string x102001_6, .string x102002_6, .int .i64 x102003_6, .string x102004_6]) ?_ 1 _ rfl; (with_reducible repeat (first | refine blk_drewN ?_ _ | refine blk_drew ?_ | refine blk_alloc ?_ _)); refine blk_put (cs := #[.int .i64 x102000_6, .string x102001_6, .string x102002_6, .int .i64 x102003_6, .string x102004_6]) ?_ 0 _ rfl; (with_reducible repeat (first | refine blk_drewN ?_ _ | refine blk_drew ?_ | refine blk_alloc ?_ _)); exact BK101.out) Tryd.underlying24 rfl (by kernel_rfl)) rfl ?_
                     exact ⟨by first | rfl | (simp [errW_none, errW_some] <;> rfl) | (simp [*, errW_none, errW_some] <;> rfl), by repeat (first | (with_reducible first | exact HB.out | apply below_alloc | apply pw_below_drewN | apply below_drew1 | refine below_set ?_ GE101.out | refine below_set ?_ GE103.out) | exact HB.out)⟩
                    ·
                     rw [if_neg c103] at H
                     have c103b0 : ((bt x104004_78 x8_6) == 35) = false := beq_eq_false_iff_ne.mpr c103
                     have c103b1 : ((bt x104004_78 x8_6) != 35) = true := bne_iff_ne.mpr c103
                     have H' := Aside0.mk H
                     clear H
                     have hnb107 := NB103_101.out
                     have hnc107 := NB101_103.out
                     have hcz108_0 : wr.cell? ⟨gb103, 0, none⟩ = some (.int .i64 6) := (blk_cell BK103.out 0).trans rfl
                     have hcz108_1 : wr.cell? ⟨gb103, 1, none⟩ = some (.string (⟨#[]⟩ : ByteArray)) := (blk_cell BK103.out 1).trans rfl
                     have hcz108_2 : wr.cell? ⟨gb103, 2, none⟩ = some (.string (a0.extract 7 (x4_7 : Int).toNat)) := (blk_cell BK103.out 2).trans rfl
                     have hcz108_3 : wr.cell? ⟨gb103, 3, none⟩ = some (.int .i64 x104003_23) := (blk_cell BK103.out 3).trans rfl
                     have hcz108_4 : wr.cell? ⟨gb103, 4, none⟩ = some (.string x104004_78) := (blk_cell BK103.out 4).trans rfl
                     have hfz108_0 := blk_frozen BK103.out 0
                     have hfz108_1 := blk_frozen BK103.out 1
                     have hfz108_2 := blk_frozen BK103.out 2
                     have hfz108_3 := blk_frozen BK103.out 3
                     have hfz108_4 := blk_frozen BK103.out 4
                     have p92 : 0 ≤ (x8_6 : Int) := of_decide_eq_true (by first | (with_reducible assumption) | assumption)
                     have q92 : x8_6 < (x104004_78.size : Int) := of_decide_eq_true (by first | (with_reducible assumption) | assumption)
                     have hx92 := bt_at x104004_78 x8_6
                     replace p92 := eq_true p92
                     replace q92 := eq_true q92
                     have p97 : 0 ≤ (x8_6 : Int) := of_decide_eq_true (by first | (with_reducible assumption) | assumption)
                     have q97 : x8_6 < (x104004_78.size : Int) := of_decide_eq_true (by first | (with_reducible assumption) | assumption)
                     have hx97 := bt_at x104004_78 x8_6
                     replace p97 := eq_true p97
                     replace q97 := eq_true q97
                     have p102 : 0 ≤ (x8_6 : Int) := of_decide_eq_true (by first | (with_reducible assumption) | assumption)
                     have q102 : x8_6 < (x104004_78.size : Int) := of_decide_eq_true (by first | (with_reducible assumption) | assumption)
                     have hx102 := bt_at x104004_78 x8_6
                     replace p102 := eq_true p102
                     replace q102 := eq_true q102
                     go_wp2
                     go_roundg k6
                     case measure => have := HJ1.out; have := HJ7.out; have := HJ16.out; have := HJ23.out; have := HJ78.out; have := HK6.out; omega
                     case rel => exact ⟨(wrap64 (x8_6 + 1)), (x102000_6), (x102001_6), (x102002_6), (x102003_6), (x102004_6), (by first | rfl | (simp; done) | (simp [*]; done)), H', ⟨by have := HJ1.out; have := HJ7.out; have := HJ16.out; have := HJ23.out; have := HJ78.out; have := HK6.out; omega⟩, ⟨by (with_reducible repeat (first | refine blk_drewN ?_ _ | refine blk_drew ?_ | refine blk_alloc ?_ _)); exact BK101.out⟩, ⟨by (with_reducible repeat (first | refine blk_drewN ?_ _ | refine blk_drew ?_ | refine blk_alloc ?_ _)); exact BK103.out⟩, ⟨by repeat (first | (with_reducible first | exact HB.out | apply below_alloc | apply pw_below_drewN | apply below_drew1 | refine below_set ?_ GE101.out | refine below_set ?_ GE103.out) | exact HB.out)⟩⟩
                 ·
                  rw [if_neg c91] at H
                  exact absurd H (by simp)
                ·
                 rw [if_neg c90] at H
                 have c90b0 : decide (x8_6 < (x104004_78.size : Int)) = false := decide_eq_false c90
                 clear c90
                 replace H := Option.bind_eq_some_iff.mp H
                 obtain ⟨t104, A1090, H⟩ := H
                 replace H : (if t104 = true then (some (6, (⟨#[]⟩ : ByteArray), (a0.extract 7 (x4_7 : Int).toNat), x104003_23, x104004_78, 0)) else (some (0, (⟨#[]⟩ : ByteArray), (⟨#[]⟩ : ByteArray), 0, (⟨#[]⟩ : ByteArray), 190))) = some (r1, r2, r3, r4, r5, r6) := H
                 have A109 := Aside0.mk A1090
                 clear A1090
                 by_cases c110 : t104 = true
                 ·
                  subst c110
                  have H1 : (some (6, (⟨#[]⟩ : ByteArray), (a0.extract 7 (x4_7 : Int).toNat), x104003_23, x104004_78, 0)) = some (r1, r2, r3, r4, r5, r6) := by rw [if_pos rfl] at H; exact H
                  clear H
                  have H := H1
                  clear H1
                  simp only [Option.some.injEq, Prod.mk.injEq] at H
                  obtain ⟨rfl, rfl, rfl, rfl, rfl, rfl⟩ := H
                  have hnb111 := NB103_101.out
                  have hnc111 := NB101_103.out
                  have hcz112_0 : wr.cell? ⟨gb103, 0, none⟩ = some (.int .i64 6) := (blk_cell BK103.out 0).trans rfl
                  have hcz112_1 : wr.cell? ⟨gb103, 1, none⟩ = some (.string (⟨#[]⟩ : ByteArray)) := (blk_cell BK103.out 1).trans rfl
                  have hcz112_2 : wr.cell? ⟨gb103, 2, none⟩ = some (.string (a0.extract 7 (x4_7 : Int).toNat)) := (blk_cell BK103.out 2).trans rfl
                  have hcz112_3 : wr.cell? ⟨gb103, 3, none⟩ = some (.int .i64 x104003_23) := (blk_cell BK103.out 3).trans rfl
                  have hcz112_4 : wr.cell? ⟨gb103, 4, none⟩ = some (.string x104004_78) := (blk_cell BK103.out 4).trans rfl
                  have hfz112_0 := blk_frozen BK103.out 0
                  have hfz112_1 := blk_frozen BK103.out 1
                  have hfz112_2 := blk_frozen BK103.out 2
                  have hfz112_3 := blk_frozen BK103.out 3
                  have hfz112_4 := blk_frozen BK103.out 4
                  go_wp2_with (first | ((with_reducible refine gate_callee (f := 31) rfl ?_); refine goesL_ (some 139) rfl rfl Tryd.func31 (by kernel_rfl) rfl #[.string (a0.extract 7 (x4_7 : Int).toNat)] rfl (by (try simp only [List.map_toArray, List.map_cons, List.map_nil]); first | done | rfl | (simp only [List.length_drop, List.length_take]; rfl)) ?_; (with_reducible refine (pennantref16_Host.calls k6 (a0.extract 7 (x4_7 : Int).toNat) true _ A109.out).mono ?_); rintro e w113 ⟨rfl, hb⟩; refine ⟨_, rfl, ?_⟩; have n0_ := Aside0.mk (blk_below (g := gb101) (o := .cells #[.int .i64 x102000_6, .string x102001_6, .string x102002_6, .int .i64 x102003_6, .string x102004_6] 24 (0, 0)) (by (with_reducible repeat (first | refine blk_drewN ?_ _ | refine blk_drew ?_ | refine blk_alloc ?_ _)); exact BK101.out) hb); have n1_ := Aside0.mk (blk_below (g := gb103) (o := .cells #[.int .i64 6, .string (⟨#[]⟩ : ByteArray), .string (a0.extract 7 (x4_7 : Int).toNat), .int .i64 x104003_23, .string x104004_78] 24 (0, 0)) (by (with_reducible repeat (first | refine blk_drewN ?_ _ | refine blk_drew ?_ | refine blk_alloc ?_ _)); exact BK103.out) hb); have n2_ := Aside0.mk (below_step (by repeat (first | (with_reducible first | exact HB.out | apply below_alloc | apply pw_below_drewN | apply below_drew1 | refine below_set ?_ GE101.out | refine below_set ?_ GE103.out) | exact HB.out)) hb); clear BK101; clear BK103; clear HB; have BK101 := n0_; have BK103 := n1_; have HB := n2_; clear n0_ n1_ n2_; (try clear hb); (try clear hb2); (try clear hk); (try clear hi); have hcz114_0 : w113.cell? ⟨gb103, 0, none⟩ = some (.int .i64 6) := (blk_cell BK103.out 0).trans rfl; have hcz114_1 : w113.cell? ⟨gb103, 1, none⟩ = some (.string (⟨#[]⟩ : ByteArray)) := (blk_cell BK103.out 1).trans rfl; have hcz114_2 : w113.cell? ⟨gb103, 2, none⟩ = some (.string (a0.extract 7 (x4_7 : Int).toNat)) := (blk_cell BK103.out 2).trans rfl; have hcz114_3 : w113.cell? ⟨gb103, 3, none⟩ = some (.int .i64 x104003_23) := (blk_cell BK103.out 3).trans rfl; have hcz114_4 : w113.cell? ⟨gb103, 4, none⟩ = some (.string x104004_78) := (blk_cell BK103.out 4).trans rfl; have hfz114_0 := blk_frozen BK103.out 0; have hfz114_1 := blk_frozen BK103.out 1; have hfz114_2 := blk_frozen BK103.out 2; have hfz114_3 := blk_frozen BK103.out 3; have hfz114_4 := blk_frozen BK103.out 4; have hcz115_0 : w113.cell? ⟨gb101, 0, none⟩ = some (.int .i64 x102000_6) := (blk_cell BK101.out 0).trans rfl; have hcz115_1 : w113.cell? ⟨gb101, 1, none⟩ = some (.string x102001_6) := (blk_cell BK101.out 1).trans rfl; have hcz115_2 : w113.cell? ⟨gb101, 2, none⟩ = some (.string x102002_6) := (blk_cell BK101.out 2).trans rfl; have hcz115_3 : w113.cell? ⟨gb101, 3, none⟩ = some (.int .i64 x102003_6) := (blk_cell BK101.out 3).trans rfl; have hcz115_4 : w113.cell? ⟨gb101, 4, none⟩ = some (.string x102004_6) := (blk_cell BK101.out 4).trans rfl; have hfz115_0 := blk_frozen BK101.out 0; have hfz115_1 := blk_frozen BK101.out 1; have hfz115_2 := blk_frozen BK101.out 2; have hfz115_3 := blk_frozen BK101.out 3; have hfz115_4 := blk_frozen BK101.out 4))
                  refine bodyPost_ret (results_ct rfl _ _ gb101 24 #[.int .i64 6, .string (⟨#[]⟩ : ByteArray), .string (a0.extract 7 (x4_7 : Int).toNat), .int .i64 x104003_23, .string x104004_78] (0, 0) _ rfl (by (with_reducible repeat (first | refine blk_drewN ?_ _ | refine blk_drew ?_ | refine blk_alloc ?_ _)); refine blk_put (cs := #[.int .i64 6, .string (⟨#[]⟩ : ByteArray), .string (a0.extract 7 (x4_7 : Int).toNat), .int .i64 x104003_23, .string x102004_6]) ?_ 4 _ rfl; (with_reducible repeat (first | refine blk_drewN ?_ _ | refine blk_drew ?_ | refine blk_alloc ?_ _)); refine blk_put (cs := #[.int .i64 6, .string (⟨#[]⟩ : ByteArray), .string (a0.extract 7 (x4_7 : Int).toNat), .int .i64 x102003_6, .string x102004_6]) ?_ 3 _ rfl; (with_reducible repeat (first | refine blk_drewN ?_ _ | refine blk_drew ?_ | refine blk_alloc ?_ _)); refine blk_put (cs := #[.int .i64 6, .string (⟨#[]⟩ : ByteArray), .string x102002_6, .int .i64 x102003_6, .string x102004_6]) ?_ 2 _ rfl; (with_reducible repeat (first | refine blk_drewN ?_ _ | refine blk_drew ?_ | refine blk_alloc ?_ _)); refine blk_put (cs := #[.int .i64 6, .string x102001_6, .string x102002_6, .int .i64 x102003_6, .string x102004_6]) ?_ 1 _ rfl; (with_reducible repeat (first | refine blk_drewN ?_ _ | refine blk_drew ?_ | refine blk_alloc ?_ _)); refine blk_put (cs := #[.int .i64 x102000_6, .string x102001_6, .string x102002_6, .int .i64 x102003_6, .string x102004_6]) ?_ 0 _ rfl; (with_reducible repeat (first | refine blk_drewN ?_ _ | refine blk_drew ?_ | refine blk_alloc ?_ _)); exact BK101.out) Tryd.underlying24 rfl (by kernel_rfl)) rfl ?_
                  exact ⟨by first | rfl | (simp [errW_none, errW_some] <;> rfl) | (simp [*, errW_none, errW_some] <;> rfl), by repeat (first | (with_reducible first | exact HB.out | apply below_alloc | apply pw_below_drewN | apply below_drew1 | refine below_set ?_ GE101.out | refine below_set ?_ GE103.out) | exact HB.out)⟩
                 ·
                  replace c110 := Bool.eq_false_iff.mpr c110
                  subst c110
                  have H1 : (some (0, (⟨#[]⟩ : ByteArray), (⟨#[]⟩ : ByteArray), 0, (⟨#[]⟩ : ByteArray), 190)) = some (r1, r2, r3, r4, r5, r6) := by rw [if_neg (show ¬ (false = true) by decide)] at H; exact H
                  clear H
                  have H := H1
                  clear H1
                  simp only [Option.some.injEq, Prod.mk.injEq] at H
                  obtain ⟨rfl, rfl, rfl, rfl, rfl, rfl⟩ := H
                  have hnb116 := NB103_101.out
                  have hnc116 := NB101_103.out
                  have hcz117_0 : wr.cell? ⟨gb103, 0, none⟩ = some (.int .i64 6) := (blk_cell BK103.out 0).trans rfl
                  have hcz117_1 : wr.cell? ⟨gb103, 1, none⟩ = some (.string (⟨#[]⟩ : ByteArray)) := (blk_cell BK103.out 1).trans rfl
                  have hcz117_2 : wr.cell? ⟨gb103, 2, none⟩ = some (.string (a0.extract 7 (x4_7 : Int).toNat)) := (blk_cell BK103.out 2).trans rfl
                  have hcz117_3 : wr.cell? ⟨gb103, 3, none⟩ = some (.int .i64 x104003_23) := (blk_cell BK103.out 3).trans rfl
                  have hcz117_4 : wr.cell? ⟨gb103, 4, none⟩ = some (.string x104004_78) := (blk_cell BK103.out 4).trans rfl
                  have hfz117_0 := blk_frozen BK103.out 0
                  have hfz117_1 := blk_frozen BK103.out 1
                  have hfz117_2 := blk_frozen BK103.out 2
                  have hfz117_3 := blk_frozen BK103.out 3
                  have hfz117_4 := blk_frozen BK103.out 4
                  go_wp2_with (first | ((with_reducible refine gate_callee (f := 31) rfl ?_); refine goesL_ (some 139) rfl rfl Tryd.func31 (by kernel_rfl) rfl #[.string (a0.extract 7 (x4_7 : Int).toNat)] rfl (by (try simp only [List.map_toArray, List.map_cons, List.map_nil]); first | done | rfl | (simp only [List.length_drop, List.length_take]; rfl)) ?_; (with_reducible refine (pennantref16_Host.calls k6 (a0.extract 7 (x4_7 : Int).toNat) false _ A109.out).mono ?_); rintro e w118 ⟨rfl, hb⟩; refine ⟨_, rfl, ?_⟩; have n0_ := Aside0.mk (blk_below (g := gb101) (o := .cells #[.int .i64 x102000_6, .string x102001_6, .string x102002_6, .int .i64 x102003_6, .string x102004_6] 24 (0, 0)) (by (with_reducible repeat (first | refine blk_drewN ?_ _ | refine blk_drew ?_ | refine blk_alloc ?_ _)); exact BK101.out) hb); have n1_ := Aside0.mk (blk_below (g := gb103) (o := .cells #[.int .i64 6, .string (⟨#[]⟩ : ByteArray), .string (a0.extract 7 (x4_7 : Int).toNat), .int .i64 x104003_23, .string x104004_78] 24 (0, 0)) (by (with_reducible repeat (first | refine blk_drewN ?_ _ | refine blk_drew ?_ | refine blk_alloc ?_ _)); exact BK103.out) hb); have n2_ := Aside0.mk (below_step (by repeat (first | (with_reducible first | exact HB.out | apply below_alloc | apply pw_below_drewN | apply below_drew1 | refine below_set ?_ GE101.out | refine below_set ?_ GE103.out) | exact HB.out)) hb); clear BK101; clear BK103; clear HB; have BK101 := n0_; have BK103 := n1_; have HB := n2_; clear n0_ n1_ n2_; (try clear hb); (try clear hb2); (try clear hk); (try clear hi); have hcz119_0 : w118.cell? ⟨gb101, 0, none⟩ = some (.int .i64 x102000_6) := (blk_cell BK101.out 0).trans rfl; have hcz119_1 : w118.cell? ⟨gb101, 1, none⟩ = some (.string x102001_6) := (blk_cell BK101.out 1).trans rfl; have hcz119_2 : w118.cell? ⟨gb101, 2, none⟩ = some (.string x102002_6) := (blk_cell BK101.out 2).trans rfl; have hcz119_3 : w118.cell? ⟨gb101, 3, none⟩ = some (.int .i64 x102003_6) := (blk_cell BK101.out 3).trans rfl; have hcz119_4 : w118.cell? ⟨gb101, 4, none⟩ = some (.string x102004_6) := (blk_cell BK101.out 4).trans rfl; have hfz119_0 := blk_frozen BK101.out 0; have hfz119_1 := blk_frozen BK101.out 1; have hfz119_2 := blk_frozen BK101.out 2; have hfz119_3 := blk_frozen BK101.out 3; have hfz119_4 := blk_frozen BK101.out 4))
                  refine bodyPost_ret (results_ct rfl _ _ gb101 24 #[.int .i64 0, .string (⟨#[]⟩ : ByteArray), .string (⟨#[]⟩ : ByteArray), .int .i64 0, .string (⟨#[]⟩ : ByteArray)] (0, 0) _ rfl (by (with_reducible repeat (first | refine blk_drewN ?_ _ | refine blk_drew ?_ | refine blk_alloc ?_ _)); refine blk_put (cs := #[.int .i64 0, .string (⟨#[]⟩ : ByteArray), .string (⟨#[]⟩ : ByteArray), .int .i64 0, .string x102004_6]) ?_ 4 _ rfl; (with_reducible repeat (first | refine blk_drewN ?_ _ | refine blk_drew ?_ | refine blk_alloc ?_ _)); refine blk_put (cs := #[.int .i64 0, .string (⟨#[]⟩ : ByteArray), .string (⟨#[]⟩ : ByteArray), .int .i64 x102003_6, .string x102004_6]) ?_ 3 _ rfl; (with_reducible repeat (first | refine blk_drewN ?_ _ | refine blk_drew ?_ | refine blk_alloc ?_ _)); refine blk_put (cs := #[.int .i64 0, .string (⟨#[]⟩ : ByteArray), .string x102002_6, .int .i64 x102003_6, .string x102004_6]) ?_ 2 _ rfl; (with_reducible repeat (first | refine blk_drewN ?_ _ | refine blk_drew ?_ | refine blk_alloc ?_ _)); refine blk_put (cs := #[.int .i64 0, .string x102001_6, .string x102002_6, .int .i64 x102003_6, .string x102004_6]) ?_ 1 _ rfl; (with_reducible repeat (first | refine blk_drewN ?_ _ | refine blk_drew ?_ | refine blk_alloc ?_ _)); refine blk_put (cs := #[.int .i64 x102000_6, .string x102001_6, .string x102002_6, .int .i64 x102003_6, .string x102004_6]) ?_ 0 _ rfl; (with_reducible repeat (first | refine blk_drewN ?_ _ | refine blk_drew ?_ | refine blk_alloc ?_ _)); exact BK101.out) Tryd.underlying24 rfl (by kernel_rfl)) rfl ?_
                  exact ⟨by first | rfl | (simp [errW_none, errW_some] <;> rfl) | (simp [*, errW_none, errW_some] <;> rfl), by repeat (first | (with_reducible first | exact HB.out | apply below_alloc | apply pw_below_drewN | apply below_drew1 | refine below_set ?_ GE101.out | refine below_set ?_ GE103.out) | exact HB.out)⟩
       ·
        rw [if_neg c16] at H
        exact absurd H (by simp)
      ·
       rw [if_neg c15] at H
       exact absurd H (by simp)

end Go.Proofs.YthoknobkkpefkaaDoor.PRef
