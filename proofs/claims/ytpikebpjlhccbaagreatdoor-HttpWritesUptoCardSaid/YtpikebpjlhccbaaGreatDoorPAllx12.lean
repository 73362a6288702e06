-- Laid by a program of this session (wip/pp in the repo) out of the translation. Lean checks it.
import Derived.Test.YtpikebpjlhccbaaGreatDoorShort
import Derived.Test.YtpikebpjlhccbaaGreatDoorPAllx0
import Derived.Test.YtpikebpjlhccbaaGreatDoorPAllx8
import Derived.Test.YtpikebpjlhccbaaGreatDoorPAllx9
import Derived.Test.YtpikebpjlhccbaaGreatDoorPAllx10
import Derived.Test.YtpikebpjlhccbaaGreatDoorPAllx11
namespace Go.Proofs.YtpikebpjlhccbaaGreatDoor.PAll
open Go.RowKit Go.Proofs.YtpikebpjlhccbaaGreatDoorW.PrintWords Go.Proofs.YtpikebpjlhccbaaGreatDoorW.PrintLast Go.Proofs.YtpikebpjlhccbaaGreatDoorW.PrintMore
attribute [local go_sem] max2_int min2_int max_two min_two max_three min_three max_four min_four   -- for this text's walks alone
set_option linter.unusedVariables false
set_option linter.unusedSimpArgs false

/-! ### pennantref22_Read: function 23 -/
mutual
def pennantref22_Read.j1 : Nat → ByteArray → Bool → Int → Option (ByteArray × (List (S79)) × ByteArray × Int × Int)
 | 0, _, _, _ => none
 | k + 1, x0, x1, x6 => if (wrap64 (x6 + 4)) > (x0.size : Int) then (if (x0.size : Int) > 4096 then (pennantref22_Read.j2 k x0 x1 x6 (decide ((wrap64 (x6 + 4)) > (x0.size : Int))) true) else (if ((wrap64 (x6 + 4)) > (x0.size : Int)) then (pennantref22_Read.j2 k x0 x1 x6 (decide ((wrap64 (x6 + 4)) > (x0.size : Int))) false) else (pennantref22_Read.j2 k x0 x1 x6 (decide ((wrap64 (x6 + 4)) > (x0.size : Int))) (decide ((wrap64 (x6 + 4)) > 4096))))) else (if ((wrap64 (x6 + 4)) > (x0.size : Int)) then (pennantref22_Read.j2 k x0 x1 x6 (decide ((wrap64 (x6 + 4)) > (x0.size : Int))) false) else (pennantref22_Read.j2 k x0 x1 x6 (decide ((wrap64 (x6 + 4)) > (x0.size : Int))) (decide ((wrap64 (x6 + 4)) > 4096))))
def pennantref22_Read.j2 : Nat → ByteArray → Bool → Int → Bool → Bool → Option (ByteArray × (List (S79)) × ByteArray × Int × Int)
 | 0, _, _, _, _, _ => none
 | k + 1, x0, x1, x6, x7, x56 => if x56 = true then (some ((⟨#[]⟩ : ByteArray), ([] : List (S79)), (⟨#[]⟩ : ByteArray), 0, 2)) else (if x7 = true then (some ((⟨#[]⟩ : ByteArray), ([] : List (S79)), (⟨#[]⟩ : ByteArray), 0, 3)) else (if 0 ≤ x6 then (if x6 ≤ (x0.size : Int) then ((pennantref22_Split.f k (x0.extract 0 (x6 : Int).toNat) (⟨#[13, 10]⟩ : ByteArray)).bind fun t178 => (if 0 < (t178.length : Int) then ((pennantref22_Request.f k (rdOf ByteArray.empty t178 0)).bind fun bt184 => (if x1 = true then (if bt184.2.2 = true then (pennantref22_Read.j3 k x0 x1 t178 false (rdOf ByteArray.empty t178 0) (⟨#[]⟩ : ByteArray) (wrap64 (x6 + 4))) else (pennantref22_Read.j3 k x0 x1 t178 true (rdOf ByteArray.empty t178 0) (⟨#[]⟩ : ByteArray) (wrap64 (x6 + 4)))) else ((pennantref22_Status.f k (rdOf ByteArray.empty t178 0)).bind fun t188 => (pennantref22_Read.j3 k x0 x1 t178 (decide (t188 < 0)) (rdOf ByteArray.empty t178 0) (⟨#[]⟩ : ByteArray) (wrap64 (x6 + 4)))))) else (none))) else (none)) else (none)))
def pennantref22_Read.j3 : Nat → ByteArray → Bool → List ByteArray → Bool → ByteArray → ByteArray → Int → Option (ByteArray × (List (S79)) × ByteArray × Int × Int)
 | 0, _, _, _, _, _, _, _ => none
 | k + 1, x0, x1, x8, x93, x183000, x183002, x183003 => if x93 = true then (some ((⟨#[]⟩ : ByteArray), ([] : List (S79)), (⟨#[]⟩ : ByteArray), 0, 220)) else (pennantref22_Read.l1 k x0 x1 x8 1 x183000 ([] : List (S79)) x183002 x183003)
def pennantref22_Read.l1 : Nat → ByteArray → Bool → List ByteArray → Int → ByteArray → List (S79) → ByteArray → Int → Option (ByteArray × (List (S79)) × ByteArray × Int × Int)
 | 0, _, _, _, _, _, _, _, _ => none
 | k + 1, x0, x1, x8, x13, x183000, x183001, x183002, x183003 => if x13 < (x8.length : Int) then (pennantref22_Read.l2 k x0 x1 x8 x13 0 x183000 x183001 x183002 x183003) else ((pennantref22_Message_Count.f k x183000 x183001 x183002 x183003 (⟨#[99, 111, 110, 116, 101, 110, 116, 45, 108, 101, 110, 103, 116, 104]⟩ : ByteArray)).bind fun bt203 => ((pennantref22_Message_Count.f k x183000 x183001 x183002 x183003 (⟨#[104, 111, 115, 116]⟩ : ByteArray)).bind fun bt205 => (if bt203.1 > 1 then (pennantref22_Read.j8 k x0 bt203.1 bt203.2 true x183000 x183001 x183002 x183003) else (if x1 = true then (pennantref22_Read.j8 k x0 bt203.1 bt203.2 (bt205.1 != 1) x183000 x183001 x183002 x183003) else (pennantref22_Read.j8 k x0 bt203.1 bt203.2 false x183000 x183001 x183002 x183003)))))
def pennantref22_Read.j6 : Nat → ByteArray → Bool → List ByteArray → Int → Int → ByteArray → List (S79) → ByteArray → Int → Option (ByteArray × (List (S79)) × ByteArray × Int × Int)
 | 0, _, _, _, _, _, _, _, _, _ => none
 | k + 1, x0, x1, x8, x13, x14, x183000, x183001, x183002, x183003 => if 0 ≤ x13 then (if x13 < (x8.length : Int) then (if x14 = ((rdOf ByteArray.empty x8 x13).size : Int) then (pennantref22_Read.j7 k x0 x1 x8 x13 x14 true x183000 x183001 x183002 x183003) else (if 0 ≤ x14 then (if x14 ≤ ((rdOf ByteArray.empty x8 x13).size : Int) then ((pennantref22_Token.f k ((rdOf ByteArray.empty x8 x13).extract 0 (x14 : Int).toNat)).bind fun t193 => (if t193 = true then (if 0 ≤ (wrap64 (x14 + 1)) then (if (wrap64 (x14 + 1)) ≤ ((rdOf ByteArray.empty x8 x13).size : Int) then ((pennantref22_Text.f k ((rdOf ByteArray.empty x8 x13).extract ((wrap64 (x14 + 1)) : Int).toNat (rdOf ByteArray.empty x8 x13).size)).bind fun t195 => (pennantref22_Read.j7 k x0 x1 x8 x13 x14 (!t195) x183000 x183001 x183002 x183003)) else (none)) else (none)) else (pennantref22_Read.j7 k x0 x1 x8 x13 x14 true x183000 x183001 x183002 x183003))) else (none)) else (none))) else (none)) else (none)
def pennantref22_Read.j7 : Nat → ByteArray → Bool → List ByteArray → Int → Int → Bool → ByteArray → List (S79) → ByteArray → Int → Option (ByteArray × (List (S79)) × ByteArray × Int × Int)
 | 0, _, _, _, _, _, _, _, _, _, _ => none
 | k + 1, x0, x1, x8, x13, x14, x146, x183000, x183001, x183002, x183003 => if x146 = true then (some ((⟨#[]⟩ : ByteArray), ([] : List (S79)), (⟨#[]⟩ : ByteArray), 0, 220)) else (if 0 ≤ x13 then (if x13 < (x8.length : Int) then (if 0 ≤ x14 then (if x14 ≤ ((rdOf ByteArray.empty x8 x13).size : Int) then ((pennantref22_Small.f k ((rdOf ByteArray.empty x8 x13).extract 0 (x14 : Int).toNat)).bind fun t197 => (if 0 ≤ (wrap64 (x14 + 1)) then (if (wrap64 (x14 + 1)) ≤ ((rdOf ByteArray.empty x8 x13).size : Int) then ((pennantref22_blankless.f k ((rdOf ByteArray.empty x8 x13).extract ((wrap64 (x14 + 1)) : Int).toNat (rdOf ByteArray.empty x8 x13).size)).bind fun t199 => (if x183001.length < 4398046511104 then (pennantref22_Read.l1 k x0 x1 x8 (wrap64 (x13 + 1)) x183000 (x183001 ++ [(⟨t197, t199⟩ : S79)]) x183002 x183003) else (none))) else (none)) else (none))) else (none)) else (none)) else (none)) else (none))
def pennantref22_Read.l2 : Nat → ByteArray → Bool → List ByteArray → Int → Int → ByteArray → List (S79) → ByteArray → Int → Option (ByteArray × (List (S79)) × ByteArray × Int × Int)
 | 0, _, _, _, _, _, _, _, _, _ => none
 | k + 1, x0, x1, x8, x13, x14, x183000, x183001, x183002, x183003 => if 0 ≤ x13 then (if x13 < (x8.length : Int) then (if x14 < ((rdOf ByteArray.empty x8 x13).size : Int) then (if 0 ≤ x14 then (if (bt (rdOf ByteArray.empty x8 x13) x14) = 58 then (pennantref22_Read.j6 k x0 x1 x8 x13 x14 x183000 x183001 x183002 x183003) else (pennantref22_Read.l2 k x0 x1 x8 x13 (wrap64 (x14 + 1)) x183000 x183001 x183002 x183003)) else (none)) else (pennantref22_Read.j6 k x0 x1 x8 x13 x14 x183000 x183001 x183002 x183003)) else (none)) else (none)
def pennantref22_Read.j8 : Nat → ByteArray → Int → ByteArray → Bool → ByteArray → List (S79) → ByteArray → Int → Option (ByteArray × (List (S79)) × ByteArray × Int × Int)
 | 0, _, _, _, _, _, _, _, _ => none
 | k + 1, x0, x15, x16, x187, x183000, x183001, x183002, x183003 => if x187 = true then (some ((⟨#[]⟩ : ByteArray), ([] : List (S79)), (⟨#[]⟩ : ByteArray), 0, 220)) else ((pennantref22_Message_Count.f k x183000 x183001 x183002 x183003 (⟨#[116, 114, 97, 110, 115, 102, 101, 114, 45, 101, 110, 99, 111, 100, 105, 110, 103]⟩ : ByteArray)).bind fun bt207 => (if x15 = 1 then ((pennantref22_Digits.f k x16).bind fun t209 => (pennantref22_Read.j9 k x0 bt207.1 t209 x183000 x183001 x183002 x183003)) else (pennantref22_Read.j9 k x0 bt207.1 0 x183000 x183001 x183002 x183003)))
def pennantref22_Read.j9 : Nat → ByteArray → Int → Int → ByteArray → List (S79) → ByteArray → Int → Option (ByteArray × (List (S79)) × ByteArray × Int × Int)
 | 0, _, _, _, _, _, _, _ => none
 | k + 1, x0, x19, x21, x183000, x183001, x183002, x183003 => if x19 > 0 then (pennantref22_Read.j10 k x0 x21 true x183000 x183001 x183002 x183003) else (if x21 < 0 then (pennantref22_Read.j10 k x0 x21 true x183000 x183001 x183002 x183003) else (pennantref22_Read.j10 k x0 x21 (decide (x21 > 4096)) x183000 x183001 x183002 x183003))
def pennantref22_Read.j10 : Nat → ByteArray → Int → Bool → ByteArray → List (S79) → ByteArray → Int → Option (ByteArray × (List (S79)) × ByteArray × Int × Int)
 | 0, _, _, _, _, _, _, _ => none
 | k + 1, x0, x21, x207, x183000, x183001, x183002, x183003 => if x207 = true then (some ((⟨#[]⟩ : ByteArray), ([] : List (S79)), (⟨#[]⟩ : ByteArray), 0, 222)) else (if (x0.size : Int) < (wrap64 (x183003 + x21)) then (some ((⟨#[]⟩ : ByteArray), ([] : List (S79)), (⟨#[]⟩ : ByteArray), 0, 3)) else (if 0 ≤ x183003 then (if x183003 ≤ (wrap64 (x183003 + x21)) then (if (wrap64 (x183003 + x21)) ≤ (x0.size : Int) then (some (x183000, x183001, x0.extract (x183003 : Int).toNat ((wrap64 (x183003 + x21)) : Int).toNat, wrap64 (x183003 + x21), 0)) else (none)) else (none)) else (none)))
def pennantref22_Read.l0 : Nat → ByteArray → Bool → Int → Option (ByteArray × (List (S79)) × ByteArray × Int × Int)
 | 0, _, _, _ => none
 | k + 1, x0, x1, x6 => if (wrap64 (x6 + 4)) ≤ (x0.size : Int) then (if 0 ≤ x6 then (if x6 ≤ (wrap64 (x6 + 4)) then (if (x0.extract (x6 : Int).toNat ((wrap64 (x6 + 4)) : Int).toNat).toList = ([13, 10, 13, 10] : List UInt8) then (pennantref22_Read.j1 k x0 x1 x6) else (pennantref22_Read.l0 k x0 x1 (wrap64 (x6 + 1)))) else (none)) else (none)) else (pennantref22_Read.j1 k x0 x1 x6)
end
def pennantref22_Read.f (k : Nat) (a0 : ByteArray) (a1 : Bool) : Option (ByteArray × (List (S79)) × ByteArray × Int × Int) := pennantref22_Read.l0 k a0 a1 0
theorem pennantref22_Read.mono_l : ∀ k, (∀ y0 y1 y2, LeO (pennantref22_Read.j1 k y0 y1 y2) (pennantref22_Read.j1 (k + 1) y0 y1 y2)) ∧ (∀ y0 y1 y2 y3 y4, LeO (pennantref22_Read.j2 k y0 y1 y2 y3 y4) (pennantref22_Read.j2 (k + 1) y0 y1 y2 y3 y4)) ∧ (∀ y0 y1 y2 y3 y4 y5 y6, LeO (pennantref22_Read.j3 k y0 y1 y2 y3 y4 y5 y6) (pennantref22_Read.j3 (k + 1) y0 y1 y2 y3 y4 y5 y6)) ∧ (∀ y0 y1 y2 y3 y4 y5 y6 y7, LeO (pennantref22_Read.l1 k y0 y1 y2 y3 y4 y5 y6 y7) (pennantref22_Read.l1 (k + 1) y0 y1 y2 y3 y4 y5 y6 y7)) ∧ (∀ y0 y1 y2 y3 y4 y5 y6 y7 y8, LeO (pennantref22_Read.j6 k y0 y1 y2 y3 y4 y5 y6 y7 y8) (pennantref22_Read.j6 (k + 1) y0 y1 y2 y3 y4 y5 y6 y7 y8)) ∧ (∀ y0 y1 y2 y3 y4 y5 y6 y7 y8 y9, LeO (pennantref22_Read.j7 k y0 y1 y2 y3 y4 y5 y6 y7 y8 y9) (pennantref22_Read.j7 (k + 1) y0 y1 y2 y3 y4 y5 y6 y7 y8 y9)) ∧ (∀ y0 y1 y2 y3 y4 y5 y6 y7 y8, LeO (pennantref22_Read.l2 k y0 y1 y2 y3 y4 y5 y6 y7 y8) (pennantref22_Read.l2 (k + 1) y0 y1 y2 y3 y4 y5 y6 y7 y8)) ∧ (∀ y0 y1 y2 y3 y4 y5 y6 y7, LeO (pennantref22_Read.j8 k y0 y1 y2 y3 y4 y5 y6 y7) (pennantref22_Read.j8 (k + 1) y0 y1 y2 y3 y4 y5 y6 y7)) ∧ (∀ y0 y1 y2 y3 y4 y5 y6, LeO (pennantref22_Read.j9 k y0 y1 y2 y3 y4 y5 y6) (pennantref22_Read.j9 (k + 1) y0 y1 y2 y3 y4 y5 y6)) ∧ (∀ y0 y1 y2 y3 y4 y5 y6, LeO (pennantref22_Read.j10 k y0 y1 y2 y3 y4 y5 y6) (pennantref22_Read.j10 (k + 1) y0 y1 y2 y3 y4 y5 y6)) ∧ (∀ y0 y1 y2, LeO (pennantref22_Read.l0 k y0 y1 y2) (pennantref22_Read.l0 (k + 1) y0 y1 y2))
 | 0 => ⟨fun _ _ _ r h => by simp [pennantref22_Read.j1] at h, fun _ _ _ _ _ r h => by simp [pennantref22_Read.j2] at h, fun _ _ _ _ _ _ _ r h => by simp [pennantref22_Read.j3] at h, fun _ _ _ _ _ _ _ _ r h => by simp [pennantref22_Read.l1] at h, fun _ _ _ _ _ _ _ _ _ r h => by simp [pennantref22_Read.j6] at h, fun _ _ _ _ _ _ _ _ _ _ r h => by simp [pennantref22_Read.j7] at h, fun _ _ _ _ _ _ _ _ _ r h => by simp [pennantref22_Read.l2] at h, fun _ _ _ _ _ _ _ _ r h => by simp [pennantref22_Read.j8] at h, fun _ _ _ _ _ _ _ r h => by simp [pennantref22_Read.j9] at h, fun _ _ _ _ _ _ _ r h => by simp [pennantref22_Read.j10] at h, fun _ _ _ r h => by simp [pennantref22_Read.l0] at h⟩
 | k + 1 => by
  obtain ⟨ih0, ih1, ih2, ih3, ih4, ih5, ih6, ih7, ih8, ih9, ih10⟩ := pennantref22_Read.mono_l k
  refine ⟨?_, ?_, ?_, ?_, ?_, ?_, ?_, ?_, ?_, ?_, ?_⟩
  ·
   intro y0 y1 y2
   unfold pennantref22_Read.j1
   repeat' first
   | (with_reducible exact ih0 _ _ _)
   | (with_reducible exact ih1 _ _ _ _ _)
   | (with_reducible exact ih2 _ _ _ _ _ _ _)
   | (with_reducible exact ih3 _ _ _ _ _ _ _ _)
   | (with_reducible exact ih4 _ _ _ _ _ _ _ _ _)
   | (with_reducible exact ih5 _ _ _ _ _ _ _ _ _ _)
   | (with_reducible exact ih6 _ _ _ _ _ _ _ _ _)
   | (with_reducible exact ih7 _ _ _ _ _ _ _ _)
   | (with_reducible exact ih8 _ _ _ _ _ _ _)
   | (with_reducible exact ih9 _ _ _ _ _ _ _)
   | (with_reducible exact ih10 _ _ _)
   | (with_reducible exact pennantref22_Digits.mono _ _)
   | (with_reducible exact pennantref22_Message_Count.mono _ _ _ _ _ _)
   | (with_reducible exact pennantref22_Request.mono _ _)
   | (with_reducible exact pennantref22_Small.mono _ _)
   | (with_reducible exact pennantref22_Split.mono _ _ _)
   | (with_reducible exact pennantref22_Status.mono _ _)
   | (with_reducible exact pennantref22_Text.mono _ _)
   | (with_reducible exact pennantref22_Token.mono _ _)
   | (with_reducible exact pennantref22_blankless.mono _ _)
   | (with_reducible exact LeO.refl _)
   | (with_reducible exact LeO.none _)
   | (with_reducible refine LeO.ite ?_ ?_)
   | (with_reducible refine LeO.bind ?_ (fun _ => ?_))
   | exact ih0 _ _ _
   | exact ih1 _ _ _ _ _
   | exact ih2 _ _ _ _ _ _ _
   | exact ih3 _ _ _ _ _ _ _ _
   | exact ih4 _ _ _ _ _ _ _ _ _
   | exact ih5 _ _ _ _ _ _ _ _ _ _
   | exact ih6 _ _ _ _ _ _ _ _ _
   | exact ih7 _ _ _ _ _ _ _ _
   | exact ih8 _ _ _ _ _ _ _
   | exact ih9 _ _ _ _ _ _ _
   | exact ih10 _ _ _
   | exact pennantref22_Digits.mono _ _
   | exact pennantref22_Message_Count.mono _ _ _ _ _ _
   | exact pennantref22_Request.mono _ _
   | exact pennantref22_Small.mono _ _
   | exact pennantref22_Split.mono _ _ _
   | exact pennantref22_Status.mono _ _
   | exact pennantref22_Text.mono _ _
   | exact pennantref22_Token.mono _ _
   | exact pennantref22_blankless.mono _ _
   | exact LeO.none _
   | refine LeO.ite ?_ ?_
   | refine LeO.bind ?_ (fun _ => ?_)
  ·
   intro y0 y1 y2 y3 y4
   unfold pennantref22_Read.j2
   repeat' first
   | (with_reducible exact ih0 _ _ _)
   | (with_reducible exact ih1 _ _ _ _ _)
   | (with_reducible exact ih2 _ _ _ _ _ _ _)
   | (with_reducible exact ih3 _ _ _ _ _ _ _ _)
   | (with_reducible exact ih4 _ _ _ _ _ _ _ _ _)
   | (with_reducible exact ih5 _ _ _ _ _ _ _ _ _ _)
   | (with_reducible exact ih6 _ _ _ _ _ _ _ _ _)
   | (with_reducible exact ih7 _ _ _ _ _ _ _ _)
   | (with_reducible exact ih8 _ _ _ _ _ _ _)
   | (with_reducible exact ih9 _ _ _ _ _ _ _)
   | (with_reducible exact ih10 _ _ _)
   | (with_reducible exact pennantref22_Digits.mono _ _)
   | (with_reducible exact pennantref22_Message_Count.mono _ _ _ _ _ _)
   | (with_reducible exact pennantref22_Request.mono _ _)
   | (with_reducible exact pennantref22_Small.mono _ _)
   | (with_reducible exact pennantref22_Split.mono _ _ _)
   | (with_reducible exact pennantref22_Status.mono _ _)
   | (with_reducible exact pennantref22_Text.mono _ _)
   | (with_reducible exact pennantref22_Token.mono _ _)
   | (with_reducible exact pennantref22_blankless.mono _ _)
   | (with_reducible exact LeO.refl _)
   | (with_reducible exact LeO.none _)
   | (with_reducible refine LeO.ite ?_ ?_)
   | (with_reducible refine LeO.bind ?_ (fun _ => ?_))
   | exact ih0 _ _ _
   | exact ih1 _ _ _ _ _
   | exact ih2 _ _ _ _ _ _ _
   | exact ih3 _ _ _ _ _ _ _ _
   | exact ih4 _ _ _ _ _ _ _ _ _
   | exact ih5 _ _ _ _ _ _ _ _ _ _
   | exact ih6 _ _ _ _ _ _ _ _ _
   | exact ih7 _ _ _ _ _ _ _ _
   | exact ih8 _ _ _ _ _ _ _
   | exact ih9 _ _ _ _ _ _ _
   | exact ih10 _ _ _
   | exact pennantref22_Digits.mono _ _
   | exact pennantref22_Message_Count.mono _ _ _ _ _ _
   | exact pennantref22_Request.mono _ _
   | exact pennantref22_Small.mono _ _
   | exact pennantref22_Split.mono _ _ _
   | exact pennantref22_Status.mono _ _
   | exact pennantref22_Text.mono _ _
   | exact pennantref22_Token.mono _ _
   | exact pennantref22_blankless.mono _ _
   | exact LeO.none _
   | refine LeO.ite ?_ ?_
   | refine LeO.bind ?_ (fun _ => ?_)
  ·
   intro y0 y1 y2 y3 y4 y5 y6
   unfold pennantref22_Read.j3
   repeat' first
   | (with_reducible exact ih0 _ _ _)
   | (with_reducible exact ih1 _ _ _ _ _)
   | (with_reducible exact ih2 _ _ _ _ _ _ _)
   | (with_reducible exact ih3 _ _ _ _ _ _ _ _)
   | (with_reducible exact ih4 _ _ _ _ _ _ _ _ _)
   | (with_reducible exact ih5 _ _ _ _ _ _ _ _ _ _)
   | (with_reducible exact ih6 _ _ _ _ _ _ _ _ _)
   | (with_reducible exact ih7 _ _ _ _ _ _ _ _)
   | (with_reducible exact ih8 _ _ _ _ _ _ _)
   | (with_reducible exact ih9 _ _ _ _ _ _ _)
   | (with_reducible exact ih10 _ _ _)
   | (with_reducible exact pennantref22_Digits.mono _ _)
   | (with_reducible exact pennantref22_Message_Count.mono _ _ _ _ _ _)
   | (with_reducible exact pennantref22_Request.mono _ _)
   | (with_reducible exact pennantref22_Small.mono _ _)
   | (with_reducible exact pennantref22_Split.mono _ _ _)
   | (with_reducible exact pennantref22_Status.mono _ _)
   | (with_reducible exact pennantref22_Text.mono _ _)
   | (with_reducible exact pennantref22_Token.mono _ _)
   | (with_reducible exact pennantref22_blankless.mono _ _)
   | (with_reducible exact LeO.refl _)
   | (with_reducible exact LeO.none _)
   | (with_reducible refine LeO.ite ?_ ?_)
   | (with_reducible refine LeO.bind ?_ (fun _ => ?_))
   | exact ih0 _ _ _
   | exact ih1 _ _ _ _ _
   | exact ih2 _ _ _ _ _ _ _
   | exact ih3 _ _ _ _ _ _ _ _
   | exact ih4 _ _ _ _ _ _ _ _ _
   | exact ih5 _ _ _ _ _ _ _ _ _ _
   | exact ih6 _ _ _ _ _ _ _ _ _
   | exact ih7 _ _ _ _ _ _ _ _
   | exact ih8 _ _ _ _ _ _ _
   | exact ih9 _ _ _ _ _ _ _
   | exact ih10 _ _ _
   | exact pennantref22_Digits.mono _ _
   | exact pennantref22_Message_Count.mono _ _ _ _ _ _
   | exact pennantref22_Request.mono _ _
   | exact pennantref22_Small.mono _ _
   | exact pennantref22_Split.mono _ _ _
   | exact pennantref22_Status.mono _ _
   | exact pennantref22_Text.mono _ _
   | exact pennantref22_Token.mono _ _
   | exact pennantref22_blankless.mono _ _
   | exact LeO.none _
   | refine LeO.ite ?_ ?_
   | refine LeO.bind ?_ (fun _ => ?_)
  ·
   intro y0 y1 y2 y3 y4 y5 y6 y7
   unfold pennantref22_Read.l1
   repeat' first
   | (with_reducible exact ih0 _ _ _)
   | (with_reducible exact ih1 _ _ _ _ _)
   | (with_reducible exact ih2 _ _ _ _ _ _ _)
   | (with_reducible exact ih3 _ _ _ _ _ _ _ _)
   | (with_reducible exact ih4 _ _ _ _ _ _ _ _ _)
   | (with_reducible exact ih5 _ _ _ _ _ _ _ _ _ _)
   | (with_reducible exact ih6 _ _ _ _ _ _ _ _ _)
   | (with_reducible exact ih7 _ _ _ _ _ _ _ _)
   | (with_reducible exact ih8 _ _ _ _ _ _ _)
   | (with_reducible exact ih9 _ _ _ _ _ _ _)
   | (with_reducible exact ih10 _ _ _)
   | (with_reducible exact pennantref22_Digits.mono _ _)
   | (with_reducible exact pennantref22_Message_Count.mono _ _ _ _ _ _)
   | (with_reducible exact pennantref22_Request.mono _ _)
   | (with_reducible exact pennantref22_Small.mono _ _)
   | (with_reducible exact pennantref22_Split.mono _ _ _)
   | (with_reducible exact pennantref22_Status.mono _ _)
   | (with_reducible exact pennantref22_Text.mono _ _)
   | (with_reducible exact pennantref22_Token.mono _ _)
   | (with_reducible exact pennantref22_blankless.mono _ _)
   | (with_reducible exact LeO.refl _)
   | (with_reducible exact LeO.none _)
   | (with_reducible refine LeO.ite ?_ ?_)
   | (with_reducible refine LeO.bind ?_ (fun _ => ?_))
   | exact ih0 _ _ _
   | exact ih1 _ _ _ _ _
   | exact ih2 _ _ _ _ _ _ _
   | exact ih3 _ _ _ _ _ _ _ _
   | exact ih4 _ _ _ _ _ _ _ _ _
   | exact ih5 _ _ _ _ _ _ _ _ _ _
   | exact ih6 _ _ _ _ _ _ _ _ _
   | exact ih7 _ _ _ _ _ _ _ _
   | exact ih8 _ _ _ _ _ _ _
   | exact ih9 _ _ _ _ _ _ _
   | exact ih10 _ _ _
   | exact pennantref22_Digits.mono _ _
   | exact pennantref22_Message_Count.mono _ _ _ _ _ _
   | exact pennantref22_Request.mono _ _
   | exact pennantref22_Small.mono _ _
   | exact pennantref22_Split.mono _ _ _
   | exact pennantref22_Status.mono _ _
   | exact pennantref22_Text.mono _ _
   | exact pennantref22_Token.mono _ _
   | exact pennantref22_blankless.mono _ _
   | exact LeO.none _
   | refine LeO.ite ?_ ?_
   | refine LeO.bind ?_ (fun _ => ?_)
  ·
   intro y0 y1 y2 y3 y4 y5 y6 y7 y8
   unfold pennantref22_Read.j6
   repeat' first
   | (with_reducible exact ih0 _ _ _)
   | (with_reducible exact ih1 _ _ _ _ _)
   | (with_reducible exact ih2 _ _ _ _ _ _ _)
   | (with_reducible exact ih3 _ _ _ _ _ _ _ _)
   | (with_reducible exact ih4 _ _ _ _ _ _ _ _ _)
   | (with_reducible exact ih5 _ _ _ _ _ _ _ _ _ _)
   | (with_reducible exact ih6 _ _ _ _ _ _ _ _ _)
   | (with_reducible exact ih7 _ _ _ _ _ _ _ _)
   | (with_reducible exact ih8 _ _ _ _ _ _ _)
   | (with_reducible exact ih9 _ _ _ _ _ _ _)
   | (with_reducible exact ih10 _ _ _)
   | (with_reducible exact pennantref22_Digits.mono _ _)
   | (with_reducible exact pennantref22_Message_Count.mono _ _ _ _ _ _)
   | (with_reducible exact pennantref22_Request.mono _ _)
   | (with_reducible exact pennantref22_Small.mono _ _)
   | (with_reducible exact pennantref22_Split.mono _ _ _)
   | (with_reducible exact pennantref22_Status.mono _ _)
   | (with_reducible exact pennantref22_Text.mono _ _)
   | (with_reducible exact pennantref22_Token.mono _ _)
   | (with_reducible exact pennantref22_blankless.mono _ _)
   | (with_reducible exact LeO.refl _)
   | (with_reducible exact LeO.none _)
   | (with_reducible refine LeO.ite ?_ ?_)
   | (with_reducible refine LeO.bind ?_ (fun _ => ?_))
   | exact ih0 _ _ _
   | exact ih1 _ _ _ _ _
   | exact ih2 _ _ _ _ _ _ _
   | exact ih3 _ _ _ _ _ _ _ _
   | exact ih4 _ _ _ _ _ _ _ _ _
   | exact ih5 _ _ _ _ _ _ _ _ _ _
   | exact ih6 _ _ _ _ _ _ _ _ _
   | exact ih7 _ _ _ _ _ _ _ _
   | exact ih8 _ _ _ _ _ _ _
   | exact ih9 _ _ _ _ _ _ _
   | exact ih10 _ _ _
   | exact pennantref22_Digits.mono _ _
   | exact pennantref22_Message_Count.mono _ _ _ _ _ _
   | exact pennantref22_Request.mono _ _
   | exact pennantref22_Small.mono _ _
   | exact pennantref22_Split.mono _ _ _
   | exact pennantref22_Status.mono _ _
   | exact pennantref22_Text.mono _ _
   | exact pennantref22_Token.mono _ _
   | exact pennantref22_blankless.mono _ _
   | exact LeO.none _
   | refine LeO.ite ?_ ?_
   | refine LeO.bind ?_ (fun _ => ?_)
  ·
   intro y0 y1 y2 y3 y4 y5 y6 y7 y8 y9
   unfold pennantref22_Read.j7
   repeat' first
   | (with_reducible exact ih0 _ _ _)
   | (with_reducible exact ih1 _ _ _ _ _)
   | (with_reducible exact ih2 _ _ _ _ _ _ _)
   | (with_reducible exact ih3 _ _ _ _ _ _ _ _)
   | (with_reducible exact ih4 _ _ _ _ _ _ _ _ _)
   | (with_reducible exact ih5 _ _ _ _ _ _ _ _ _ _)
   | (with_reducible exact ih6 _ _ _ _ _ _ _ _ _)
   | (with_reducible exact ih7 _ _ _ _ _ _ _ _)
   | (with_reducible exact ih8 _ _ _ _ _ _ _)
   | (with_reducible exact ih9 _ _ _ _ _ _ _)
   | (with_reducible exact ih10 _ _ _)
   | (with_reducible exact pennantref22_Digits.mono _ _)
   | (with_reducible exact pennantref22_Message_Count.mono _ _ _ _ _ _)
   | (with_reducible exact pennantref22_Request.mono _ _)
   | (with_reducible exact pennantref22_Small.mono _ _)
   | (with_reducible exact pennantref22_Split.mono _ _ _)
   | (with_reducible exact pennantref22_Status.mono _ _)
   | (with_reducible exact pennantref22_Text.mono _ _)
   | (with_reducible exact pennantref22_Token.mono _ _)
   | (with_reducible exact pennantref22_blankless.mono _ _)
   | (with_reducible exact LeO.refl _)
   | (with_reducible exact LeO.none _)
   | (with_reducible refine LeO.ite ?_ ?_)
   | (with_reducible refine LeO.bind ?_ (fun _ => ?_))
   | exact ih0 _ _ _
   | exact ih1 _ _ _ _ _
   | exact ih2 _ _ _ _ _ _ _
   | exact ih3 _ _ _ _ _ _ _ _
   | exact ih4 _ _ _ _ _ _ _ _ _
   | exact ih5 _ _ _ _ _ _ _ _ _ _
   | exact ih6 _ _ _ _ _ _ _ _ _
   | exact ih7 _ _ _ _ _ _ _ _
   | exact ih8 _ _ _ _ _ _ _
   | exact ih9 _ _ _ _ _ _ _
   | exact ih10 _ _ _
   | exact pennantref22_Digits.mono _ _
   | exact pennantref22_Message_Count.mono _ _ _ _ _ _
   | exact pennantref22_Request.mono _ _
   | exact pennantref22_Small.mono _ _
   | exact pennantref22_Split.mono _ _ _
   | exact pennantref22_Status.mono _ _
   | exact pennantref22_Text.mono _ _
   | exact pennantref22_Token.mono _ _
   | exact pennantref22_blankless.mono _ _
   | exact LeO.none _
   | refine LeO.ite ?_ ?_
   | refine LeO.bind ?_ (fun _ => ?_)
  ·
   intro y0 y1 y2 y3 y4 y5 y6 y7 y8
   unfold pennantref22_Read.l2
   repeat' first
   | (with_reducible exact ih0 _ _ _)
   | (with_reducible exact ih1 _ _ _ _ _)
   | (with_reducible exact ih2 _ _ _ _ _ _ _)
   | (with_reducible exact ih3 _ _ _ _ _ _ _ _)
   | (with_reducible exact ih4 _ _ _ _ _ _ _ _ _)
   | (with_reducible exact ih5 _ _ _ _ _ _ _ _ _ _)
   | (with_reducible exact ih6 _ _ _ _ _ _ _ _ _)
   | (with_reducible exact ih7 _ _ _ _ _ _ _ _)
   | (with_reducible exact ih8 _ _ _ _ _ _ _)
   | (with_reducible exact ih9 _ _ _ _ _ _ _)
   | (with_reducible exact ih10 _ _ _)
   | (with_reducible exact pennantref22_Digits.mono _ _)
   | (with_reducible exact pennantref22_Message_Count.mono _ _ _ _ _ _)
   | (with_reducible exact pennantref22_Request.mono _ _)
   | (with_reducible exact pennantref22_Small.mono _ _)
   | (with_reducible exact pennantref22_Split.mono _ _ _)
   | (with_reducible exact pennantref22_Status.mono _ _)
   | (with_reducible exact pennantref22_Text.mono _ _)
   | (with_reducible exact pennantref22_Token.mono _ _)
   | (with_reducible exact pennantref22_blankless.mono _ _)
   | (with_reducible exact LeO.refl _)
   | (with_reducible exact LeO.none _)
   | (with_reducible refine LeO.ite ?_ ?_)
   | (with_reducible refine LeO.bind ?_ (fun _ => ?_))
   | exact ih0 _ _ _
   | exact ih1 _ _ _ _ _
   | exact ih2 _ _ _ _ _ _ _
   | exact ih3 _ _ _ _ _ _ _ _
   | exact ih4 _ _ _ _ _ _ _ _ _
   | exact ih5 _ _ _ _ _ _ _ _ _ _
   | exact ih6 _ _ _ _ _ _ _ _ _
   | exact ih7 _ _ _ _ _ _ _ _
   | exact ih8 _ _ _ _ _ _ _
   | exact ih9 _ _ _ _ _ _ _
   | exact ih10 _ _ _
   | exact pennantref22_Digits.mono _ _
   | exact pennantref22_Message_Count.mono _ _ _ _ _ _
   | exact pennantref22_Request.mono _ _
   | exact pennantref22_Small.mono _ _
   | exact pennantref22_Split.mono _ _ _
   | exact pennantref22_Status.mono _ _
   | exact pennantref22_Text.mono _ _
   | exact pennantref22_Token.mono _ _
   | exact pennantref22_blankless.mono _ _
   | exact LeO.none _
   | refine LeO.ite ?_ ?_
   | refine LeO.bind ?_ (fun _ => ?_)
  ·
   intro y0 y1 y2 y3 y4 y5 y6 y7
   unfold pennantref22_Read.j8
   repeat' first
   | (with_reducible exact ih0 _ _ _)
   | (with_reducible exact ih1 _ _ _ _ _)
   | (with_reducible exact ih2 _ _ _ _ _ _ _)
   | (with_reducible exact ih3 _ _ _ _ _ _ _ _)
   | (with_reducible exact ih4 _ _ _ _ _ _ _ _ _)
   | (with_reducible exact ih5 _ _ _ _ _ _ _ _ _ _)
   | (with_reducible exact ih6 _ _ _ _ _ _ _ _ _)
   | (with_reducible exact ih7 _ _ _ _ _ _ _ _)
   | (with_reducible exact ih8 _ _ _ _ _ _ _)
   | (with_reducible exact ih9 _ _ _ _ _ _ _)
   | (with_reducible exact ih10 _ _ _)
   | (with_reducible exact pennantref22_Digits.mono _ _)
   | (with_reducible exact pennantref22_Message_Count.mono _ _ _ _ _ _)
   | (with_reducible exact pennantref22_Request.mono _ _)
   | (with_reducible exact pennantref22_Small.mono _ _)
   | (with_reducible exact pennantref22_Split.mono _ _ _)
   | (with_reducible exact pennantref22_Status.mono _ _)
   | (with_reducible exact pennantref22_Text.mono _ _)
   | (with_reducible exact pennantref22_Token.mono _ _)
   | (with_reducible exact pennantref22_blankless.mono _ _)
   | (with_reducible exact LeO.refl _)
   | (with_reducible exact LeO.none _)
   | (with_reducible refine LeO.ite ?_ ?_)
   | (with_reducible refine LeO.bind ?_ (fun _ => ?_))
   | exact ih0 _ _ _
   | exact ih1 _ _ _ _ _
   | exact ih2 _ _ _ _ _ _ _
   | exact ih3 _ _ _ _ _ _ _ _
   | exact ih4 _ _ _ _ _ _ _ _ _
   | exact ih5 _ _ _ _ _ _ _ _ _ _
   | exact ih6 _ _ _ _ _ _ _ _ _
   | exact ih7 _ _ _ _ _ _ _ _
   | exact ih8 _ _ _ _ _ _ _
   | exact ih9 _ _ _ _ _ _ _
   | exact ih10 _ _ _
   | exact pennantref22_Digits.mono _ _
   | exact pennantref22_Message_Count.mono _ _ _ _ _ _
   | exact pennantref22_Request.mono _ _
   | exact pennantref22_Small.mono _ _
   | exact pennantref22_Split.mono _ _ _
   | exact pennantref22_Status.mono _ _
   | exact pennantref22_Text.mono _ _
   | exact pennantref22_Token.mono _ _
   | exact pennantref22_blankless.mono _ _
   | exact LeO.none _
   | refine LeO.ite ?_ ?_
   | refine LeO.bind ?_ (fun _ => ?_)
  ·
   intro y0 y1 y2 y3 y4 y5 y6
   unfold pennantref22_Read.j9
   repeat' first
   | (with_reducible exact ih0 _ _ _)
   | (with_reducible exact ih1 _ _ _ _ _)
   | (with_reducible exact ih2 _ _ _ _ _ _ _)
   | (with_reducible exact ih3 _ _ _ _ _ _ _ _)
   | (with_reducible exact ih4 _ _ _ _ _ _ _ _ _)
   | (with_reducible exact ih5 _ _ _ _ _ _ _ _ _ _)
   | (with_reducible exact ih6 _ _ _ _ _ _ _ _ _)
   | (with_reducible exact ih7 _ _ _ _ _ _ _ _)
   | (with_reducible exact ih8 _ _ _ _ _ _ _)
   | (with_reducible exact ih9 _ _ _ _ _ _ _)
   | (with_reducible exact ih10 _ _ _)
   | (with_reducible exact pennantref22_Digits.mono _ _)
   | (with_reducible exact pennantref22_Message_Count.mono _ _ _ _ _ _)
   | (with_reducible exact pennantref22_Request.mono _ _)
   | (with_reducible exact pennantref22_Small.mono _ _)
   | (with_reducible exact pennantref22_Split.mono _ _ _)
   | (with_reducible exact pennantref22_Status.mono _ _)
   | (with_reducible exact pennantref22_Text.mono _ _)
   | (with_reducible exact pennantref22_Token.mono _ _)
   | (with_reducible exact pennantref22_blankless.mono _ _)
   | (with_reducible exact LeO.refl _)
   | (with_reducible exact LeO.none _)
   | (with_reducible refine LeO.ite ?_ ?_)
   | (with_reducible refine LeO.bind ?_ (fun _ => ?_))
   | exact ih0 _ _ _
   | exact ih1 _ _ _ _ _
   | exact ih2 _ _ _ _ _ _ _
   | exact ih3 _ _ _ _ _ _ _ _
   | exact ih4 _ _ _ _ _ _ _ _ _
   | exact ih5 _ _ _ _ _ _ _ _ _ _
   | exact ih6 _ _ _ _ _ _ _ _ _
   | exact ih7 _ _ _ _ _ _ _ _
   | exact ih8 _ _ _ _ _ _ _
   | exact ih9 _ _ _ _ _ _ _
   | exact ih10 _ _ _
   | exact pennantref22_Digits.mono _ _
   | exact pennantref22_Message_Count.mono _ _ _ _ _ _
   | exact pennantref22_Request.mono _ _
   | exact pennantref22_Small.mono _ _
   | exact pennantref22_Split.mono _ _ _
   | exact pennantref22_Status.mono _ _
   | exact pennantref22_Text.mono _ _
   | exact pennantref22_Token.mono _ _
   | exact pennantref22_blankless.mono _ _
   | exact LeO.none _
   | refine LeO.ite ?_ ?_
   | refine LeO.bind ?_ (fun _ => ?_)
  ·
   intro y0 y1 y2 y3 y4 y5 y6
   unfold pennantref22_Read.j10
   repeat' first
   | (with_reducible exact ih0 _ _ _)
   | (with_reducible exact ih1 _ _ _ _ _)
   | (with_reducible exact ih2 _ _ _ _ _ _ _)
   | (with_reducible exact ih3 _ _ _ _ _ _ _ _)
   | (with_reducible exact ih4 _ _ _ _ _ _ _ _ _)
   | (with_reducible exact ih5 _ _ _ _ _ _ _ _ _ _)
   | (with_reducible exact ih6 _ _ _ _ _ _ _ _ _)
   | (with_reducible exact ih7 _ _ _ _ _ _ _ _)
   | (with_reducible exact ih8 _ _ _ _ _ _ _)
   | (with_reducible exact ih9 _ _ _ _ _ _ _)
   | (with_reducible exact ih10 _ _ _)
   | (with_reducible exact pennantref22_Digits.mono _ _)
   | (with_reducible exact pennantref22_Message_Count.mono _ _ _ _ _ _)
   | (with_reducible exact pennantref22_Request.mono _ _)
   | (with_reducible exact pennantref22_Small.mono _ _)
   | (with_reducible exact pennantref22_Split.mono _ _ _)
   | (with_reducible exact pennantref22_Status.mono _ _)
   | (with_reducible exact pennantref22_Text.mono _ _)
   | (with_reducible exact pennantref22_Token.mono _ _)
   | (with_reducible exact pennantref22_blankless.mono _ _)
   | (with_reducible exact LeO.refl _)
   | (with_reducible exact LeO.none _)
   | (with_reducible refine LeO.ite ?_ ?_)
   | (with_reducible refine LeO.bind ?_ (fun _ => ?_))
   | exact ih0 _ _ _
   | exact ih1 _ _ _ _ _
   | exact ih2 _ _ _ _ _ _ _
   | exact ih3 _ _ _ _ _ _ _ _
   | exact ih4 _ _ _ _ _ _ _ _ _
   | exact ih5 _ _ _ _ _ _ _ _ _ _
   | exact ih6 _ _ _ _ _ _ _ _ _
   | exact ih7 _ _ _ _ _ _ _ _
   | exact ih8 _ _ _ _ _ _ _
   | exact ih9 _ _ _ _ _ _ _
   | exact ih10 _ _ _
   | exact pennantref22_Digits.mono _ _
   | exact pennantref22_Message_Count.mono _ _ _ _ _ _
   | exact pennantref22_Request.mono _ _
   | exact pennantref22_Small.mono _ _
   | exact pennantref22_Split.mono _ _ _
   | exact pennantref22_Status.mono _ _
   | exact pennantref22_Text.mono _ _
   | exact pennantref22_Token.mono _ _
   | exact pennantref22_blankless.mono _ _
   | exact LeO.none _
   | refine LeO.ite ?_ ?_
   | refine LeO.bind ?_ (fun _ => ?_)
  ·
   intro y0 y1 y2
   unfold pennantref22_Read.l0
   repeat' first
   | (with_reducible exact ih0 _ _ _)
   | (with_reducible exact ih1 _ _ _ _ _)
   | (with_reducible exact ih2 _ _ _ _ _ _ _)
   | (with_reducible exact ih3 _ _ _ _ _ _ _ _)
   | (with_reducible exact ih4 _ _ _ _ _ _ _ _ _)
   | (with_reducible exact ih5 _ _ _ _ _ _ _ _ _ _)
   | (with_reducible exact ih6 _ _ _ _ _ _ _ _ _)
   | (with_reducible exact ih7 _ _ _ _ _ _ _ _)
   | (with_reducible exact ih8 _ _ _ _ _ _ _)
   | (with_reducible exact ih9 _ _ _ _ _ _ _)
   | (with_reducible exact ih10 _ _ _)
   | (with_reducible exact pennantref22_Digits.mono _ _)
   | (with_reducible exact pennantref22_Message_Count.mono _ _ _ _ _ _)
   | (with_reducible exact pennantref22_Request.mono _ _)
   | (with_reducible exact pennantref22_Small.mono _ _)
   | (with_reducible exact pennantref22_Split.mono _ _ _)
   | (with_reducible exact pennantref22_Status.mono _ _)
   | (with_reducible exact pennantref22_Text.mono _ _)
   | (with_reducible exact pennantref22_Token.mono _ _)
   | (with_reducible exact pennantref22_blankless.mono _ _)
   | (with_reducible exact LeO.refl _)
   | (with_reducible exact LeO.none _)
   | (with_reducible refine LeO.ite ?_ ?_)
   | (with_reducible refine LeO.bind ?_ (fun _ => ?_))
   | exact ih0 _ _ _
   | exact ih1 _ _ _ _ _
   | exact ih2 _ _ _ _ _ _ _
   | exact ih3 _ _ _ _ _ _ _ _
   | exact ih4 _ _ _ _ _ _ _ _ _
   | exact ih5 _ _ _ _ _ _ _ _ _ _
   | exact ih6 _ _ _ _ _ _ _ _ _
   | exact ih7 _ _ _ _ _ _ _ _
   | exact ih8 _ _ _ _ _ _ _
   | exact ih9 _ _ _ _ _ _ _
   | exact ih10 _ _ _
   | exact pennantref22_Digits.mono _ _
   | exact pennantref22_Message_Count.mono _ _ _ _ _ _
   | exact pennantref22_Request.mono _ _
   | exact pennantref22_Small.mono _ _
   | exact pennantref22_Split.mono _ _ _
   | exact pennantref22_Status.mono _ _
   | exact pennantref22_Text.mono _ _
   | exact pennantref22_Token.mono _ _
   | exact pennantref22_blankless.mono _ _
   | exact LeO.none _
   | refine LeO.ite ?_ ?_
   | refine LeO.bind ?_ (fun _ => ?_)
theorem pennantref22_Read.mono : ∀ a0 a1 k, LeO (pennantref22_Read.f k a0 a1) (pennantref22_Read.f (k + 1) a0 a1) := by
 intro a0 a1 k
 obtain ⟨ih0, ih1, ih2, ih3, ih4, ih5, ih6, ih7, ih8, ih9, ih10⟩ := pennantref22_Read.mono_l k
 unfold pennantref22_Read.f
 repeat' first
   | (with_reducible exact ih0 _ _ _)
   | (with_reducible exact ih1 _ _ _ _ _)
   | (with_reducible exact ih2 _ _ _ _ _ _ _)
   | (with_reducible exact ih3 _ _ _ _ _ _ _ _)
   | (with_reducible exact ih4 _ _ _ _ _ _ _ _ _)
   | (with_reducible exact ih5 _ _ _ _ _ _ _ _ _ _)
   | (with_reducible exact ih6 _ _ _ _ _ _ _ _ _)
   | (with_reducible exact ih7 _ _ _ _ _ _ _ _)
   | (with_reducible exact ih8 _ _ _ _ _ _ _)
   | (with_reducible exact ih9 _ _ _ _ _ _ _)
   | (with_reducible exact ih10 _ _ _)
   | (with_reducible exact pennantref22_Digits.mono _ _)
   | (with_reducible exact pennantref22_Message_Count.mono _ _ _ _ _ _)
   | (with_reducible exact pennantref22_Request.mono _ _)
   | (with_reducible exact pennantref22_Small.mono _ _)
   | (with_reducible exact pennantref22_Split.mono _ _ _)
   | (with_reducible exact pennantref22_Status.mono _ _)
   | (with_reducible exact pennantref22_Text.mono _ _)
   | (with_reducible exact pennantref22_Token.mono _ _)
   | (with_reducible exact pennantref22_blankless.mono _ _)
   | (with_reducible exact LeO.refl _)
   | (with_reducible exact LeO.none _)
   | (with_reducible refine LeO.ite ?_ ?_)
   | (with_reducible refine LeO.bind ?_ (fun _ => ?_))
   | exact ih0 _ _ _
   | exact ih1 _ _ _ _ _
   | exact ih2 _ _ _ _ _ _ _
   | exact ih3 _ _ _ _ _ _ _ _
   | exact ih4 _ _ _ _ _ _ _ _ _
   | exact ih5 _ _ _ _ _ _ _ _ _ _
   | exact ih6 _ _ _ _ _ _ _ _ _
   | exact ih7 _ _ _ _ _ _ _ _
   | exact ih8 _ _ _ _ _ _ _
   | exact ih9 _ _ _ _ _ _ _
   | exact ih10 _ _ _
   | exact pennantref22_Digits.mono _ _
   | exact pennantref22_Message_Count.mono _ _ _ _ _ _
   | exact pennantref22_Request.mono _ _
   | exact pennantref22_Small.mono _ _
   | exact pennantref22_Split.mono _ _ _
   | exact pennantref22_Status.mono _ _
   | exact pennantref22_Text.mono _ _
   | exact pennantref22_Token.mono _ _
   | exact pennantref22_blankless.mono _ _
   | exact LeO.none _
   | refine LeO.ite ?_ ?_
   | refine LeO.bind ?_ (fun _ => ?_)
def pennantref22_Read.T22 : Bool × List (List Nat × List Nat) := (true, [([], []), ([0], [0]), ([], []), ([], []), ([2, 3], [2, 3]), ([4], [4]), ([], []), ([5, 6], [5, 6]), ([7], [7]), ([], []), ([], []), ([9, 10], [9, 10]), ([11], [11]), ([], []), ([13], [13]), ([12, 14], [12, 14]), ([15, 8], [15]), ([8, 16], [8, 16]), ([17], [17]), ([1, 18, 16], [1, 18]), ([0, 1, 2, 3, 4, 5, 6, 7, 8, 9, 10, 11, 12, 13, 14, 15, 16, 17, 18, 19], []), ([20, 19, 19, 0, 1, 2, 3, 4, 5, 6, 7, 8, 9, 10, 11, 12, 13, 14, 15, 16, 17, 18, 19], [19, 20])])
def pennantref22_Read.B22 : List Nat := [0, 1, 0, 0, 12, 28, 0, 124, 252, 0, 0, 1536, 3584, 0, 8192, 32256, 65532, 131068, 262140, 524287, 1048575, 2097151]
theorem pennantref22_Read.tab22 : rtab .any (opsOf Tryz.f23 22) = pennantref22_Read.T22 := by kernel_rfl
theorem pennantref22_Read.bits22 : waitsOk pennantref22_Read.T22.2 pennantref22_Read.B22 = true := by kernel_rfl
set_option maxHeartbeats 8000000 in
set_option maxRecDepth 100000 in
theorem pennantref22_Read.calls (k : Nat) (a0 : ByteArray) (a1 : Bool) (r1 : ByteArray) (r2 : List (S79)) (r3 : ByteArray) (r4 : Int) (r5 : Int) (w : World) (h : pennantref22_Read.f k a0 a1 = some (r1, r2, r3, r4, r5)) :
  Calls Tryz.prog 23 #[.string a0, .bool a1] w fun e w' => ∃ v1_ : Value, e = .returned (.tuple #[.agg #[.string r1, v1_, .string r3, .int .i64 r4], .int .i64 r5]) ∧ Kd.R k79 79 w' w.heap.size (fun _ => True) v1_ r2 ∧ Below w.heap.size w w' := by
 have hu65 := Tryz.underlying65
 have hu79 := Tryz.underlying79
 have HB := zM (Below.refl w.heap.size w)
 have H : (pennantref22_Read.l0 k a0 a1 0) = some (r1, r2, r3, r4, r5) := h
 clear h
 have HC3 := zM H
 clear H
 go_enter Tryz.func23, Tryz.ntmps23
 go_upto_block 0 with (first | ((with_reducible refine gate_dst (N := 4) rfl ?_); (try (refine gate_guard (by rfl) ?_; dsimp only)); refine box_event ?hg (N := 4) ?hd (cs := #[.string (⟨#[]⟩ : ByteArray), .slice none 0 0, .string (⟨#[]⟩ : ByteArray), .int .i64 0]) (t := 65) ?hr ?_; (case hd => rfl); (case hg => rfl); (case hr => first | (go_simp; done) | (go_simp; rfl)); intro gb177 hg w4 hbox hb; have n0_ := zM (below_step (by repeat (first | (with_reducible first | exact HB.out | apply below_alloc | apply pw_below_drewN | apply below_drew1) | exact HB.out)) hb); have n1_ := zM (hbox); have n2_ := zM ((by rw [hg]; exact (below_size (by repeat (first | (with_reducible first | exact HB.out | apply below_alloc | apply pw_below_drewN | apply below_drew1) | exact HB.out))) : w.heap.size ≤ gb177)); have n3_ := zM ((by rw [hg]; exact (below_size (by repeat (first | (with_reducible first | exact HB.out | apply below_alloc | apply pw_below_drewN | apply below_drew1) | exact HB.out))) : w.heap.size ≤ gb177)); clear HB; have HB := n0_; have BK177 := n1_; have GW177 := n2_; have GE177 := n3_; clear n0_ n1_ n2_ n3_; clear hb hbox hg))
 (try simp only [Act.put, zS])
 go_cut [6] (fun v6 wc => ∃ (kq : Nat) (x6_2 : Int), v6 = .int .i64 x6_2 ∧ Aside0 (pennantref22_Read.j1 kq a0 a1 x6_2 = some (r1, r2, r3, r4, r5)) ∧ Aside0 (kq ≤ k) ∧ Aside0 (wc.heap[gb177]? = some (.cells #[.string (⟨#[]⟩ : ByteArray), (.slice none 0 0), .string (⟨#[]⟩ : ByteArray), .int .i64 0] 65 (0, 0))) ∧ Aside0 (Below w.heap.size w wc))
 case first =>
  have H := HC3.out
  clear HC3
  have H' := zM H
  clear H
  go_wp2
  go_loopg [6] k (fun kq v6 w' => ∃ (x6_1 : Int), v6 = .int .i64 x6_1 ∧ Aside0 (pennantref22_Read.l0 kq a0 a1 x6_1 = some (r1, r2, r3, r4, r5)) ∧ Aside0 (kq ≤ k) ∧ Aside0 (w'.heap[gb177]? = some (.cells #[.string (⟨#[]⟩ : ByteArray), (.slice none 0 0), .string (⟨#[]⟩ : ByteArray), .int .i64 0] 65 (0, 0))) ∧ Aside0 (Below w.heap.size w w'))
  case atStart => exact ⟨(0), (by first | rfl | (simp; done) | (simp [*]; done)), H', ⟨Nat.le_refl _⟩, ⟨by (with_reducible repeat (first | refine blk_drewN ?_ _ | refine blk_drew ?_ | refine blk_alloc ?_ _)); exact BK177.out⟩, ⟨by repeat (first | (with_reducible first | exact HB.out | apply below_alloc | apply pw_below_drewN | apply below_drew1 | refine below_set ?_ GE177.out) | exact HB.out)⟩⟩
  case round =>
   clear H'
   try clear c2
   try clear p2
   obtain ⟨x6_1, rfl, HA, HK1, BK177, HB⟩ := hrel
   cases gk with
   | zero => exact absurd HA.out (by simp [pennantref22_Read.l0])
   | succ k1 =>
    (have H := HA.out); clear HA; simp only [pennantref22_Read.l0] at H; by_cases c5 : (wrap64 (x6_1 + 4)) ≤ (a0.size : Int)
    ·
     rw [if_pos c5] at H; (have c5b0 : decide ((wrap64 (x6_1 + 4)) ≤ (a0.size : Int)) = true := decide_eq_true c5); clear c5; (first | rw [c5b0] | (simp only [i64_w, i32_w]; rw [c5b0]) | skip); by_cases c6 : 0 ≤ x6_1
     ·
      rw [if_pos c6] at H; (have c6b0 := eq_true c6); (have c6b1 : decide (0 ≤ x6_1) = true := decide_eq_true c6); clear c6; by_cases c7 : x6_1 ≤ (wrap64 (x6_1 + 4))
      ·
       rw [if_pos c7] at H; (have c7b0 := eq_true c7); (have c7b1 : decide (x6_1 ≤ (wrap64 (x6_1 + 4))) = true := decide_eq_true c7); (have c8b0 := eq_true (of_decide_eq_true (by first | (with_reducible assumption) | assumption) : (wrap64 (x6_1 + 4)) ≤ (a0.size : Int))); by_cases c9 : (a0.extract (x6_1 : Int).toNat ((wrap64 (x6_1 + 4)) : Int).toNat).toList = ([13, 10, 13, 10] : List UInt8)
       ·
        rw [if_pos c9] at H; (have c9b0 : ((a0.extract (x6_1 : Int).toNat ((wrap64 (x6_1 + 4)) : Int).toNat).toList == ([13, 10, 13, 10] : List UInt8)) = true := beq_iff_eq.mpr c9); (have c9b1 : ((a0.extract (x6_1 : Int).toNat ((wrap64 (x6_1 + 4)) : Int).toNat).toList != ([13, 10, 13, 10] : List UInt8)) = false := bne_eq_false_iff_eq.mpr c9); clear c9; (have H' := zM H); clear H; (go_wp2); go_meet
        case rel => exact ⟨_, (x6_1), (by first | rfl | (simp; done) | (simp [*]; done)), H', ⟨by have := HK1.out; first | omega | exact Nat.le_refl _⟩, ⟨by (with_reducible repeat (first | refine blk_drewN ?_ _ | refine blk_drew ?_ | refine blk_alloc ?_ _)); exact BK177.out⟩, ⟨by repeat (first | (with_reducible first | exact HB.out | apply below_alloc | apply pw_below_drewN | apply below_drew1 | refine below_set ?_ GE177.out) | exact HB.out)⟩⟩
       ·
        rw [if_neg c9] at H; (have c9b0 : ((a0.extract (x6_1 : Int).toNat ((wrap64 (x6_1 + 4)) : Int).toNat).toList == ([13, 10, 13, 10] : List UInt8)) = false := beq_eq_false_iff_ne.mpr c9); (have c9b1 : ((a0.extract (x6_1 : Int).toNat ((wrap64 (x6_1 + 4)) : Int).toNat).toList != ([13, 10, 13, 10] : List UInt8)) = true := bne_iff_ne.mpr c9); (have H' := zM H); clear H; (go_wp2); go_roundg k1
        case measure => have := HK1.out; omega
        case rel => exact ⟨(wrap64 (x6_1 + 1)), (by first | rfl | (simp; done) | (simp [*]; done)), H', ⟨by have := HK1.out; omega⟩, ⟨by (with_reducible repeat (first | refine blk_drewN ?_ _ | refine blk_drew ?_ | refine blk_alloc ?_ _)); exact BK177.out⟩, ⟨by repeat (first | (with_reducible first | exact HB.out | apply below_alloc | apply pw_below_drewN | apply below_drew1 | refine below_set ?_ GE177.out) | exact HB.out)⟩⟩
      ·
       rw [if_neg c7] at H; exact absurd H (by simp)
     ·
      rw [if_neg c6] at H; exact absurd H (by simp)
    ·
     rw [if_neg c5] at H; (have c5b0 : decide ((wrap64 (x6_1 + 4)) ≤ (a0.size : Int)) = false := decide_eq_false c5); clear c5; (first | rw [c5b0] | (simp only [i64_w, i32_w]; rw [c5b0]) | skip); (have H' := zM H); clear H; (go_wp2); go_meet
     case rel => exact ⟨_, (x6_1), (by first | rfl | (simp; done) | (simp [*]; done)), H', ⟨by have := HK1.out; first | omega | exact Nat.le_refl _⟩, ⟨by (with_reducible repeat (first | refine blk_drewN ?_ _ | refine blk_drew ?_ | refine blk_alloc ?_ _)); exact BK177.out⟩, ⟨by repeat (first | (with_reducible first | exact HB.out | apply below_alloc | apply pw_below_drewN | apply below_drew1 | refine below_set ?_ GE177.out) | exact HB.out)⟩⟩
 case rest =>
  as_aux_lemma =>
   clear HC3
   try clear c2
   try clear p2
   try clear c5
   try clear c5b0
   try clear c6
   try clear c6b0
   try clear c6b1
   try clear p6
   try clear c7
   try clear c7b0
   try clear c7b1
   try clear c8
   try clear c8b0
   try clear c9
   try clear c9b0
   try clear c9b1
   try clear p2
   obtain ⟨kq, x6_2, rfl, HA, HJ2, BK177, HB⟩ := hcut
   cases kq with
   | zero => exact absurd HA.out (by simp [pennantref22_Read.j1])
   | succ kj2 =>
    (have H := HA.out); clear HA; simp only [pennantref22_Read.j1] at H; (have HC10 := zM H); clear H; (go_upto_region 5 with (fail)); (generalize hB7 : decide ((a0.size : Int) < (wrap64 (x6_2 + 4))) = B7); go_cut [56] (fun v56 wc => ∃ (kq : Nat) (x56_9 : Bool), v56 = .bool x56_9 ∧ Aside0 (pennantref22_Read.j2 kq a0 a1 x6_2 (decide ((wrap64 (x6_2 + 4)) > (a0.size : Int))) x56_9 = some (r1, r2, r3, r4, r5)) ∧ Aside0 (kq ≤ kj2) ∧ Aside0 (wc.heap[gb177]? = some (.cells #[.string (⟨#[]⟩ : ByteArray), (.slice none 0 0), .string (⟨#[]⟩ : ByteArray), .int .i64 0] 65 (0, 0))) ∧ Aside0 (Below w.heap.size w wc))
    case first =>
     (have H := HC10.out); clear HC10; by_cases c11 : (wrap64 (x6_2 + 4)) > (a0.size : Int)
     ·
      rw [if_pos c11] at H; (have c11b0 : decide ((a0.size : Int) < (wrap64 (x6_2 + 4))) = true := decide_eq_true c11); clear c11; (obtain rfl : B7 = true := hB7.symm.trans c11b0); by_cases c12 : (a0.size : Int) > 4096
      ·
       rw [if_pos c12] at H; (have c12b0 : decide (4096 < (a0.size : Int)) = true := decide_eq_true c12); (have c12b1 : decide (4096 < a0.size) = true := decide_eq_true (by omega)); clear c12; (have H' := zM H); clear H; (go_wp2); go_meet
       case rel => exact ⟨_, (true), (by first | rfl | (simp; done) | (simp [*]; done)), H', ⟨by have := HJ2.out; first | omega | exact Nat.le_refl _⟩, ⟨by (with_reducible repeat (first | refine blk_drewN ?_ _ | refine blk_drew ?_ | refine blk_alloc ?_ _)); exact BK177.out⟩, ⟨by repeat (first | (with_reducible first | exact HB.out | apply below_alloc | apply pw_below_drewN | apply below_drew1 | refine below_set ?_ GE177.out) | exact HB.out)⟩⟩
      ·
       rw [if_neg c12] at H; (have c12b0 : decide (4096 < (a0.size : Int)) = false := decide_eq_false c12); (have c12b1 : decide (4096 < a0.size) = false := decide_eq_false (by omega)); clear c12; by_cases c13 : ((wrap64 (x6_2 + 4)) > (a0.size : Int))
       ·
        rw [if_pos c13] at H; (have c13b0 : decide ((a0.size : Int) < (wrap64 (x6_2 + 4))) = true := decide_eq_true c13); clear c13; (have H' := zM H); clear H; (go_wp2); go_meet
        case rel => exact ⟨_, (false), (by first | rfl | (simp; done) | (simp [*]; done)), H', ⟨by have := HJ2.out; first | omega | exact Nat.le_refl _⟩, ⟨by (with_reducible repeat (first | refine blk_drewN ?_ _ | refine blk_drew ?_ | refine blk_alloc ?_ _)); exact BK177.out⟩, ⟨by repeat (first | (with_reducible first | exact HB.out | apply below_alloc | apply pw_below_drewN | apply below_drew1 | refine below_set ?_ GE177.out) | exact HB.out)⟩⟩
       ·
        rw [if_neg c13] at H; (have c13b0 : decide ((a0.size : Int) < (wrap64 (x6_2 + 4))) = false := decide_eq_false c13); exact absurd (c11b0.symm.trans c13b0) (by decide)
     ·
      rw [if_neg c11] at H; (have c11b0 : decide ((a0.size : Int) < (wrap64 (x6_2 + 4))) = false := decide_eq_false c11); clear c11; (obtain rfl : B7 = false := hB7.symm.trans c11b0); by_cases c14 : ((wrap64 (x6_2 + 4)) > (a0.size : Int))
      ·
       rw [if_pos c14] at H; (have c14b0 : decide ((a0.size : Int) < (wrap64 (x6_2 + 4))) = true := decide_eq_true c14); exact absurd (c11b0.symm.trans c14b0) (by decide)
      ·
       rw [if_neg c14] at H; (have c14b0 : decide ((a0.size : Int) < (wrap64 (x6_2 + 4))) = false := decide_eq_false c14); clear c14; (have H' := zM H); clear H; (go_wp2); go_meet
       case rel => exact ⟨_, (decide ((wrap64 (x6_2 + 4)) > 4096)), (by first | rfl | (simp; done) | (simp [*]; done)), H', ⟨by have := HJ2.out; first | omega | exact Nat.le_refl _⟩, ⟨by (with_reducible repeat (first | refine blk_drewN ?_ _ | refine blk_drew ?_ | refine blk_alloc ?_ _)); exact BK177.out⟩, ⟨by repeat (first | (with_reducible first | exact HB.out | apply below_alloc | apply pw_below_drewN | apply below_drew1 | refine below_set ?_ GE177.out) | exact HB.out)⟩⟩
    case rest =>
     as_aux_lemma =>
      subst hB7; clear HC10; (try clear c1); (try clear c2); (try clear p2); (try clear c5); (try clear c5b0); (try clear c6); (try clear c6b0); (try clear c6b1); (try clear p6); (try clear c7); (try clear c7b0); (try clear c7b1); (try clear c8); (try clear c8b0); (try clear c9); (try clear c9b0); (try clear c9b1); (try clear c11); (try clear c11b0); (try clear c12); (try clear c12b0); (try clear c12b1); (try clear c13); (try clear c13b0); (try clear c14); (try clear c14b0); (try clear p2); (try clear p6); obtain ⟨kq, x56_9, rfl, HA, HJ9, BK177, HB⟩ := hcut
      cases kq with
      | zero => exact absurd HA.out (by simp [pennantref22_Read.j2])
      | succ kj9 =>
       (have H := HA.out); clear HA; simp only [pennantref22_Read.j2] at H; by_cases c15 : x56_9 = true
       ·
        subst c15; (have H1 : (some ((⟨#[]⟩ : ByteArray), ([] : List (S79)), (⟨#[]⟩ : ByteArray), 0, 2)) = some (r1, r2, r3, r4, r5) := by rw [if_pos rfl] at H; exact H); clear H; (have H := H1); clear H1; simp only [Option.some.injEq, Prod.mk.injEq] at H; (obtain ⟨rfl, rfl, rfl, rfl, rfl⟩ := H); (have hcz16_0 : wc.cell? ⟨gb177, 0, none⟩ = some (.string (⟨#[]⟩ : ByteArray)) := (blk_cell BK177.out 0).trans rfl); (have hcz16_1 : wc.cell? ⟨gb177, 1, none⟩ = some (.slice none 0 0) := (blk_cell BK177.out 1).trans rfl); (have hcz16_2 : wc.cell? ⟨gb177, 2, none⟩ = some (.string (⟨#[]⟩ : ByteArray)) := (blk_cell BK177.out 2).trans rfl); (have hcz16_3 : wc.cell? ⟨gb177, 3, none⟩ = some (.int .i64 0) := (blk_cell BK177.out 3).trans rfl); (have hfz16_0 := blk_frozen BK177.out 0); (have hfz16_1 := blk_frozen BK177.out 1); (have hfz16_2 := blk_frozen BK177.out 2); (have hfz16_3 := blk_frozen BK177.out 3); (go_wp2); (refine bodyPost_ret (results_ct rfl _ _ gb177 65 #[.string (⟨#[]⟩ : ByteArray), .slice none 0 0, .string (⟨#[]⟩ : ByteArray), .int .i64 0] (0, 0) _ rfl (by (with_reducible repeat (first | refine blk_drewN ?_ _ | refine blk_drew ?_ | refine blk_alloc ?_ _)); refine blk_put (cs := #[.string (⟨#[]⟩ : ByteArray), .slice none 0 0, .string (⟨#[]⟩ : ByteArray), .int .i64 0]) ?_ 3 _ rfl; (with_reducible repeat (first | refine blk_drewN ?_ _ | refine blk_drew ?_ | refine blk_alloc ?_ _)); refine blk_put (cs := #[.string (⟨#[]⟩ : ByteArray), .slice none 0 0, .string (⟨#[]⟩ : ByteArray), .int .i64 0]) ?_ 2 _ rfl; (with_reducible repeat (first | refine blk_drewN ?_ _ | refine blk_drew ?_ | refine blk_alloc ?_ _)); refine blk_put (cs := #[.string (⟨#[]⟩ : ByteArray), .slice none 0 0, .string (⟨#[]⟩ : ByteArray), .int .i64 0]) ?_ 1 _ rfl; (with_reducible repeat (first | refine blk_drewN ?_ _ | refine blk_drew ?_ | refine blk_alloc ?_ _)); refine blk_put (cs := #[.string (⟨#[]⟩ : ByteArray), .slice none 0 0, .string (⟨#[]⟩ : ByteArray), .int .i64 0]) ?_ 0 _ rfl; (with_reducible repeat (first | refine blk_drewN ?_ _ | refine blk_drew ?_ | refine blk_alloc ?_ _)); exact BK177.out) Tryz.underlying65 rfl (by kernel_rfl)) rfl ?_); exact ⟨_, by first | rfl | (simp [errW_none, errW_some] <;> rfl) | (simp [*, errW_none, errW_some] <;> rfl), by first | exact Kd.R_nil _ _ _ _ _ | exact Kd.N_nil _ _ _ _ _ | exact Kd.V_nil _ _ _ _ _ | exact Kd.Q_nil _ _ _ _ _ | exact Kd.S_nil _ _ _ _ _, by repeat (first | (with_reducible first | exact HB.out | apply below_alloc | apply pw_below_drewN | apply below_drew1 | refine below_set ?_ GE177.out) | exact HB.out)⟩
       ·
        (replace c15 := Bool.eq_false_iff.mpr c15); subst c15; (have H1 : (if (decide ((wrap64 (x6_2 + 4)) > (a0.size : Int))) = true then (some ((⟨#[]⟩ : ByteArray), ([] : List (S79)), (⟨#[]⟩ : ByteArray), 0, 3)) else (if 0 ≤ x6_2 then (if x6_2 ≤ (a0.size : Int) then ((pennantref22_Split.f kj9 (a0.extract 0 (x6_2 : Int).toNat) (⟨#[13, 10]⟩ : ByteArray)).bind fun t178 => (if 0 < (t178.length : Int) then ((pennantref22_Request.f kj9 (rdOf ByteArray.empty t178 0)).bind fun bt184 => (if a1 = true then (if bt184.2.2 = true then (pennantref22_Read.j3 kj9 a0 a1 t178 false (rdOf ByteArray.empty t178 0) (⟨#[]⟩ : ByteArray) (wrap64 (x6_2 + 4))) else (pennantref22_Read.j3 kj9 a0 a1 t178 true (rdOf ByteArray.empty t178 0) (⟨#[]⟩ : ByteArray) (wrap64 (x6_2 + 4)))) else ((pennantref22_Status.f kj9 (rdOf ByteArray.empty t178 0)).bind fun t188 => (pennantref22_Read.j3 kj9 a0 a1 t178 (decide (t188 < 0)) (rdOf ByteArray.empty t178 0) (⟨#[]⟩ : ByteArray) (wrap64 (x6_2 + 4)))))) else (none))) else (none)) else (none))) = some (r1, r2, r3, r4, r5) := by rw [if_neg (show ¬ (false = true) by decide)] at H; exact H); clear H; (have H := H1); clear H1; by_cases c17 : (decide ((wrap64 (x6_2 + 4)) > (a0.size : Int))) = true
        ·
         rw [if_pos c17] at H; (have c17b0 : (decide ((wrap64 (x6_2 + 4)) > (a0.size : Int))) = true := c17); (have c17b9 : decide ((a0.size : Int) < (wrap64 (x6_2 + 4))) = true := c17b0); (first | rw [c17b9] | (simp only [i64_w, i32_w]; rw [c17b9]) | skip); clear c17; simp only [Option.some.injEq, Prod.mk.injEq] at H; (obtain ⟨rfl, rfl, rfl, rfl, rfl⟩ := H); (have hcz18_0 : wc.cell? ⟨gb177, 0, none⟩ = some (.string (⟨#[]⟩ : ByteArray)) := (blk_cell BK177.out 0).trans rfl); (have hcz18_1 : wc.cell? ⟨gb177, 1, none⟩ = some (.slice none 0 0) := (blk_cell BK177.out 1).trans rfl); (have hcz18_2 : wc.cell? ⟨gb177, 2, none⟩ = some (.string (⟨#[]⟩ : ByteArray)) := (blk_cell BK177.out 2).trans rfl); (have hcz18_3 : wc.cell? ⟨gb177, 3, none⟩ = some (.int .i64 0) := (blk_cell BK177.out 3).trans rfl); (have hfz18_0 := blk_frozen BK177.out 0); (have hfz18_1 := blk_frozen BK177.out 1); (have hfz18_2 := blk_frozen BK177.out 2); (have hfz18_3 := blk_frozen BK177.out 3); (go_wp2); (refine bodyPost_ret (results_ct rfl _ _ gb177 65 #[.string (⟨#[]⟩ : ByteArray), .slice none 0 0, .string (⟨#[]⟩ : ByteArray), .int .i64 0] (0, 0) _ rfl (by (with_reducible repeat (first | refine blk_drewN ?_ _ | refine blk_drew ?_ | refine blk_alloc ?_ _)); refine blk_put (cs := #[.string (⟨#[]⟩ : ByteArray), .slice none 0 0, .string (⟨#[]⟩ : ByteArray), .int .i64 0]) ?_ 3 _ rfl; (with_reducible repeat (first | refine blk_drewN ?_ _ | refine blk_drew ?_ | refine blk_alloc ?_ _)); refine blk_put (cs := #[.string (⟨#[]⟩ : ByteArray), .slice none 0 0, .string (⟨#[]⟩ : ByteArray), .int .i64 0]) ?_ 2 _ rfl; (with_reducible repeat (first | refine blk_drewN ?_ _ | refine blk_drew ?_ | refine blk_alloc ?_ _)); refine blk_put (cs := #[.string (⟨#[]⟩ : ByteArray), .slice none 0 0, .string (⟨#[]⟩ : ByteArray), .int .i64 0]) ?_ 1 _ rfl; (with_reducible repeat (first | refine blk_drewN ?_ _ | refine blk_drew ?_ | refine blk_alloc ?_ _)); refine blk_put (cs := #[.string (⟨#[]⟩ : ByteArray), .slice none 0 0, .string (⟨#[]⟩ : ByteArray), .int .i64 0]) ?_ 0 _ rfl; (with_reducible repeat (first | refine blk_drewN ?_ _ | refine blk_drew ?_ | refine blk_alloc ?_ _)); exact BK177.out) Tryz.underlying65 rfl (by kernel_rfl)) rfl ?_); exact ⟨_, by first | rfl | (simp [errW_none, errW_some] <;> rfl) | (simp [*, errW_none, errW_some] <;> rfl), by first | exact Kd.R_nil _ _ _ _ _ | exact Kd.N_nil _ _ _ _ _ | exact Kd.V_nil _ _ _ _ _ | exact Kd.Q_nil _ _ _ _ _ | exact Kd.S_nil _ _ _ _ _, by repeat (first | (with_reducible first | exact HB.out | apply below_alloc | apply pw_below_drewN | apply below_drew1 | refine below_set ?_ GE177.out) | exact HB.out)⟩
        ·
         rw [if_neg c17] at H; (have c17b0 : (decide ((wrap64 (x6_2 + 4)) > (a0.size : Int))) = false := by simpa using c17); (have c17b9 : decide ((a0.size : Int) < (wrap64 (x6_2 + 4))) = false := c17b0); (first | rw [c17b9] | (simp only [i64_w, i32_w]; rw [c17b9]) | skip); clear c17; by_cases c19 : 0 ≤ x6_2
         ·
          rw [if_pos c19] at H; (have c19b0 := eq_true c19); (have c19b1 : decide (0 ≤ x6_2) = true := decide_eq_true c19); clear c19; by_cases c20 : x6_2 ≤ (a0.size : Int)
          ·
           rw [if_pos c20] at H; (have c20b0 := eq_true c20); (have c20b1 : decide (x6_2 ≤ (a0.size : Int)) = true := decide_eq_true c20); clear c20; (replace H := Option.bind_eq_some_iff.mp H); (obtain ⟨t178, A210, H⟩ := H); replace H : (if 0 < (t178.length : Int) then ((pennantref22_Request.f kj9 (rdOf ByteArray.empty t178 0)).bind fun bt184 => (if a1 = true then (if bt184.2.2 = true then (pennantref22_Read.j3 kj9 a0 a1 t178 false (rdOf ByteArray.empty t178 0) (⟨#[]⟩ : ByteArray) (wrap64 (x6_2 + 4))) else (pennantref22_Read.j3 kj9 a0 a1 t178 true (rdOf ByteArray.empty t178 0) (⟨#[]⟩ : ByteArray) (wrap64 (x6_2 + 4)))) else ((pennantref22_Status.f kj9 (rdOf ByteArray.empty t178 0)).bind fun t188 => (pennantref22_Read.j3 kj9 a0 a1 t178 (decide (t188 < 0)) (rdOf ByteArray.empty t178 0) (⟨#[]⟩ : ByteArray) (wrap64 (x6_2 + 4)))))) else (none)) = some (r1, r2, r3, r4, r5) := H; (have A21 := zM A210); clear A210; by_cases c22 : 0 < (t178.length : Int)
           ·
            rw [if_pos c22] at H; (have c22b0 : decide (0 < (t178.length : Int)) = true := decide_eq_true c22); (have c22b1 : decide (0 < t178.length) = true := decide_eq_true (by omega)); clear c22; (replace H := Option.bind_eq_some_iff.mp H); (obtain ⟨⟨t184, t185, t186⟩, A230, H⟩ := H); replace H : (if a1 = true then (if t186 = true then (pennantref22_Read.j3 kj9 a0 a1 t178 false (rdOf ByteArray.empty t178 0) (⟨#[]⟩ : ByteArray) (wrap64 (x6_2 + 4))) else (pennantref22_Read.j3 kj9 a0 a1 t178 true (rdOf ByteArray.empty t178 0) (⟨#[]⟩ : ByteArray) (wrap64 (x6_2 + 4)))) else ((pennantref22_Status.f kj9 (rdOf ByteArray.empty t178 0)).bind fun t188 => (pennantref22_Read.j3 kj9 a0 a1 t178 (decide (t188 < 0)) (rdOf ByteArray.empty t178 0) (⟨#[]⟩ : ByteArray) (wrap64 (x6_2 + 4))))) = some (r1, r2, r3, r4, r5) := H; (have A23 := zM A230); clear A230; (have HC24 := zM H); clear H; (go_upto_region 12 with (first | ((with_reducible refine gate_callee (f := 42) rfl ?_); refine goesL_ (some 63) rfl rfl Tryz.func42 (by kernel_rfl) rfl #[.string (a0.extract 0 (x6_2 : Int).toNat), .string (⟨#[13, 10]⟩ : ByteArray)] rfl (by (try simp only [zL]); first | done | rfl) ?_; (with_reducible refine (pennantref22_Split.calls kj9 (a0.extract 0 (x6_2 : Int).toNat) (⟨#[13, 10]⟩ : ByteArray) t178 _ A21.out).mono ?_); rintro e w25 ⟨v179, rfl, ho0, hb⟩; refine ⟨_, rfl, ?_⟩; have n0_ := zM (Kd.R_lower ho0 (below_size (by repeat (first | (with_reducible first | exact HB.out | apply below_alloc | apply pw_below_drewN | apply below_drew1 | refine below_set ?_ GE177.out) | exact HB.out)))); have n1_ := zM (blk_below (g := gb177) (o := .cells #[.string (⟨#[]⟩ : ByteArray), .slice none 0 0, .string (⟨#[]⟩ : ByteArray), .int .i64 0] 65 (0, 0)) (by (with_reducible repeat (first | refine blk_drewN ?_ _ | refine blk_drew ?_ | refine blk_alloc ?_ _)); exact BK177.out) hb); have n2_ := zM (below_step (by repeat (first | (with_reducible first | exact HB.out | apply below_alloc | apply pw_below_drewN | apply below_drew1 | refine below_set ?_ GE177.out) | exact HB.out)) hb); clear BK177; clear HB; have HO180 := n0_; have BK177 := n1_; have HB := n2_; clear n0_ n1_ n2_; (try clear hb); (try clear hb2); (try clear hk); (try clear hi); (try clear ho0); obtain ⟨Ao26, co26, eo26⟩ := Kd.R_slice HO180.out; subst eo26; have p181 : 0 ≤ (0 : Int) := (by omega); have q181 : 0 < (t178.length : Int) := of_decide_eq_true (by first | (with_reducible assumption) | assumption); obtain ⟨ad181, e181, hx181_0⟩ := Kd.at_string (Kd.R_reads' HO180.out).2.2 0 p181 q181; cases e181; have qi181 : (0 < t178.length) = True := eq_true (by omega); (try rw [show ((0 : Int)).toNat = 0 from rfl] at hx181_0); (try rw [Addr.add_zero'] at hx181_0); replace p181 := eq_true p181; replace q181 := eq_true q181) | ((with_reducible refine gate_dst (N := 9) rfl ?_); (try (refine gate_guard (by rfl) ?_; dsimp only)); refine box_event ?hg (N := 9) ?hd (cs := #[.string (⟨#[]⟩ : ByteArray), .slice none 0 0, .string (⟨#[]⟩ : ByteArray), .int .i64 0]) (t := 65) ?hr ?_; (case hd => rfl); (case hg => rfl); (case hr => first | (go_simp; done) | (go_simp; rfl)); intro gb182 hg w27 hbox hb; have n0_ := zM (Kd.R_below (by (with_reducible repeat (first | apply Kd.R_alloc | apply Kd.R_drewN | apply Kd.R_drew)); exact HO180.out) hb); have n1_ := zM (blk_below (g := gb177) (o := .cells #[.string (⟨#[]⟩ : ByteArray), .slice none 0 0, .string (⟨#[]⟩ : ByteArray), .int .i64 0] 65 (0, 0)) (by (with_reducible repeat (first | refine blk_drewN ?_ _ | refine blk_drew ?_ | refine blk_alloc ?_ _)); exact BK177.out) hb); have n2_ := zM (below_step (by repeat (first | (with_reducible first | exact HB.out | apply below_alloc | apply pw_below_drewN | apply below_drew1 | refine below_set ?_ GE177.out) | exact HB.out)) hb); have n3_ := zM (hbox); have n4_ := zM ((by rw [hg]; exact (below_size (by repeat (first | (with_reducible first | exact HB.out | apply below_alloc | apply pw_below_drewN | apply below_drew1 | refine below_set ?_ GE177.out) | exact HB.out))) : w.heap.size ≤ gb182)); have n5_ := zM ((by rw [hg]; exact (below_size (by repeat (first | (with_reducible first | exact HB.out | apply below_alloc | apply pw_below_drewN | apply below_drew1 | refine below_set ?_ GE177.out) | exact HB.out))) : w.heap.size ≤ gb182)); have n6_ := zM ((by rw [hg]; exact Nat.ne_of_lt (blk_lt (g := gb177) (o := .cells #[.string (⟨#[]⟩ : ByteArray), .slice none 0 0, .string (⟨#[]⟩ : ByteArray), .int .i64 0] 65 (0, 0)) (by (with_reducible repeat (first | refine blk_drewN ?_ _ | refine blk_drew ?_ | refine blk_alloc ?_ _)); exact BK177.out)) : gb177 ≠ gb182)); have n7_ := zM ((by rw [hg]; exact Nat.ne_of_gt (blk_lt (g := gb177) (o := .cells #[.string (⟨#[]⟩ : ByteArray), .slice none 0 0, .string (⟨#[]⟩ : ByteArray), .int .i64 0] 65 (0, 0)) (by (with_reducible repeat (first | refine blk_drewN ?_ _ | refine blk_drew ?_ | refine blk_alloc ?_ _)); exact BK177.out)) : gb182 ≠ gb177)); clear HO180; clear BK177; clear HB; have HO180 := n0_; have BK177 := n1_; have HB := n2_; have BK182 := n3_; have GW182 := n4_; have GE182 := n5_; have NB177_182 := n6_; have NB182_177 := n7_; clear n0_ n1_ n2_ n3_ n4_ n5_ n6_ n7_; clear hb hbox hg; have hnb28 := NB182_177.out; have hnc28 := NB177_182.out; have hcz29_0 : w27.cell? ⟨gb182, 0, none⟩ = some (.string (⟨#[]⟩ : ByteArray)) := (blk_cell BK182.out 0).trans rfl; have hcz29_1 : w27.cell? ⟨gb182, 1, none⟩ = some (.slice none 0 0) := (blk_cell BK182.out 1).trans rfl; have hcz29_2 : w27.cell? ⟨gb182, 2, none⟩ = some (.string (⟨#[]⟩ : ByteArray)) := (blk_cell BK182.out 2).trans rfl; have hcz29_3 : w27.cell? ⟨gb182, 3, none⟩ = some (.int .i64 0) := (blk_cell BK182.out 3).trans rfl; have hfz29_0 := blk_frozen BK182.out 0; have hfz29_1 := blk_frozen BK182.out 1; have hfz29_2 := blk_frozen BK182.out 2; have hfz29_3 := blk_frozen BK182.out 3; have p183 : 0 ≤ (0 : Int) := (by omega); have q183 : 0 < (t178.length : Int) := of_decide_eq_true (by first | (with_reducible assumption) | assumption); obtain ⟨ad183, e183, hx183_0⟩ := Kd.at_string (Kd.R_reads' HO180.out).2.2 0 p183 q183; obtain rfl : ad181 = ad183 := (by injection e183); have qi183 : (0 < t178.length) = True := eq_true (by omega); (try rw [show ((0 : Int)).toNat = 0 from rfl] at hx183_0); (try rw [Addr.add_zero'] at hx183_0); have hn183_0 : ad181.block ≠ gb182 := Kd.own_blk (Kd.R_ne HO180.out BK182.out (by decide)); have hn183_1 : ad181.block ≠ gb182 := Kd.own_blk (Kd.R_ne HO180.out BK182.out (by decide)); have hn183_2 : ad181.block ≠ gb182 := Kd.own_blk (Kd.R_ne HO180.out BK182.out (by decide)); have hn183_3 : ad181.block ≠ gb182 := Kd.own_blk (Kd.R_ne HO180.out BK182.out (by decide)); replace hx183_0 := (cell_far (p := ⟨gb182, 0, none⟩) (by first | (rw [add_block]; exact hn183_0) | (show (Addr.add _ _).block ≠ _; rw [add_block]; exact hn183_0) | exact hn183_0) (.string (rdOf ByteArray.empty t178 0))).trans hx183_0; replace hx183_0 := (cell_far (p := ⟨gb182, 1, none⟩) (by first | (rw [add_block]; exact hn183_1) | (show (Addr.add _ _).block ≠ _; rw [add_block]; exact hn183_1) | exact hn183_1) (.slice none 0 0)).trans hx183_0; replace hx183_0 := (cell_far (p := ⟨gb182, 2, none⟩) (by first | (rw [add_block]; exact hn183_2) | (show (Addr.add _ _).block ≠ _; rw [add_block]; exact hn183_2) | exact hn183_2) (.string (⟨#[]⟩ : ByteArray))).trans hx183_0; replace hx183_0 := (cell_far (p := ⟨gb182, 3, none⟩) (by first | (rw [add_block]; exact hn183_3) | (show (Addr.add _ _).block ≠ _; rw [add_block]; exact hn183_3) | exact hn183_3) (.int .i64 (wrap64 (x6_2 + 4)))).trans hx183_0; clear hn183_0; clear hn183_1; clear hn183_2; clear hn183_3; replace p183 := eq_true p183; replace q183 := eq_true q183) | ((with_reducible refine gate_callee (f := 24) rfl ?_); refine goesL_ (some 74) rfl rfl Tryz.func24 (by kernel_rfl) rfl #[.string (rdOf ByteArray.empty t178 0)] rfl (by (try simp only [zL]); first | done | rfl) ?_; (with_reducible refine (pennantref22_Request.calls kj9 (rdOf ByteArray.empty t178 0) t184 t185 t186 _ A23.out).mono ?_); rintro e w30 ⟨rfl, hb⟩; refine ⟨_, rfl, ?_⟩; have n0_ := zM (Kd.R_below (by (with_reducible repeat (first | apply Kd.R_alloc | apply Kd.R_drewN | apply Kd.R_drew)); exact (Kd.R_mono (Kd.R_far (p := ⟨gb182, 3, none⟩) (Kd.R_far (p := ⟨gb182, 2, none⟩) (Kd.R_far (p := ⟨gb182, 1, none⟩) (Kd.R_far (p := ⟨gb182, 0, none⟩) (Kd.R_types HO180.out BK182.out (by decide)) (fun _ hk => hk.2) (.string (rdOf ByteArray.empty t178 0))) (fun _ hk => hk.2) (.slice none 0 0)) (fun _ hk => hk.2) (.string (⟨#[]⟩ : ByteArray))) (fun _ hk => hk.2) (.int .i64 (wrap64 (x6_2 + 4)))) (fun _ h_ => h_.1))) hb); have n1_ := zM (blk_below (g := gb177) (o := .cells #[.string (⟨#[]⟩ : ByteArray), .slice none 0 0, .string (⟨#[]⟩ : ByteArray), .int .i64 0] 65 (0, 0)) (by (with_reducible repeat (first | refine blk_drewN ?_ _ | refine blk_drew ?_ | refine blk_alloc ?_ _)); refine blk_far ?_ NB177_182.out _; (with_reducible repeat (first | refine blk_drewN ?_ _ | refine blk_drew ?_ | refine blk_alloc ?_ _)); refine blk_far ?_ NB177_182.out _; (with_reducible repeat (first | refine blk_drewN ?_ _ | refine blk_drew ?_ | refine blk_alloc ?_ _)); refine blk_far ?_ NB177_182.out _; (with_reducible repeat (first | refine blk_drewN ?_ _ | refine blk_drew ?_ | refine blk_alloc ?_ _)); refine blk_far ?_ NB177_182.out _; (with_reducible repeat (first | refine blk_drewN ?_ _ | refine blk_drew ?_ | refine blk_alloc ?_ _)); exact BK177.out) hb); have n2_ := zM (blk_below (g := gb182) (o := .cells #[.string (rdOf ByteArray.empty t178 0), .slice none 0 0, .string (⟨#[]⟩ : ByteArray), .int .i64 (wrap64 (x6_2 + 4))] 65 (0, 0)) (by (with_reducible repeat (first | refine blk_drewN ?_ _ | refine blk_drew ?_ | refine blk_alloc ?_ _)); refine blk_put (cs := #[.string (rdOf ByteArray.empty t178 0), .slice none 0 0, .string (⟨#[]⟩ : ByteArray), .int .i64 0]) ?_ 3 _ rfl; (with_reducible repeat (first | refine blk_drewN ?_ _ | refine blk_drew ?_ | refine blk_alloc ?_ _)); refine blk_put (cs := #[.string (rdOf ByteArray.empty t178 0), .slice none 0 0, .string (⟨#[]⟩ : ByteArray), .int .i64 0]) ?_ 2 _ rfl; (with_reducible repeat (first | refine blk_drewN ?_ _ | refine blk_drew ?_ | refine blk_alloc ?_ _)); refine blk_put (cs := #[.string (rdOf ByteArray.empty t178 0), .slice none 0 0, .string (⟨#[]⟩ : ByteArray), .int .i64 0]) ?_ 1 _ rfl; (with_reducible repeat (first | refine blk_drewN ?_ _ | refine blk_drew ?_ | refine blk_alloc ?_ _)); refine blk_put (cs := #[.string (⟨#[]⟩ : ByteArray), .slice none 0 0, .string (⟨#[]⟩ : ByteArray), .int .i64 0]) ?_ 0 _ rfl; (with_reducible repeat (first | refine blk_drewN ?_ _ | refine blk_drew ?_ | refine blk_alloc ?_ _)); exact BK182.out) hb); have n3_ := zM (below_step (by repeat (first | (with_reducible first | exact HB.out | apply below_alloc | apply pw_below_drewN | apply below_drew1 | refine below_set ?_ GE177.out | refine below_set ?_ GE182.out) | exact HB.out)) hb); clear HO180; clear BK177; clear BK182; clear HB; have HO180 := n0_; have BK177 := n1_; have BK182 := n2_; have HB := n3_; clear n0_ n1_ n2_ n3_; (try clear hb); (try clear hb2); (try clear hk); (try clear hi)))); (try simp only [Act.put, zS]); go_cut [93] (fun v93 wc => ∃ (kq : Nat) (x93_23 : Bool), v93 = .bool x93_23 ∧ Aside0 (pennantref22_Read.j3 kq a0 a1 t178 x93_23 (rdOf ByteArray.empty t178 0) (⟨#[]⟩ : ByteArray) (wrap64 (x6_2 + 4)) = some (r1, r2, r3, r4, r5)) ∧ Aside0 (kq ≤ kj9) ∧ Aside0 (Kd.R Kd.string 9 wc w.heap.size (fun _ => True) (.slice (some ad181) t178.length co26) t178) ∧ Aside0 (wc.heap[gb177]? = some (.cells #[.string (⟨#[]⟩ : ByteArray), (.slice none 0 0), .string (⟨#[]⟩ : ByteArray), .int .i64 0] 65 (0, 0))) ∧ Aside0 (wc.heap[gb182]? = some (.cells #[.string (rdOf ByteArray.empty t178 0), (.slice none 0 0), .string (⟨#[]⟩ : ByteArray), .int .i64 (wrap64 (x6_2 + 4))] 65 (0, 0))) ∧ Aside0 (Below w.heap.size w wc))
            case first =>
             (have H := HC24.out); clear HC24; by_cases c31 : a1 = true
             ·
              subst c31; (have H1 : (if t186 = true then (pennantref22_Read.j3 kj9 a0 true t178 false (rdOf ByteArray.empty t178 0) (⟨#[]⟩ : ByteArray) (wrap64 (x6_2 + 4))) else (pennantref22_Read.j3 kj9 a0 true t178 true (rdOf ByteArray.empty t178 0) (⟨#[]⟩ : ByteArray) (wrap64 (x6_2 + 4)))) = some (r1, r2, r3, r4, r5) := by rw [if_pos rfl] at H; exact H); clear H; (have H := H1); clear H1; by_cases c32 : t186 = true
              ·
               subst c32; (have H1 : (pennantref22_Read.j3 kj9 a0 true t178 false (rdOf ByteArray.empty t178 0) (⟨#[]⟩ : ByteArray) (wrap64 (x6_2 + 4))) = some (r1, r2, r3, r4, r5) := by rw [if_pos rfl] at H; exact H); clear H; (have H := H1); clear H1; (have H' := zM H); clear H; (go_wp2); go_meet
               case rel => exact ⟨_, (false), (by first | rfl | (simp; done) | (simp [*]; done)), H', ⟨by have := HJ2.out; have := HJ9.out; first | omega | exact Nat.le_refl _⟩, ⟨by (with_reducible repeat (first | apply Kd.R_alloc | apply Kd.R_drewN | apply Kd.R_drew)); exact HO180.out⟩, ⟨by (with_reducible repeat (first | refine blk_drewN ?_ _ | refine blk_drew ?_ | refine blk_alloc ?_ _)); exact BK177.out⟩, ⟨by (with_reducible repeat (first | refine blk_drewN ?_ _ | refine blk_drew ?_ | refine blk_alloc ?_ _)); exact BK182.out⟩, ⟨by repeat (first | (with_reducible first | exact HB.out | apply below_alloc | apply pw_below_drewN | apply below_drew1 | refine below_set ?_ GE177.out | refine below_set ?_ GE182.out) | exact HB.out)⟩⟩
              ·
               (replace c32 := Bool.eq_false_iff.mpr c32); subst c32; (have H1 : (pennantref22_Read.j3 kj9 a0 true t178 true (rdOf ByteArray.empty t178 0) (⟨#[]⟩ : ByteArray) (wrap64 (x6_2 + 4))) = some (r1, r2, r3, r4, r5) := by rw [if_neg (show ¬ (false = true) by decide)] at H; exact H); clear H; (have H := H1); clear H1; (have H' := zM H); clear H; (go_wp2); go_meet
               case rel => exact ⟨_, (true), (by first | rfl | (simp; done) | (simp [*]; done)), H', ⟨by have := HJ2.out; have := HJ9.out; first | omega | exact Nat.le_refl _⟩, ⟨by (with_reducible repeat (first | apply Kd.R_alloc | apply Kd.R_drewN | apply Kd.R_drew)); exact HO180.out⟩, ⟨by (with_reducible repeat (first | refine blk_drewN ?_ _ | refine blk_drew ?_ | refine blk_alloc ?_ _)); exact BK177.out⟩, ⟨by (with_reducible repeat (first | refine blk_drewN ?_ _ | refine blk_drew ?_ | refine blk_alloc ?_ _)); exact BK182.out⟩, ⟨by repeat (first | (with_reducible first | exact HB.out | apply below_alloc | apply pw_below_drewN | apply below_drew1 | refine below_set ?_ GE177.out | refine below_set ?_ GE182.out) | exact HB.out)⟩⟩
             ·
              (replace c31 := Bool.eq_false_iff.mpr c31); subst c31; (have H1 : ((pennantref22_Status.f kj9 (rdOf ByteArray.empty t178 0)).bind fun t188 => (pennantref22_Read.j3 kj9 a0 false t178 (decide (t188 < 0)) (rdOf ByteArray.empty t178 0) (⟨#[]⟩ : ByteArray) (wrap64 (x6_2 + 4)))) = some (r1, r2, r3, r4, r5) := by rw [if_neg (show ¬ (false = true) by decide)] at H; exact H); clear H; (have H := H1); clear H1; (replace H := Option.bind_eq_some_iff.mp H); (obtain ⟨t188, A330, H⟩ := H); replace H : (pennantref22_Read.j3 kj9 a0 false t178 (decide (t188 < 0)) (rdOf ByteArray.empty t178 0) (⟨#[]⟩ : ByteArray) (wrap64 (x6_2 + 4))) = some (r1, r2, r3, r4, r5) := H; (have A33 := zM A330); clear A330; (have H' := zM H); clear H; (have p187 : 0 ≤ (0 : Int) := (by omega)); (have q187 : 0 < (t178.length : Int) := of_decide_eq_true (by first | (with_reducible assumption) | assumption)); (obtain ⟨ad187, e187, hx187_0⟩ := Kd.at_string (Kd.R_reads' HO180.out).2.2 0 p187 q187); (obtain rfl : ad181 = ad187 := (by injection e187)); (have qi187 : (0 < t178.length) = True := eq_true (by omega)); (try rw [show ((0 : Int)).toNat = 0 from rfl] at hx187_0); (try rw [Addr.add_zero'] at hx187_0); (replace p187 := eq_true p187); (replace q187 := eq_true q187); (go_wp2_with (first | (go_at_call 28; (with_reducible refine (pennantref22_Status.calls kj9 (rdOf ByteArray.empty t178 0) t188 _ A33.out).mono ?_); rintro e w' ⟨rfl, ⟨nd, rfl⟩⟩))); go_meet
              case rel => exact ⟨_, (decide (t188 < 0)), (by first | rfl | (simp; done) | (simp [*]; done)), H', ⟨by have := HJ2.out; have := HJ9.out; first | omega | exact Nat.le_refl _⟩, ⟨by (with_reducible repeat (first | apply Kd.R_alloc | apply Kd.R_drewN | apply Kd.R_drew)); exact HO180.out⟩, ⟨by (with_reducible repeat (first | refine blk_drewN ?_ _ | refine blk_drew ?_ | refine blk_alloc ?_ _)); exact BK177.out⟩, ⟨by (with_reducible repeat (first | refine blk_drewN ?_ _ | refine blk_drew ?_ | refine blk_alloc ?_ _)); exact BK182.out⟩, ⟨by repeat (first | (with_reducible first | exact HB.out | apply below_alloc | apply pw_below_drewN | apply below_drew1 | refine below_set ?_ GE177.out | refine below_set ?_ GE182.out) | exact HB.out)⟩⟩
            case rest =>
             as_aux_lemma =>
              clear HC24; (try clear c1); (try clear p1); (try clear q1); (try clear hx1); (try clear qi1); (try clear c2); (try clear p2); (try clear c3); (try clear c4); (try clear c5); (try clear c5b0); (try clear c6); (try clear c6b0); (try clear c6b1); (try clear p6); (try clear c7); (try clear c7b0); (try clear c7b1); (try clear c8); (try clear c8b0); (try clear c9); (try clear c9b0); (try clear c9b1); (try clear c11); (try clear c11b0); (try clear c12); (try clear c12b0); (try clear c12b1); (try clear c13); (try clear c13b0); (try clear c14); (try clear c14b0); (try clear c15); (try clear c17); (try clear c17b0); (try clear p18); (try clear q18); (try clear hx18); (try clear qi18); (try clear c19); (try clear c19b0); (try clear c19b1); (try clear c20); (try clear c20b0); (try clear c20b1); (try clear c22); (try clear c22b0); (try clear c22b1); (try clear c23); (try clear c24); (try clear c28); (try clear c31); (try clear c32); (try clear hcz16_0); (try clear hcz16_1); (try clear hcz16_2); (try clear hcz16_3); (try clear hcz18_0); (try clear hcz18_1); (try clear hcz18_2); (try clear hcz18_3); (try clear hcz29_0); (try clear hcz29_1); (try clear hcz29_2); (try clear hcz29_3); (try clear hfz16_0); (try clear hfz16_1); (try clear hfz16_2); (try clear hfz16_3); (try clear hfz18_0); (try clear hfz18_1); (try clear hfz18_2); (try clear hfz18_3); (try clear hfz29_0); (try clear hfz29_1); (try clear hfz29_2); (try clear hfz29_3); (try clear hx181_0); (try clear hx183_0); (try clear hx187_0); (try clear p181); (try clear p183); (try clear p187); (try clear p2); (try clear p6); (try clear q181); (try clear q183); (try clear q187); obtain ⟨kq, x93_23, rfl, HA, HJ23, HO_8, BK177, BK182, HB⟩ := hcut
              cases kq with
              | zero => exact absurd HA.out (by simp [pennantref22_Read.j3])
              | succ kj23 =>
               (have H := HA.out); clear HA; simp only [pennantref22_Read.j3] at H; by_cases c34 : x93_23 = true
               ·
                subst c34; (have H1 : (some ((⟨#[]⟩ : ByteArray), ([] : List (S79)), (⟨#[]⟩ : ByteArray), 0, 220)) = some (r1, r2, r3, r4, r5) := by rw [if_pos rfl] at H; exact H); clear H; (have H := H1); clear H1; simp only [Option.some.injEq, Prod.mk.injEq] at H; (obtain ⟨rfl, rfl, rfl, rfl, rfl⟩ := H); (have hnb35 := NB177_182.out); (have hnc35 := NB182_177.out); (have hcz36_0 : wc.cell? ⟨gb177, 0, none⟩ = some (.string (⟨#[]⟩ : ByteArray)) := (blk_cell BK177.out 0).trans rfl); (have hcz36_1 : wc.cell? ⟨gb177, 1, none⟩ = some (.slice none 0 0) := (blk_cell BK177.out 1).trans rfl); (have hcz36_2 : wc.cell? ⟨gb177, 2, none⟩ = some (.string (⟨#[]⟩ : ByteArray)) := (blk_cell BK177.out 2).trans rfl); (have hcz36_3 : wc.cell? ⟨gb177, 3, none⟩ = some (.int .i64 0) := (blk_cell BK177.out 3).trans rfl); (have hfz36_0 := blk_frozen BK177.out 0); (have hfz36_1 := blk_frozen BK177.out 1); (have hfz36_2 := blk_frozen BK177.out 2); (have hfz36_3 := blk_frozen BK177.out 3); (go_wp2); (refine bodyPost_ret (results_ct rfl _ _ gb177 65 #[.string (⟨#[]⟩ : ByteArray), .slice none 0 0, .string (⟨#[]⟩ : ByteArray), .int .i64 0] (0, 0) _ rfl (by (with_reducible repeat (first | refine blk_drewN ?_ _ | refine blk_drew ?_ | refine blk_alloc ?_ _)); refine blk_put (cs := #[.string (⟨#[]⟩ : ByteArray), .slice none 0 0, .string (⟨#[]⟩ : ByteArray), .int .i64 0]) ?_ 3 _ rfl; (with_reducible repeat (first | refine blk_drewN ?_ _ | refine blk_drew ?_ | refine blk_alloc ?_ _)); refine blk_put (cs := #[.string (⟨#[]⟩ : ByteArray), .slice none 0 0, .string (⟨#[]⟩ : ByteArray), .int .i64 0]) ?_ 2 _ rfl; (with_reducible repeat (first | refine blk_drewN ?_ _ | refine blk_drew ?_ | refine blk_alloc ?_ _)); refine blk_put (cs := #[.string (⟨#[]⟩ : ByteArray), .slice none 0 0, .string (⟨#[]⟩ : ByteArray), .int .i64 0]) ?_ 1 _ rfl; (with_reducible repeat (first | refine blk_drewN ?_ _ | refine blk_drew ?_ | refine blk_alloc ?_ _)); refine blk_put (cs := #[.string (⟨#[]⟩ : ByteArray), .slice none 0 0, .string (⟨#[]⟩ : ByteArray), .int .i64 0]) ?_ 0 _ rfl; (with_reducible repeat (first | refine blk_drewN ?_ _ | refine blk_drew ?_ | refine blk_alloc ?_ _)); exact BK177.out) Tryz.underlying65 rfl (by kernel_rfl)) rfl ?_); exact ⟨_, by first | rfl | (simp [errW_none, errW_some] <;> rfl) | (simp [*, errW_none, errW_some] <;> rfl), by first | exact Kd.R_nil _ _ _ _ _ | exact Kd.N_nil _ _ _ _ _ | exact Kd.V_nil _ _ _ _ _ | exact Kd.Q_nil _ _ _ _ _ | exact Kd.S_nil _ _ _ _ _, by repeat (first | (with_reducible first | exact HB.out | apply below_alloc | apply pw_below_drewN | apply below_drew1 | refine below_set ?_ GE177.out | refine below_set ?_ GE182.out) | exact HB.out)⟩
               ·
                (replace c34 := Bool.eq_false_iff.mpr c34); subst c34; (have H1 : (pennantref22_Read.l1 kj23 a0 a1 t178 1 (rdOf ByteArray.empty t178 0) ([] : List (S79)) (⟨#[]⟩ : ByteArray) (wrap64 (x6_2 + 4))) = some (r1, r2, r3, r4, r5) := by rw [if_neg (show ¬ (false = true) by decide)] at H; exact H); clear H; (have H := H1); clear H1; (have H' := zM H); clear H; (go_wp2); go_loopg [13] kj23 (fun kq v13 w' => ∃ (x13_4 : Int) (x178000_4 : ByteArray) (x178002_4 : ByteArray) (x178003_4 : Int) (x183001_4 : List (S79)) (u183001 : Value), v13 = .int .i64 x13_4 ∧ Aside0 (pennantref22_Read.l1 kq a0 a1 t178 x13_4 (rdOf ByteArray.empty t178 0) x183001_4 (⟨#[]⟩ : ByteArray) (wrap64 (x6_2 + 4)) = some (r1, r2, r3, r4, r5)) ∧ Aside0 (kq ≤ kj23) ∧ Aside0 (Kd.R Kd.string 9 w' w.heap.size (fun _ => True) (.slice (some ad181) t178.length co26) t178) ∧ Aside0 (Kd.R k79 79 w' w.heap.size (fun _ => True) u183001 x183001_4) ∧ Aside0 (w'.heap[gb177]? = some (.cells #[.string x178000_4, (.slice none 0 0), .string x178002_4, .int .i64 x178003_4] 65 (0, 0))) ∧ Aside0 (w'.heap[gb182]? = some (.cells #[.string (rdOf ByteArray.empty t178 0), u183001, .string (⟨#[]⟩ : ByteArray), .int .i64 (wrap64 (x6_2 + 4))] 65 (0, 0))) ∧ Aside0 (Below w.heap.size w w'))
                case atStart => exact ⟨(1), ((⟨#[]⟩ : ByteArray)), ((⟨#[]⟩ : ByteArray)), (0), (([] : List (S79))), (.slice none 0 0), (by first | rfl | (simp; done) | (simp [*]; done)), H', ⟨Nat.le_refl _⟩, ⟨by (with_reducible repeat (first | apply Kd.R_alloc | apply Kd.R_drewN | apply Kd.R_drew)); exact HO_8.out⟩, ⟨by first | exact Kd.R_nil _ _ _ _ _ | exact Kd.N_nil _ _ _ _ _ | exact Kd.V_nil _ _ _ _ _ | exact Kd.Q_nil _ _ _ _ _ | exact Kd.S_nil _ _ _ _ _⟩, ⟨by (with_reducible repeat (first | refine blk_drewN ?_ _ | refine blk_drew ?_ | refine blk_alloc ?_ _)); exact BK177.out⟩, ⟨by (with_reducible repeat (first | refine blk_drewN ?_ _ | refine blk_drew ?_ | refine blk_alloc ?_ _)); exact BK182.out⟩, ⟨by repeat (first | (with_reducible first | exact HB.out | apply below_alloc | apply pw_below_drewN | apply below_drew1 | refine below_set ?_ GE177.out | refine below_set ?_ GE182.out) | exact HB.out)⟩⟩
                case round =>
                 clear H'; (try clear c1); (try clear p1); (try clear q1); (try clear hx1); (try clear qi1); (try clear c2); (try clear p2); (try clear c3); (try clear c4); (try clear c5); (try clear c5b0); (try clear c6); (try clear c6b0); (try clear c6b1); (try clear p6); (try clear c7); (try clear c7b0); (try clear c7b1); (try clear c8); (try clear c8b0); (try clear c9); (try clear c9b0); (try clear c9b1); (try clear c11); (try clear c11b0); (try clear c12); (try clear c12b0); (try clear c12b1); (try clear c13); (try clear c13b0); (try clear c14); (try clear c14b0); (try clear c15); (try clear c17); (try clear c17b0); (try clear p18); (try clear q18); (try clear hx18); (try clear qi18); (try clear c19); (try clear c19b0); (try clear c19b1); (try clear c20); (try clear c20b0); (try clear c20b1); (try clear c22); (try clear c22b0); (try clear c22b1); (try clear c23); (try clear c24); (try clear c28); (try clear c31); (try clear c32); (try clear c34); (try clear c35); (try clear hcz16_0); (try clear hcz16_1); (try clear hcz16_2); (try clear hcz16_3); (try clear hcz18_0); (try clear hcz18_1); (try clear hcz18_2); (try clear hcz18_3); (try clear hcz29_0); (try clear hcz29_1); (try clear hcz29_2); (try clear hcz29_3); (try clear hcz36_0); (try clear hcz36_1); (try clear hcz36_2); (try clear hcz36_3); (try clear hfz16_0); (try clear hfz16_1); (try clear hfz16_2); (try clear hfz16_3); (try clear hfz18_0); (try clear hfz18_1); (try clear hfz18_2); (try clear hfz18_3); (try clear hfz29_0); (try clear hfz29_1); (try clear hfz29_2); (try clear hfz29_3); (try clear hfz36_0); (try clear hfz36_1); (try clear hfz36_2); (try clear hfz36_3); (try clear hx181_0); (try clear hx183_0); (try clear hx187_0); (try clear p1); (try clear p18); (try clear p181); (try clear p183); (try clear p187); (try clear p2); (try clear p6); (try clear q1); (try clear q18); (try clear q181); (try clear q183); (try clear q187); obtain ⟨x13_4, x178000_4, x178002_4, x178003_4, x183001_4, u183001, rfl, HA, HK4, HO_8, HO_183001, BK177, BK182, HB⟩ := hrel
                 cases gk with
                 | zero => exact absurd HA.out (by simp [pennantref22_Read.l1])
                 | succ k4 =>
                  (have H := HA.out); clear HA; simp only [pennantref22_Read.l1] at H; by_cases c37 : x13_4 < (t178.length : Int)
                  ·
                   rw [if_pos c37] at H; (have c37b0 : decide (x13_4 < (t178.length : Int)) = true := decide_eq_true c37); clear c37; (have HC38 := zM H); clear H; (go_upto_block 4 with (fail)); go_cut [14] (fun v14 wc => ∃ (kq : Nat) (x14_37 : Int), v14 = .int .i64 x14_37 ∧ Aside0 (pennantref22_Read.j6 kq a0 a1 t178 x13_4 x14_37 (rdOf ByteArray.empty t178 0) x183001_4 (⟨#[]⟩ : ByteArray) (wrap64 (x6_2 + 4)) = some (r1, r2, r3, r4, r5)) ∧ Aside0 (kq ≤ k4) ∧ Aside0 (Kd.R Kd.string 9 wc w.heap.size (fun _ => True) (.slice (some ad181) t178.length co26) t178) ∧ Aside0 (Kd.R k79 79 wc w.heap.size (fun _ => True) u183001 x183001_4) ∧ Aside0 (wc.heap[gb177]? = some (.cells #[.string x178000_4, (.slice none 0 0), .string x178002_4, .int .i64 x178003_4] 65 (0, 0))) ∧ Aside0 (wc.heap[gb182]? = some (.cells #[.string (rdOf ByteArray.empty t178 0), u183001, .string (⟨#[]⟩ : ByteArray), .int .i64 (wrap64 (x6_2 + 4))] 65 (0, 0))) ∧ Aside0 (Below w.heap.size w wc))
                   case first =>
                    (have H := HC38.out); clear HC38; (have H' := zM H); clear H; (go_wp2); go_loopg [14] k4 (fun kq v14 w' => ∃ (x14_5 : Int), v14 = .int .i64 x14_5 ∧ Aside0 (pennantref22_Read.l2 kq a0 a1 t178 x13_4 x14_5 (rdOf ByteArray.empty t178 0) x183001_4 (⟨#[]⟩ : ByteArray) (wrap64 (x6_2 + 4)) = some (r1, r2, r3, r4, r5)) ∧ Aside0 (kq ≤ k4) ∧ Aside0 (Kd.R Kd.string 9 w' w.heap.size (fun _ => True) (.slice (some ad181) t178.length co26) t178) ∧ Aside0 (Kd.R k79 79 w' w.heap.size (fun _ => True) u183001 x183001_4) ∧ Aside0 (w'.heap[gb177]? = some (.cells #[.string x178000_4, (.slice none 0 0), .string x178002_4, .int .i64 x178003_4] 65 (0, 0))) ∧ Aside0 (w'.heap[gb182]? = some (.cells #[.string (rdOf ByteArray.empty t178 0), u183001, .string (⟨#[]⟩ : ByteArray), .int .i64 (wrap64 (x6_2 + 4))] 65 (0, 0))) ∧ Aside0 (Below w.heap.size w w'))
                    case atStart => exact ⟨(0), (by first | rfl | (simp; done) | (simp [*]; done)), H', ⟨Nat.le_refl _⟩, ⟨by (with_reducible repeat (first | apply Kd.R_alloc | apply Kd.R_drewN | apply Kd.R_drew)); exact HO_8.out⟩, ⟨by (with_reducible repeat (first | apply Kd.R_alloc | apply Kd.R_drewN | apply Kd.R_drew)); exact HO_183001.out⟩, ⟨by (with_reducible repeat (first | refine blk_drewN ?_ _ | refine blk_drew ?_ | refine blk_alloc ?_ _)); exact BK177.out⟩, ⟨by (with_reducible repeat (first | refine blk_drewN ?_ _ | refine blk_drew ?_ | refine blk_alloc ?_ _)); exact BK182.out⟩, ⟨by repeat (first | (with_reducible first | exact HB.out | apply below_alloc | apply pw_below_drewN | apply below_drew1 | refine below_set ?_ GE177.out | refine below_set ?_ GE182.out) | exact HB.out)⟩⟩
                    case round =>
                     clear H'; (try clear c1); (try clear p1); (try clear q1); (try clear hx1); (try clear qi1); (try clear c2); (try clear p2); (try clear c3); (try clear c4); (try clear c5); (try clear c5b0); (try clear c6); (try clear c6b0); (try clear c6b1); (try clear p6); (try clear c7); (try clear c7b0); (try clear c7b1); (try clear c8); (try clear c8b0); (try clear c9); (try clear c9b0); (try clear c9b1); (try clear c11); (try clear c11b0); (try clear c12); (try clear c12b0); (try clear c12b1); (try clear c13); (try clear c13b0); (try clear c14); (try clear c14b0); (try clear c15); (try clear c17); (try clear c17b0); (try clear p18); (try clear q18); (try clear hx18); (try clear qi18); (try clear c19); (try clear c19b0); (try clear c19b1); (try clear c20); (try clear c20b0); (try clear c20b1); (try clear c22); (try clear c22b0); (try clear c22b1); (try clear c23); (try clear c24); (try clear c28); (try clear c31); (try clear c32); (try clear c34); (try clear c35); (try clear c37); (try clear c37b0); (try clear hcz16_0); (try clear hcz16_1); (try clear hcz16_2); (try clear hcz16_3); (try clear hcz18_0); (try clear hcz18_1); (try clear hcz18_2); (try clear hcz18_3); (try clear hcz29_0); (try clear hcz29_1); (try clear hcz29_2); (try clear hcz29_3); (try clear hcz36_0); (try clear hcz36_1); (try clear hcz36_2); (try clear hcz36_3); (try clear hfz16_0); (try clear hfz16_1); (try clear hfz16_2); (try clear hfz16_3); (try clear hfz18_0); (try clear hfz18_1); (try clear hfz18_2); (try clear hfz18_3); (try clear hfz29_0); (try clear hfz29_1); (try clear hfz29_2); (try clear hfz29_3); (try clear hfz36_0); (try clear hfz36_1); (try clear hfz36_2); (try clear hfz36_3); (try clear hx181_0); (try clear hx183_0); (try clear hx187_0); (try clear p1); (try clear p18); (try clear p181); (try clear p183); (try clear p187); (try clear p2); (try clear p6); (try clear q1); (try clear q18); (try clear q181); (try clear q183); (try clear q187); obtain ⟨x14_5, rfl, HA, HK5, HO_8, HO_183001, BK177, BK182, HB⟩ := hrel
                     cases gk with
                     | zero => exact absurd HA.out (by simp [pennantref22_Read.l2])
                     | succ k5 =>
                      (have H := HA.out); clear HA; simp only [pennantref22_Read.l2] at H; by_cases c39 : 0 ≤ x13_4
                      ·
                       rw [if_pos c39] at H; (have c39b0 : decide (0 ≤ x13_4) = true := decide_eq_true c39); clear c39; (first | rw [c39b0] | (simp only [i64_w, i32_w]; rw [c39b0]) | skip); by_cases c40 : x13_4 < (t178.length : Int)
                       ·
                        rw [if_pos c40] at H; (have c40b0 : decide (x13_4 < (t178.length : Int)) = true := decide_eq_true c40); clear c40; by_cases c41 : x14_5 < ((rdOf ByteArray.empty t178 x13_4).size : Int)
                        ·
                         rw [if_pos c41] at H; (have c41b0 : decide (x14_5 < ((rdOf ByteArray.empty t178 x13_4).size : Int)) = true := decide_eq_true c41); clear c41; by_cases c42 : 0 ≤ x14_5
                         ·
                          rw [if_pos c42] at H; (have c42b0 : decide (0 ≤ x14_5) = true := decide_eq_true c42); clear c42; by_cases c44 : (bt (rdOf ByteArray.empty t178 x13_4) x14_5) = 58
                          ·
                           rw [if_pos c44] at H; (have c44b0 : ((bt (rdOf ByteArray.empty t178 x13_4) x14_5) == 58) = true := beq_iff_eq.mpr c44); (have c44b1 : ((bt (rdOf ByteArray.empty t178 x13_4) x14_5) != 58) = false := bne_eq_false_iff_eq.mpr c44); clear c44; (have H' := zM H); clear H; (have p189 : 0 ≤ (x13_4 : Int) := of_decide_eq_true (by first | (with_reducible assumption) | assumption)); (have q189 : x13_4 < (t178.length : Int) := of_decide_eq_true (by first | (with_reducible assumption) | assumption)); (obtain ⟨ad189, e189, hx189_0⟩ := Kd.at_string (Kd.R_reads' HO_8.out).2.2 x13_4 p189 q189); (obtain rfl : ad181 = ad189 := (by injection e189)); (replace p189 := eq_true p189); (replace q189 := eq_true q189); (have p190 : 0 ≤ (x13_4 : Int) := of_decide_eq_true (by first | (with_reducible assumption) | assumption)); (have q190 : x13_4 < (t178.length : Int) := of_decide_eq_true (by first | (with_reducible assumption) | assumption)); (obtain ⟨ad190, e190, hx190_0⟩ := Kd.at_string (Kd.R_reads' HO_8.out).2.2 x13_4 p190 q190); (obtain rfl : ad181 = ad190 := (by injection e190)); (replace p190 := eq_true p190); (replace q190 := eq_true q190); (have p43 : 0 ≤ (x14_5 : Int) := of_decide_eq_true (by first | (with_reducible assumption) | assumption)); (have q43 : x14_5 < ((rdOf ByteArray.empty t178 x13_4).size : Int) := of_decide_eq_true (by first | (with_reducible assumption) | assumption)); (have hx43 := bt_at (rdOf ByteArray.empty t178 x13_4) x14_5); (replace p43 := eq_true p43); (replace q43 := eq_true q43); (go_wp2); go_meet
                           case rel => exact ⟨_, (x14_5), (by first | rfl | (simp; done) | (simp [*]; done)), H', ⟨by have := HJ2.out; have := HJ9.out; have := HJ23.out; have := HK4.out; have := HK5.out; first | omega | exact Nat.le_refl _⟩, ⟨by (with_reducible repeat (first | apply Kd.R_alloc | apply Kd.R_drewN | apply Kd.R_drew)); exact HO_8.out⟩, ⟨by (with_reducible repeat (first | apply Kd.R_alloc | apply Kd.R_drewN | apply Kd.R_drew)); exact HO_183001.out⟩, ⟨by (with_reducible repeat (first | refine blk_drewN ?_ _ | refine blk_drew ?_ | refine blk_alloc ?_ _)); exact BK177.out⟩, ⟨by (with_reducible repeat (first | refine blk_drewN ?_ _ | refine blk_drew ?_ | refine blk_alloc ?_ _)); exact BK182.out⟩, ⟨by repeat (first | (with_reducible first | exact HB.out | apply below_alloc | apply pw_below_drewN | apply below_drew1 | refine below_set ?_ GE177.out | refine below_set ?_ GE182.out) | exact HB.out)⟩⟩
                          ·
                           rw [if_neg c44] at H; (have c44b0 : ((bt (rdOf ByteArray.empty t178 x13_4) x14_5) == 58) = false := beq_eq_false_iff_ne.mpr c44); (have c44b1 : ((bt (rdOf ByteArray.empty t178 x13_4) x14_5) != 58) = true := bne_iff_ne.mpr c44); (have H' := zM H); clear H; (have p189 : 0 ≤ (x13_4 : Int) := of_decide_eq_true (by first | (with_reducible assumption) | assumption)); (have q189 : x13_4 < (t178.length : Int) := of_decide_eq_true (by first | (with_reducible assumption) | assumption)); (obtain ⟨ad189, e189, hx189_0⟩ := Kd.at_string (Kd.R_reads' HO_8.out).2.2 x13_4 p189 q189); (obtain rfl : ad181 = ad189 := (by injection e189)); (replace p189 := eq_true p189); (replace q189 := eq_true q189); (have p190 : 0 ≤ (x13_4 : Int) := of_decide_eq_true (by first | (with_reducible assumption) | assumption)); (have q190 : x13_4 < (t178.length : Int) := of_decide_eq_true (by first | (with_reducible assumption) | assumption)); (obtain ⟨ad190, e190, hx190_0⟩ := Kd.at_string (Kd.R_reads' HO_8.out).2.2 x13_4 p190 q190); (obtain rfl : ad181 = ad190 := (by injection e190)); (replace p190 := eq_true p190); (replace q190 := eq_true q190); (have p43 : 0 ≤ (x14_5 : Int) := of_decide_eq_true (by first | (with_reducible assumption) | assumption)); (have q43 : x14_5 < ((rdOf ByteArray.empty t178 x13_4).size : Int) := of_decide_eq_true (by first | (with_reducible assumption) | assumption)); (have hx43 := bt_at (rdOf ByteArray.empty t178 x13_4) x14_5); (replace p43 := eq_true p43); (replace q43 := eq_true q43); (go_wp2); go_roundg k5
                           case measure => have := HJ2.out; have := HJ9.out; have := HJ23.out; have := HK4.out; have := HK5.out; omega
                           case rel => exact ⟨(wrap64 (x14_5 + 1)), (by first | rfl | (simp; done) | (simp [*]; done)), H', ⟨by have := HJ2.out; have := HJ9.out; have := HJ23.out; have := HK4.out; have := HK5.out; omega⟩, ⟨by (with_reducible repeat (first | apply Kd.R_alloc | apply Kd.R_drewN | apply Kd.R_drew)); exact HO_8.out⟩, ⟨by (with_reducible repeat (first | apply Kd.R_alloc | apply Kd.R_drewN | apply Kd.R_drew)); exact HO_183001.out⟩, ⟨by (with_reducible repeat (first | refine blk_drewN ?_ _ | refine blk_drew ?_ | refine blk_alloc ?_ _)); exact BK177.out⟩, ⟨by (with_reducible repeat (first | refine blk_drewN ?_ _ | refine blk_drew ?_ | refine blk_alloc ?_ _)); exact BK182.out⟩, ⟨by repeat (first | (with_reducible first | exact HB.out | apply below_alloc | apply pw_below_drewN | apply below_drew1 | refine below_set ?_ GE177.out | refine below_set ?_ GE182.out) | exact HB.out)⟩⟩
                         ·
                          rw [if_neg c42] at H; exact absurd H (by simp)
                        ·
                         rw [if_neg c41] at H; (have c41b0 : decide (x14_5 < ((rdOf ByteArray.empty t178 x13_4).size : Int)) = false := decide_eq_false c41); clear c41; (have H' := zM H); clear H; (have p189 : 0 ≤ (x13_4 : Int) := of_decide_eq_true (by first | (with_reducible assumption) | assumption)); (have q189 : x13_4 < (t178.length : Int) := of_decide_eq_true (by first | (with_reducible assumption) | assumption)); (obtain ⟨ad189, e189, hx189_0⟩ := Kd.at_string (Kd.R_reads' HO_8.out).2.2 x13_4 p189 q189); (obtain rfl : ad181 = ad189 := (by injection e189)); (replace p189 := eq_true p189); (replace q189 := eq_true q189); (go_wp2); go_meet
                         case rel => exact ⟨_, (x14_5), (by first | rfl | (simp; done) | (simp [*]; done)), H', ⟨by have := HJ2.out; have := HJ9.out; have := HJ23.out; have := HK4.out; have := HK5.out; first | omega | exact Nat.le_refl _⟩, ⟨by (with_reducible repeat (first | apply Kd.R_alloc | apply Kd.R_drewN | apply Kd.R_drew)); exact HO_8.out⟩, ⟨by (with_reducible repeat (first | apply Kd.R_alloc | apply Kd.R_drewN | apply Kd.R_drew)); exact HO_183001.out⟩, ⟨by (with_reducible repeat (first | refine blk_drewN ?_ _ | refine blk_drew ?_ | refine blk_alloc ?_ _)); exact BK177.out⟩, ⟨by (with_reducible repeat (first | refine blk_drewN ?_ _ | refine blk_drew ?_ | refine blk_alloc ?_ _)); exact BK182.out⟩, ⟨by repeat (first | (with_reducible first | exact HB.out | apply below_alloc | apply pw_below_drewN | apply below_drew1 | refine below_set ?_ GE177.out | refine below_set ?_ GE182.out) | exact HB.out)⟩⟩
                       ·
                        rw [if_neg c40] at H; exact absurd H (by simp)
                      ·
                       rw [if_neg c39] at H; exact absurd H (by simp)
                   case rest =>
                    as_aux_lemma =>
                     clear HC38; (try clear c1); (try clear p1); (try clear q1); (try clear hx1); (try clear qi1); (try clear c2); (try clear p2); (try clear c3); (try clear c4); (try clear p4); (try clear q4); (try clear hx4); (try clear c5); (try clear c5b0); (try clear c6); (try clear c6b0); (try clear c6b1); (try clear p6); (try clear c7); (try clear c7b0); (try clear c7b1); (try clear c8); (try clear c8b0); (try clear c9); (try clear c9b0); (try clear c9b1); (try clear c11); (try clear c11b0); (try clear c12); (try clear c12b0); (try clear c12b1); (try clear c13); (try clear c13b0); (try clear c14); (try clear c14b0); (try clear c15); (try clear c17); (try clear c17b0); (try clear p18); (try clear q18); (try clear hx18); (try clear qi18); (try clear c19); (try clear c19b0); (try clear c19b1); (try clear p19); (try clear q19); (try clear hx19); (try clear c20); (try clear c20b0); (try clear c20b1); (try clear c22); (try clear c22b0); (try clear c22b1); (try clear c23); (try clear c24); (try clear c28); (try clear c31); (try clear c32); (try clear c34); (try clear c35); (try clear c37); (try clear c37b0); (try clear c39); (try clear c39b0); (try clear c40); (try clear c40b0); (try clear c41); (try clear c41b0); (try clear c42); (try clear c42b0); (try clear p43); (try clear q43); (try clear hx43); (try clear c44); (try clear c44b0); (try clear c44b1); (try clear hcz16_0); (try clear hcz16_1); (try clear hcz16_2); (try clear hcz16_3); (try clear hcz18_0); (try clear hcz18_1); (try clear hcz18_2); (try clear hcz18_3); (try clear hcz29_0); (try clear hcz29_1); (try clear hcz29_2); (try clear hcz29_3); (try clear hcz36_0); (try clear hcz36_1); (try clear hcz36_2); (try clear hcz36_3); (try clear hfz16_0); (try clear hfz16_1); (try clear hfz16_2); (try clear hfz16_3); (try clear hfz18_0); (try clear hfz18_1); (try clear hfz18_2); (try clear hfz18_3); (try clear hfz29_0); (try clear hfz29_1); (try clear hfz29_2); (try clear hfz29_3); (try clear hfz36_0); (try clear hfz36_1); (try clear hfz36_2); (try clear hfz36_3); (try clear hx181_0); (try clear hx183_0); (try clear hx187_0); (try clear hx189_0); (try clear hx190_0); (try clear p1); (try clear p18); (try clear p181); (try clear p183); (try clear p187); (try clear p189); (try clear p190); (try clear p2); (try clear p43); (try clear p6); (try clear q1); (try clear q18); (try clear q181); (try clear q183); (try clear q187); (try clear q189); (try clear q190); (try clear q43); obtain ⟨kq, x14_37, rfl, HA, HJ37, HO_8, HO_183001, BK177, BK182, HB⟩ := hcut
                     cases kq with
                     | zero => exact absurd HA.out (by simp [pennantref22_Read.j6])
                     | succ kj37 =>
                      (have H := HA.out); clear HA; simp only [pennantref22_Read.j6] at H; (have HC45 := zM H); clear H; (go_upto_region 20 with (fail)); go_cut [146] (fun v146 wc => ∃ (kq : Nat) (x146_44 : Bool), v146 = .bool x146_44 ∧ Aside0 (pennantref22_Read.j7 kq a0 a1 t178 x13_4 x14_37 x146_44 (rdOf ByteArray.empty t178 0) x183001_4 (⟨#[]⟩ : ByteArray) (wrap64 (x6_2 + 4)) = some (r1, r2, r3, r4, r5)) ∧ Aside0 (kq ≤ kj37) ∧ Aside0 (Kd.R Kd.string 9 wc w.heap.size (fun _ => True) (.slice (some ad181) t178.length co26) t178) ∧ Aside0 (Kd.R k79 79 wc w.heap.size (fun _ => True) u183001 x183001_4) ∧ Aside0 (wc.heap[gb177]? = some (.cells #[.string x178000_4, (.slice none 0 0), .string x178002_4, .int .i64 x178003_4] 65 (0, 0))) ∧ Aside0 (wc.heap[gb182]? = some (.cells #[.string (rdOf ByteArray.empty t178 0), u183001, .string (⟨#[]⟩ : ByteArray), .int .i64 (wrap64 (x6_2 + 4))] 65 (0, 0))) ∧ Aside0 (Below w.heap.size w wc))
                      case first =>
                       (have H := HC45.out); clear HC45; by_cases c46 : 0 ≤ x13_4
                       ·
                        rw [if_pos c46] at H; (have c46b0 : decide (0 ≤ x13_4) = true := decide_eq_true c46); clear c46; (first | rw [c46b0] | (simp only [i64_w, i32_w]; rw [c46b0]) | skip); by_cases c47 : x13_4 < (t178.length : Int)
                        ·
                         rw [if_pos c47] at H; (have c47b0 : decide (x13_4 < (t178.length : Int)) = true := decide_eq_true c47); clear c47; by_cases c48 : x14_37 = ((rdOf ByteArray.empty t178 x13_4).size : Int)
                         ·
                          rw [if_pos c48] at H; (have c48b0 : (x14_37 == ((rdOf ByteArray.empty t178 x13_4).size : Int)) = true := beq_iff_eq.mpr c48); (have c48b1 : (x14_37 != ((rdOf ByteArray.empty t178 x13_4).size : Int)) = false := bne_eq_false_iff_eq.mpr c48); clear c48; (have H' := zM H); clear H; (have p191 : 0 ≤ (x13_4 : Int) := of_decide_eq_true (by first | (with_reducible assumption) | assumption)); (have q191 : x13_4 < (t178.length : Int) := of_decide_eq_true (by first | (with_reducible assumption) | assumption)); (obtain ⟨ad191, e191, hx191_0⟩ := Kd.at_string (Kd.R_reads' HO_8.out).2.2 x13_4 p191 q191); (obtain rfl : ad181 = ad191 := (by injection e191)); (replace p191 := eq_true p191); (replace q191 := eq_true q191); (go_wp2); go_meet
                          case rel => exact ⟨_, (true), (by first | rfl | (simp; done) | (simp [*]; done)), H', ⟨by have := HJ2.out; have := HJ9.out; have := HJ23.out; have := HK4.out; have := HJ37.out; first | omega | exact Nat.le_refl _⟩, ⟨by (with_reducible repeat (first | apply Kd.R_alloc | apply Kd.R_drewN | apply Kd.R_drew)); exact HO_8.out⟩, ⟨by (with_reducible repeat (first | apply Kd.R_alloc | apply Kd.R_drewN | apply Kd.R_drew)); exact HO_183001.out⟩, ⟨by (with_reducible repeat (first | refine blk_drewN ?_ _ | refine blk_drew ?_ | refine blk_alloc ?_ _)); exact BK177.out⟩, ⟨by (with_reducible repeat (first | refine blk_drewN ?_ _ | refine blk_drew ?_ | refine blk_alloc ?_ _)); exact BK182.out⟩, ⟨by repeat (first | (with_reducible first | exact HB.out | apply below_alloc | apply pw_below_drewN | apply below_drew1 | refine below_set ?_ GE177.out | refine below_set ?_ GE182.out) | exact HB.out)⟩⟩
                         ·
                          rw [if_neg c48] at H; (have c48b0 : (x14_37 == ((rdOf ByteArray.empty t178 x13_4).size : Int)) = false := beq_eq_false_iff_ne.mpr c48); (have c48b1 : (x14_37 != ((rdOf ByteArray.empty t178 x13_4).size : Int)) = true := bne_iff_ne.mpr c48); by_cases c49 : 0 ≤ x14_37
                          ·
                           rw [if_pos c49] at H; (have c49b0 := eq_true c49); (have c49b1 : decide (0 ≤ x14_37) = true := decide_eq_true c49); clear c49; by_cases c50 : x14_37 ≤ ((rdOf ByteArray.empty t178 x13_4).size : Int)
                           ·
                            rw [if_pos c50] at H; (have c50b0 := eq_true c50); (have c50b1 : decide (x14_37 ≤ ((rdOf ByteArray.empty t178 x13_4).size : Int)) = true := decide_eq_true c50); clear c50; (replace H := Option.bind_eq_some_iff.mp H); (obtain ⟨t193, A510, H⟩ := H); replace H : (if t193 = true then (if 0 ≤ (wrap64 (x14_37 + 1)) then (if (wrap64 (x14_37 + 1)) ≤ ((rdOf ByteArray.empty t178 x13_4).size : Int) then ((pennantref22_Text.f kj37 ((rdOf ByteArray.empty t178 x13_4).extract ((wrap64 (x14_37 + 1)) : Int).toNat (rdOf ByteArray.empty t178 x13_4).size)).bind fun t195 => (pennantref22_Read.j7 kj37 a0 a1 t178 x13_4 x14_37 (!t195) (rdOf ByteArray.empty t178 0) x183001_4 (⟨#[]⟩ : ByteArray) (wrap64 (x6_2 + 4)))) else (none)) else (none)) else (pennantref22_Read.j7 kj37 a0 a1 t178 x13_4 x14_37 true (rdOf ByteArray.empty t178 0) x183001_4 (⟨#[]⟩ : ByteArray) (wrap64 (x6_2 + 4)))) = some (r1, r2, r3, r4, r5) := H; (have A51 := zM A510); clear A510; by_cases c52 : t193 = true
                            ·
                             subst c52; (have H1 : (if 0 ≤ (wrap64 (x14_37 + 1)) then (if (wrap64 (x14_37 + 1)) ≤ ((rdOf ByteArray.empty t178 x13_4).size : Int) then ((pennantref22_Text.f kj37 ((rdOf ByteArray.empty t178 x13_4).extract ((wrap64 (x14_37 + 1)) : Int).toNat (rdOf ByteArray.empty t178 x13_4).size)).bind fun t195 => (pennantref22_Read.j7 kj37 a0 a1 t178 x13_4 x14_37 (!t195) (rdOf ByteArray.empty t178 0) x183001_4 (⟨#[]⟩ : ByteArray) (wrap64 (x6_2 + 4)))) else (none)) else (none)) = some (r1, r2, r3, r4, r5) := by rw [if_pos rfl] at H; exact H); clear H; (have H := H1); clear H1; (obtain ⟨ji53, hji53⟩ : ∃ j_ : Int, (wrap64 (x14_37 + 1)) = j_ := ⟨_, rfl⟩); (replace H : (if 0 ≤ (ji53) then (if (ji53) ≤ ((rdOf ByteArray.empty t178 x13_4).size : Int) then ((pennantref22_Text.f kj37 ((rdOf ByteArray.empty t178 x13_4).extract ((ji53) : Int).toNat (rdOf ByteArray.empty t178 x13_4).size)).bind fun t195 => (pennantref22_Read.j7 kj37 a0 a1 t178 x13_4 x14_37 (!t195) (rdOf ByteArray.empty t178 0) x183001_4 (⟨#[]⟩ : ByteArray) (wrap64 (x6_2 + 4)))) else (none)) else (none)) = some (r1, r2, r3, r4, r5) := by first | (rw [hji53] at H; exact H) | (simp only [hji53] at H ⊢; exact H)); (try rw [hji53] at A51); (have hji53w : (IntKind.i64.wrap (x14_37 + 1)) = ji53 := (i64_w _).trans hji53); by_cases c54 : 0 ≤ (ji53)
                             ·
                              rw [if_pos c54] at H; (have c54b0 := eq_true c54); (have c54b1 : decide (0 ≤ (ji53)) = true := decide_eq_true c54); clear c54; by_cases c55 : (ji53) ≤ ((rdOf ByteArray.empty t178 x13_4).size : Int)
                              ·
                               rw [if_pos c55] at H; (have c55b0 := eq_true c55); (have c55b1 : decide ((ji53) ≤ ((rdOf ByteArray.empty t178 x13_4).size : Int)) = true := decide_eq_true c55); clear c55; (replace H := Option.bind_eq_some_iff.mp H); (obtain ⟨t195, A560, H⟩ := H); replace H : (pennantref22_Read.j7 kj37 a0 a1 t178 x13_4 x14_37 (!t195) (rdOf ByteArray.empty t178 0) x183001_4 (⟨#[]⟩ : ByteArray) (wrap64 (x6_2 + 4))) = some (r1, r2, r3, r4, r5) := H; (have A56 := zM A560); clear A560; (have H' := zM H); clear H; (have p191 : 0 ≤ (x13_4 : Int) := of_decide_eq_true (by first | (with_reducible assumption) | assumption)); (have q191 : x13_4 < (t178.length : Int) := of_decide_eq_true (by first | (with_reducible assumption) | assumption)); (obtain ⟨ad191, e191, hx191_0⟩ := Kd.at_string (Kd.R_reads' HO_8.out).2.2 x13_4 p191 q191); (obtain rfl : ad181 = ad191 := (by injection e191)); (replace p191 := eq_true p191); (replace q191 := eq_true q191); (have p192 : 0 ≤ (x13_4 : Int) := of_decide_eq_true (by first | (with_reducible assumption) | assumption)); (have q192 : x13_4 < (t178.length : Int) := of_decide_eq_true (by first | (with_reducible assumption) | assumption)); (obtain ⟨ad192, e192, hx192_0⟩ := Kd.at_string (Kd.R_reads' HO_8.out).2.2 x13_4 p192 q192); (obtain rfl : ad181 = ad192 := (by injection e192)); (replace p192 := eq_true p192); (replace q192 := eq_true q192); (go_wp2_with (first | (go_at_call 43; (with_reducible refine (pennantref22_Token.calls kj37 ((rdOf ByteArray.empty t178 x13_4).extract 0 (x14_37 : Int).toNat) true _ A51.out).mono ?_); rintro e w' ⟨rfl, ⟨nd, rfl⟩⟩; have p194 : 0 ≤ (x13_4 : Int) := of_decide_eq_true (by first | (with_reducible assumption) | assumption); have q194 : x13_4 < (t178.length : Int) := of_decide_eq_true (by first | (with_reducible assumption) | assumption); obtain ⟨ad194, e194, hx194_0⟩ := Kd.at_string (Kd.R_reads' HO_8.out).2.2 x13_4 p194 q194; obtain rfl : ad181 = ad194 := (by injection e194); replace p194 := eq_true p194; replace q194 := eq_true q194) | (go_at_call 44; (with_reducible refine (pennantref22_Text.calls kj37 ((rdOf ByteArray.empty t178 x13_4).extract ((ji53) : Int).toNat (rdOf ByteArray.empty t178 x13_4).size) t195 _ A56.out).mono ?_); rintro e w' ⟨rfl, ⟨nd, rfl⟩⟩))); go_meet
                               case rel => exact ⟨_, (!t195), (by first | rfl | (simp; done) | (simp [*]; done)), H', ⟨by have := HJ2.out; have := HJ9.out; have := HJ23.out; have := HK4.out; have := HJ37.out; first | omega | exact Nat.le_refl _⟩, ⟨by (with_reducible repeat (first | apply Kd.R_alloc | apply Kd.R_drewN | apply Kd.R_drew)); exact HO_8.out⟩, ⟨by (with_reducible repeat (first | apply Kd.R_alloc | apply Kd.R_drewN | apply Kd.R_drew)); exact HO_183001.out⟩, ⟨by (with_reducible repeat (first | refine blk_drewN ?_ _ | refine blk_drew ?_ | refine blk_alloc ?_ _)); exact BK177.out⟩, ⟨by (with_reducible repeat (first | refine blk_drewN ?_ _ | refine blk_drew ?_ | refine blk_alloc ?_ _)); exact BK182.out⟩, ⟨by repeat (first | (with_reducible first | exact HB.out | apply below_alloc | apply pw_below_drewN | apply below_drew1 | refine below_set ?_ GE177.out | refine below_set ?_ GE182.out) | exact HB.out)⟩⟩
                              ·
                               rw [if_neg c55] at H; exact absurd H (by simp)
                             ·
                              rw [if_neg c54] at H; exact absurd H (by simp)
                            ·
                             (replace c52 := Bool.eq_false_iff.mpr c52); subst c52; (have H1 : (pennantref22_Read.j7 kj37 a0 a1 t178 x13_4 x14_37 true (rdOf ByteArray.empty t178 0) x183001_4 (⟨#[]⟩ : ByteArray) (wrap64 (x6_2 + 4))) = some (r1, r2, r3, r4, r5) := by rw [if_neg (show ¬ (false = true) by decide)] at H; exact H); clear H; (have H := H1); clear H1; (have H' := zM H); clear H; (have p191 : 0 ≤ (x13_4 : Int) := of_decide_eq_true (by first | (with_reducible assumption) | assumption)); (have q191 : x13_4 < (t178.length : Int) := of_decide_eq_true (by first | (with_reducible assumption) | assumption)); (obtain ⟨ad191, e191, hx191_0⟩ := Kd.at_string (Kd.R_reads' HO_8.out).2.2 x13_4 p191 q191); (obtain rfl : ad181 = ad191 := (by injection e191)); (replace p191 := eq_true p191); (replace q191 := eq_true q191); (have p192 : 0 ≤ (x13_4 : Int) := of_decide_eq_true (by first | (with_reducible assumption) | assumption)); (have q192 : x13_4 < (t178.length : Int) := of_decide_eq_true (by first | (with_reducible assumption) | assumption)); (obtain ⟨ad192, e192, hx192_0⟩ := Kd.at_string (Kd.R_reads' HO_8.out).2.2 x13_4 p192 q192); (obtain rfl : ad181 = ad192 := (by injection e192)); (replace p192 := eq_true p192); (replace q192 := eq_true q192); (go_wp2_with (first | (go_at_call 43; (with_reducible refine (pennantref22_Token.calls kj37 ((rdOf ByteArray.empty t178 x13_4).extract 0 (x14_37 : Int).toNat) false _ A51.out).mono ?_); rintro e w' ⟨rfl, ⟨nd, rfl⟩⟩))); go_meet
                             case rel => exact ⟨_, (true), (by first | rfl | (simp; done) | (simp [*]; done)), H', ⟨by have := HJ2.out; have := HJ9.out; have := HJ23.out; have := HK4.out; have := HJ37.out; first | omega | exact Nat.le_refl _⟩, ⟨by (with_reducible repeat (first | apply Kd.R_alloc | apply Kd.R_drewN | apply Kd.R_drew)); exact HO_8.out⟩, ⟨by (with_reducible repeat (first | apply Kd.R_alloc | apply Kd.R_drewN | apply Kd.R_drew)); exact HO_183001.out⟩, ⟨by (with_reducible repeat (first | refine blk_drewN ?_ _ | refine blk_drew ?_ | refine blk_alloc ?_ _)); exact BK177.out⟩, ⟨by (with_reducible repeat (first | refine blk_drewN ?_ _ | refine blk_drew ?_ | refine blk_alloc ?_ _)); exact BK182.out⟩, ⟨by repeat (first | (with_reducible first | exact HB.out | apply below_alloc | apply pw_below_drewN | apply below_drew1 | refine below_set ?_ GE177.out | refine below_set ?_ GE182.out) | exact HB.out)⟩⟩
                           ·
                            rw [if_neg c50] at H; exact absurd H (by simp)
                          ·
                           rw [if_neg c49] at H; exact absurd H (by simp)
                        ·
                         rw [if_neg c47] at H; exact absurd H (by simp)
                       ·
                        rw [if_neg c46] at H; exact absurd H (by simp)
                      case rest =>
                       as_aux_lemma =>
                        clear HC45; (try clear c1); (try clear p1); (try clear q1); (try clear hx1); (try clear qi1); (try clear c2); (try clear p2); (try clear c3); (try clear c4); (try clear p4); (try clear q4); (try clear hx4); (try clear c5); (try clear c5b0); (try clear c6); (try clear c6b0); (try clear c6b1); (try clear p6); (try clear c7); (try clear c7b0); (try clear c7b1); (try clear c8); (try clear c8b0); (try clear c9); (try clear c9b0); (try clear c9b1); (try clear c11); (try clear c11b0); (try clear c12); (try clear c12b0); (try clear c12b1); (try clear c13); (try clear c13b0); (try clear c14); (try clear c14b0); (try clear c15); (try clear c17); (try clear c17b0); (try clear p18); (try clear q18); (try clear hx18); (try clear qi18); (try clear c19); (try clear c19b0); (try clear c19b1); (try clear p19); (try clear q19); (try clear hx19); (try clear c20); (try clear c20b0); (try clear c20b1); (try clear c22); (try clear c22b0); (try clear c22b1); (try clear c23); (try clear c24); (try clear c28); (try clear c31); (try clear c32); (try clear c34); (try clear c35); (try clear c37); (try clear c37b0); (try clear c39); (try clear c39b0); (try clear c40); (try clear c40b0); (try clear c41); (try clear c41b0); (try clear c42); (try clear c42b0); (try clear p43); (try clear q43); (try clear hx43); (try clear c44); (try clear c44b0); (try clear c44b1); (try clear c46); (try clear c46b0); (try clear c47); (try clear c47b0); (try clear c48); (try clear c48b0); (try clear c48b1); (try clear c49); (try clear c49b0); (try clear c49b1); (try clear c50); (try clear c50b0); (try clear c50b1); (try clear c52); (try clear c54); (try clear c54b0); (try clear c54b1); (try clear c55); (try clear c55b0); (try clear c55b1); (try clear hcz16_0); (try clear hcz16_1); (try clear hcz16_2); (try clear hcz16_3); (try clear hcz18_0); (try clear hcz18_1); (try clear hcz18_2); (try clear hcz18_3); (try clear hcz29_0); (try clear hcz29_1); (try clear hcz29_2); (try clear hcz29_3); (try clear hcz36_0); (try clear hcz36_1); (try clear hcz36_2); (try clear hcz36_3); (try clear hfz16_0); (try clear hfz16_1); (try clear hfz16_2); (try clear hfz16_3); (try clear hfz18_0); (try clear hfz18_1); (try clear hfz18_2); (try clear hfz18_3); (try clear hfz29_0); (try clear hfz29_1); (try clear hfz29_2); (try clear hfz29_3); (try clear hfz36_0); (try clear hfz36_1); (try clear hfz36_2); (try clear hfz36_3); (try clear hx181_0); (try clear hx183_0); (try clear hx187_0); (try clear hx189_0); (try clear hx190_0); (try clear hx191_0); (try clear hx192_0); (try clear hx194_0); (try clear p1); (try clear p18); (try clear p181); (try clear p183); (try clear p187); (try clear p189); (try clear p19); (try clear p190); (try clear p191); (try clear p192); (try clear p194); (try clear p2); (try clear p4); (try clear p43); (try clear p6); (try clear q1); (try clear q18); (try clear q181); (try clear q183); (try clear q187); (try clear q189); (try clear q19); (try clear q190); (try clear q191); (try clear q192); (try clear q194); (try clear q4); (try clear q43); obtain ⟨kq, x146_44, rfl, HA, HJ44, HO_8, HO_183001, BK177, BK182, HB⟩ := hcut
                        cases kq with
                        | zero => exact absurd HA.out (by simp [pennantref22_Read.j7])
                        | succ kj44 =>
                         (have H := HA.out); clear HA; simp only [pennantref22_Read.j7] at H; by_cases c57 : x146_44 = true
                         ·
                          subst c57; (have H1 : (some ((⟨#[]⟩ : ByteArray), ([] : List (S79)), (⟨#[]⟩ : ByteArray), 0, 220)) = some (r1, r2, r3, r4, r5) := by rw [if_pos rfl] at H; exact H); clear H; (have H := H1); clear H1; simp only [Option.some.injEq, Prod.mk.injEq] at H; (obtain ⟨rfl, rfl, rfl, rfl, rfl⟩ := H); (have hnb58 := NB177_182.out); (have hnc58 := NB182_177.out); (have hcz59_0 : wc.cell? ⟨gb177, 0, none⟩ = some (.string x178000_4) := (blk_cell BK177.out 0).trans rfl); (have hcz59_1 : wc.cell? ⟨gb177, 1, none⟩ = some (.slice none 0 0) := (blk_cell BK177.out 1).trans rfl); (have hcz59_2 : wc.cell? ⟨gb177, 2, none⟩ = some (.string x178002_4) := (blk_cell BK177.out 2).trans rfl); (have hcz59_3 : wc.cell? ⟨gb177, 3, none⟩ = some (.int .i64 x178003_4) := (blk_cell BK177.out 3).trans rfl); (have hfz59_0 := blk_frozen BK177.out 0); (have hfz59_1 := blk_frozen BK177.out 1); (have hfz59_2 := blk_frozen BK177.out 2); (have hfz59_3 := blk_frozen BK177.out 3); (go_wp2); (refine bodyPost_ret (results_ct rfl _ _ gb177 65 #[.string (⟨#[]⟩ : ByteArray), .slice none 0 0, .string (⟨#[]⟩ : ByteArray), .int .i64 0] (0, 0) _ rfl (by (with_reducible repeat (first | refine blk_drewN ?_ _ | refine blk_drew ?_ | refine blk_alloc ?_ _)); refine blk_put (cs := #[.string (⟨#[]⟩ : ByteArray), .slice none 0 0, .string (⟨#[]⟩ : ByteArray), .int .i64 x178003_4]) ?_ 3 _ rfl; (with_reducible repeat (first | refine blk_drewN ?_ _ | refine blk_drew ?_ | refine blk_alloc ?_ _)); refine blk_put (cs := #[.string (⟨#[]⟩ : ByteArray), .slice none 0 0, .string x178002_4, .int .i64 x178003_4]) ?_ 2 _ rfl; (with_reducible repeat (first | refine blk_drewN ?_ _ | refine blk_drew ?_ | refine blk_alloc ?_ _)); refine blk_put (cs := #[.string (⟨#[]⟩ : ByteArray), .slice none 0 0, .string x178002_4, .int .i64 x178003_4]) ?_ 1 _ rfl; (with_reducible repeat (first | refine blk_drewN ?_ _ | refine blk_drew ?_ | refine blk_alloc ?_ _)); refine blk_put (cs := #[.string x178000_4, .slice none 0 0, .string x178002_4, .int .i64 x178003_4]) ?_ 0 _ rfl; (with_reducible repeat (first | refine blk_drewN ?_ _ | refine blk_drew ?_ | refine blk_alloc ?_ _)); exact BK177.out) Tryz.underlying65 rfl (by kernel_rfl)) rfl ?_); exact ⟨_, by first | rfl | (simp [errW_none, errW_some] <;> rfl) | (simp [*, errW_none, errW_some] <;> rfl), by first | exact Kd.R_nil _ _ _ _ _ | exact Kd.N_nil _ _ _ _ _ | exact Kd.V_nil _ _ _ _ _ | exact Kd.Q_nil _ _ _ _ _ | exact Kd.S_nil _ _ _ _ _, by repeat (first | (with_reducible first | exact HB.out | apply below_alloc | apply pw_below_drewN | apply below_drew1 | refine below_set ?_ GE177.out | refine below_set ?_ GE182.out) | exact HB.out)⟩
                         ·
                          (replace c57 := Bool.eq_false_iff.mpr c57); subst c57; (have H1 : (if 0 ≤ x13_4 then (if x13_4 < (t178.length : Int) then (if 0 ≤ x14_37 then (if x14_37 ≤ ((rdOf ByteArray.empty t178 x13_4).size : Int) then ((pennantref22_Small.f kj44 ((rdOf ByteArray.empty t178 x13_4).extract 0 (x14_37 : Int).toNat)).bind fun t197 => (if 0 ≤ (wrap64 (x14_37 + 1)) then (if (wrap64 (x14_37 + 1)) ≤ ((rdOf ByteArray.empty t178 x13_4).size : Int) then ((pennantref22_blankless.f kj44 ((rdOf ByteArray.empty t178 x13_4).extract ((wrap64 (x14_37 + 1)) : Int).toNat (rdOf ByteArray.empty t178 x13_4).size)).bind fun t199 => (if x183001_4.length < 4398046511104 then (pennantref22_Read.l1 kj44 a0 a1 t178 (wrap64 (x13_4 + 1)) (rdOf ByteArray.empty t178 0) (x183001_4 ++ [(⟨t197, t199⟩ : S79)]) (⟨#[]⟩ : ByteArray) (wrap64 (x6_2 + 4))) else (none))) else (none)) else (none))) else (none)) else (none)) else (none)) else (none)) = some (r1, r2, r3, r4, r5) := by rw [if_neg (show ¬ (false = true) by decide)] at H; exact H); clear H; (have H := H1); clear H1; by_cases c60 : 0 ≤ x13_4
                          ·
                           rw [if_pos c60] at H; (have c60b0 : decide (0 ≤ x13_4) = true := decide_eq_true c60); clear c60; by_cases c61 : x13_4 < (t178.length : Int)
                           ·
                            rw [if_pos c61] at H; (have c61b0 : decide (x13_4 < (t178.length : Int)) = true := decide_eq_true c61); clear c61; by_cases c62 : 0 ≤ x14_37
                            ·
                             rw [if_pos c62] at H; (have c62b0 := eq_true c62); (have c62b1 : decide (0 ≤ x14_37) = true := decide_eq_true c62); clear c62; by_cases c63 : x14_37 ≤ ((rdOf ByteArray.empty t178 x13_4).size : Int)
                             ·
                              rw [if_pos c63] at H; (have c63b0 := eq_true c63); (have c63b1 : decide (x14_37 ≤ ((rdOf ByteArray.empty t178 x13_4).size : Int)) = true := decide_eq_true c63); clear c63; (replace H := Option.bind_eq_some_iff.mp H); (obtain ⟨t197, A640, H⟩ := H); replace H : (if 0 ≤ (wrap64 (x14_37 + 1)) then (if (wrap64 (x14_37 + 1)) ≤ ((rdOf ByteArray.empty t178 x13_4).size : Int) then ((pennantref22_blankless.f kj44 ((rdOf ByteArray.empty t178 x13_4).extract ((wrap64 (x14_37 + 1)) : Int).toNat (rdOf ByteArray.empty t178 x13_4).size)).bind fun t199 => (if x183001_4.length < 4398046511104 then (pennantref22_Read.l1 kj44 a0 a1 t178 (wrap64 (x13_4 + 1)) (rdOf ByteArray.empty t178 0) (x183001_4 ++ [(⟨t197, t199⟩ : S79)]) (⟨#[]⟩ : ByteArray) (wrap64 (x6_2 + 4))) else (none))) else (none)) else (none)) = some (r1, r2, r3, r4, r5) := H; (have A64 := zM A640); clear A640; (obtain ⟨ji65, hji65⟩ : ∃ j_ : Int, (wrap64 (x14_37 + 1)) = j_ := ⟨_, rfl⟩); (replace H : (if 0 ≤ (ji65) then (if (ji65) ≤ ((rdOf ByteArray.empty t178 x13_4).size : Int) then ((pennantref22_blankless.f kj44 ((rdOf ByteArray.empty t178 x13_4).extract ((ji65) : Int).toNat (rdOf ByteArray.empty t178 x13_4).size)).bind fun t199 => (if x183001_4.length < 4398046511104 then (pennantref22_Read.l1 kj44 a0 a1 t178 (wrap64 (x13_4 + 1)) (rdOf ByteArray.empty t178 0) (x183001_4 ++ [(⟨t197, t199⟩ : S79)]) (⟨#[]⟩ : ByteArray) (wrap64 (x6_2 + 4))) else (none))) else (none)) else (none)) = some (r1, r2, r3, r4, r5) := by first | (rw [hji65] at H; exact H) | (simp only [hji65] at H ⊢; exact H)); (try rw [hji65] at A64); (have hji65w : (IntKind.i64.wrap (x14_37 + 1)) = ji65 := (i64_w _).trans hji65); by_cases c66 : 0 ≤ (ji65)
                              ·
                               rw [if_pos c66] at H; (have c66b0 := eq_true c66); (have c66b1 : decide (0 ≤ (ji65)) = true := decide_eq_true c66); clear c66; by_cases c67 : (ji65) ≤ ((rdOf ByteArray.empty t178 x13_4).size : Int)
                               ·
                                rw [if_pos c67] at H; (have c67b0 := eq_true c67); (have c67b1 : decide ((ji65) ≤ ((rdOf ByteArray.empty t178 x13_4).size : Int)) = true := decide_eq_true c67); clear c67; (replace H := Option.bind_eq_some_iff.mp H); (obtain ⟨t199, A680, H⟩ := H); replace H : (if x183001_4.length < 4398046511104 then (pennantref22_Read.l1 kj44 a0 a1 t178 (wrap64 (x13_4 + 1)) (rdOf ByteArray.empty t178 0) (x183001_4 ++ [(⟨t197, t199⟩ : S79)]) (⟨#[]⟩ : ByteArray) (wrap64 (x6_2 + 4))) else (none)) = some (r1, r2, r3, r4, r5) := H; (have A68 := zM A680); clear A680; by_cases c69 : x183001_4.length < 4398046511104
                                ·
                                 rw [if_pos c69] at H; (have LMc69 := zM c69); clear c69; (obtain ⟨y200, hy200⟩ : ∃ y_ : List (S79), y_ = (x183001_4 ++ [(⟨t197, t199⟩ : S79)]) := ⟨_, rfl⟩); (replace H : (pennantref22_Read.l1 kj44 a0 a1 t178 (wrap64 (x13_4 + 1)) (rdOf ByteArray.empty t178 0) y200 (⟨#[]⟩ : ByteArray) (wrap64 (x6_2 + 4))) = some (r1, r2, r3, r4, r5) := by first | (rw [hy200]; with_reducible exact H) | (have H2_ := (Option.bind_some _ _).symm.trans H; rw [hy200]; with_reducible exact H2_) | (have H2_ := (Option.bind_some _ _).symm.trans H; with_reducible exact H2_) | with_reducible exact H | (rw [hy200]; exact H) | exact H); (have Ny200 := zM hy200); clear hy200; (have H' := zM H); clear H; (try go_wp2); (have n0_ := zM (Kd.R_drew HO_8.out)); (have n1_ := zM (Kd.R_drew HO_183001.out)); (have n2_ := zM (blk_drew BK177.out)); (have n3_ := zM (blk_drew BK182.out)); (have n4_ := zM (below_drew1 HB.out)); clear HO_8; clear HO_183001; clear BK177; clear BK182; clear HB; (have HO_8 := n0_); (have HO_183001 := n1_); (have BK177 := n2_); (have BK182 := n3_); (have HB := n4_); clear n0_ n1_ n2_ n3_ n4_; (have p196 : 0 ≤ (x13_4 : Int) := of_decide_eq_true (by first | (with_reducible assumption) | assumption)); (have q196 : x13_4 < (t178.length : Int) := of_decide_eq_true (by first | (with_reducible assumption) | assumption)); (obtain ⟨ad196, e196, hx196_0⟩ := Kd.at_string (Kd.R_reads' HO_8.out).2.2 x13_4 p196 q196); (obtain rfl : ad181 = ad196 := (by injection e196)); (replace p196 := eq_true p196); (replace q196 := eq_true q196); (have p198 : 0 ≤ (x13_4 : Int) := of_decide_eq_true (by first | (with_reducible assumption) | assumption)); (have q198 : x13_4 < (t178.length : Int) := of_decide_eq_true (by first | (with_reducible assumption) | assumption)); (obtain ⟨ad198, e198, hx198_0⟩ := Kd.at_string (Kd.R_reads' HO_8.out).2.2 x13_4 p198 q198); (obtain rfl : ad181 = ad198 := (by injection e198)); (replace p198 := eq_true p198); (replace q198 := eq_true q198); (refine start_ (n := 22) (S := fun w' => w'.cell? ⟨gb182, 0, none⟩ = some (.string (rdOf ByteArray.empty t178 0)) ∧ w'.cell? ⟨gb182, 1, none⟩ = some (u183001) ∧ w'.cell? ⟨gb182, 2, none⟩ = some (.string (⟨#[]⟩ : ByteArray)) ∧ w'.cell? ⟨gb182, 3, none⟩ = some (.int .i64 (wrap64 (x6_2 + 4))) ∧ w'.cell? (ad181.add (x13_4).toNat) = some (.string (rdOf ByteArray.empty t178 x13_4)) ∧ w'.cell? (ad181.add (x13_4).toNat) = some (.string (rdOf ByteArray.empty t178 x13_4))) (ds := [19, 21]) #[false, false, false, false, false, false, false, false, false, false, false, false, false, false, false, false, false, false, false, false, false, false] (by kernel_rfl) rfl rfl ⟨(blk_cell BK182.out 0).trans rfl, (blk_cell BK182.out 1).trans rfl, (blk_cell BK182.out 2).trans rfl, (blk_cell BK182.out 3).trans rfl, hx196_0, hx198_0⟩ (fun hHeld => ?_); refine with_tabW pennantref22_Read.tab22 pennantref22_Read.bits22 (fun HT_ HW_ => ?_)); (generalize wc.drew = w70 at HO_8 HO_183001 BK177 BK182 HB hx196_0 hx198_0 hHeld ⊢); (refine pure_ (i := 0) (N := some 148) (v := ?_) (a' := ?_) #[true, false, false, false, false, false, false, false, false, false, false, false, false, false, false, false, false, false, false, false, false, false] rfl rfl (any_of HT_.out (by kernel_rfl)) (fun _ _ _ h => h) (Or.inl ⟨by rfl, ?_⟩) ?_ ?_); rotate_left
                                 ·
                                  intro w'; go_simp; with_reducible rfl
                                 rotate_left
                                 ·
                                  simp only [Act.put, zS, zI]; rfl
                                 (refine pure_ (i := 2) (N := some 150) (v := ?_) (a' := ?_) #[true, false, true, false, false, false, false, false, false, false, false, false, false, false, false, false, false, false, false, false, false, false] rfl rfl (any_of HT_.out (by kernel_rfl)) (fun _ _ _ h => h) (Or.inl ⟨by rfl, ?_⟩) ?_ ?_); rotate_left
                                 ·
                                  intro w'; go_simp; with_reducible rfl
                                 rotate_left
                                 ·
                                  simp only [Act.put, zS, zI]; rfl
                                 (refine pure_ (i := 3) (N := some 151) (v := ?_) (a' := ?_) #[true, false, true, true, false, false, false, false, false, false, false, false, false, false, false, false, false, false, false, false, false, false] rfl rfl (any_of HT_.out (by kernel_rfl)) (fun _ _ _ h => h) (Or.inl ⟨by rfl, ?_⟩) ?_ ?_); rotate_left
                                 ·
                                  intro w'; go_simp; with_reducible rfl
                                 rotate_left
                                 ·
                                  simp only [Act.put, zS, zI]; rfl
                                 (refine pure_ (i := 4) (N := some 152) (v := ?_) (a' := ?_) #[true, false, true, true, true, false, false, false, false, false, false, false, false, false, false, false, false, false, false, false, false, false] rfl rfl (any_of HT_.out (by kernel_rfl)) (fun _ _ _ h => h) (Or.inl ⟨by rfl, ?_⟩) ?_ ?_); rotate_left
                                 ·
                                  intro w'; go_simp; with_reducible rfl
                                 rotate_left
                                 ·
                                  simp only [Act.put, zS, zI]; rfl
                                 (refine pure_ (i := 6) (N := some 154) (v := ?_) (a' := ?_) #[true, false, true, true, true, false, true, false, false, false, false, false, false, false, false, false, false, false, false, false, false, false] rfl rfl (any_of HT_.out (by kernel_rfl)) (fun _ _ _ h => h) (Or.inl ⟨by rfl, ?_⟩) ?_ ?_); rotate_left
                                 ·
                                  intro w'; go_simp; with_reducible rfl
                                 rotate_left
                                 ·
                                  simp only [Act.put, zS, zI]; rfl
                                 (refine pure_ (i := 9) (N := some 157) (v := ?_) (a' := ?_) #[true, false, true, true, true, false, true, false, false, true, false, false, false, false, false, false, false, false, false, false, false, false] rfl rfl (any_of HT_.out (by kernel_rfl)) (fun _ _ _ h => h) (Or.inl ⟨by rfl, ?_⟩) ?_ ?_); rotate_left
                                 ·
                                  intro w'; go_simp; with_reducible rfl
                                 rotate_left
                                 ·
                                  simp only [Act.put, zS, zI]; rfl
                                 (refine pure_ (i := 10) (N := some 158) (v := ?_) (a' := ?_) #[true, false, true, true, true, false, true, false, false, true, true, false, false, false, false, false, false, false, false, false, false, false] rfl rfl (any_of HT_.out (by kernel_rfl)) (fun _ _ _ h => h) (Or.inl ⟨by rfl, ?_⟩) ?_ ?_); rotate_left
                                 ·
                                  intro w'; go_simp; with_reducible rfl
                                 rotate_left
                                 ·
                                  simp only [Act.put, zS, zI]; rfl
                                 (refine pure_ (i := 11) (N := some 159) (v := ?_) (a' := ?_) #[true, false, true, true, true, false, true, false, false, true, true, true, false, false, false, false, false, false, false, false, false, false] rfl rfl (any_of HT_.out (by kernel_rfl)) (fun _ _ _ h => h) (Or.inl ⟨by rfl, ?_⟩) ?_ ?_); rotate_left
                                 ·
                                  intro w'; go_simp; with_reducible rfl
                                 rotate_left
                                 ·
                                  simp only [Act.put, zS, zI]; rfl
                                 (refine pure_ (i := 13) (N := some 161) (v := ?_) (a' := ?_) #[true, false, true, true, true, false, true, false, false, true, true, true, false, true, false, false, false, false, false, false, false, false] rfl rfl (any_of HT_.out (by kernel_rfl)) (fun _ _ _ h => h) (Or.inl ⟨by rfl, ?_⟩) ?_ ?_); rotate_left
                                 ·
                                  intro w'; go_simp; with_reducible rfl
                                 rotate_left
                                 ·
                                  simp only [Act.put, zS, zI]; rfl
                                 (refine pure_ (i := 14) (N := some 162) (v := ?_) (a' := ?_) #[true, false, true, true, true, false, true, false, false, true, true, true, false, true, true, false, false, false, false, false, false, false] rfl rfl (any_of HT_.out (by kernel_rfl)) (fun _ _ _ h => h) (Or.inl ⟨by rfl, ?_⟩) ?_ ?_); rotate_left
                                 ·
                                  intro w'; go_simp; with_reducible rfl
                                 rotate_left
                                 ·
                                  simp only [Act.put, zS, zI]; rfl
                                 (refine take_ (i := 1) (N := some 149) (v := ?_) (a' := ?_) #[true, true, true, true, true, false, true, false, false, true, true, true, false, true, true, false, false, false, false, false, false, false] rfl rfl (take_ofW HT_.out HW_.out (by kernel_rfl)) (fun _ _ _ h => h) (Or.inl ⟨by rfl, ?_⟩) hHeld ?_ ?_); rotate_left
                                 ·
                                  rintro w' ⟨s0, s1, s2, s3, s4, s5⟩; go_simp; with_reducible rfl
                                 rotate_left
                                 ·
                                  simp only [Act.put, zS, zI]; rfl
                                 (refine take_ (i := 5) (N := some 153) (v := ?_) (a' := ?_) #[true, true, true, true, true, true, true, false, false, true, true, true, false, true, true, false, false, false, false, false, false, false] rfl rfl (take_ofW HT_.out HW_.out (by kernel_rfl)) (fun _ _ _ h => h) (Or.inl ⟨by rfl, ?_⟩) hHeld ?_ ?_); rotate_left
                                 ·
                                  rintro w' ⟨s0, s1, s2, s3, s4, s5⟩; go_simp; with_reducible rfl
                                 rotate_left
                                 ·
                                  simp only [Act.put, zS, zI]; rfl
                                 (refine pure_ (i := 7) (N := some 155) (v := ?_) (a' := ?_) #[true, true, true, true, true, true, true, true, false, true, true, true, false, true, true, false, false, false, false, false, false, false] rfl rfl (any_of HT_.out (by kernel_rfl)) (fun _ _ _ h => h) (Or.inl ⟨by rfl, ?_⟩) ?_ ?_); rotate_left
                                 ·
                                  intro w'; go_simp; with_reducible rfl
                                 rotate_left
                                 ·
                                  simp only [Act.put, zS, zI]; rfl
                                 (refine take_ (i := 12) (N := some 160) (v := ?_) (a' := ?_) #[true, true, true, true, true, true, true, true, false, true, true, true, true, true, true, false, false, false, false, false, false, false] rfl rfl (take_ofW HT_.out HW_.out (by kernel_rfl)) (fun _ _ _ h => h) (Or.inl ⟨by rfl, ?_⟩) hHeld ?_ ?_); rotate_left
                                 ·
                                  rintro w' ⟨s0, s1, s2, s3, s4, s5⟩; go_simp; with_reducible rfl
                                 rotate_left
                                 ·
                                  simp only [Act.put, zS, zI]; rfl
                                 (refine pure_ (i := 15) (N := some 163) (v := ?_) (a' := ?_) #[true, true, true, true, true, true, true, true, false, true, true, true, true, true, true, true, false, false, false, false, false, false] rfl rfl (any_of HT_.out (by kernel_rfl)) (fun _ _ _ h => h) (Or.inl ⟨by rfl, ?_⟩) ?_ ?_); rotate_left
                                 ·
                                  intro w'; go_simp; with_reducible rfl
                                 rotate_left
                                 ·
                                  simp only [Act.put, zS, zI]; rfl
                                 (refine one_ (i := 8) (N := some 156) #[true, true, true, true, true, true, true, true, true, true, true, true, true, true, true, true, false, false, false, false, false, false] rfl rfl (one_of HT_.out (by kernel_rfl)) (by decide) (fun K hK => ?_)); (refine goes_ Tryz.func45 (by kernel_rfl) rfl #[.string ((rdOf ByteArray.empty t178 x13_4).extract 0 (x14_37 : Int).toNat)] (by rfl) rfl rfl (by (try simp only [zL]); first | done | rfl) ?_); (with_reducible refine (pennantref22_Small.calls kj44 ((rdOf ByteArray.empty t178 x13_4).extract 0 (x14_37 : Int).toNat) t197 _ A64.out).mono ?_); rintro e w71 ⟨rfl, hb⟩; (have HS4_ := (hb.cell (World.block_lt_of_cell? _ _ (hHeld.2.2.2.2.1))).trans (hHeld.2.2.2.2.1)); (have HS5_ := (hb.cell (World.block_lt_of_cell? _ _ (hHeld.2.2.2.2.2))).trans (hHeld.2.2.2.2.2)); (refine ⟨_, rfl, ?_⟩); (have n0_ := zM (Kd.R_below (by (with_reducible repeat (first | apply Kd.R_alloc | apply Kd.R_drewN | apply Kd.R_drew)); exact HO_8.out) hb)); (have n1_ := zM (Kd.R_below (by (with_reducible repeat (first | apply Kd.R_alloc | apply Kd.R_drewN | apply Kd.R_drew)); exact HO_183001.out) hb)); (have n2_ := zM (blk_below (g := gb177) (o := .cells #[.string x178000_4, .slice none 0 0, .string x178002_4, .int .i64 x178003_4] 65 (0, 0)) (by (with_reducible repeat (first | refine blk_drewN ?_ _ | refine blk_drew ?_ | refine blk_alloc ?_ _)); exact BK177.out) hb)); (have n3_ := zM (blk_below (g := gb182) (o := .cells #[.string (rdOf ByteArray.empty t178 0), u183001, .string (⟨#[]⟩ : ByteArray), .int .i64 (wrap64 (x6_2 + 4))] 65 (0, 0)) (by (with_reducible repeat (first | refine blk_drewN ?_ _ | refine blk_drew ?_ | refine blk_alloc ?_ _)); exact BK182.out) hb)); (have n4_ := zM (below_step (by repeat (first | (with_reducible first | exact HB.out | apply below_alloc | apply pw_below_drewN | apply below_drew1 | refine below_set ?_ GE177.out | refine below_set ?_ GE182.out) | exact HB.out)) hb)); clear HO_8; clear HO_183001; clear BK177; clear BK182; clear HB; (have HO_8 := n0_); (have HO_183001 := n1_); (have BK177 := n2_); (have BK182 := n3_); (have HB := n4_); clear n0_ n1_ n2_ n3_ n4_; (try clear hb); (try clear hb2); (try clear hk); (try clear hi); (refine hK.out _ _ ⟨(blk_cell BK182.out 0).trans rfl, (blk_cell BK182.out 1).trans rfl, (blk_cell BK182.out 2).trans rfl, (blk_cell BK182.out 3).trans rfl, HS4_, HS5_⟩ (fun hHeld => ?_)); clear hK K; (refine norm_ (a' := ?_) ?_ ?_); rotate_left
                                 ·
                                  (show Act.put _ (some 156) _ = _); simp only [Act.put, zS, zI]; rfl
                                 (refine one_ (i := 16) (N := some 164) #[true, true, true, true, true, true, true, true, true, true, true, true, true, true, true, true, true, false, false, false, false, false] rfl rfl (one_of HT_.out (by kernel_rfl)) (by decide) (fun K hK => ?_)); (refine goes_ Tryz.func46 (by kernel_rfl) rfl #[.string ((rdOf ByteArray.empty t178 x13_4).extract ((ji65) : Int).toNat (rdOf ByteArray.empty t178 x13_4).size)] (by rfl) rfl rfl (by (try simp only [List.map_toArray, List.map_cons, List.map_nil]); first | done | (simp only [hji65]; rfl) | rfl | (simp only [List.length_drop, List.length_take]; rfl)) ?_); (with_reducible refine (pennantref22_blankless.calls kj44 ((rdOf ByteArray.empty t178 x13_4).extract ((ji65) : Int).toNat (rdOf ByteArray.empty t178 x13_4).size) t199 _ A68.out).mono ?_); rintro e w' ⟨rfl, ⟨nd, rfl⟩⟩; (refine ⟨_, rfl, ?_⟩); (refine hK.out _ _ ⟨(blk_cell BK182.out 0).trans rfl, (blk_cell BK182.out 1).trans rfl, (blk_cell BK182.out 2).trans rfl, (blk_cell BK182.out 3).trans rfl, hHeld.2.2.2.2.1, hHeld.2.2.2.2.2⟩ (fun hHeld => ?_)); clear hK K; (refine norm_ (a' := ?_) ?_ ?_); rotate_left
                                 ·
                                  (show Act.put _ (some 164) _ = _); simp only [Act.put, zS, zI]; rfl
                                 (refine pure_ (i := 17) (N := some 165) (v := ?_) (a' := ?_) #[true, true, true, true, true, true, true, true, true, true, true, true, true, true, true, true, true, true, false, false, false, false] rfl rfl (any_of HT_.out (by kernel_rfl)) (fun _ _ _ h => h) (Or.inl ⟨by rfl, ?_⟩) ?_ ?_); rotate_left
                                 ·
                                  intro w'; go_simp; with_reducible rfl
                                 rotate_left
                                 ·
                                  simp only [Act.put, zS, zI]; rfl
                                 (refine one_ (i := 18) (N := some 166) #[true, true, true, true, true, true, true, true, true, true, true, true, true, true, true, true, true, true, true, false, false, false] rfl rfl (one_of HT_.out (by kernel_rfl)) (by decide) (fun K hK => ?_)); (refine value_ (w1 := ?_) (v := ?_) (by rfl) rfl ?_ ?_); rotate_left 2
                                 ·
                                  go_simp
                                  constructor
                                  ·
                                   rfl
                                  ·
                                   rfl
                                 (refine hK.out _ _ ⟨(blk_cell (blk_alloc BK182.out _) 0).trans rfl, (blk_cell (blk_alloc BK182.out _) 1).trans rfl, (blk_cell (blk_alloc BK182.out _) 2).trans rfl, (blk_cell (blk_alloc BK182.out _) 3).trans rfl, (World.cell?_alloc_lt _ _ _ (World.block_lt_of_cell? _ _ (hHeld.2.2.2.2.1))).trans (hHeld.2.2.2.2.1), (World.cell?_alloc_lt _ _ _ (World.block_lt_of_cell? _ _ (hHeld.2.2.2.2.2))).trans (hHeld.2.2.2.2.2)⟩ (fun hHeld => ?_)); clear hK K; (refine norm_ (a' := ?_) ?_ ?_); rotate_left
                                 ·
                                  (show Act.put _ (some 166) _ = _); simp only [Act.put, zS, zI]; rfl
                                 (refine last_ (i := 19) (N := some 167) #[true, true, true, true, true, true, true, true, true, true, true, true, true, true, true, true, true, true, true, true, false, false] rfl rfl (one_of HT_.out (by kernel_rfl)) (by decide) (fun K hK => ?_)); (refine Kd.R_append_step k79 (w0 := w) w.heap.size (by rfl) (.tmp 149) (.tmp 166) 59 79 (.agg #[(.string ⟨#[]⟩), (.string ⟨#[]⟩)]) 32 rfl Tryz.underlying59 info79 rfl (by decide) (by omega) u183001 x183001_4 (⟨t197, t199⟩ : S79) [.string t197, .string t199] (fun _ => True) (fun _ => False) rfl rfl ?aP (fun _ hk => hk.elim) ?aF ?aO ?aB ?aS ?aL ?_); (case aP => exact k79_mkM _ _ _ (⟨t197, t199⟩ : S79)); (case aB => exact (by repeat (first | (with_reducible first | exact HB.out | apply below_alloc | apply pw_below_drewN | apply below_drew1 | refine below_set ?_ GE177.out | refine below_set ?_ GE182.out) | exact HB.out))); (case aF => exact (fun _ _ => trivial)); (case aO => exact (by (with_reducible repeat (first | apply Kd.R_alloc | apply Kd.R_drewN | apply Kd.R_drew)); exact HO_183001.out)); (case aS => exact (below_size (by repeat (first | (with_reducible first | exact HB.out | apply below_alloc | apply pw_below_drewN | apply below_drew1 | refine below_set ?_ GE177.out | refine below_set ?_ GE182.out) | exact HB.out)))); (case aL => have := LMc69.out; omega); intro v201 w72 ho hb hg hat; rw [← Ny200.out] at ho; (have n0_ := zM (Kd.R_over' (by (with_reducible repeat (first | apply Kd.R_alloc | apply Kd.R_drewN | apply Kd.R_drew)); exact HO_8.out) (Kd.R_typed (by (with_reducible repeat (first | apply Kd.R_alloc | apply Kd.R_drewN | apply Kd.R_drew)); exact HO_183001.out)) (by decide) hg)); (have n1_ := zM (blk_grown (g := gb177) (o := .cells #[.string x178000_4, .slice none 0 0, .string x178002_4, .int .i64 x178003_4] 65 (0, 0)) (by (with_reducible repeat (first | refine blk_drewN ?_ _ | refine blk_drew ?_ | refine blk_alloc ?_ _)); exact BK177.out) hg (Kd.R_ne HO_183001.out BK177.out (by decide)))); (have n2_ := zM (blk_grown (g := gb182) (o := .cells #[.string (rdOf ByteArray.empty t178 0), u183001, .string (⟨#[]⟩ : ByteArray), .int .i64 (wrap64 (x6_2 + 4))] 65 (0, 0)) (by (with_reducible repeat (first | refine blk_drewN ?_ _ | refine blk_drew ?_ | refine blk_alloc ?_ _)); exact BK182.out) hg (Kd.R_ne HO_183001.out BK182.out (by decide)))); (have n3_ := zM (hb)); (have n4_ := zM (ho)); clear HO_8; clear BK177; clear BK182; clear HB; clear HO_183001; (have HO_8 := n0_); (have BK177 := n1_); (have BK182 := n2_); (have HB := n3_); (have HO202 := n4_); clear n0_ n1_ n2_ n3_ n4_; clear ho hb hg hat; (obtain ⟨Ao73, co73, eo73⟩ := Kd.R_slice HO202.out); (first | subst eo73 | (injection eo73 with f1_ f2_ f3_; have f4_ := f1_.symm; have f5_ := f3_.symm; clear f1_ f2_ f3_; subst f4_; subst f5_)); (refine hK.out _ _ ?_); clear hK K; (refine norm_ (a' := ?_) ?_ ?_); rotate_left
                                 ·
                                  (show Act.put _ (some 167) _ = _); simp only [Act.put, zS, zI]; rfl
                                 (refine pure_ (i := 20) (N := some 168) (v := ?_) (a' := ?_) #[true, true, true, true, true, true, true, true, true, true, true, true, true, true, true, true, true, true, true, true, true, false] rfl rfl (any_of HT_.out (by kernel_rfl)) (fun _ _ _ h => h) (Or.inl ⟨by rfl, ?_⟩) ?_ ?_); rotate_left
                                 ·
                                  intro w'; go_simp; with_reducible rfl
                                 rotate_left
                                 ·
                                  simp only [Act.put, zS, zI]; rfl
                                 (refine last_ (i := 21) (N := none) #[true, true, true, true, true, true, true, true, true, true, true, true, true, true, true, true, true, true, true, true, true, true] rfl rfl (one_of HT_.out (by kernel_rfl)) (by decide) (fun K hK => ?_)); (have hs74 : w72.cell? ⟨gb182, 1, none⟩ = some (u183001) := (blk_cell BK182.out 1).trans rfl); (have hfs74 := blk_frozen BK182.out 1); (have hns74_0 := NB177_182.out); (have hms74_0 := NB182_177.out); (refine skip_ (w1 := ?_) (by rfl) rfl ?_ ?_); rotate_left
                                 ·
                                  go_simp; rfl
                                 (refine hK.out _ _ ?_); clear hK K; (refine done_ (done_of HT_.out (by kernel_rfl)) ?_); (try go_wp2); go_roundg kj44
                                 case measure => have := HJ2.out; have := HJ9.out; have := HJ23.out; have := HK4.out; have := HJ37.out; have := HJ44.out; omega
                                 case rel => exact ⟨(wrap64 (x13_4 + 1)), (x178000_4), (x178002_4), (x178003_4), (y200), (.slice Ao73 y200.length co73), (by first | rfl | (simp; done) | (simp [*]; done)), H', ⟨by have := HJ2.out; have := HJ9.out; have := HJ23.out; have := HK4.out; have := HJ37.out; have := HJ44.out; omega⟩, ⟨by (with_reducible repeat (first | apply Kd.R_alloc | apply Kd.R_drewN | apply Kd.R_drew)); exact Kd.R_mono (Kd.R_far (p := ⟨gb182, 1, none⟩) (Kd.R_types HO_8.out BK182.out (by decide)) (fun _ hk => hk.2) (.slice Ao73 y200.length co73)) (fun _ hk => trivial)⟩, ⟨by (with_reducible repeat (first | apply Kd.R_alloc | apply Kd.R_drewN | apply Kd.R_drew)); exact Kd.R_mono (Kd.R_far (p := ⟨gb182, 1, none⟩) (Kd.R_types HO202.out BK182.out (by decide)) (fun _ hk => hk.2) (.slice Ao73 y200.length co73)) (fun _ hk => trivial)⟩, ⟨by (with_reducible repeat (first | refine blk_drewN ?_ _ | refine blk_drew ?_ | refine blk_alloc ?_ _)); refine blk_far ?_ NB177_182.out _; (with_reducible repeat (first | refine blk_drewN ?_ _ | refine blk_drew ?_ | refine blk_alloc ?_ _)); exact BK177.out⟩, ⟨by (with_reducible repeat (first | refine blk_drewN ?_ _ | refine blk_drew ?_ | refine blk_alloc ?_ _)); refine blk_put (cs := #[.string (rdOf ByteArray.empty t178 0), u183001, .string (⟨#[]⟩ : ByteArray), .int .i64 (wrap64 (x6_2 + 4))]) ?_ 1 _ rfl; (with_reducible repeat (first | refine blk_drewN ?_ _ | refine blk_drew ?_ | refine blk_alloc ?_ _)); exact BK182.out⟩, ⟨by repeat (first | (with_reducible first | exact HB.out | apply below_alloc | apply pw_below_drewN | apply below_drew1 | refine below_set ?_ GE177.out | refine below_set ?_ GE182.out) | exact HB.out)⟩⟩
                                ·
                                 rw [if_neg c69] at H; exact absurd H (by simp)
                               ·
                                rw [if_neg c67] at H; exact absurd H (by simp)
                              ·
                               rw [if_neg c66] at H; exact absurd H (by simp)
                             ·
                              rw [if_neg c63] at H; exact absurd H (by simp)
                            ·
                             rw [if_neg c62] at H; exact absurd H (by simp)
                           ·
                            rw [if_neg c61] at H; exact absurd H (by simp)
                          ·
                           rw [if_neg c60] at H; exact absurd H (by simp)
                  ·
                   rw [if_neg c37] at H; (have c37b0 : decide (x13_4 < (t178.length : Int)) = false := decide_eq_false c37); clear c37; (replace H := Option.bind_eq_some_iff.mp H); (obtain ⟨⟨t203, t204⟩, A750, H⟩ := H); replace H : ((pennantref22_Message_Count.f k4 (rdOf ByteArray.empty t178 0) x183001_4 (⟨#[]⟩ : ByteArray) (wrap64 (x6_2 + 4)) (⟨#[104, 111, 115, 116]⟩ : ByteArray)).bind fun bt205 => (if t203 > 1 then (pennantref22_Read.j8 k4 a0 t203 t204 true (rdOf ByteArray.empty t178 0) x183001_4 (⟨#[]⟩ : ByteArray) (wrap64 (x6_2 + 4))) else (if a1 = true then (pennantref22_Read.j8 k4 a0 t203 t204 (bt205.1 != 1) (rdOf ByteArray.empty t178 0) x183001_4 (⟨#[]⟩ : ByteArray) (wrap64 (x6_2 + 4))) else (pennantref22_Read.j8 k4 a0 t203 t204 false (rdOf ByteArray.empty t178 0) x183001_4 (⟨#[]⟩ : ByteArray) (wrap64 (x6_2 + 4)))))) = some (r1, r2, r3, r4, r5) := H; (have A75 := zM A750); clear A750; (replace H := Option.bind_eq_some_iff.mp H); (obtain ⟨⟨t205, t206⟩, A760, H⟩ := H); replace H : (if t203 > 1 then (pennantref22_Read.j8 k4 a0 t203 t204 true (rdOf ByteArray.empty t178 0) x183001_4 (⟨#[]⟩ : ByteArray) (wrap64 (x6_2 + 4))) else (if a1 = true then (pennantref22_Read.j8 k4 a0 t203 t204 (t205 != 1) (rdOf ByteArray.empty t178 0) x183001_4 (⟨#[]⟩ : ByteArray) (wrap64 (x6_2 + 4))) else (pennantref22_Read.j8 k4 a0 t203 t204 false (rdOf ByteArray.empty t178 0) x183001_4 (⟨#[]⟩ : ByteArray) (wrap64 (x6_2 + 4))))) = some (r1, r2, r3, r4, r5) := H; (have A76 := zM A760); clear A760; (have HC77 := zM H); clear H; (have hnb78 := NB182_177.out); (have hnc78 := NB177_182.out); (have hcz79_0 : wr.cell? ⟨gb182, 0, none⟩ = some (.string (rdOf ByteArray.empty t178 0)) := (blk_cell BK182.out 0).trans rfl); (have hcz79_1 : wr.cell? ⟨gb182, 1, none⟩ = some (u183001) := (blk_cell BK182.out 1).trans rfl); (have hcz79_2 : wr.cell? ⟨gb182, 2, none⟩ = some (.string (⟨#[]⟩ : ByteArray)) := (blk_cell BK182.out 2).trans rfl); (have hcz79_3 : wr.cell? ⟨gb182, 3, none⟩ = some (.int .i64 (wrap64 (x6_2 + 4))) := (blk_cell BK182.out 3).trans rfl); (have hfz79_0 := blk_frozen BK182.out 0); (have hfz79_1 := blk_frozen BK182.out 1); (have hfz79_2 := blk_frozen BK182.out 2); (have hfz79_3 := blk_frozen BK182.out 3); (obtain ⟨Ao80, co80, eo80⟩ := Kd.R_slice HO_183001.out); subst eo80; (go_upto_region 25 with (first | ((with_reducible refine gate_callee (f := 25) rfl ?_); refine goesL_ (some 171) rfl rfl Tryz.func25 (by kernel_rfl) rfl #[.agg #[.string (rdOf ByteArray.empty t178 0), .slice Ao80 x183001_4.length co80, .string (⟨#[]⟩ : ByteArray), .int .i64 (wrap64 (x6_2 + 4))], .string (⟨#[99, 111, 110, 116, 101, 110, 116, 45, 108, 101, 110, 103, 116, 104]⟩ : ByteArray)] rfl (by (try simp only [zL]); first | done | rfl) ?_; (with_reducible refine (pennantref22_Message_Count.calls k4 (rdOf ByteArray.empty t178 0) _ _ x183001_4 (⟨#[]⟩ : ByteArray) (wrap64 (x6_2 + 4)) (⟨#[99, 111, 110, 116, 101, 110, 116, 45, 108, 101, 110, 103, 116, 104]⟩ : ByteArray) t203 t204 _ ?side1 ?side2 A75.out).mono ?_); (case side1 => repeat (first | exact (Kd.R_reads' HO_183001.out).2.2 | (with_reducible refine Kd.C_alloc ?_ _) | (with_reducible refine Kd.C_drewN ?_ _) | (with_reducible refine Kd.C_drew ?_))); (case side2 => exact (Kd.R_reads' HO_183001.out).2.1); rintro e w81 ⟨rfl, hb⟩; refine ⟨_, rfl, ?_⟩; have n0_ := zM (Kd.R_below (by (with_reducible repeat (first | apply Kd.R_alloc | apply Kd.R_drewN | apply Kd.R_drew)); exact HO_8.out) hb); have n1_ := zM (Kd.R_below (by (with_reducible repeat (first | apply Kd.R_alloc | apply Kd.R_drewN | apply Kd.R_drew)); exact HO_183001.out) hb); have n2_ := zM (blk_below (g := gb177) (o := .cells #[.string x178000_4, .slice none 0 0, .string x178002_4, .int .i64 x178003_4] 65 (0, 0)) (by (with_reducible repeat (first | refine blk_drewN ?_ _ | refine blk_drew ?_ | refine blk_alloc ?_ _)); exact BK177.out) hb); have n3_ := zM (blk_below (g := gb182) (o := .cells #[.string (rdOf ByteArray.empty t178 0), .slice Ao80 x183001_4.length co80, .string (⟨#[]⟩ : ByteArray), .int .i64 (wrap64 (x6_2 + 4))] 65 (0, 0)) (by (with_reducible repeat (first | refine blk_drewN ?_ _ | refine blk_drew ?_ | refine blk_alloc ?_ _)); exact BK182.out) hb); have n4_ := zM (below_step (by repeat (first | (with_reducible first | exact HB.out | apply below_alloc | apply pw_below_drewN | apply below_drew1 | refine below_set ?_ GE177.out | refine below_set ?_ GE182.out) | exact HB.out)) hb); clear HO_8; clear HO_183001; clear BK177; clear BK182; clear HB; have HO_8 := n0_; have HO_183001 := n1_; have BK177 := n2_; have BK182 := n3_; have HB := n4_; clear n0_ n1_ n2_ n3_ n4_; (try clear hb); (try clear hb2); (try clear hk); (try clear hi); have hcz82_0 : w81.cell? ⟨gb182, 0, none⟩ = some (.string (rdOf ByteArray.empty t178 0)) := (blk_cell BK182.out 0).trans rfl; have hcz82_1 : w81.cell? ⟨gb182, 1, none⟩ = some (.slice Ao80 x183001_4.length co80) := (blk_cell BK182.out 1).trans rfl; have hcz82_2 : w81.cell? ⟨gb182, 2, none⟩ = some (.string (⟨#[]⟩ : ByteArray)) := (blk_cell BK182.out 2).trans rfl; have hcz82_3 : w81.cell? ⟨gb182, 3, none⟩ = some (.int .i64 (wrap64 (x6_2 + 4))) := (blk_cell BK182.out 3).trans rfl; have hfz82_0 := blk_frozen BK182.out 0; have hfz82_1 := blk_frozen BK182.out 1; have hfz82_2 := blk_frozen BK182.out 2; have hfz82_3 := blk_frozen BK182.out 3) | ((with_reducible refine gate_callee (f := 25) rfl ?_); refine goesL_ (some 176) rfl rfl Tryz.func25 (by kernel_rfl) rfl #[.agg #[.string (rdOf ByteArray.empty t178 0), .slice Ao80 x183001_4.length co80, .string (⟨#[]⟩ : ByteArray), .int .i64 (wrap64 (x6_2 + 4))], .string (⟨#[104, 111, 115, 116]⟩ : ByteArray)] rfl (by (try simp only [zL]); first | done | rfl) ?_; (with_reducible refine (pennantref22_Message_Count.calls k4 (rdOf ByteArray.empty t178 0) _ _ x183001_4 (⟨#[]⟩ : ByteArray) (wrap64 (x6_2 + 4)) (⟨#[104, 111, 115, 116]⟩ : ByteArray) t205 t206 _ ?side1 ?side2 A76.out).mono ?_); (case side1 => repeat (first | exact (Kd.R_reads' HO_183001.out).2.2 | (with_reducible refine Kd.C_alloc ?_ _) | (with_reducible refine Kd.C_drewN ?_ _) | (with_reducible refine Kd.C_drew ?_))); (case side2 => exact (Kd.R_reads' HO_183001.out).2.1); rintro e w83 ⟨rfl, hb⟩; refine ⟨_, rfl, ?_⟩; have n0_ := zM (Kd.R_below (by (with_reducible repeat (first | apply Kd.R_alloc | apply Kd.R_drewN | apply Kd.R_drew)); exact HO_8.out) hb); have n1_ := zM (Kd.R_below (by (with_reducible repeat (first | apply Kd.R_alloc | apply Kd.R_drewN | apply Kd.R_drew)); exact HO_183001.out) hb); have n2_ := zM (blk_below (g := gb177) (o := .cells #[.string x178000_4, .slice none 0 0, .string x178002_4, .int .i64 x178003_4] 65 (0, 0)) (by (with_reducible repeat (first | refine blk_drewN ?_ _ | refine blk_drew ?_ | refine blk_alloc ?_ _)); exact BK177.out) hb); have n3_ := zM (blk_below (g := gb182) (o := .cells #[.string (rdOf ByteArray.empty t178 0), .slice Ao80 x183001_4.length co80, .string (⟨#[]⟩ : ByteArray), .int .i64 (wrap64 (x6_2 + 4))] 65 (0, 0)) (by (with_reducible repeat (first | refine blk_drewN ?_ _ | refine blk_drew ?_ | refine blk_alloc ?_ _)); exact BK182.out) hb); have n4_ := zM (below_step (by repeat (first | (with_reducible first | exact HB.out | apply below_alloc | apply pw_below_drewN | apply below_drew1 | refine below_set ?_ GE177.out | refine below_set ?_ GE182.out) | exact HB.out)) hb); clear HO_8; clear HO_183001; clear BK177; clear BK182; clear HB; have HO_8 := n0_; have HO_183001 := n1_; have BK177 := n2_; have BK182 := n3_; have HB := n4_; clear n0_ n1_ n2_ n3_ n4_; (try clear hb); (try clear hb2); (try clear hk); (try clear hi)))); (try simp only [Act.put, zS]); go_cut [187] (fun v187 wc => ∃ (kq : Nat) (x187_76 : Bool), v187 = .bool x187_76 ∧ Aside0 (pennantref22_Read.j8 kq a0 t203 t204 x187_76 (rdOf ByteArray.empty t178 0) x183001_4 (⟨#[]⟩ : ByteArray) (wrap64 (x6_2 + 4)) = some (r1, r2, r3, r4, r5)) ∧ Aside0 (kq ≤ k4) ∧ Aside0 (Kd.R k79 79 wc w.heap.size (fun _ => True) (.slice Ao80 x183001_4.length co80) x183001_4) ∧ Aside0 (wc.heap[gb177]? = some (.cells #[.string x178000_4, (.slice none 0 0), .string x178002_4, .int .i64 x178003_4] 65 (0, 0))) ∧ Aside0 (wc.heap[gb182]? = some (.cells #[.string (rdOf ByteArray.empty t178 0), (.slice Ao80 x183001_4.length co80), .string (⟨#[]⟩ : ByteArray), .int .i64 (wrap64 (x6_2 + 4))] 65 (0, 0))) ∧ Aside0 (Below w.heap.size w wc))
                   case first =>
                    (have H := HC77.out); clear HC77; by_cases c84 : t203 > 1
                    ·
                     rw [if_pos c84] at H; (have c84b0 : decide (1 < t203) = true := decide_eq_true c84); clear c84; (first | rw [c84b0] | (simp only [i64_w, i32_w]; rw [c84b0]) | skip); (have H' := zM H); clear H; (go_wp2); go_meet
                     case rel => exact ⟨_, (true), (by first | rfl | (simp; done) | (simp [*]; done)), H', ⟨by have := HJ2.out; have := HJ9.out; have := HJ23.out; have := HK4.out; first | omega | exact Nat.le_refl _⟩, ⟨by (with_reducible repeat (first | apply Kd.R_alloc | apply Kd.R_drewN | apply Kd.R_drew)); exact HO_183001.out⟩, ⟨by (with_reducible repeat (first | refine blk_drewN ?_ _ | refine blk_drew ?_ | refine blk_alloc ?_ _)); exact BK177.out⟩, ⟨by (with_reducible repeat (first | refine blk_drewN ?_ _ | refine blk_drew ?_ | refine blk_alloc ?_ _)); exact BK182.out⟩, ⟨by repeat (first | (with_reducible first | exact HB.out | apply below_alloc | apply pw_below_drewN | apply below_drew1 | refine below_set ?_ GE177.out | refine below_set ?_ GE182.out) | exact HB.out)⟩⟩
                    ·
                     rw [if_neg c84] at H; (have c84b0 : decide (1 < t203) = false := decide_eq_false c84); clear c84; (first | rw [c84b0] | (simp only [i64_w, i32_w]; rw [c84b0]) | skip); by_cases c85 : a1 = true
                     ·
                      subst c85; (have H1 : (pennantref22_Read.j8 k4 a0 t203 t204 (t205 != 1) (rdOf ByteArray.empty t178 0) x183001_4 (⟨#[]⟩ : ByteArray) (wrap64 (x6_2 + 4))) = some (r1, r2, r3, r4, r5) := by rw [if_pos rfl] at H; exact H); clear H; (have H := H1); clear H1; (have H' := zM H); clear H; (go_wp2); go_meet
                      case rel => exact ⟨_, ((t205 != 1)), (by first | rfl | (simp; done) | (simp [*]; done)), H', ⟨by have := HJ2.out; have := HJ9.out; have := HJ23.out; have := HK4.out; first | omega | exact Nat.le_refl _⟩, ⟨by (with_reducible repeat (first | apply Kd.R_alloc | apply Kd.R_drewN | apply Kd.R_drew)); exact HO_183001.out⟩, ⟨by (with_reducible repeat (first | refine blk_drewN ?_ _ | refine blk_drew ?_ | refine blk_alloc ?_ _)); exact BK177.out⟩, ⟨by (with_reducible repeat (first | refine blk_drewN ?_ _ | refine blk_drew ?_ | refine blk_alloc ?_ _)); exact BK182.out⟩, ⟨by repeat (first | (with_reducible first | exact HB.out | apply below_alloc | apply pw_below_drewN | apply below_drew1 | refine below_set ?_ GE177.out | refine below_set ?_ GE182.out) | exact HB.out)⟩⟩
                     ·
                      (replace c85 := Bool.eq_false_iff.mpr c85); subst c85; (have H1 : (pennantref22_Read.j8 k4 a0 t203 t204 false (rdOf ByteArray.empty t178 0) x183001_4 (⟨#[]⟩ : ByteArray) (wrap64 (x6_2 + 4))) = some (r1, r2, r3, r4, r5) := by rw [if_neg (show ¬ (false = true) by decide)] at H; exact H); clear H; (have H := H1); clear H1; (have H' := zM H); clear H; (go_wp2); go_meet
                      case rel => exact ⟨_, (false), (by first | rfl | (simp; done) | (simp [*]; done)), H', ⟨by have := HJ2.out; have := HJ9.out; have := HJ23.out; have := HK4.out; first | omega | exact Nat.le_refl _⟩, ⟨by (with_reducible repeat (first | apply Kd.R_alloc | apply Kd.R_drewN | apply Kd.R_drew)); exact HO_183001.out⟩, ⟨by (with_reducible repeat (first | refine blk_drewN ?_ _ | refine blk_drew ?_ | refine blk_alloc ?_ _)); exact BK177.out⟩, ⟨by (with_reducible repeat (first | refine blk_drewN ?_ _ | refine blk_drew ?_ | refine blk_alloc ?_ _)); exact BK182.out⟩, ⟨by repeat (first | (with_reducible first | exact HB.out | apply below_alloc | apply pw_below_drewN | apply below_drew1 | refine below_set ?_ GE177.out | refine below_set ?_ GE182.out) | exact HB.out)⟩⟩
                   case rest =>
                    as_aux_lemma =>
                     clear HC77; (try clear c1); (try clear p1); (try clear q1); (try clear hx1); (try clear qi1); (try clear c2); (try clear p2); (try clear c3); (try clear c4); (try clear p4); (try clear q4); (try clear hx4); (try clear c5); (try clear c6); (try clear c6b0); (try clear c6b1); (try clear p6); (try clear c7); (try clear c7b0); (try clear c7b1); (try clear c8); (try clear c8b0); (try clear c9); (try clear c9b0); (try clear c9b1); (try clear c11); (try clear c11b0); (try clear c12); (try clear c12b0); (try clear c12b1); (try clear c13); (try clear c13b0); (try clear c14); (try clear c14b0); (try clear c15); (try clear c17); (try clear c17b0); (try clear p18); (try clear q18); (try clear hx18); (try clear qi18); (try clear c19); (try clear c19b0); (try clear c19b1); (try clear p19); (try clear q19); (try clear hx19); (try clear c20); (try clear c20b0); (try clear c20b1); (try clear c22); (try clear c22b0); (try clear c22b1); (try clear c23); (try clear c24); (try clear c25); (try clear c28); (try clear c31); (try clear c32); (try clear c34); (try clear c35); (try clear c37); (try clear c37b0); (try clear c39); (try clear c39b0); (try clear c40); (try clear c40b0); (try clear c41); (try clear c41b0); (try clear c42); (try clear c42b0); (try clear p43); (try clear q43); (try clear hx43); (try clear c44); (try clear c44b0); (try clear c44b1); (try clear c45); (try clear c46); (try clear c46b0); (try clear c47); (try clear c47b0); (try clear c48); (try clear c48b0); (try clear c48b1); (try clear c49); (try clear c49b0); (try clear c49b1); (try clear c50); (try clear c50b0); (try clear c50b1); (try clear c52); (try clear c54); (try clear c54b0); (try clear c54b1); (try clear c55); (try clear c55b0); (try clear c55b1); (try clear c57); (try clear c58); (try clear c60); (try clear c60b0); (try clear c61); (try clear c61b0); (try clear c62); (try clear c62b0); (try clear c62b1); (try clear c63); (try clear c63b0); (try clear c63b1); (try clear p64); (try clear c66); (try clear c66b0); (try clear c66b1); (try clear c67); (try clear c67b0); (try clear c67b1); (try clear c69); (try clear c78); (try clear c84); (try clear c84b0); (try clear c85); (try clear hcz16_0); (try clear hcz16_1); (try clear hcz16_2); (try clear hcz16_3); (try clear hcz18_0); (try clear hcz18_1); (try clear hcz18_2); (try clear hcz18_3); (try clear hcz29_0); (try clear hcz29_1); (try clear hcz29_2); (try clear hcz29_3); (try clear hcz36_0); (try clear hcz36_1); (try clear hcz36_2); (try clear hcz36_3); (try clear hcz59_0); (try clear hcz59_1); (try clear hcz59_2); (try clear hcz59_3); (try clear hcz79_0); (try clear hcz79_1); (try clear hcz79_2); (try clear hcz79_3); (try clear hcz82_0); (try clear hcz82_1); (try clear hcz82_2); (try clear hcz82_3); (try clear hfz16_0); (try clear hfz16_1); (try clear hfz16_2); (try clear hfz16_3); (try clear hfz18_0); (try clear hfz18_1); (try clear hfz18_2); (try clear hfz18_3); (try clear hfz29_0); (try clear hfz29_1); (try clear hfz29_2); (try clear hfz29_3); (try clear hfz36_0); (try clear hfz36_1); (try clear hfz36_2); (try clear hfz36_3); (try clear hfz59_0); (try clear hfz59_1); (try clear hfz59_2); (try clear hfz59_3); (try clear hfz79_0); (try clear hfz79_1); (try clear hfz79_2); (try clear hfz79_3); (try clear hfz82_0); (try clear hfz82_1); (try clear hfz82_2); (try clear hfz82_3); (try clear hx181_0); (try clear hx183_0); (try clear hx187_0); (try clear hx189_0); (try clear hx190_0); (try clear hx191_0); (try clear hx192_0); (try clear hx194_0); (try clear hx196_0); (try clear hx198_0); (try clear p1); (try clear p18); (try clear p181); (try clear p183); (try clear p187); (try clear p189); (try clear p19); (try clear p190); (try clear p191); (try clear p192); (try clear p194); (try clear p196); (try clear p198); (try clear p2); (try clear p4); (try clear p43); (try clear p6); (try clear q1); (try clear q18); (try clear q181); (try clear q183); (try clear q187); (try clear q189); (try clear q19); (try clear q190); (try clear q191); (try clear q192); (try clear q194); (try clear q196); (try clear q198); (try clear q4); (try clear q43); obtain ⟨kq, x187_76, rfl, HA, HJ76, HO_183001, BK177, BK182, HB⟩ := hcut
                     cases kq with
                     | zero => exact absurd HA.out (by simp [pennantref22_Read.j8])
                     | succ kj76 =>
                      (have H := HA.out); clear HA; simp only [pennantref22_Read.j8] at H; by_cases c86 : x187_76 = true
                      ·
                       subst c86; (have H1 : (some ((⟨#[]⟩ : ByteArray), ([] : List (S79)), (⟨#[]⟩ : ByteArray), 0, 220)) = some (r1, r2, r3, r4, r5) := by rw [if_pos rfl] at H; exact H); clear H; (have H := H1); clear H1; simp only [Option.some.injEq, Prod.mk.injEq] at H; (obtain ⟨rfl, rfl, rfl, rfl, rfl⟩ := H); (have hnb87 := NB177_182.out); (have hnc87 := NB182_177.out); (have hcz88_0 : wc.cell? ⟨gb177, 0, none⟩ = some (.string x178000_4) := (blk_cell BK177.out 0).trans rfl); (have hcz88_1 : wc.cell? ⟨gb177, 1, none⟩ = some (.slice none 0 0) := (blk_cell BK177.out 1).trans rfl); (have hcz88_2 : wc.cell? ⟨gb177, 2, none⟩ = some (.string x178002_4) := (blk_cell BK177.out 2).trans rfl); (have hcz88_3 : wc.cell? ⟨gb177, 3, none⟩ = some (.int .i64 x178003_4) := (blk_cell BK177.out 3).trans rfl); (have hfz88_0 := blk_frozen BK177.out 0); (have hfz88_1 := blk_frozen BK177.out 1); (have hfz88_2 := blk_frozen BK177.out 2); (have hfz88_3 := blk_frozen BK177.out 3); (go_wp2); (refine bodyPost_ret (results_ct rfl _ _ gb177 65 #[.string (⟨#[]⟩ : ByteArray), .slice none 0 0, .string (⟨#[]⟩ : ByteArray), .int .i64 0] (0, 0) _ rfl (by (with_reducible repeat (first | refine blk_drewN ?_ _ | refine blk_drew ?_ | refine blk_alloc ?_ _)); refine blk_put (cs := #[.string (⟨#[]⟩ : ByteArray), .slice none 0 0, .string (⟨#[]⟩ : ByteArray), .int .i64 x178003_4]) ?_ 3 _ rfl; (with_reducible repeat (first | refine blk_drewN ?_ _ | refine blk_drew ?_ | refine blk_alloc ?_ _)); refine blk_put (cs := #[.string (⟨#[]⟩ : ByteArray), .slice none 0 0, .string x178002_4, .int .i64 x178003_4]) ?_ 2 _ rfl; (with_reducible repeat (first | refine blk_drewN ?_ _ | refine blk_drew ?_ | refine blk_alloc ?_ _)); refine blk_put (cs := #[.string (⟨#[]⟩ : ByteArray), .slice none 0 0, .string x178002_4, .int .i64 x178003_4]) ?_ 1 _ rfl; (with_reducible repeat (first | refine blk_drewN ?_ _ | refine blk_drew ?_ | refine blk_alloc ?_ _)); refine blk_put (cs := #[.string x178000_4, .slice none 0 0, .string x178002_4, .int .i64 x178003_4]) ?_ 0 _ rfl; (with_reducible repeat (first | refine blk_drewN ?_ _ | refine blk_drew ?_ | refine blk_alloc ?_ _)); exact BK177.out) Tryz.underlying65 rfl (by kernel_rfl)) rfl ?_); exact ⟨_, by first | rfl | (simp [errW_none, errW_some] <;> rfl) | (simp [*, errW_none, errW_some] <;> rfl), by first | exact Kd.R_nil _ _ _ _ _ | exact Kd.N_nil _ _ _ _ _ | exact Kd.V_nil _ _ _ _ _ | exact Kd.Q_nil _ _ _ _ _ | exact Kd.S_nil _ _ _ _ _, by repeat (first | (with_reducible first | exact HB.out | apply below_alloc | apply pw_below_drewN | apply below_drew1 | refine below_set ?_ GE177.out | refine below_set ?_ GE182.out) | exact HB.out)⟩
                      ·
                       (replace c86 := Bool.eq_false_iff.mpr c86); subst c86; (have H1 : ((pennantref22_Message_Count.f kj76 (rdOf ByteArray.empty t178 0) x183001_4 (⟨#[]⟩ : ByteArray) (wrap64 (x6_2 + 4)) (⟨#[116, 114, 97, 110, 115, 102, 101, 114, 45, 101, 110, 99, 111, 100, 105, 110, 103]⟩ : ByteArray)).bind fun bt207 => (if t203 = 1 then ((pennantref22_Digits.f kj76 t204).bind fun t209 => (pennantref22_Read.j9 kj76 a0 bt207.1 t209 (rdOf ByteArray.empty t178 0) x183001_4 (⟨#[]⟩ : ByteArray) (wrap64 (x6_2 + 4)))) else (pennantref22_Read.j9 kj76 a0 bt207.1 0 (rdOf ByteArray.empty t178 0) x183001_4 (⟨#[]⟩ : ByteArray) (wrap64 (x6_2 + 4))))) = some (r1, r2, r3, r4, r5) := by rw [if_neg (show ¬ (false = true) by decide)] at H; exact H); clear H; (have H := H1); clear H1; (replace H := Option.bind_eq_some_iff.mp H); (obtain ⟨⟨t207, t208⟩, A890, H⟩ := H); replace H : (if t203 = 1 then ((pennantref22_Digits.f kj76 t204).bind fun t209 => (pennantref22_Read.j9 kj76 a0 t207 t209 (rdOf ByteArray.empty t178 0) x183001_4 (⟨#[]⟩ : ByteArray) (wrap64 (x6_2 + 4)))) else (pennantref22_Read.j9 kj76 a0 t207 0 (rdOf ByteArray.empty t178 0) x183001_4 (⟨#[]⟩ : ByteArray) (wrap64 (x6_2 + 4)))) = some (r1, r2, r3, r4, r5) := H; (have A89 := zM A890); clear A890; (have HC90 := zM H); clear H; (have hnb91 := NB182_177.out); (have hnc91 := NB177_182.out); (have hcz92_0 : wc.cell? ⟨gb182, 0, none⟩ = some (.string (rdOf ByteArray.empty t178 0)) := (blk_cell BK182.out 0).trans rfl); (have hcz92_1 : wc.cell? ⟨gb182, 1, none⟩ = some (.slice Ao80 x183001_4.length co80) := (blk_cell BK182.out 1).trans rfl); (have hcz92_2 : wc.cell? ⟨gb182, 2, none⟩ = some (.string (⟨#[]⟩ : ByteArray)) := (blk_cell BK182.out 2).trans rfl); (have hcz92_3 : wc.cell? ⟨gb182, 3, none⟩ = some (.int .i64 (wrap64 (x6_2 + 4))) := (blk_cell BK182.out 3).trans rfl); (have hfz92_0 := blk_frozen BK182.out 0); (have hfz92_1 := blk_frozen BK182.out 1); (have hfz92_2 := blk_frozen BK182.out 2); (have hfz92_3 := blk_frozen BK182.out 3); (go_upto_if 195 with (first | ((with_reducible refine gate_callee (f := 25) rfl ?_); refine goesL_ (some 191) rfl rfl Tryz.func25 (by kernel_rfl) rfl #[.agg #[.string (rdOf ByteArray.empty t178 0), .slice Ao80 x183001_4.length co80, .string (⟨#[]⟩ : ByteArray), .int .i64 (wrap64 (x6_2 + 4))], .string (⟨#[116, 114, 97, 110, 115, 102, 101, 114, 45, 101, 110, 99, 111, 100, 105, 110, 103]⟩ : ByteArray)] rfl (by (try simp only [zL]); first | done | rfl) ?_; (with_reducible refine (pennantref22_Message_Count.calls kj76 (rdOf ByteArray.empty t178 0) _ _ x183001_4 (⟨#[]⟩ : ByteArray) (wrap64 (x6_2 + 4)) (⟨#[116, 114, 97, 110, 115, 102, 101, 114, 45, 101, 110, 99, 111, 100, 105, 110, 103]⟩ : ByteArray) t207 t208 _ ?side1 ?side2 A89.out).mono ?_); (case side1 => repeat (first | exact (Kd.R_reads' HO_183001.out).2.2 | (with_reducible refine Kd.C_alloc ?_ _) | (with_reducible refine Kd.C_drewN ?_ _) | (with_reducible refine Kd.C_drew ?_))); (case side2 => exact (Kd.R_reads' HO_183001.out).2.1); rintro e w93 ⟨rfl, hb⟩; refine ⟨_, rfl, ?_⟩; have n0_ := zM (Kd.R_below (by (with_reducible repeat (first | apply Kd.R_alloc | apply Kd.R_drewN | apply Kd.R_drew)); exact HO_183001.out) hb); have n1_ := zM (blk_below (g := gb177) (o := .cells #[.string x178000_4, .slice none 0 0, .string x178002_4, .int .i64 x178003_4] 65 (0, 0)) (by (with_reducible repeat (first | refine blk_drewN ?_ _ | refine blk_drew ?_ | refine blk_alloc ?_ _)); exact BK177.out) hb); have n2_ := zM (blk_below (g := gb182) (o := .cells #[.string (rdOf ByteArray.empty t178 0), .slice Ao80 x183001_4.length co80, .string (⟨#[]⟩ : ByteArray), .int .i64 (wrap64 (x6_2 + 4))] 65 (0, 0)) (by (with_reducible repeat (first | refine blk_drewN ?_ _ | refine blk_drew ?_ | refine blk_alloc ?_ _)); exact BK182.out) hb); have n3_ := zM (below_step (by repeat (first | (with_reducible first | exact HB.out | apply below_alloc | apply pw_below_drewN | apply below_drew1 | refine below_set ?_ GE177.out | refine below_set ?_ GE182.out) | exact HB.out)) hb); clear HO_183001; clear BK177; clear BK182; clear HB; have HO_183001 := n0_; have BK177 := n1_; have BK182 := n2_; have HB := n3_; clear n0_ n1_ n2_ n3_; (try clear hb); (try clear hb2); (try clear hk); (try clear hi)))); (try simp only [Act.put, zS]); go_cut [21] (fun v21 wc => ∃ (kq : Nat) (x21_89 : Int), v21 = .int .i64 x21_89 ∧ Aside0 (pennantref22_Read.j9 kq a0 t207 x21_89 (rdOf ByteArray.empty t178 0) x183001_4 (⟨#[]⟩ : ByteArray) (wrap64 (x6_2 + 4)) = some (r1, r2, r3, r4, r5)) ∧ Aside0 (kq ≤ kj76) ∧ Aside0 (Kd.R k79 79 wc w.heap.size (fun _ => True) (.slice Ao80 x183001_4.length co80) x183001_4) ∧ Aside0 (wc.heap[gb177]? = some (.cells #[.string x178000_4, (.slice none 0 0), .string x178002_4, .int .i64 x178003_4] 65 (0, 0))) ∧ Aside0 (wc.heap[gb182]? = some (.cells #[.string (rdOf ByteArray.empty t178 0), (.slice Ao80 x183001_4.length co80), .string (⟨#[]⟩ : ByteArray), .int .i64 (wrap64 (x6_2 + 4))] 65 (0, 0))) ∧ Aside0 (Below w.heap.size w wc))
                       case first =>
                        (have H := HC90.out); clear HC90; by_cases c94 : t203 = 1
                        ·
                         rw [if_pos c94] at H; (have c94b0 : (t203 == 1) = true := beq_iff_eq.mpr c94); (have c94b1 : (t203 != 1) = false := bne_eq_false_iff_eq.mpr c94); clear c94; (first | rw [c94b0] | (simp only [i64_w, i32_w]; rw [c94b0]) | skip); (replace H := Option.bind_eq_some_iff.mp H); (obtain ⟨t209, A950, H⟩ := H); replace H : (pennantref22_Read.j9 kj76 a0 t207 t209 (rdOf ByteArray.empty t178 0) x183001_4 (⟨#[]⟩ : ByteArray) (wrap64 (x6_2 + 4))) = some (r1, r2, r3, r4, r5) := H; (have A95 := zM A950); clear A950; (have H' := zM H); clear H; (go_wp2_with (first | ((with_reducible refine gate_callee (f := 47) rfl ?_); refine goesL_ (some 197) rfl rfl Tryz.func47 (by kernel_rfl) rfl #[.string t204] rfl (by (try simp only [zL]); first | done | rfl) ?_; (with_reducible refine (pennantref22_Digits.calls kj76 t204 t209 _ A95.out).mono ?_); rintro e w' ⟨rfl, ⟨nd, rfl⟩⟩; refine ⟨_, rfl, ?_⟩))); go_meet
                         case rel => exact ⟨_, (t209), (by first | rfl | (simp; done) | (simp [*]; done)), H', ⟨by have := HJ2.out; have := HJ9.out; have := HJ23.out; have := HK4.out; have := HJ76.out; first | omega | exact Nat.le_refl _⟩, ⟨by (with_reducible repeat (first | apply Kd.R_alloc | apply Kd.R_drewN | apply Kd.R_drew)); exact HO_183001.out⟩, ⟨by (with_reducible repeat (first | refine blk_drewN ?_ _ | refine blk_drew ?_ | refine blk_alloc ?_ _)); exact BK177.out⟩, ⟨by (with_reducible repeat (first | refine blk_drewN ?_ _ | refine blk_drew ?_ | refine blk_alloc ?_ _)); exact BK182.out⟩, ⟨by repeat (first | (with_reducible first | exact HB.out | apply below_alloc | apply pw_below_drewN | apply below_drew1 | refine below_set ?_ GE177.out | refine below_set ?_ GE182.out) | exact HB.out)⟩⟩
                        ·
                         rw [if_neg c94] at H; (have c94b0 : (t203 == 1) = false := beq_eq_false_iff_ne.mpr c94); (have c94b1 : (t203 != 1) = true := bne_iff_ne.mpr c94); (first | rw [c94b0] | (simp only [i64_w, i32_w]; rw [c94b0]) | skip); (have H' := zM H); clear H; (go_wp2); go_meet
                         case rel => exact ⟨_, (0), (by first | rfl | (simp; done) | (simp [*]; done)), H', ⟨by have := HJ2.out; have := HJ9.out; have := HJ23.out; have := HK4.out; have := HJ76.out; first | omega | exact Nat.le_refl _⟩, ⟨by (with_reducible repeat (first | apply Kd.R_alloc | apply Kd.R_drewN | apply Kd.R_drew)); exact HO_183001.out⟩, ⟨by (with_reducible repeat (first | refine blk_drewN ?_ _ | refine blk_drew ?_ | refine blk_alloc ?_ _)); exact BK177.out⟩, ⟨by (with_reducible repeat (first | refine blk_drewN ?_ _ | refine blk_drew ?_ | refine blk_alloc ?_ _)); exact BK182.out⟩, ⟨by repeat (first | (with_reducible first | exact HB.out | apply below_alloc | apply pw_below_drewN | apply below_drew1 | refine below_set ?_ GE177.out | refine below_set ?_ GE182.out) | exact HB.out)⟩⟩
                       case rest =>
                        as_aux_lemma =>
                         clear HC90; (try clear c1); (try clear p1); (try clear q1); (try clear hx1); (try clear qi1); (try clear c2); (try clear p2); (try clear c3); (try clear c4); (try clear p4); (try clear q4); (try clear hx4); (try clear c5); (try clear c6); (try clear c6b0); (try clear c6b1); (try clear p6); (try clear c7); (try clear c7b0); (try clear c7b1); (try clear c8); (try clear c8b0); (try clear c9); (try clear c9b0); (try clear c9b1); (try clear c11); (try clear c11b0); (try clear c12); (try clear c12b0); (try clear c12b1); (try clear c13); (try clear c13b0); (try clear c14); (try clear c14b0); (try clear c15); (try clear c17); (try clear c17b0); (try clear p18); (try clear q18); (try clear hx18); (try clear qi18); (try clear c19); (try clear c19b0); (try clear c19b1); (try clear p19); (try clear q19); (try clear hx19); (try clear c20); (try clear c20b0); (try clear c20b1); (try clear c22); (try clear c22b0); (try clear c22b1); (try clear c23); (try clear c24); (try clear c25); (try clear c28); (try clear c31); (try clear c32); (try clear c34); (try clear c35); (try clear c37); (try clear c37b0); (try clear c39); (try clear c39b0); (try clear c40); (try clear c40b0); (try clear c41); (try clear c41b0); (try clear c42); (try clear c42b0); (try clear p43); (try clear q43); (try clear hx43); (try clear c44); (try clear c44b0); (try clear c44b1); (try clear c45); (try clear c46); (try clear c46b0); (try clear c47); (try clear c47b0); (try clear c48); (try clear c48b0); (try clear c48b1); (try clear c49); (try clear c49b0); (try clear c49b1); (try clear c50); (try clear c50b0); (try clear c50b1); (try clear c52); (try clear c54); (try clear c54b0); (try clear c54b1); (try clear c55); (try clear c55b0); (try clear c55b1); (try clear c57); (try clear c58); (try clear c60); (try clear c60b0); (try clear c61); (try clear c61b0); (try clear c62); (try clear c62b0); (try clear c62b1); (try clear c63); (try clear c63b0); (try clear c63b1); (try clear p64); (try clear c66); (try clear c66b0); (try clear c66b1); (try clear c67); (try clear c67b0); (try clear c67b1); (try clear c69); (try clear c78); (try clear c84); (try clear c84b0); (try clear c85); (try clear c86); (try clear c87); (try clear c91); (try clear c94); (try clear c94b0); (try clear c94b1); (try clear hcz16_0); (try clear hcz16_1); (try clear hcz16_2); (try clear hcz16_3); (try clear hcz18_0); (try clear hcz18_1); (try clear hcz18_2); (try clear hcz18_3); (try clear hcz29_0); (try clear hcz29_1); (try clear hcz29_2); (try clear hcz29_3); (try clear hcz36_0); (try clear hcz36_1); (try clear hcz36_2); (try clear hcz36_3); (try clear hcz59_0); (try clear hcz59_1); (try clear hcz59_2); (try clear hcz59_3); (try clear hcz79_0); (try clear hcz79_1); (try clear hcz79_2); (try clear hcz79_3); (try clear hcz82_0); (try clear hcz82_1); (try clear hcz82_2); (try clear hcz82_3); (try clear hcz88_0); (try clear hcz88_1); (try clear hcz88_2); (try clear hcz88_3); (try clear hcz92_0); (try clear hcz92_1); (try clear hcz92_2); (try clear hcz92_3); (try clear hfz16_0); (try clear hfz16_1); (try clear hfz16_2); (try clear hfz16_3); (try clear hfz18_0); (try clear hfz18_1); (try clear hfz18_2); (try clear hfz18_3); (try clear hfz29_0); (try clear hfz29_1); (try clear hfz29_2); (try clear hfz29_3); (try clear hfz36_0); (try clear hfz36_1); (try clear hfz36_2); (try clear hfz36_3); (try clear hfz59_0); (try clear hfz59_1); (try clear hfz59_2); (try clear hfz59_3); (try clear hfz79_0); (try clear hfz79_1); (try clear hfz79_2); (try clear hfz79_3); (try clear hfz82_0); (try clear hfz82_1); (try clear hfz82_2); (try clear hfz82_3); (try clear hfz88_0); (try clear hfz88_1); (try clear hfz88_2); (try clear hfz88_3); (try clear hfz92_0); (try clear hfz92_1); (try clear hfz92_2); (try clear hfz92_3); (try clear hx181_0); (try clear hx183_0); (try clear hx187_0); (try clear hx189_0); (try clear hx190_0); (try clear hx191_0); (try clear hx192_0); (try clear hx194_0); (try clear hx196_0); (try clear hx198_0); (try clear p1); (try clear p18); (try clear p181); (try clear p183); (try clear p187); (try clear p189); (try clear p19); (try clear p190); (try clear p191); (try clear p192); (try clear p194); (try clear p196); (try clear p198); (try clear p2); (try clear p4); (try clear p43); (try clear p6); (try clear p64); (try clear q1); (try clear q18); (try clear q181); (try clear q183); (try clear q187); (try clear q189); (try clear q19); (try clear q190); (try clear q191); (try clear q192); (try clear q194); (try clear q196); (try clear q198); (try clear q4); (try clear q43); obtain ⟨kq, x21_89, rfl, HA, HJ89, HO_183001, BK177, BK182, HB⟩ := hcut
                         cases kq with
                         | zero => exact absurd HA.out (by simp [pennantref22_Read.j9])
                         | succ kj89 =>
                          (have H := HA.out); clear HA; simp only [pennantref22_Read.j9] at H; (have HC96 := zM H); clear H; (go_upto_region 31 with (fail)); go_cut [207] (fun v207 wc => ∃ (kq : Nat) (x207_95 : Bool), v207 = .bool x207_95 ∧ Aside0 (pennantref22_Read.j10 kq a0 x21_89 x207_95 (rdOf ByteArray.empty t178 0) x183001_4 (⟨#[]⟩ : ByteArray) (wrap64 (x6_2 + 4)) = some (r1, r2, r3, r4, r5)) ∧ Aside0 (kq ≤ kj89) ∧ Aside0 (Kd.R k79 79 wc w.heap.size (fun _ => True) (.slice Ao80 x183001_4.length co80) x183001_4) ∧ Aside0 (wc.heap[gb177]? = some (.cells #[.string x178000_4, (.slice none 0 0), .string x178002_4, .int .i64 x178003_4] 65 (0, 0))) ∧ Aside0 (wc.heap[gb182]? = some (.cells #[.string (rdOf ByteArray.empty t178 0), (.slice Ao80 x183001_4.length co80), .string (⟨#[]⟩ : ByteArray), .int .i64 (wrap64 (x6_2 + 4))] 65 (0, 0))) ∧ Aside0 (Below w.heap.size w wc))
                          case first =>
                           (have H := HC96.out); clear HC96; by_cases c97 : t207 > 0
                           ·
                            rw [if_pos c97] at H; (have c97b0 : decide (0 < t207) = true := decide_eq_true c97); clear c97; (first | rw [c97b0] | (simp only [i64_w, i32_w]; rw [c97b0]) | skip); (have H' := zM H); clear H; (go_wp2); go_meet
                            case rel => exact ⟨_, (true), (by first | rfl | (simp; done) | (simp [*]; done)), H', ⟨by have := HJ2.out; have := HJ9.out; have := HJ23.out; have := HK4.out; have := HJ76.out; have := HJ89.out; first | omega | exact Nat.le_refl _⟩, ⟨by (with_reducible repeat (first | apply Kd.R_alloc | apply Kd.R_drewN | apply Kd.R_drew)); exact HO_183001.out⟩, ⟨by (with_reducible repeat (first | refine blk_drewN ?_ _ | refine blk_drew ?_ | refine blk_alloc ?_ _)); exact BK177.out⟩, ⟨by (with_reducible repeat (first | refine blk_drewN ?_ _ | refine blk_drew ?_ | refine blk_alloc ?_ _)); exact BK182.out⟩, ⟨by repeat (first | (with_reducible first | exact HB.out | apply below_alloc | apply pw_below_drewN | apply below_drew1 | refine below_set ?_ GE177.out | refine below_set ?_ GE182.out) | exact HB.out)⟩⟩
                           ·
                            rw [if_neg c97] at H; (have c97b0 : decide (0 < t207) = false := decide_eq_false c97); clear c97; (first | rw [c97b0] | (simp only [i64_w, i32_w]; rw [c97b0]) | skip); by_cases c98 : x21_89 < 0
                            ·
                             rw [if_pos c98] at H; (have c98b0 : decide (x21_89 < 0) = true := decide_eq_true c98); clear c98; (have H' := zM H); clear H; (go_wp2); go_meet
                             case rel => exact ⟨_, (true), (by first | rfl | (simp; done) | (simp [*]; done)), H', ⟨by have := HJ2.out; have := HJ9.out; have := HJ23.out; have := HK4.out; have := HJ76.out; have := HJ89.out; first | omega | exact Nat.le_refl _⟩, ⟨by (with_reducible repeat (first | apply Kd.R_alloc | apply Kd.R_drewN | apply Kd.R_drew)); exact HO_183001.out⟩, ⟨by (with_reducible repeat (first | refine blk_drewN ?_ _ | refine blk_drew ?_ | refine blk_alloc ?_ _)); exact BK177.out⟩, ⟨by (with_reducible repeat (first | refine blk_drewN ?_ _ | refine blk_drew ?_ | refine blk_alloc ?_ _)); exact BK182.out⟩, ⟨by repeat (first | (with_reducible first | exact HB.out | apply below_alloc | apply pw_below_drewN | apply below_drew1 | refine below_set ?_ GE177.out | refine below_set ?_ GE182.out) | exact HB.out)⟩⟩
                            ·
                             rw [if_neg c98] at H; (have c98b0 : decide (x21_89 < 0) = false := decide_eq_false c98); clear c98; (have H' := zM H); clear H; (go_wp2); go_meet
                             case rel => exact ⟨_, (decide (x21_89 > 4096)), (by first | rfl | (simp; done) | (simp [*]; done)), H', ⟨by have := HJ2.out; have := HJ9.out; have := HJ23.out; have := HK4.out; have := HJ76.out; have := HJ89.out; first | omega | exact Nat.le_refl _⟩, ⟨by (with_reducible repeat (first | apply Kd.R_alloc | apply Kd.R_drewN | apply Kd.R_drew)); exact HO_183001.out⟩, ⟨by (with_reducible repeat (first | refine blk_drewN ?_ _ | refine blk_drew ?_ | refine blk_alloc ?_ _)); exact BK177.out⟩, ⟨by (with_reducible repeat (first | refine blk_drewN ?_ _ | refine blk_drew ?_ | refine blk_alloc ?_ _)); exact BK182.out⟩, ⟨by repeat (first | (with_reducible first | exact HB.out | apply below_alloc | apply pw_below_drewN | apply below_drew1 | refine below_set ?_ GE177.out | refine below_set ?_ GE182.out) | exact HB.out)⟩⟩
                          case rest =>
                           as_aux_lemma =>
                            clear HC96; (try clear c1); (try clear p1); (try clear q1); (try clear hx1); (try clear qi1); (try clear c2); (try clear p2); (try clear c3); (try clear c4); (try clear p4); (try clear q4); (try clear hx4); (try clear c5); (try clear c6); (try clear c6b0); (try clear c6b1); (try clear p6); (try clear c7); (try clear c7b0); (try clear c7b1); (try clear c8); (try clear c8b0); (try clear c9); (try clear c9b0); (try clear c9b1); (try clear c11); (try clear c11b0); (try clear c12); (try clear c12b0); (try clear c12b1); (try clear c13); (try clear c13b0); (try clear c14); (try clear c14b0); (try clear c15); (try clear c17); (try clear c17b0); (try clear p18); (try clear q18); (try clear hx18); (try clear qi18); (try clear c19); (try clear c19b0); (try clear c19b1); (try clear p19); (try clear q19); (try clear hx19); (try clear c20); (try clear c20b0); (try clear c20b1); (try clear c22); (try clear c22b0); (try clear c22b1); (try clear c23); (try clear c24); (try clear c25); (try clear c28); (try clear c31); (try clear c32); (try clear c34); (try clear c35); (try clear c37); (try clear c37b0); (try clear c39); (try clear c39b0); (try clear c40); (try clear c40b0); (try clear c41); (try clear c41b0); (try clear c42); (try clear c42b0); (try clear p43); (try clear q43); (try clear hx43); (try clear c44); (try clear c44b0); (try clear c44b1); (try clear c45); (try clear c46); (try clear c46b0); (try clear c47); (try clear c47b0); (try clear c48); (try clear c48b0); (try clear c48b1); (try clear c49); (try clear c49b0); (try clear c49b1); (try clear c50); (try clear c50b0); (try clear c50b1); (try clear c52); (try clear c54); (try clear c54b0); (try clear c54b1); (try clear c55); (try clear c55b0); (try clear c55b1); (try clear c57); (try clear c58); (try clear c60); (try clear c60b0); (try clear c61); (try clear c61b0); (try clear c62); (try clear c62b0); (try clear c62b1); (try clear c63); (try clear c63b0); (try clear c63b1); (try clear p64); (try clear c66); (try clear c66b0); (try clear c66b1); (try clear c67); (try clear c67b0); (try clear c67b1); (try clear c69); (try clear c78); (try clear c84); (try clear c84b0); (try clear c85); (try clear c86); (try clear c87); (try clear c91); (try clear c94); (try clear c94b0); (try clear c94b1); (try clear c97); (try clear c97b0); (try clear c98); (try clear c98b0); (try clear hcz16_0); (try clear hcz16_1); (try clear hcz16_2); (try clear hcz16_3); (try clear hcz18_0); (try clear hcz18_1); (try clear hcz18_2); (try clear hcz18_3); (try clear hcz29_0); (try clear hcz29_1); (try clear hcz29_2); (try clear hcz29_3); (try clear hcz36_0); (try clear hcz36_1); (try clear hcz36_2); (try clear hcz36_3); (try clear hcz59_0); (try clear hcz59_1); (try clear hcz59_2); (try clear hcz59_3); (try clear hcz79_0); (try clear hcz79_1); (try clear hcz79_2); (try clear hcz79_3); (try clear hcz82_0); (try clear hcz82_1); (try clear hcz82_2); (try clear hcz82_3); (try clear hcz88_0); (try clear hcz88_1); (try clear hcz88_2); (try clear hcz88_3); (try clear hcz92_0); (try clear hcz92_1); (try clear hcz92_2); (try clear hcz92_3); (try clear hfz16_0); (try clear hfz16_1); (try clear hfz16_2); (try clear hfz16_3); (try clear hfz18_0); (try clear hfz18_1); (try clear hfz18_2); (try clear hfz18_3); (try clear hfz29_0); (try clear hfz29_1); (try clear hfz29_2); (try clear hfz29_3); (try clear hfz36_0); (try clear hfz36_1); (try clear hfz36_2); (try clear hfz36_3); (try clear hfz59_0); (try clear hfz59_1); (try clear hfz59_2); (try clear hfz59_3); (try clear hfz79_0); (try clear hfz79_1); (try clear hfz79_2); (try clear hfz79_3); (try clear hfz82_0); (try clear hfz82_1); (try clear hfz82_2); (try clear hfz82_3); (try clear hfz88_0); (try clear hfz88_1); (try clear hfz88_2); (try clear hfz88_3); (try clear hfz92_0); (try clear hfz92_1); (try clear hfz92_2); (try clear hfz92_3); (try clear hx181_0); (try clear hx183_0); (try clear hx187_0); (try clear hx189_0); (try clear hx190_0); (try clear hx191_0); (try clear hx192_0); (try clear hx194_0); (try clear hx196_0); (try clear hx198_0); (try clear p1); (try clear p18); (try clear p181); (try clear p183); (try clear p187); (try clear p189); (try clear p19); (try clear p190); (try clear p191); (try clear p192); (try clear p194); (try clear p196); (try clear p198); (try clear p2); (try clear p4); (try clear p43); (try clear p6); (try clear p64); (try clear q1); (try clear q18); (try clear q181); (try clear q183); (try clear q187); (try clear q189); (try clear q19); (try clear q190); (try clear q191); (try clear q192); (try clear q194); (try clear q196); (try clear q198); (try clear q4); (try clear q43); obtain ⟨kq, x207_95, rfl, HA, HJ95, HO_183001, BK177, BK182, HB⟩ := hcut
                            cases kq with
                            | zero => exact absurd HA.out (by simp [pennantref22_Read.j10])
                            | succ kj95 =>
                             (have H := HA.out); clear HA; simp only [pennantref22_Read.j10] at H; by_cases c99 : x207_95 = true
                             ·
                              subst c99; (have H1 : (some ((⟨#[]⟩ : ByteArray), ([] : List (S79)), (⟨#[]⟩ : ByteArray), 0, 222)) = some (r1, r2, r3, r4, r5) := by rw [if_pos rfl] at H; exact H); clear H; (have H := H1); clear H1; simp only [Option.some.injEq, Prod.mk.injEq] at H; (obtain ⟨rfl, rfl, rfl, rfl, rfl⟩ := H); (have hnb100 := NB177_182.out); (have hnc100 := NB182_177.out); (have hcz101_0 : wc.cell? ⟨gb177, 0, none⟩ = some (.string x178000_4) := (blk_cell BK177.out 0).trans rfl); (have hcz101_1 : wc.cell? ⟨gb177, 1, none⟩ = some (.slice none 0 0) := (blk_cell BK177.out 1).trans rfl); (have hcz101_2 : wc.cell? ⟨gb177, 2, none⟩ = some (.string x178002_4) := (blk_cell BK177.out 2).trans rfl); (have hcz101_3 : wc.cell? ⟨gb177, 3, none⟩ = some (.int .i64 x178003_4) := (blk_cell BK177.out 3).trans rfl); (have hfz101_0 := blk_frozen BK177.out 0); (have hfz101_1 := blk_frozen BK177.out 1); (have hfz101_2 := blk_frozen BK177.out 2); (have hfz101_3 := blk_frozen BK177.out 3); (go_wp2); (refine bodyPost_ret (results_ct rfl _ _ gb177 65 #[.string (⟨#[]⟩ : ByteArray), .slice none 0 0, .string (⟨#[]⟩ : ByteArray), .int .i64 0] (0, 0) _ rfl (by (with_reducible repeat (first | refine blk_drewN ?_ _ | refine blk_drew ?_ | refine blk_alloc ?_ _)); refine blk_put (cs := #[.string (⟨#[]⟩ : ByteArray), .slice none 0 0, .string (⟨#[]⟩ : ByteArray), .int .i64 x178003_4]) ?_ 3 _ rfl; (with_reducible repeat (first | refine blk_drewN ?_ _ | refine blk_drew ?_ | refine blk_alloc ?_ _)); refine blk_put (cs := #[.string (⟨#[]⟩ : ByteArray), .slice none 0 0, .string x178002_4, .int .i64 x178003_4]) ?_ 2 _ rfl; (with_reducible repeat (first | refine blk_drewN ?_ _ | refine blk_drew ?_ | refine blk_alloc ?_ _)); refine blk_put (cs := #[.string (⟨#[]⟩ : ByteArray), .slice none 0 0, .string x178002_4, .int .i64 x178003_4]) ?_ 1 _ rfl; (with_reducible repeat (first | refine blk_drewN ?_ _ | refine blk_drew ?_ | refine blk_alloc ?_ _)); refine blk_put (cs := #[.string x178000_4, .slice none 0 0, .string x178002_4, .int .i64 x178003_4]) ?_ 0 _ rfl; (with_reducible repeat (first | refine blk_drewN ?_ _ | refine blk_drew ?_ | refine blk_alloc ?_ _)); exact BK177.out) Tryz.underlying65 rfl (by kernel_rfl)) rfl ?_); exact ⟨_, by first | rfl | (simp [errW_none, errW_some] <;> rfl) | (simp [*, errW_none, errW_some] <;> rfl), by first | exact Kd.R_nil _ _ _ _ _ | exact Kd.N_nil _ _ _ _ _ | exact Kd.V_nil _ _ _ _ _ | exact Kd.Q_nil _ _ _ _ _ | exact Kd.S_nil _ _ _ _ _, by repeat (first | (with_reducible first | exact HB.out | apply below_alloc | apply pw_below_drewN | apply below_drew1 | refine below_set ?_ GE177.out | refine below_set ?_ GE182.out) | exact HB.out)⟩
                             ·
                              (replace c99 := Bool.eq_false_iff.mpr c99); subst c99; (have H1 : (if (a0.size : Int) < (wrap64 ((wrap64 (x6_2 + 4)) + x21_89)) then (some ((⟨#[]⟩ : ByteArray), ([] : List (S79)), (⟨#[]⟩ : ByteArray), 0, 3)) else (if 0 ≤ (wrap64 (x6_2 + 4)) then (if (wrap64 (x6_2 + 4)) ≤ (wrap64 ((wrap64 (x6_2 + 4)) + x21_89)) then (if (wrap64 ((wrap64 (x6_2 + 4)) + x21_89)) ≤ (a0.size : Int) then (some ((rdOf ByteArray.empty t178 0), x183001_4, a0.extract ((wrap64 (x6_2 + 4)) : Int).toNat ((wrap64 ((wrap64 (x6_2 + 4)) + x21_89)) : Int).toNat, wrap64 ((wrap64 (x6_2 + 4)) + x21_89), 0)) else (none)) else (none)) else (none))) = some (r1, r2, r3, r4, r5) := by rw [if_neg (show ¬ (false = true) by decide)] at H; exact H); clear H; (have H := H1); clear H1; by_cases c102 : (a0.size : Int) < (wrap64 ((wrap64 (x6_2 + 4)) + x21_89))
                              ·
                               rw [if_pos c102] at H; (have c102b0 : decide ((a0.size : Int) < (wrap64 ((wrap64 (x6_2 + 4)) + x21_89))) = true := decide_eq_true c102); clear c102; simp only [Option.some.injEq, Prod.mk.injEq] at H; (obtain ⟨rfl, rfl, rfl, rfl, rfl⟩ := H); (have hnb103 := NB182_177.out); (have hnc103 := NB177_182.out); (have hcz104_0 : wc.cell? ⟨gb182, 0, none⟩ = some (.string (rdOf ByteArray.empty t178 0)) := (blk_cell BK182.out 0).trans rfl); (have hcz104_1 : wc.cell? ⟨gb182, 1, none⟩ = some (.slice Ao80 x183001_4.length co80) := (blk_cell BK182.out 1).trans rfl); (have hcz104_2 : wc.cell? ⟨gb182, 2, none⟩ = some (.string (⟨#[]⟩ : ByteArray)) := (blk_cell BK182.out 2).trans rfl); (have hcz104_3 : wc.cell? ⟨gb182, 3, none⟩ = some (.int .i64 (wrap64 (x6_2 + 4))) := (blk_cell BK182.out 3).trans rfl); (have hfz104_0 := blk_frozen BK182.out 0); (have hfz104_1 := blk_frozen BK182.out 1); (have hfz104_2 := blk_frozen BK182.out 2); (have hfz104_3 := blk_frozen BK182.out 3); (have hcz105_0 : wc.cell? ⟨gb177, 0, none⟩ = some (.string x178000_4) := (blk_cell BK177.out 0).trans rfl); (have hcz105_1 : wc.cell? ⟨gb177, 1, none⟩ = some (.slice none 0 0) := (blk_cell BK177.out 1).trans rfl); (have hcz105_2 : wc.cell? ⟨gb177, 2, none⟩ = some (.string x178002_4) := (blk_cell BK177.out 2).trans rfl); (have hcz105_3 : wc.cell? ⟨gb177, 3, none⟩ = some (.int .i64 x178003_4) := (blk_cell BK177.out 3).trans rfl); (have hfz105_0 := blk_frozen BK177.out 0); (have hfz105_1 := blk_frozen BK177.out 1); (have hfz105_2 := blk_frozen BK177.out 2); (have hfz105_3 := blk_frozen BK177.out 3); (go_wp2); (refine bodyPost_ret (results_ct rfl _ _ gb177 65 #[.string (⟨#[]⟩ : ByteArray), .slice none 0 0, .string (⟨#[]⟩ : ByteArray), .int .i64 0] (0, 0) _ rfl (by (with_reducible repeat (first | refine blk_drewN ?_ _ | refine blk_drew ?_ | refine blk_alloc ?_ _)); refine blk_put (cs := #[.string (⟨#[]⟩ : ByteArray), .slice none 0 0, .string (⟨#[]⟩ : ByteArray), .int .i64 x178003_4]) ?_ 3 _ rfl; (with_reducible repeat (first | refine blk_drewN ?_ _ | refine blk_drew ?_ | refine blk_alloc ?_ _)); refine blk_put (cs := #[.string (⟨#[]⟩ : ByteArray), .slice none 0 0, .string x178002_4, .int .i64 x178003_4]) ?_ 2 _ rfl; (with_reducible repeat (first | refine blk_drewN ?_ _ | refine blk_drew ?_ | refine blk_alloc ?_ _)); refine blk_put (cs := #[.string (⟨#[]⟩ : ByteArray), .slice none 0 0, .string x178002_4, .int .i64 x178003_4]) ?_ 1 _ rfl; (with_reducible repeat (first | refine blk_drewN ?_ _ | refine blk_drew ?_ | refine blk_alloc ?_ _)); refine blk_put (cs := #[.string x178000_4, .slice none 0 0, .string x178002_4, .int .i64 x178003_4]) ?_ 0 _ rfl; (with_reducible repeat (first | refine blk_drewN ?_ _ | refine blk_drew ?_ | refine blk_alloc ?_ _)); exact BK177.out) Tryz.underlying65 rfl (by kernel_rfl)) rfl ?_); exact ⟨_, by first | rfl | (simp [errW_none, errW_some] <;> rfl) | (simp [*, errW_none, errW_some] <;> rfl), by first | exact Kd.R_nil _ _ _ _ _ | exact Kd.N_nil _ _ _ _ _ | exact Kd.V_nil _ _ _ _ _ | exact Kd.Q_nil _ _ _ _ _ | exact Kd.S_nil _ _ _ _ _, by repeat (first | (with_reducible first | exact HB.out | apply below_alloc | apply pw_below_drewN | apply below_drew1 | refine below_set ?_ GE177.out | refine below_set ?_ GE182.out) | exact HB.out)⟩
                              ·
                               rw [if_neg c102] at H; (have c102b0 : decide ((a0.size : Int) < (wrap64 ((wrap64 (x6_2 + 4)) + x21_89))) = false := decide_eq_false c102); clear c102; (obtain ⟨ji106, hji106⟩ : ∃ j_ : Int, (wrap64 (x6_2 + 4)) = j_ := ⟨_, rfl⟩); (replace H : (if 0 ≤ (ji106) then (if (ji106) ≤ (wrap64 ((ji106) + x21_89)) then (if (wrap64 ((ji106) + x21_89)) ≤ (a0.size : Int) then (some ((rdOf ByteArray.empty t178 0), x183001_4, a0.extract ((ji106) : Int).toNat ((wrap64 ((ji106) + x21_89)) : Int).toNat, wrap64 ((ji106) + x21_89), 0)) else (none)) else (none)) else (none)) = some (r1, r2, r3, r4, r5) := by first | (rw [hji106] at H; exact H) | (simp only [hji106] at H ⊢; exact H)); (try rw [hji106] at c17b0); (try rw [hji106] at c102b0); (have hji106w : (IntKind.i64.wrap (x6_2 + 4)) = ji106 := (i64_w _).trans hji106); by_cases c107 : 0 ≤ (ji106)
                               ·
                                rw [if_pos c107] at H; (have c107b0 := eq_true c107); (have c107b1 : decide (0 ≤ (ji106)) = true := decide_eq_true c107); clear c107; by_cases c108 : (ji106) ≤ (wrap64 ((ji106) + x21_89))
                                ·
                                 rw [if_pos c108] at H; (have c108b0 := eq_true c108); (have c108b1 : decide ((ji106) ≤ (wrap64 ((ji106) + x21_89))) = true := decide_eq_true c108); by_cases c109 : (wrap64 ((ji106) + x21_89)) ≤ (a0.size : Int)
                                 ·
                                  rw [if_pos c109] at H; (have c109b0 := eq_true c109); (have c109b1 : decide ((wrap64 ((ji106) + x21_89)) ≤ (a0.size : Int)) = true := decide_eq_true c109); simp only [Option.some.injEq, Prod.mk.injEq] at H; (obtain ⟨rfl, rfl, rfl, rfl, rfl⟩ := H); (have hnb110 := NB182_177.out); (have hnc110 := NB177_182.out); (have hcz111_0 : wc.cell? ⟨gb182, 0, none⟩ = some (.string (rdOf ByteArray.empty t178 0)) := (blk_cell BK182.out 0).trans rfl); (have hcz111_1 : wc.cell? ⟨gb182, 1, none⟩ = some (.slice Ao80 x183001_4.length co80) := (blk_cell BK182.out 1).trans rfl); (have hcz111_2 : wc.cell? ⟨gb182, 2, none⟩ = some (.string (⟨#[]⟩ : ByteArray)) := (blk_cell BK182.out 2).trans rfl); (have hcz111_3 : wc.cell? ⟨gb182, 3, none⟩ = some (.int .i64 (ji106)) := (blk_cell BK182.out 3).trans (by first | rfl | (rw [hji106]; rfl) | (rw [← hji106]; rfl))); (have hfz111_0 := blk_frozen BK182.out 0); (have hfz111_1 := blk_frozen BK182.out 1); (have hfz111_2 := blk_frozen BK182.out 2); (have hfz111_3 := blk_frozen BK182.out 3); (have hcz112_0 : wc.cell? ⟨gb177, 0, none⟩ = some (.string x178000_4) := (blk_cell BK177.out 0).trans rfl); (have hcz112_1 : wc.cell? ⟨gb177, 1, none⟩ = some (.slice none 0 0) := (blk_cell BK177.out 1).trans rfl); (have hcz112_2 : wc.cell? ⟨gb177, 2, none⟩ = some (.string x178002_4) := (blk_cell BK177.out 2).trans rfl); (have hcz112_3 : wc.cell? ⟨gb177, 3, none⟩ = some (.int .i64 x178003_4) := (blk_cell BK177.out 3).trans rfl); (have hfz112_0 := blk_frozen BK177.out 0); (have hfz112_1 := blk_frozen BK177.out 1); (have hfz112_2 := blk_frozen BK177.out 2); (have hfz112_3 := blk_frozen BK177.out 3); (go_wp2); (refine bodyPost_ret (results_ct rfl _ _ gb177 65 #[.string (rdOf ByteArray.empty t178 0), .slice Ao80 x183001_4.length co80, .string (a0.extract ((ji106) : Int).toNat ((wrap64 ((ji106) + x21_89)) : Int).toNat), .int .i64 (wrap64 ((ji106) + x21_89))] (0, 0) _ rfl (by (with_reducible repeat (first | refine blk_drewN ?_ _ | refine blk_drew ?_ | refine blk_alloc ?_ _)); refine blk_put (cs := #[.string (rdOf ByteArray.empty t178 0), .slice Ao80 x183001_4.length co80, .string (a0.extract ((ji106) : Int).toNat ((wrap64 ((ji106) + x21_89)) : Int).toNat), .int .i64 x178003_4]) ?_ 3 _ rfl; (with_reducible repeat (first | refine blk_drewN ?_ _ | refine blk_drew ?_ | refine blk_alloc ?_ _)); refine blk_put (cs := #[.string (rdOf ByteArray.empty t178 0), .slice Ao80 x183001_4.length co80, .string x178002_4, .int .i64 x178003_4]) ?_ 2 _ rfl; (with_reducible repeat (first | refine blk_drewN ?_ _ | refine blk_drew ?_ | refine blk_alloc ?_ _)); refine blk_put (cs := #[.string (rdOf ByteArray.empty t178 0), .slice none 0 0, .string x178002_4, .int .i64 x178003_4]) ?_ 1 _ rfl; (with_reducible repeat (first | refine blk_drewN ?_ _ | refine blk_drew ?_ | refine blk_alloc ?_ _)); refine blk_put (cs := #[.string x178000_4, .slice none 0 0, .string x178002_4, .int .i64 x178003_4]) ?_ 0 _ rfl; (with_reducible repeat (first | refine blk_drewN ?_ _ | refine blk_drew ?_ | refine blk_alloc ?_ _)); refine blk_far ?_ NB177_182.out _; (with_reducible repeat (first | refine blk_drewN ?_ _ | refine blk_drew ?_ | refine blk_alloc ?_ _)); refine blk_far ?_ NB177_182.out _; (with_reducible repeat (first | refine blk_drewN ?_ _ | refine blk_drew ?_ | refine blk_alloc ?_ _)); exact BK177.out) Tryz.underlying65 rfl (by kernel_rfl)) rfl ?_); exact ⟨_, by first | rfl | (simp [errW_none, errW_some] <;> rfl) | (simp only [← hji106]; first | rfl | (simp [errW_none, errW_some] <;> rfl)) | (simp [*, errW_none, errW_some] <;> rfl), by (with_reducible repeat (first | apply Kd.R_alloc | apply Kd.R_drewN | apply Kd.R_drew)); exact Kd.R_mono (Kd.R_far (p := ⟨gb177, 3, none⟩) (Kd.R_far (p := ⟨gb177, 2, none⟩) (Kd.R_far (p := ⟨gb177, 1, none⟩) (Kd.R_far (p := ⟨gb177, 0, none⟩) (Kd.R_far (p := ⟨gb182, 3, none⟩) (Kd.R_far (p := ⟨gb182, 2, none⟩) (Kd.R_types (Kd.R_types HO_183001.out BK182.out (by decide)) BK177.out (by decide)) (fun _ hk => hk.1.2) (.string (a0.extract ((ji106) : Int).toNat ((wrap64 ((ji106) + x21_89)) : Int).toNat))) (fun _ hk => hk.1.2) (.int .i64 (wrap64 ((ji106) + x21_89)))) (fun _ hk => hk.2) (.string (rdOf ByteArray.empty t178 0))) (fun _ hk => hk.2) (.slice Ao80 x183001_4.length co80)) (fun _ hk => hk.2) (.string (a0.extract ((ji106) : Int).toNat ((wrap64 ((ji106) + x21_89)) : Int).toNat))) (fun _ hk => hk.2) (.int .i64 (wrap64 ((ji106) + x21_89)))) (fun _ hk => trivial), by repeat (first | (with_reducible first | exact HB.out | apply below_alloc | apply pw_below_drewN | apply below_drew1 | refine below_set ?_ GE177.out | refine below_set ?_ GE182.out) | exact HB.out)⟩
                                 ·
                                  rw [if_neg c109] at H; exact absurd H (by simp)
                                ·
                                 rw [if_neg c108] at H; exact absurd H (by simp)
                               ·
                                rw [if_neg c107] at H; exact absurd H (by simp)
           ·
            rw [if_neg c22] at H; exact absurd H (by simp)
          ·
           rw [if_neg c20] at H; exact absurd H (by simp)
         ·
          rw [if_neg c19] at H; exact absurd H (by simp)

end Go.Proofs.YtpikebpjlhccbaaGreatDoor.PAll
