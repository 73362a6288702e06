/- What WriteResponse answers: the response's text, or a refusal. -/
import Derived.Test.YtpikebpjlhccbaaGreatDoorHWrite
import Derived.Test.YtpikebpjlhccbaaGreatDoorPAllx8
namespace Go.Proofs.YtpikebpjlhccbaaGreatDoor.PAll
set_option linter.unusedVariables false
set_option linter.unusedSimpArgs false
open Go.RowKit Go.Proofs.YtpikebpjlhccbaaGreatDoorW.PrintWords Base Go.Lib

def spB : ByteArray := ⟨#[32]⟩
def respB : ByteArray := ⟨#[72, 84, 84, 80, 47, 49, 46, 49, 32]⟩
def reasonB (n : Nat) : ByteArray := (http_reason.f (n : Int)).getD ⟨#[]⟩
def lineS (n : Nat) : ByteArray := ((respB ++ itoaB n) ++ spB) ++ reasonB n
def textS (n : Nat) (b : ByteArray) : ByteArray := (((((lineS n ++ c2) ++ clB) ++ itoaB b.size) ++ c2) ++ c2) ++ b
theorem reason_f (n : Nat) : http_reason.f (n : Int) = some (reasonB n) := by
  unfold reasonB http_reason.f
  repeat' split
  all_goals rfl
theorem reason_size (n : Nat) : (reasonB n).size ≤ 18 := by
  unfold reasonB http_reason.f
  repeat' split
  all_goals decide
theorem resp_f (k : Nat) (n : Nat) (h1 : 100 ≤ n) (h2 : n ≤ 599) (b : ByteArray) (hb : b.size ≤ 4096) : http_WriteResponse.f (k + 1) (n : Int) b = some (textS n b, 0) := by
  have i1 := itoa_size n (by omega)
  have i2 := itoa_size b.size (by omega)
  have i3 := reason_size n
  unfold http_WriteResponse.f
  rw [if_neg (by omega), if_neg (by omega), show decide ((b.size : Int) > 4096) = false from decide_eq_false (by omega)]
  unfold http_WriteResponse.j0
  dsimp only
  have e1 : (⟨#[72, 84, 84, 80, 47, 49, 46, 49, 32]⟩ : ByteArray).size = 9 := rfl
  have e2 : (⟨#[32]⟩ : ByteArray).size = 1 := rfl
  have e3 : (⟨#[13, 10]⟩ : ByteArray).size = 2 := rfl
  have e4 : (⟨#[67, 111, 110, 116, 101, 110, 116, 45, 76, 101, 110, 103, 116, 104, 58, 32]⟩ : ByteArray).size = 16 := rfl
  rw [if_neg (by simp), itoa_f n (by omega), Option.bind_some, if_pos (by omega), if_pos (by simp only [ByteArray.size_append]; omega), reason_f, Option.bind_some, if_pos (by simp only [ByteArray.size_append]; omega), if_pos (by simp only [ByteArray.size_append]; omega), if_pos (by simp only [ByteArray.size_append]; omega),
    itoa_f b.size (by omega), Option.bind_some, if_pos (by simp only [ByteArray.size_append]; omega), if_pos (by simp only [ByteArray.size_append]; omega), if_pos (by simp only [ByteArray.size_append]; omega), if_pos (by simp only [ByteArray.size_append]; omega)]
  rfl
theorem resp_bad (k : Nat) (s : Int) (b : ByteArray) (h : s < 100 ∨ 599 < s ∨ 4096 < b.size) : http_WriteResponse.f (k + 1) s b = some ((⟨#[]⟩ : ByteArray), 1) := by
  unfold http_WriteResponse.f
  by_cases h1 : s < 100
  · rw [if_pos h1]; rfl
  · rw [if_neg h1]
    by_cases h2 : s > 599
    · rw [if_pos h2]; rfl
    · rw [if_neg h2, show decide ((b.size : Int) > 4096) = true from decide_eq_true (by omega)]
      rfl
end Go.Proofs.YtpikebpjlhccbaaGreatDoor.PAll
