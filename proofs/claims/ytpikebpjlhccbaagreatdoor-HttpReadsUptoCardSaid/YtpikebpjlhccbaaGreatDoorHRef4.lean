/- The reference's Digits. -/
import Derived.Test.YtpikebpjlhccbaaGreatDoorHRef3
namespace Go.Proofs.YtpikebpjlhccbaaGreatDoor.PAll
set_option linter.unusedVariables false
set_option linter.unusedSimpArgs false
open Go.RowKit Go.Proofs.YtpikebpjlhccbaaGreatDoorW.PrintWords Base Go.Lib

theorem digits_step (s : ByteArray) (n : Int) (i k : Nat) (hi : i < s.data.toList.length) (hz : s.size ≤ 1000000000) :
    pennantref22_Digits.l0 (k + 1 + 1) s n (i : Int) = if digitB (s.data.toList[i]) = true then (if i < 10 then pennantref22_Digits.l0 k s (wrap64 (wrap64 (n * 10) + (((s.data.toList[i]).toNat : Int) - 48) % 256)) ((i + 1 : Nat) : Int) else pennantref22_Digits.l0 k s n ((i + 1 : Nat) : Int)) else some (-1) := by
  have hsz := Base.size_eq s
  have hb := bt_nat s i hi
  have a1 : (i : Int) < (s.size : Int) := by omega
  have a2 : (0 : Int) ≤ (i : Int) := by omega
  have hw : wrap64 ((i : Int) + 1) = ((i + 1 : Nat) : Int) := wrap_succ hi (by omega)
  have hd := digitB_iff (s.data.toList[i])
  rw [pennantref22_Digits.l0]
  simp only [if_pos a1, if_pos a2, hb]
  have hj : ∀ fl : Bool, pennantref22_Digits.j1 (k + 1) s n (i : Int) fl = if fl = true then some (-1) else (if i < 10 then pennantref22_Digits.l0 k s (wrap64 (wrap64 (n * 10) + (((s.data.toList[i]).toNat : Int) - 48) % 256)) ((i + 1 : Nat) : Int) else pennantref22_Digits.l0 k s n ((i + 1 : Nat) : Int)) := by
    intro fl
    rw [pennantref22_Digits.j1]
    simp only [if_pos a1, if_pos a2, hb, hw]
    by_cases h10 : i < 10
    · have h10' : (i : Int) < 10 := by omega
      simp only [if_pos h10, if_pos h10']
    · have h10' : ¬ (i : Int) < 10 := by omega
      simp only [if_neg h10, if_neg h10']
  simp only [hj]
  by_cases h1 : ((s.data.toList[i]).toNat : Int) < 48
  · have hn : ¬ digitB (s.data.toList[i]) = true := fun h => by have := hd.1 h; omega
    simp only [if_pos h1, if_neg hn, if_true]
  · by_cases h2 : ((s.data.toList[i]).toNat : Int) > 57
    · have hn : ¬ digitB (s.data.toList[i]) = true := fun h => by have := hd.1 h; omega
      have hq : decide (((s.data.toList[i]).toNat : Int) > 57) = true := decide_eq_true h2
      simp only [if_neg h1, hq, if_neg hn, if_true]
    · have hp : digitB (s.data.toList[i]) = true := hd.2 (by omega)
      have hq : decide (((s.data.toList[i]).toNat : Int) > 57) = false := decide_eq_false h2
      simp only [if_neg h1, hq, if_pos hp, Bool.false_eq_true, if_false]
theorem digits_long (s : ByteArray) (h9 : 9 < s.size) (hz : s.size ≤ 1000000000) : ∀ (d i : Nat) (n : Int) (k : Nat), i + d = s.size → 2 * d + 1 < k → pennantref22_Digits.l0 k s n (i : Int) = some (-1) := by
  have hsz := Base.size_eq s
  intro d
  induction d with
  | zero =>
    intro i n k hi hk
    obtain ⟨k, rfl⟩ : ∃ m, k = m + 1 := ⟨k - 1, by omega⟩
    have a1 : ¬ (i : Int) < (s.size : Int) := by omega
    have a2 : ¬ (s.size : Int) = 0 := by omega
    have a3 : (s.size : Int) > 9 := by omega
    rw [pennantref22_Digits.l0]
    simp only [if_neg a1, if_neg a2, if_pos a3]
  | succ d ih =>
    intro i n k hi hk
    obtain ⟨k, rfl⟩ : ∃ m, k = m + 1 + 1 := ⟨k - 2, by omega⟩
    have hA := fun n' => ih (i + 1) n' k (by omega) (by omega)
    rw [digits_step s n i k (by omega) hz]
    simp only [hA, ite_self]
def pw : Nat → Nat
  | 0 => 1
  | i + 1 => 10 * pw i
theorem pw_le : ∀ i, i ≤ 9 → pw i ≤ 1000000000 := by decide
theorem pw_succ (i : Nat) : pw (i + 1) = 10 * pw i := rfl
theorem digits_acc (n i P v : Nat) (hn : n + 1 ≤ P) (hp : P ≤ 1000000000) (h1 : 48 ≤ v) (h2 : v ≤ 57) :
    wrap64 (wrap64 ((n : Int) * 10) + ((v : Int) - 48) % 256) = ((n * 10 + (v - 48) : Nat) : Int) := by unfold wrap64; omega
theorem digits_next (n i v : Nat) (hn : n + 1 ≤ pw i) (h1 : 48 ≤ v) (h2 : v ≤ 57) : n * 10 + (v - 48) + 1 ≤ pw (i + 1) := by
  rw [pw_succ]
  generalize pw i = P at hn ⊢
  omega
theorem digits_short (s : ByteArray) (h9 : s.size ≤ 9) : ∀ (d i n : Nat) (k : Nat), i + d = s.size → n + 1 ≤ pw i → 2 * d + 1 < k →
    pennantref22_Digits.l0 k s (n : Int) (i : Int) = some (if (s.data.toList.drop i).all digitB = true then (if s.size = 0 then -1 else ((foldV n (s.data.toList.drop i) : Nat) : Int)) else -1) := by
  have hsz := Base.size_eq s
  intro d
  induction d with
  | zero =>
    intro i n k hi hn hk
    obtain ⟨k, rfl⟩ : ∃ m, k = m + 1 := ⟨k - 1, by clear hn; omega⟩
    have a1 : ¬ (i : Int) < (s.size : Int) := by clear hn; omega
    have a3 : ¬ (s.size : Int) > 9 := by clear hn; omega
    rw [pennantref22_Digits.l0, List.drop_eq_nil_of_le (by clear hn; omega)]
    simp only [if_neg a1, if_neg a3]
    by_cases h0 : s.size = 0
    · have h0' : (s.size : Int) = 0 := by clear hn; omega
      simp only [if_pos h0, if_pos h0', List.all_nil, if_true]
    · have h0' : ¬ (s.size : Int) = 0 := by clear hn; omega
      simp only [if_neg h0, if_neg h0', List.all_nil, if_true]
      rfl
  | succ d ih =>
    intro i n k hi hn hk
    obtain ⟨k, rfl⟩ : ∃ m, k = m + 1 + 1 := ⟨k - 2, by clear hn; omega⟩
    have hlt : i < s.data.toList.length := by clear hn; omega
    have h10 : i < 10 := by clear hn; omega
    have hz : s.size ≤ 1000000000 := by clear hn; omega
    have hp : pw i ≤ 1000000000 := pw_le i (by clear hn; omega)
    refine Eq.trans (digits_step s (n : Int) i k hlt hz) ?_
    rw [List.drop_eq_getElem_cons hlt, List.all_cons]
    by_cases hd : digitB (s.data.toList[i]) = true
    · have hd' := (digitB_iff _).1 hd
      have hw := digits_acc n i (pw i) (s.data.toList[i]).toNat hn hp hd'.1 hd'.2
      have hq := digits_next n i (s.data.toList[i]).toNat hn hd'.1 hd'.2
      have hI := ih (i + 1) (n * 10 + ((s.data.toList[i]).toNat - 48)) k (by clear hn hq; omega) hq (by clear hn hq; omega)
      have hf : foldV n (s.data.toList[i] :: s.data.toList.drop (i + 1)) = foldV (n * 10 + ((s.data.toList[i]).toNat - 48)) (s.data.toList.drop (i + 1)) := rfl
      rw [hf, if_pos hd, if_pos h10, hw, hd, Bool.true_and]
      exact hI
    · rw [if_neg hd, Bool.eq_false_iff.mpr hd, Bool.false_and, if_neg Bool.false_ne_true]
theorem ref_digits_f (k : Nat) (s : ByteArray) (hz : s.size ≤ 1000000000) (hk : 2 * s.size + 1 < k) : pennantref22_Digits.f k s = some (if s.data.toList.all digitB = true ∧ 1 ≤ s.size ∧ s.size ≤ 9 then (valN s.data.toList : Int) else -1) := by
  unfold pennantref22_Digits.f
  by_cases h9 : 9 < s.size
  · rw [if_neg (by omega)]
    exact digits_long s h9 hz s.size 0 0 k (by omega) hk
  · have := digits_short s (by omega) s.size 0 0 k (by omega) (by decide) hk
    rw [show ((0 : Nat) : Int) = 0 from rfl, List.drop_zero] at this
    rw [this]
    congr 1
    by_cases h1 : s.data.toList.all digitB = true
    · rw [if_pos h1]
      by_cases h0 : s.size = 0
      · rw [if_pos h0, if_neg (by omega)]
      · rw [if_neg h0, if_pos ⟨h1, by omega, by omega⟩]
        rfl
    · rw [if_neg h1, if_neg (fun h => h1 h.1)]
end Go.Proofs.YtpikebpjlhccbaaGreatDoor.PAll
