/- Plain facts on bytes, lists and scans: no program in sight. -/
import Derived.Test.YtpikebpjlhccbaaGreatDoorWWords
import Derived.Lib.Bytealg
import Derived.Lib.IndexMore
namespace Go.Proofs.YtpikebpjlhccbaaGreatDoor.Base
set_option linter.unusedVariables false
set_option linter.unusedSimpArgs false
open Go.RowKit Go.Proofs.YtpikebpjlhccbaaGreatDoorW.PrintWords

theorem wrap_succ {i n : Nat} (h : i < n) (hn : n ≤ 9223372036854775807) : wrap64 ((i : Int) + 1) = ((i + 1 : Nat) : Int) := by
  unfold wrap64; omega

theorem size_eq (s : ByteArray) : s.size = s.data.toList.length := by
  cases s; rfl

theorem bt_nat (s : ByteArray) (i : Nat) (h : i < s.data.toList.length) : bt s (i : Int) = ((s.data.toList[i]'h).toNat : Int) := by
  have hs : i < s.size := by rw [size_eq]; exact h
  have e := bt_at s (i : Int) (by simpa using hs)
  rw [← e]
  simp only [Int.toNat_natCast]
  cases s with
  | mk d => simp [ByteArray.getElem_eq_getElem_data]

/-- A scan over a string's bytes, byte by byte: all are right, or the first wrong one ends it. -/
theorem scan {β : Type} (s : ByteArray) (ok : UInt8 → Bool) (L : Nat → Int → Option β) (bad good : β) (K : Nat)
    (step : ∀ (k i : Nat) (h : i < s.data.toList.length), L (k + 1) (i : Int) = if ok (s.data.toList[i]'h) = true then L k ((i + 1 : Nat) : Int) else some bad)
    (stop : ∀ k, K ≤ k → L (k + 1) (s.data.toList.length : Int) = some good) :
    ∀ (d k i : Nat), s.data.toList.length - i = d → i ≤ s.data.toList.length → d + K < k → L k (i : Int) = some (if (s.data.toList.drop i).all ok = true then good else bad) := by
  intro d
  induction d with
  | zero =>
    intro k i hd hi hk
    obtain ⟨k, rfl⟩ : ∃ m, k = m + 1 := ⟨k - 1, by omega⟩
    obtain rfl : i = s.data.toList.length := by omega
    rw [stop k (by omega), List.drop_length]
    rfl
  | succ d ih =>
    intro k i hd hi hk
    obtain ⟨k, rfl⟩ : ∃ m, k = m + 1 := ⟨k - 1, by omega⟩
    have hlt : i < s.data.toList.length := by omega
    rw [step k i hlt, List.drop_eq_getElem_cons hlt, List.all_cons]
    by_cases ho : ok (s.data.toList[i]'hlt) = true
    · rw [if_pos ho, ih k (i + 1) (by omega) (by omega) (by omega), ho, Bool.true_and]
    · rw [if_neg ho, Bool.eq_false_iff.mpr ho, Bool.false_and, if_neg (by decide)]

/-- From the begin. -/
theorem scan0 {β : Type} (s : ByteArray) (ok : UInt8 → Bool) (L : Nat → Int → Option β) (bad good : β) (K : Nat)
    (step : ∀ (k i : Nat) (h : i < s.data.toList.length), L (k + 1) (i : Int) = if ok (s.data.toList[i]'h) = true then L k ((i + 1 : Nat) : Int) else some bad)
    (stop : ∀ k, K ≤ k → L (k + 1) (s.data.toList.length : Int) = some good) (k : Nat) (hk : s.data.toList.length + K < k) :
    L k 0 = some (if s.data.toList.all ok = true then good else bad) := by
  have h := scan s ok L bad good K step stop s.data.toList.length k 0 (by omega) (by omega) hk
  simpa using h

theorem toList_data (s : ByteArray) : s.toList = s.data.toList := Lib.toList_data s

theorem isEmpty_size (s : ByteArray) : (s.toList = ([] : List UInt8)) ↔ s.data.toList.length = 0 := by
  rw [toList_data]; exact List.length_eq_zero_iff.symm

/-- strings.IndexByte finds just what is there. -/
theorem indexByte_ge_zero (l : List UInt8) (c : UInt8) : (0 ≤ Lib.indexByte l c) ↔ c ∈ l := by
  induction l with
  | nil => simp [Lib.indexByte]
  | cons b l ih =>
    unfold Lib.indexByte
    by_cases hb : b = c
    · subst hb; simp
    · have hb' : (b == c) = false := by simpa using hb
      rw [hb']
      have hge := Lib.indexByte_ge l c
      by_cases h1 : Lib.indexByte l c = -1
      · have hn : c ∉ l := fun hc => by have := ih.2 hc; omega
        simp [h1, hn, Ne.symm hb]
      · have h1' : (Lib.indexByte l c == -1) = false := by simpa using h1
        have hc : c ∈ l := ih.1 (by omega)
        simp only [h1', Bool.false_eq_true, if_false, List.mem_cons]
        constructor
        · intro _; exact .inr hc
        · intro _; omega
end Go.Proofs.YtpikebpjlhccbaaGreatDoor.Base
