/- Plain facts on bytes, lists and scans: no program in sight. -/
import Derived.Test.YtpikebpjlhccbaaGreatDoorWWords
import Derived.Lib.Bytealg
import Derived.Lib.IndexMore
import Derived.Lib.MapLaws
import Derived.Lib.AtoiAll
import Derived.Lib.ItoaMem
namespace Go.Proofs.YtpikebpjlhccbaaGreatDoor.Base
set_option linter.unusedVariables false
set_option linter.unusedSimpArgs false
open Go.RowKit Go.Proofs.YtpikebpjlhccbaaGreatDoorW.PrintWords

theorem wrap_succ {i n : Nat} (h : i < n) (hn : n ≤ 9223372036854775807) : wrap64 ((i : Int) + 1) = ((i + 1 : Nat) : Int) := by
  unfold wrap64; omega

theorem size_eq (s : ByteArray) : s.size = s.data.toList.length := by
  cases s; rfl

theorem bt_nat (s : ByteArray) (i : Nat) (h : i < s.data.toList.length) : bt s (i : Int) = ((s.data.toList[i]'h).toNat : Int) := by
  have hs : i < s.size := by rw [size_eq]; exact h
  have e := bt_at s (i : Int) (by simpa using hs)
  rw [← e]
  simp only [Int.toNat_natCast]
  cases s with
  | mk d => simp [ByteArray.getElem_eq_getElem_data]

/-- A scan over a string's bytes, byte by byte: all are right, or the first wrong one ends it. -/
theorem scan {β : Type} (s : ByteArray) (ok : UInt8 → Bool) (L : Nat → Int → Option β) (bad good : β) (K : Nat)
    (step : ∀ (k i : Nat) (h : i < s.data.toList.length), L (k + 1) (i : Int) = if ok (s.data.toList[i]'h) = true then L k ((i + 1 : Nat) : Int) else some bad)
    (stop : ∀ k, K ≤ k → L (k + 1) (s.data.toList.length : Int) = some good) :
    ∀ (d k i : Nat), s.data.toList.length - i = d → i ≤ s.data.toList.length → d + K < k → L k (i : Int) = some (if (s.data.toList.drop i).all ok = true then good else bad) := by
  intro d
  induction d with
  | zero =>
    intro k i hd hi hk
    obtain ⟨k, rfl⟩ : ∃ m, k = m + 1 := ⟨k - 1, by omega⟩
    obtain rfl : i = s.data.toList.length := by omega
    rw [stop k (by omega), List.drop_length]
    rfl
  | succ d ih =>
    intro k i hd hi hk
    obtain ⟨k, rfl⟩ : ∃ m, k = m + 1 := ⟨k - 1, by omega⟩
    have hlt : i < s.data.toList.length := by omega
    rw [step k i hlt, List.drop_eq_getElem_cons hlt, List.all_cons]
    by_cases ho : ok (s.data.toList[i]'hlt) = true
    · rw [if_pos ho, ih k (i + 1) (by omega) (by omega) (by omega), ho, Bool.true_and]
    · rw [if_neg ho, Bool.eq_false_iff.mpr ho, Bool.false_and, if_neg (by decide)]

/-- From the begin. -/
theorem scan0 {β : Type} (s : ByteArray) (ok : UInt8 → Bool) (L : Nat → Int → Option β) (bad good : β) (K : Nat)
    (step : ∀ (k i : Nat) (h : i < s.data.toList.length), L (k + 1) (i : Int) = if ok (s.data.toList[i]'h) = true then L k ((i + 1 : Nat) : Int) else some bad)
    (stop : ∀ k, K ≤ k → L (k + 1) (s.data.toList.length : Int) = some good) (k : Nat) (hk : s.data.toList.length + K < k) :
    L k 0 = some (if s.data.toList.all ok = true then good else bad) := by
  have h := scan s ok L bad good K step stop s.data.toList.length k 0 (by omega) (by omega) hk
  simpa using h

theorem toList_data (s : ByteArray) : s.toList = s.data.toList := Lib.toList_data s

theorem isEmpty_size (s : ByteArray) : (s.toList = ([] : List UInt8)) ↔ s.data.toList.length = 0 := by
  rw [toList_data]; exact List.length_eq_zero_iff.symm

/-- strings.IndexByte finds just what is there. -/
theorem indexByte_ge_zero (l : List UInt8) (c : UInt8) : (0 ≤ Lib.indexByte l c) ↔ c ∈ l := by
  induction l with
  | nil => simp [Lib.indexByte]
  | cons b l ih =>
    unfold Lib.indexByte
    by_cases hb : b = c
    · subst hb; simp
    · have hb' : (b == c) = false := by simpa using hb
      rw [hb']
      have hge := Lib.indexByte_ge l c
      by_cases h1 : Lib.indexByte l c = -1
      · have hn : c ∉ l := fun hc => by have := ih.2 hc; omega
        simp [h1, hn, Ne.symm hb]
      · have h1' : (Lib.indexByte l c == -1) = false := by simpa using h1
        have hc : c ∈ l := ih.1 (by omega)
        simp only [h1', Bool.false_eq_true, if_false, List.mem_cons]
        constructor
        · intro _; exact .inr hc
        · intro _; omega
end Go.Proofs.YtpikebpjlhccbaaGreatDoor.Base
/- What http's small readers say, over lists of bytes: no program in sight. -/
namespace Go.Proofs.YtpikebpjlhccbaaGreatDoor.Base
set_option linter.unusedVariables false
set_option linter.unusedSimpArgs false
open Go.RowKit Go.Proofs.YtpikebpjlhccbaaGreatDoorW.PrintWords

/-- a letter or a digit -/
def plainB (b : UInt8) : Bool := (decide (97 ≤ b.toNat) && decide (b.toNat ≤ 122)) || (decide (65 ≤ b.toNat) && decide (b.toNat ≤ 90)) || (decide (48 ≤ b.toNat) && decide (b.toNat ≤ 57))
def okL (more : List UInt8) (b : UInt8) : Bool := plainB b || more.contains b
def tokSet : List UInt8 := [33, 35, 36, 37, 38, 39, 42, 43, 45, 46, 94, 95, 96, 124, 126]
def tokOk (b : UInt8) : Bool := okL tokSet b
/-- between 1 and 64 bytes, all of them right -/
def tokenB (l : List UInt8) : Bool := l.all tokOk && (decide (0 < l.length) && decide (l.length ≤ 64))
def textOk (b : UInt8) : Bool := (decide (32 ≤ b.toNat) || b.toNat == 9) && !(b.toNat == 127)
def textB (l : List UInt8) : Bool := l.all textOk
def targOk (b : UInt8) : Bool := decide (33 ≤ b.toNat) && decide (b.toNat ≤ 126)
def targetB (l : List UInt8) : Bool := l.all targOk && (l.head? == some 47 && decide (l.length ≤ 256))
end Go.Proofs.YtpikebpjlhccbaaGreatDoor.Base
/- Decimal numerals, plain: digits and their value, strconv.Atoi and Itoa where a port is asked. -/
namespace Go.Proofs.YtpikebpjlhccbaaGreatDoor.Base
set_option linter.unusedVariables false
set_option linter.unusedSimpArgs false
open Go.Lib

def digitB (c : UInt8) : Bool := decide (48 ≤ c.toNat) && decide (c.toNat ≤ 57)
theorem digitB_iff (c : UInt8) : digitB c = true ↔ 48 ≤ c.toNat ∧ c.toNat ≤ 57 := by simp [digitB]
def foldV (acc : Nat) (l : List UInt8) : Nat := l.foldl (fun a c => a * 10 + (c.toNat - 48)) acc
def valN (l : List UInt8) : Nat := foldV 0 l

theorem foldV_snoc (acc : Nat) (l : List UInt8) (c : UInt8) : foldV acc (l ++ [c]) = foldV acc l * 10 + (c.toNat - 48) := by simp [foldV]
theorem foldV_ge : ∀ (l : List UInt8) (acc : Nat), acc ≤ foldV acc l
  | [], acc => by simp [foldV]
  | c :: l, acc => by
    have := foldV_ge l (acc * 10 + (c.toNat - 48))
    have e : foldV acc (c :: l) = foldV (acc * 10 + (c.toNat - 48)) l := rfl
    omega

theorem ofNat_toNat (d : Nat) (h : d < 10) : (UInt8.ofNat (48 + d)).toNat = 48 + d := by
  simp; omega
theorem ofNat_digit (c : UInt8) (h : digitB c = true) : UInt8.ofNat (48 + (c.toNat - 48)) = c := by
  rw [digitB_iff] at h
  rw [show 48 + (c.toNat - 48) = c.toNat from by omega]
  simp

theorem head_app {l r : List UInt8} (h : l ≠ []) : (l ++ r).head? = l.head? := by cases l with | nil => exact absurd rfl h | cons a l => rfl

theorem dec_facts : ∀ (n u : Nat), u ≤ n → (decDigits u).all digitB = true ∧ decDigits u ≠ [] ∧ valN (decDigits u) = u ∧ (1 ≤ u → (decDigits u).head? ≠ some 48)
  | n, u, hn => by
    by_cases h : u < 10
    · rw [decDigits, dif_pos h]
      refine ⟨?_, by simp, ?_, ?_⟩
      · simp only [List.all_cons, List.all_nil, Bool.and_true, digitB_iff, ofNat_toNat u h]; omega
      · simp only [valN, foldV, List.foldl_cons, List.foldl_nil, ofNat_toNat u h]; omega
      · intro h1 h2
        simp only [List.head?_cons, Option.some.injEq] at h2
        have := congrArg UInt8.toNat h2
        rw [ofNat_toNat u h] at this
        simp at this
        omega
    · obtain ⟨n, rfl⟩ : ∃ m, n = m + 1 := ⟨n - 1, by omega⟩
      obtain ⟨i1, i2, i3, i4⟩ := dec_facts n (u / 10) (by omega)
      rw [decDigits, dif_neg h]
      refine ⟨?_, by simp, ?_, ?_⟩
      · rw [List.all_append, i1]
        simp only [List.all_cons, List.all_nil, Bool.and_true, Bool.true_and, digitB_iff, ofNat_toNat (u % 10) (by omega)]; omega
      · unfold valN at i3 ⊢
        rw [foldV_snoc, i3, ofNat_toNat (u % 10) (by omega)]; omega
      · intro _
        rw [head_app i2]
        exact i4 (by omega)

theorem val_pos : ∀ (n : Nat) (l : List UInt8), l.length ≤ n → l ≠ [] → l.all digitB = true → l.head? ≠ some 48 → 1 ≤ valN l ∧ decDigits (valN l) = l
  | n, l, hn, hne, hd, hh => by
    obtain ⟨l', c, rfl⟩ : ∃ l' c, l = l' ++ [c] := ⟨l.dropLast, l.getLast hne, (List.dropLast_concat_getLast hne).symm⟩
    rw [List.all_append] at hd
    simp only [List.all_cons, List.all_nil, Bool.and_true, Bool.and_eq_true] at hd
    obtain ⟨hd1, hd2⟩ := hd
    have hc := (digitB_iff c).1 hd2
    by_cases h0 : l' = []
    · subst h0
      simp only [List.nil_append, List.head?_cons, ne_eq, Option.some.injEq] at hh
      have hne48 : c.toNat ≠ 48 := fun h => hh (UInt8.toNat_inj.1 (by rw [h]; rfl))
      have e : valN ([] ++ [c]) = c.toNat - 48 := by simp [valN, foldV]
      rw [e]
      refine ⟨by omega, ?_⟩
      rw [decDigits, dif_pos (by omega), ofNat_digit c hd2]; rfl
    · rw [head_app h0] at hh
      obtain ⟨n, rfl⟩ : ∃ m, n = m + 1 := ⟨n - 1, by rw [List.length_append] at hn; simp at hn; have := List.length_pos_iff.2 h0; omega⟩
      obtain ⟨i1, i2⟩ := val_pos n l' (by rw [List.length_append] at hn; simp at hn; omega) h0 hd1 hh
      have e : valN (l' ++ [c]) = valN l' * 10 + (c.toNat - 48) := foldV_snoc 0 l' c
      rw [e]
      refine ⟨by omega, ?_⟩
      rw [decDigits, dif_neg (by omega), show (valN l' * 10 + (c.toNat - 48)) / 10 = valN l' from by omega, i2,
        show (valN l' * 10 + (c.toNat - 48)) % 10 = c.toNat - 48 from by omega, ofNat_digit c hd2]

theorem parse_ok : ∀ (l : List UInt8) (acc : Nat), l.all digitB = true → foldV acc l ≤ 1000000000000 → parseUint10 acc l = .ok (foldV acc l)
  | [], acc, _, _ => rfl
  | c :: l, acc, hd, hv => by
    simp only [List.all_cons, Bool.and_eq_true] at hd
    have hc := (digitB_iff c).1 hd.1
    have e : foldV acc (c :: l) = foldV (acc * 10 + (c.toNat - 48)) l := rfl
    have hge := foldV_ge l (acc * 10 + (c.toNat - 48))
    rw [e] at hv ⊢
    rw [parseUint10, if_pos hc, if_neg (by omega), if_neg (by omega)]
    exact parse_ok l _ hd.2 hv

/-- A port's digits: no leading 0, up to 65535. -/
def portOk (p : List UInt8) : Prop := p ≠ [] ∧ p.all digitB = true ∧ p.head? ≠ some 48 ∧ valN p ≤ 65535
instance (p : List UInt8) : Decidable (portOk p) := by unfold portOk; infer_instance

theorem atoi_port (p : List UInt8) (h : portOk p) : atoiAll p = .ok (valN p : Int) ∧ itoa (valN p : Int) = p ∧ 1 ≤ valN p := by
  obtain ⟨h1, h2, h3, h4⟩ := h
  obtain ⟨v1, v2⟩ := val_pos p.length p (Nat.le_refl _) h1 h2 h3
  refine ⟨?_, by rw [itoa_nonneg, v2], v1⟩
  obtain ⟨c, r, rfl⟩ : ∃ c r, p = c :: r := by cases p with | nil => exact absurd rfl h1 | cons c r => exact ⟨c, r, rfl⟩
  have hc : 48 ≤ c.toNat ∧ c.toNat ≤ 57 := (digitB_iff c).1 (by simp only [List.all_cons, Bool.and_eq_true] at h2; exact h2.1)
  have hp : parseMag (c :: r) = .ok (valN (c :: r)) := by
    unfold parseMag
    rw [if_neg h1]
    exact parse_ok (c :: r) 0 h2 (Nat.le_trans h4 (by decide))
  unfold atoiAll
  dsimp only
  rw [if_neg (by omega), hp]
  dsimp only
  rw [if_neg (by omega), if_neg (by omega), if_neg (by omega)]

theorem atoi_range (p : List UInt8) (v : Int) (h : atoiAll p = .ok v) : -9223372036854775808 ≤ v ∧ v ≤ 9223372036854775807 := by
  unfold atoiAll at h
  cases p with
  | nil => cases h
  | cons c r =>
    dsimp only at h
    cases hm : parseMag (if c.toNat = 43 ∨ c.toNat = 45 then r else c :: r)
    · rename_i u
      rw [hm] at h
      dsimp only at h
      by_cases h1 : ¬ c.toNat = 45 ∧ 9223372036854775808 ≤ u
      · rw [if_pos h1] at h; cases h
      · rw [if_neg h1] at h
        by_cases h2 : c.toNat = 45 ∧ 9223372036854775808 < u
        · rw [if_pos h2] at h; cases h
        · rw [if_neg h2] at h
          injection h with h
          by_cases h3 : c.toNat = 45
          · rw [if_pos h3] at h; omega
          · rw [if_neg h3] at h; omega
    · rw [hm] at h; cases h
    · rw [hm] at h; cases h

theorem port_of (p : List UInt8) (v : Int) (h : itoa v = p) (h1 : 1 ≤ v) (h2 : v ≤ 65535) : portOk p ∧ v = (valN p : Int) := by
  obtain ⟨u, rfl⟩ := Int.eq_ofNat_of_zero_le (show 0 ≤ v by omega)
  have h' : decDigits u = p := by rw [← itoa_nonneg]; exact h
  subst h'
  obtain ⟨d1, d2, d3, d4⟩ := dec_facts u u (Nat.le_refl _)
  refine ⟨⟨d2, d1, d4 (by omega), by omega⟩, by rw [d3]⟩
end Go.Proofs.YtpikebpjlhccbaaGreatDoor.Base
