/- The reference's blankless is the trim. -/
import Derived.Test.YtpikebpjlhccbaaGreatDoorHRef2
namespace Go.Proofs.YtpikebpjlhccbaaGreatDoor.PAll
set_option linter.unusedVariables false
set_option linter.unusedSimpArgs false
open Go.RowKit Go.Proofs.YtpikebpjlhccbaaGreatDoorW.PrintWords Base Go.Lib

def ofB (l : List UInt8) : ByteArray := ⟨l.toArray⟩
def blk (c : UInt8) : Bool := ([32, 9] : List UInt8).contains c
theorem blk_iff (c : UInt8) : blk c = true ↔ (c.toNat : Int) = 32 ∨ (c.toNat : Int) = 9 := by
  unfold blk
  simp only [List.contains_iff_mem, List.mem_cons, List.not_mem_nil, or_false]
  constructor
  · rintro (rfl | rfl)
    · left; rfl
    · right; rfl
  · rintro (h | h)
    · left; exact UInt8.toNat_inj.1 (by rw [show (32 : UInt8).toNat = 32 from rfl]; omega)
    · right; exact UInt8.toNat_inj.1 (by rw [show (9 : UInt8).toNat = 9 from rfl]; omega)
def TR (l : List UInt8) : List UInt8 := (l.reverse.dropWhile blk).reverse
def TL (l : List UInt8) : List UInt8 := l.dropWhile blk
theorem trim_eq (l : List UInt8) : trimS l [32, 9] = TL (TR l) := rfl
theorem TR_cons (x : UInt8) (l : List UInt8) : TR (x :: l) = if TR l = [] then (if blk x = true then [] else [x]) else x :: TR l := by
  unfold TR
  rw [List.reverse_cons, List.dropWhile_append]
  by_cases h : l.reverse.dropWhile blk = []
  · rw [if_pos (by simp [h]), if_pos (by simp [h]), List.dropWhile_cons]
    by_cases hx : blk x = true
    · rw [if_pos hx, if_pos hx]; rfl
    · rw [if_neg hx, if_neg hx]; rfl
  · rw [if_neg (by simpa using h), if_neg (by simpa using h), List.reverse_append]
    rfl
theorem TL_TR : ∀ l : List UInt8, TR (TL l) = TL (TR l)
  | [] => rfl
  | x :: l => by
    have ih := TL_TR l
    by_cases hx : blk x = true
    · rw [show TL (x :: l) = TL l from by unfold TL; rw [List.dropWhile_cons, if_pos hx], ih, TR_cons]
      by_cases h : TR l = []
      · rw [if_pos h, if_pos hx, h]
      · rw [if_neg h]
        unfold TL
        rw [List.dropWhile_cons, if_pos hx]
    · rw [show TL (x :: l) = x :: l from by unfold TL; rw [List.dropWhile_cons, if_neg hx], TR_cons]
      by_cases h : TR l = []
      · rw [if_pos h, if_neg hx]
        unfold TL
        rw [List.dropWhile_cons, if_neg hx]
      · rw [if_neg h]
        unfold TL
        rw [List.dropWhile_cons, if_neg hx]
theorem TR_snoc (l : List UInt8) (c : UInt8) : TR (l ++ [c]) = if blk c = true then TR l else l ++ [c] := by
  unfold TR
  rw [List.reverse_append, List.reverse_singleton, List.singleton_append, List.dropWhile_cons]
  by_cases h : blk c = true
  · rw [if_pos h, if_pos h]
  · rw [if_neg h, if_neg h]
    simp
theorem blank_l1 : ∀ (n : Nat) (s : ByteArray) (k : Nat), s.size = n → n ≤ 1000000000 → n < k → pennantref22_blankless.l1 k s = some (ofB (TR s.data.toList))
  | 0, s, k, hs, hn, hk => by
    obtain ⟨k, rfl⟩ : ∃ m, k = m + 1 := ⟨k - 1, by omega⟩
    have h0 : ¬ (s.size : Int) > 0 := by omega
    have e : s.data.toList = [] := List.length_eq_zero_iff.1 (by rw [← Base.size_eq]; exact hs)
    rw [pennantref22_blankless.l1]
    simp only [if_neg h0]
    congr 1
    exact ba_ext (by rw [e]; rfl)
  | n + 1, s, k, hs, hn, hk => by
    obtain ⟨k, rfl⟩ : ∃ m, k = m + 1 := ⟨k - 1, by omega⟩
    have hsz := Base.size_eq s
    have h0 : (s.size : Int) > 0 := by omega
    have hw : wrap64 ((s.size : Int) - 1) = ((n : Nat) : Int) := by unfold wrap64; omega
    have a1 : (0 : Int) ≤ (n : Int) := by omega
    have a2 : (n : Int) < (s.size : Int) := by omega
    have a3 : (n : Int) ≤ (s.size : Int) := by omega
    have hlt : n < s.data.toList.length := by rw [← hsz]; omega
    have hb := bt_nat s n hlt
    obtain ⟨l, c, hl⟩ : ∃ l c, s.data.toList = l ++ [c] := by
      rcases List.eq_nil_or_concat s.data.toList with h | ⟨l, c, h⟩
      · rw [h] at hlt; exact absurd hlt (Nat.not_lt_zero _)
      · exact ⟨l, c, by rw [h]; simp⟩
    have hln : l.length = n := by have q := hsz; rw [hs, hl, List.length_append, List.length_singleton] at q; omega
    have hc : s.data.toList[n]'hlt = c := by
      simp only [hl]
      rw [List.getElem_append_right (by omega)]
      simp [hln]
    rw [hc] at hb
    have hx : (s.extract 0 n).data.toList = l := by rw [data_extract, List.drop_zero, Nat.sub_zero, hl, List.take_left' hln]
    have ih := blank_l1 n (s.extract 0 n) k (by rw [Base.size_eq, hx]; exact hln) (by omega) (by omega)
    rw [hx] at ih
    rw [pennantref22_blankless.l1]
    simp only [hw, if_pos h0, if_pos a1, if_pos a2, if_pos a3, hb, Int.toNat_natCast, ih]
    rw [hl, TR_snoc]
    have hbl := blk_iff c
    by_cases h1 : (c.toNat : Int) = 32
    · rw [if_pos h1, if_pos (hbl.2 (.inl h1))]
    · rw [if_neg h1]
      by_cases h2 : (c.toNat : Int) = 9
      · rw [if_pos h2, if_pos (hbl.2 (.inr h2))]
      · rw [if_neg h2, if_neg (fun h => (hbl.1 h).elim h1 h2)]
        congr 1
        exact ba_ext (by rw [hl]; rfl)
theorem blank_l0 : ∀ (n : Nat) (s : ByteArray) (k : Nat), s.size = n → n ≤ 1000000000 → 2 * n + 2 < k → pennantref22_blankless.l0 k s = some (ofB (TR (TL s.data.toList)))
  | 0, s, k, hs, hn, hk => by
    obtain ⟨k, rfl⟩ : ∃ m, k = m + 1 + 1 := ⟨k - 2, by omega⟩
    have h0 : ¬ (s.size : Int) > 0 := by omega
    have e : s.data.toList = [] := List.length_eq_zero_iff.1 (by rw [← Base.size_eq]; exact hs)
    rw [pennantref22_blankless.l0]
    simp only [if_neg h0]
    rw [pennantref22_blankless.j1, blank_l1 0 s k hs (by omega) (by omega), e]
    rfl
  | n + 1, s, k, hs, hn, hk => by
    obtain ⟨k, rfl⟩ : ∃ m, k = m + 1 + 1 := ⟨k - 2, by omega⟩
    have hsz := Base.size_eq s
    have h0 : (s.size : Int) > 0 := by omega
    have h0' : (0 : Int) < (s.size : Int) := by omega
    have a1 : (1 : Int) ≤ (s.size : Int) := by omega
    have hlt : 0 < s.data.toList.length := by rw [← hsz]; omega
    have hb := bt_nat s 0 hlt
    rw [show ((0 : Nat) : Int) = 0 from rfl] at hb
    obtain ⟨c, l, hl⟩ : ∃ c l, s.data.toList = c :: l := by
      cases h : s.data.toList with
      | nil => rw [h] at hlt; exact absurd hlt (Nat.not_lt_zero _)
      | cons c l => exact ⟨c, l, rfl⟩
    have hln : l.length = n := by have q := hsz; rw [hs, hl, List.length_cons] at q; omega
    have hc : s.data.toList[0]'hlt = c := by simp only [hl]; rfl
    rw [hc] at hb
    have hx : (s.extract 1 s.size).data.toList = l := by
      rw [data_extract, hl]
      show l.take (s.size - 1) = l
      exact List.take_of_length_le (by omega)
    have ih := blank_l0 n (s.extract 1 s.size) (k + 1) (by rw [Base.size_eq, hx]; exact hln) (by omega) (by omega)
    rw [hx] at ih
    have hj : pennantref22_blankless.j1 (k + 1) s = some (ofB (TR s.data.toList)) := by
      rw [pennantref22_blankless.j1]
      exact blank_l1 (n + 1) s k hs hn (by omega)
    rw [pennantref22_blankless.l0]
    simp only [if_pos h0, if_pos h0', if_pos a1, hb, ih, hj]
    have hbl := blk_iff c
    rw [hl]
    unfold TL
    rw [List.dropWhile_cons]
    by_cases h1 : (c.toNat : Int) = 32
    · rw [if_pos h1, if_pos (hbl.2 (.inl h1))]
    · rw [if_neg h1]
      by_cases h2 : (c.toNat : Int) = 9
      · rw [if_pos h2, if_pos (hbl.2 (.inr h2))]
      · rw [if_neg h2, if_neg (fun h => (hbl.1 h).elim h1 h2)]
theorem ref_blankless_f (k : Nat) (s : ByteArray) (hz : s.size ≤ 1000000000) (hk : 2 * s.size + 2 < k) : pennantref22_blankless.f k s = some (ofB (trimS s.data.toList [32, 9])) := by
  unfold pennantref22_blankless.f
  rw [blank_l0 s.size s k rfl hz hk, TL_TR, trim_eq]
end Go.Proofs.YtpikebpjlhccbaaGreatDoor.PAll
