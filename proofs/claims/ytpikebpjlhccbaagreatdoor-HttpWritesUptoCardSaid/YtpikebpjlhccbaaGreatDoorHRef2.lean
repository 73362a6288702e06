/- The reference's Split, Count, blankless and Request: the same as the program's. -/
import Derived.Test.YtpikebpjlhccbaaGreatDoorHRef
import Derived.Lib.CountLaws
namespace Go.Proofs.YtpikebpjlhccbaaGreatDoor.PAll
set_option linter.unusedVariables false
set_option linter.unusedSimpArgs false
open Go.RowKit Go.Proofs.YtpikebpjlhccbaaGreatDoorW.PrintWords Base Go.Lib

theorem ref_count_l0 (xs : List S79) (a a2 f : ByteArray) (a3 : Int) (hl : xs.length ≤ 4294967296) : ∀ (d i : Nat) (n : Int) (v : ByteArray) (k : Nat), i + d = xs.length → 0 ≤ n → n ≤ i → d + 1 < k → pennantref22_Message_Count.l0 k a n v (i : Int) f xs a2 a3 = some (cntF (xs.drop i) a n v) := by
  intro d
  induction d with
  | zero =>
    intro i n v k hi h0 h1 hk
    obtain ⟨k, rfl⟩ : ∃ m, k = m + 1 := ⟨k - 1, by omega⟩
    unfold pennantref22_Message_Count.l0
    rw [if_neg (by omega), List.drop_eq_nil_of_le (by omega)]
    rfl
  | succ d ih =>
    intro i n v k hi h0 h1 hk
    obtain ⟨k, rfl⟩ : ∃ m, k = m + 1 := ⟨k - 1, by omega⟩
    have hlt : i < xs.length := by omega
    have wi : wrap64 ((i : Int) + 1) = ((i + 1 : Nat) : Int) := by unfold wrap64; omega
    have wn : wrap64 (n + 1) = n + 1 := by unfold wrap64; omega
    rw [List.drop_eq_getElem_cons hlt]
    unfold pennantref22_Message_Count.l0
    rw [if_pos (by omega), if_pos (by omega), rd_T79_nat xs i hlt, wi, wn]
    generalize xs[i] = x
    unfold cntF
    by_cases h2 : x.f0.toList = a.toList
    · rw [if_pos h2, if_pos h2]
      by_cases h3 : n = 0
      · rw [if_pos h3, if_pos h3]
        exact ih (i + 1) (n + 1) x.f1 k (by omega) (by omega) (by omega) (by omega)
      · rw [if_neg h3, if_neg h3]
        exact ih (i + 1) (n + 1) v k (by omega) (by omega) (by omega) (by omega)
    · rw [if_neg h2, if_neg h2]
      exact ih (i + 1) n v k (by omega) h0 (by omega) (by omega)
theorem ref_count_f (k : Nat) (f : ByteArray) (xs : List S79) (a2 : ByteArray) (a3 : Int) (a : ByteArray) (hl : xs.length ≤ 4294967296) (hk : xs.length + 1 < k) : pennantref22_Message_Count.f k f xs a2 a3 a = some (cntF xs a 0 (⟨#[]⟩ : ByteArray)) := by
  unfold pennantref22_Message_Count.f
  have := ref_count_l0 xs a a2 f a3 hl xs.length 0 0 (⟨#[]⟩ : ByteArray) k (by omega) (by omega) (by omega) hk
  exact this

theorem split_step (s sep : ByteArray) (hsep : 1 ≤ sep.size) (hz : s.size ≤ 1000000000) (hz2 : sep.size ≤ 1000) (acc : List ByteArray) (fr i k : Nat) (hf : fr ≤ i) (hi : i ≤ s.size) (ha : acc.length ≤ fr) :
    pennantref22_Split.l0 (k + 1) s sep acc (fr : Int) (i : Int) = if i + sep.size ≤ s.size then (if (s.extract i (i + sep.size)).toList = sep.toList then pennantref22_Split.l0 k s sep (acc ++ [s.extract fr i]) ((i + sep.size : Nat) : Int) ((i + sep.size : Nat) : Int) else pennantref22_Split.l0 k s sep acc (fr : Int) ((i + 1 : Nat) : Int)) else some (acc ++ [s.extract fr s.size]) := by
  have hw : wrap64 ((i : Int) + (sep.size : Int)) = ((i + sep.size : Nat) : Int) := by unfold wrap64; omega
  have hw1 : wrap64 ((i : Int) + 1) = ((i + 1 : Nat) : Int) := by unfold wrap64; omega
  have a1 : (0 : Int) ≤ (i : Int) := by omega
  have a2 : (i : Int) ≤ ((i + sep.size : Nat) : Int) := by omega
  have a3 : (0 : Int) ≤ (fr : Int) := by omega
  have a4 : (fr : Int) ≤ (i : Int) := by omega
  have a5 : (i : Int) ≤ (s.size : Int) := by omega
  have a6 : acc.length < 8796093022208 := by omega
  have a7 : (fr : Int) ≤ (s.size : Int) := by omega
  rw [pennantref22_Split.l0]
  simp only [hw, hw1, if_pos a1, if_pos a2, if_pos a3, if_pos a4, if_pos a5, if_pos a6, if_pos a7, Int.toNat_natCast, Int.ofNat_le, if_pos (Nat.le_add_right i sep.size), if_pos hf, if_pos hi, if_pos (Nat.le_trans hf hi)]
set_option maxHeartbeats 2000000 in
theorem ref_split_l0 (s sep : ByteArray) (hsep : 1 ≤ sep.size) (hz : s.size ≤ 1000000000) (hz2 : sep.size ≤ 1000) : ∀ (d i fr : Nat) (acc : List ByteArray) (k : Nat), s.size - i ≤ d → fr ≤ i → i ≤ s.size → acc.length ≤ fr → NoOcc (s.data.toList.drop fr) sep.data.toList (i - fr) → d + 1 < k →
    pennantref22_Split.l0 k s sep acc (fr : Int) (i : Int) = some (acc ++ splitB sep 0 (countB (s.extract fr s.size) sep) (s.extract fr s.size)) := by
  have hsz := Base.size_eq s
  have hpz := Base.size_eq sep
  have hne : sep.data.toList ≠ [] := by intro h; rw [h] at hpz; have : sep.size = 0 := hpz; omega
  have hX : ∀ fr, fr ≤ s.size → (s.extract fr s.size).data.toList = s.data.toList.drop fr := by
    intro fr hf
    rw [data_extract]
    refine List.take_of_length_le ?_
    rw [List.length_drop, ← hsz]
    exact Nat.le_refl _
  intro d
  induction d with
  | zero =>
    intro i fr acc k hd hf hi ha hno hk
    obtain ⟨k, rfl⟩ : ∃ m, k = m + 1 := ⟨k - 1, by omega⟩
    obtain rfl : i = s.size := by omega
    rw [split_step s sep hsep hz hz2 acc fr s.size k hf hi ha, if_neg (by omega)]
    have hmiss : indexB (s.extract fr s.size) sep = -1 := by
      show index (s.extract fr s.size).data.toList sep.data.toList = -1
      rw [hX fr (Nat.le_trans hf hi)]
      refine index_past hne hno ?_
      rw [List.length_drop, ← hsz, ← hpz]
      omega
    rw [splitB_miss sep 0 _ _ hmiss]
  | succ d ih =>
    intro i fr acc k hd hf hi ha hno hk
    obtain ⟨k, rfl⟩ : ∃ m, k = m + 1 := ⟨k - 1, by omega⟩
    rw [split_step s sep hsep hz hz2 acc fr i k hf hi ha]
    by_cases h1 : i + sep.size ≤ s.size
    · rw [if_pos h1]
      have hocc : occAt (s.data.toList.drop fr) sep.data.toList (i - fr) = ((s.extract i (i + sep.size)).toList == sep.toList) := by
        rw [occAt_iff_take _ _ _ (by rw [List.length_drop]; omega), List.drop_drop, Base.toList_data, Base.toList_data, data_extract, ← hpz]
        rw [show fr + (i - fr) = i from by omega, show i + sep.size - i = sep.size from by omega]
      by_cases h2 : (s.extract i (i + sep.size)).toList = sep.toList
      · rw [if_pos h2]
        have ho2 : occAt (s.data.toList.drop fr) sep.data.toList (i - fr) = true := hocc.trans (beq_iff_eq.2 h2)
        have hl2 : i - fr ≤ (s.data.toList.drop fr).length := by rw [List.length_drop]; omega
        have hidx : index (s.data.toList.drop fr) sep.data.toList = ((i - fr : Nat) : Int) := index_hit hno hl2 ho2
        have hcnt : countB (s.extract fr s.size) sep = countB (s.extract (i + sep.size) s.size) sep + 1 := by
          unfold countB
          rw [hX fr (Nat.le_trans hf hi), hX (i + sep.size) (by omega), count_hit hne hidx, List.drop_drop, ← hpz, show fr + (i - fr + sep.size) = i + sep.size from by omega]
          omega
        have hhit := splitB_hit sep 0 (countB (s.extract (i + sep.size) s.size) sep) (s.extract fr s.size) (i - fr) (by show index _ _ = _; rw [hX fr (Nat.le_trans hf hi)]; exact hidx)
        rw [hcnt, hhit]
        have e1 : (s.extract fr s.size).extract 0 (i - fr + 0) = s.extract fr i := by
          refine ba_ext ?_
          rw [data_extract, hX fr (Nat.le_trans hf hi), data_extract, List.drop_zero]
          congr 1
        have e2 : (s.extract fr s.size).extract (i - fr + sep.size) (s.extract fr s.size).size = s.extract (i + sep.size) s.size := by
          refine ba_ext ?_
          have hs2 : (s.extract fr s.size).size = s.size - fr := by rw [Base.size_eq, hX fr (Nat.le_trans hf hi), List.length_drop]; omega
          rw [data_extract, hX fr (Nat.le_trans hf hi), hs2, data_extract, List.drop_drop, show fr + (i - fr + sep.size) = i + sep.size from by omega]
          exact (List.take_of_length_le (by rw [List.length_drop]; omega)).trans (List.take_of_length_le (by rw [List.length_drop]; omega)).symm
        rw [e1, e2, ih (i + sep.size) (i + sep.size) (acc ++ [s.extract fr i]) k (by omega) (Nat.le_refl _) (by omega) (by simp; omega) (by rw [Nat.sub_self]; exact NoOcc.zero _ _) (by omega)]
        simp
      · rw [if_neg h2]
        refine ih (i + 1) fr acc k (by omega) (by omega) (by omega) ha ?_ (by omega)
        rw [show i + 1 - fr = (i - fr) + 1 from by omega]
        exact hno.succ (hocc.trans (beq_eq_false_iff_ne.2 h2))
    · rw [if_neg h1]
      have hmiss : indexB (s.extract fr s.size) sep = -1 := by
        show index (s.extract fr s.size).data.toList sep.data.toList = -1
        rw [hX fr (Nat.le_trans hf hi)]
        refine index_past hne hno ?_
        rw [List.length_drop, ← hsz, ← hpz]
        omega
      rw [splitB_miss sep 0 _ _ hmiss]
theorem ref_split_f (k : Nat) (s sep : ByteArray) (hsep : 1 ≤ sep.size) (hz : s.size ≤ 1000000000) (hz2 : sep.size ≤ 1000) (hk : s.size + 1 < k) : pennantref22_Split.f k s sep = strings_Split.f s sep := by
  unfold pennantref22_Split.f strings_Split.f
  rw [if_pos ⟨by omega, hsep⟩]
  have := ref_split_l0 s sep hsep hz hz2 s.size 0 0 [] k (by omega) (Nat.le_refl _) (Nat.zero_le _) (Nat.le_refl _) (NoOcc.zero _ _) hk
  have e : s.extract 0 s.size = s := ba_ext (by rw [data_extract, List.drop_zero, Nat.sub_zero, Base.size_eq, List.take_length])
  rw [e, List.nil_append] at this
  exact this
theorem ref_j0_same (k : Nat) (L : List ByteArray) (fl : Bool) : pennantref22_Request.j0 k L fl = http_requestLine.j0 k L fl := by cases k <;> rfl
theorem ref_request_f (k : Nat) (s : ByteArray) (hs : s.size ≤ 100000) (hk : 18 * (s.size + 3) ≤ k) : pennantref22_Request.f k s = http_requestLine.f k s := by
  unfold pennantref22_Request.f http_requestLine.f
  simp only [ref_j0_same]
  rw [ref_split_f k s _ (by decide) (by omega) (by decide) (by omega)]
  obtain ⟨l0, ls, h, hm, hl⟩ := split_f s (⟨#[32]⟩ : ByteArray) (by omega) (by decide)
  rw [h, Option.bind_some, Option.bind_some]
  generalize l0 :: ls = L at hm
  by_cases h3 : (L.length : Int) = 3
  · have m0 := hm _ (rdOf_mem L 0 (by omega))
    have m1 := hm _ (rdOf_mem L 1 (by omega))
    simp only [Int.natCast_zero, Int.natCast_one] at m0 m1
    rw [ref_token_f _ (by omega) k (by omega), token_f _ (by omega) k (by omega), ref_target_f _ (by omega) k (by omega), target_f _ (by omega) k (by omega)]
  · rw [if_neg h3, if_neg h3]
end Go.Proofs.YtpikebpjlhccbaaGreatDoor.PAll
/- The reference's blankless is the trim. -/
namespace Go.Proofs.YtpikebpjlhccbaaGreatDoor.PAll
set_option linter.unusedVariables false
set_option linter.unusedSimpArgs false
open Go.RowKit Go.Proofs.YtpikebpjlhccbaaGreatDoorW.PrintWords Base Go.Lib

def ofB (l : List UInt8) : ByteArray := ⟨l.toArray⟩
def blk (c : UInt8) : Bool := ([32, 9] : List UInt8).contains c
theorem blk_iff (c : UInt8) : blk c = true ↔ (c.toNat : Int) = 32 ∨ (c.toNat : Int) = 9 := by
  unfold blk
  simp only [List.contains_iff_mem, List.mem_cons, List.not_mem_nil, or_false]
  constructor
  · rintro (rfl | rfl)
    · left; rfl
    · right; rfl
  · rintro (h | h)
    · left; exact UInt8.toNat_inj.1 (by rw [show (32 : UInt8).toNat = 32 from rfl]; omega)
    · right; exact UInt8.toNat_inj.1 (by rw [show (9 : UInt8).toNat = 9 from rfl]; omega)
def TR (l : List UInt8) : List UInt8 := (l.reverse.dropWhile blk).reverse
def TL (l : List UInt8) : List UInt8 := l.dropWhile blk
theorem trim_eq (l : List UInt8) : trimS l [32, 9] = TL (TR l) := rfl
theorem TR_cons (x : UInt8) (l : List UInt8) : TR (x :: l) = if TR l = [] then (if blk x = true then [] else [x]) else x :: TR l := by
  unfold TR
  rw [List.reverse_cons, List.dropWhile_append]
  by_cases h : l.reverse.dropWhile blk = []
  · rw [if_pos (by simp [h]), if_pos (by simp [h]), List.dropWhile_cons]
    by_cases hx : blk x = true
    · rw [if_pos hx, if_pos hx]; rfl
    · rw [if_neg hx, if_neg hx]; rfl
  · rw [if_neg (by simpa using h), if_neg (by simpa using h), List.reverse_append]
    rfl
theorem TL_TR : ∀ l : List UInt8, TR (TL l) = TL (TR l)
  | [] => rfl
  | x :: l => by
    have ih := TL_TR l
    by_cases hx : blk x = true
    · rw [show TL (x :: l) = TL l from by unfold TL; rw [List.dropWhile_cons, if_pos hx], ih, TR_cons]
      by_cases h : TR l = []
      · rw [if_pos h, if_pos hx, h]
      · rw [if_neg h]
        unfold TL
        rw [List.dropWhile_cons, if_pos hx]
    · rw [show TL (x :: l) = x :: l from by unfold TL; rw [List.dropWhile_cons, if_neg hx], TR_cons]
      by_cases h : TR l = []
      · rw [if_pos h, if_neg hx]
        unfold TL
        rw [List.dropWhile_cons, if_neg hx]
      · rw [if_neg h]
        unfold TL
        rw [List.dropWhile_cons, if_neg hx]
theorem TR_snoc (l : List UInt8) (c : UInt8) : TR (l ++ [c]) = if blk c = true then TR l else l ++ [c] := by
  unfold TR
  rw [List.reverse_append, List.reverse_singleton, List.singleton_append, List.dropWhile_cons]
  by_cases h : blk c = true
  · rw [if_pos h, if_pos h]
  · rw [if_neg h, if_neg h]
    simp
theorem blank_l1 : ∀ (n : Nat) (s : ByteArray) (k : Nat), s.size = n → n ≤ 1000000000 → n < k → pennantref22_blankless.l1 k s = some (ofB (TR s.data.toList))
  | 0, s, k, hs, hn, hk => by
    obtain ⟨k, rfl⟩ : ∃ m, k = m + 1 := ⟨k - 1, by omega⟩
    have h0 : ¬ (s.size : Int) > 0 := by omega
    have e : s.data.toList = [] := List.length_eq_zero_iff.1 (by rw [← Base.size_eq]; exact hs)
    rw [pennantref22_blankless.l1]
    simp only [if_neg h0]
    congr 1
    exact ba_ext (by rw [e]; rfl)
  | n + 1, s, k, hs, hn, hk => by
    obtain ⟨k, rfl⟩ : ∃ m, k = m + 1 := ⟨k - 1, by omega⟩
    have hsz := Base.size_eq s
    have h0 : (s.size : Int) > 0 := by omega
    have hw : wrap64 ((s.size : Int) - 1) = ((n : Nat) : Int) := by unfold wrap64; omega
    have a1 : (0 : Int) ≤ (n : Int) := by omega
    have a2 : (n : Int) < (s.size : Int) := by omega
    have a3 : (n : Int) ≤ (s.size : Int) := by omega
    have hlt : n < s.data.toList.length := by rw [← hsz]; omega
    have hb := bt_nat s n hlt
    obtain ⟨l, c, hl⟩ : ∃ l c, s.data.toList = l ++ [c] := by
      rcases List.eq_nil_or_concat s.data.toList with h | ⟨l, c, h⟩
      · rw [h] at hlt; exact absurd hlt (Nat.not_lt_zero _)
      · exact ⟨l, c, by rw [h]; simp⟩
    have hln : l.length = n := by have q := hsz; rw [hs, hl, List.length_append, List.length_singleton] at q; omega
    have hc : s.data.toList[n]'hlt = c := by
      simp only [hl]
      rw [List.getElem_append_right (by omega)]
      simp [hln]
    rw [hc] at hb
    have hx : (s.extract 0 n).data.toList = l := by rw [data_extract, List.drop_zero, Nat.sub_zero, hl, List.take_left' hln]
    have ih := blank_l1 n (s.extract 0 n) k (by rw [Base.size_eq, hx]; exact hln) (by omega) (by omega)
    rw [hx] at ih
    rw [pennantref22_blankless.l1]
    simp only [hw, if_pos h0, if_pos a1, if_pos a2, if_pos a3, hb, Int.toNat_natCast, ih]
    rw [hl, TR_snoc]
    have hbl := blk_iff c
    by_cases h1 : (c.toNat : Int) = 32
    · rw [if_pos h1, if_pos (hbl.2 (.inl h1))]
    · rw [if_neg h1]
      by_cases h2 : (c.toNat : Int) = 9
      · rw [if_pos h2, if_pos (hbl.2 (.inr h2))]
      · rw [if_neg h2, if_neg (fun h => (hbl.1 h).elim h1 h2)]
        congr 1
        exact ba_ext (by rw [hl]; rfl)
theorem blank_l0 : ∀ (n : Nat) (s : ByteArray) (k : Nat), s.size = n → n ≤ 1000000000 → 2 * n + 2 < k → pennantref22_blankless.l0 k s = some (ofB (TR (TL s.data.toList)))
  | 0, s, k, hs, hn, hk => by
    obtain ⟨k, rfl⟩ : ∃ m, k = m + 1 + 1 := ⟨k - 2, by omega⟩
    have h0 : ¬ (s.size : Int) > 0 := by omega
    have e : s.data.toList = [] := List.length_eq_zero_iff.1 (by rw [← Base.size_eq]; exact hs)
    rw [pennantref22_blankless.l0]
    simp only [if_neg h0]
    rw [pennantref22_blankless.j1, blank_l1 0 s k hs (by omega) (by omega), e]
    rfl
  | n + 1, s, k, hs, hn, hk => by
    obtain ⟨k, rfl⟩ : ∃ m, k = m + 1 + 1 := ⟨k - 2, by omega⟩
    have hsz := Base.size_eq s
    have h0 : (s.size : Int) > 0 := by omega
    have h0' : (0 : Int) < (s.size : Int) := by omega
    have a1 : (1 : Int) ≤ (s.size : Int) := by omega
    have hlt : 0 < s.data.toList.length := by rw [← hsz]; omega
    have hb := bt_nat s 0 hlt
    rw [show ((0 : Nat) : Int) = 0 from rfl] at hb
    obtain ⟨c, l, hl⟩ : ∃ c l, s.data.toList = c :: l := by
      cases h : s.data.toList with
      | nil => rw [h] at hlt; exact absurd hlt (Nat.not_lt_zero _)
      | cons c l => exact ⟨c, l, rfl⟩
    have hln : l.length = n := by have q := hsz; rw [hs, hl, List.length_cons] at q; omega
    have hc : s.data.toList[0]'hlt = c := by simp only [hl]; rfl
    rw [hc] at hb
    have hx : (s.extract 1 s.size).data.toList = l := by
      rw [data_extract, hl]
      show l.take (s.size - 1) = l
      exact List.take_of_length_le (by omega)
    have ih := blank_l0 n (s.extract 1 s.size) (k + 1) (by rw [Base.size_eq, hx]; exact hln) (by omega) (by omega)
    rw [hx] at ih
    have hj : pennantref22_blankless.j1 (k + 1) s = some (ofB (TR s.data.toList)) := by
      rw [pennantref22_blankless.j1]
      exact blank_l1 (n + 1) s k hs hn (by omega)
    rw [pennantref22_blankless.l0]
    simp only [if_pos h0, if_pos h0', if_pos a1, hb, ih, hj]
    have hbl := blk_iff c
    rw [hl]
    unfold TL
    rw [List.dropWhile_cons]
    by_cases h1 : (c.toNat : Int) = 32
    · rw [if_pos h1, if_pos (hbl.2 (.inl h1))]
    · rw [if_neg h1]
      by_cases h2 : (c.toNat : Int) = 9
      · rw [if_pos h2, if_pos (hbl.2 (.inr h2))]
      · rw [if_neg h2, if_neg (fun h => (hbl.1 h).elim h1 h2)]
theorem ref_blankless_f (k : Nat) (s : ByteArray) (hz : s.size ≤ 1000000000) (hk : 2 * s.size + 2 < k) : pennantref22_blankless.f k s = some (ofB (trimS s.data.toList [32, 9])) := by
  unfold pennantref22_blankless.f
  rw [blank_l0 s.size s k rfl hz hk, TL_TR, trim_eq]
end Go.Proofs.YtpikebpjlhccbaaGreatDoor.PAll
/- The reference's Digits. -/
namespace Go.Proofs.YtpikebpjlhccbaaGreatDoor.PAll
set_option linter.unusedVariables false
set_option linter.unusedSimpArgs false
open Go.RowKit Go.Proofs.YtpikebpjlhccbaaGreatDoorW.PrintWords Base Go.Lib

theorem digits_step (s : ByteArray) (n : Int) (i k : Nat) (hi : i < s.data.toList.length) (hz : s.size ≤ 1000000000) :
    pennantref22_Digits.l0 (k + 1 + 1) s n (i : Int) = if digitB (s.data.toList[i]) = true then (if i < 10 then pennantref22_Digits.l0 k s (wrap64 (wrap64 (n * 10) + (((s.data.toList[i]).toNat : Int) - 48) % 256)) ((i + 1 : Nat) : Int) else pennantref22_Digits.l0 k s n ((i + 1 : Nat) : Int)) else some (-1) := by
  have hsz := Base.size_eq s
  have hb := bt_nat s i hi
  have a1 : (i : Int) < (s.size : Int) := by omega
  have a2 : (0 : Int) ≤ (i : Int) := by omega
  have hw : wrap64 ((i : Int) + 1) = ((i + 1 : Nat) : Int) := wrap_succ hi (by omega)
  have hd := digitB_iff (s.data.toList[i])
  rw [pennantref22_Digits.l0]
  simp only [if_pos a1, if_pos a2, hb]
  have hj : ∀ fl : Bool, pennantref22_Digits.j1 (k + 1) s n (i : Int) fl = if fl = true then some (-1) else (if i < 10 then pennantref22_Digits.l0 k s (wrap64 (wrap64 (n * 10) + (((s.data.toList[i]).toNat : Int) - 48) % 256)) ((i + 1 : Nat) : Int) else pennantref22_Digits.l0 k s n ((i + 1 : Nat) : Int)) := by
    intro fl
    rw [pennantref22_Digits.j1]
    simp only [if_pos a1, if_pos a2, hb, hw]
    by_cases h10 : i < 10
    · have h10' : (i : Int) < 10 := by omega
      simp only [if_pos h10, if_pos h10']
    · have h10' : ¬ (i : Int) < 10 := by omega
      simp only [if_neg h10, if_neg h10']
  simp only [hj]
  by_cases h1 : ((s.data.toList[i]).toNat : Int) < 48
  · have hn : ¬ digitB (s.data.toList[i]) = true := fun h => by have := hd.1 h; omega
    simp only [if_pos h1, if_neg hn, if_true]
  · by_cases h2 : ((s.data.toList[i]).toNat : Int) > 57
    · have hn : ¬ digitB (s.data.toList[i]) = true := fun h => by have := hd.1 h; omega
      have hq : decide (((s.data.toList[i]).toNat : Int) > 57) = true := decide_eq_true h2
      simp only [if_neg h1, hq, if_neg hn, if_true]
    · have hp : digitB (s.data.toList[i]) = true := hd.2 (by omega)
      have hq : decide (((s.data.toList[i]).toNat : Int) > 57) = false := decide_eq_false h2
      simp only [if_neg h1, hq, if_pos hp, Bool.false_eq_true, if_false]
theorem digits_long (s : ByteArray) (h9 : 9 < s.size) (hz : s.size ≤ 1000000000) : ∀ (d i : Nat) (n : Int) (k : Nat), i + d = s.size → 2 * d + 1 < k → pennantref22_Digits.l0 k s n (i : Int) = some (-1) := by
  have hsz := Base.size_eq s
  intro d
  induction d with
  | zero =>
    intro i n k hi hk
    obtain ⟨k, rfl⟩ : ∃ m, k = m + 1 := ⟨k - 1, by omega⟩
    have a1 : ¬ (i : Int) < (s.size : Int) := by omega
    have a2 : ¬ (s.size : Int) = 0 := by omega
    have a3 : (s.size : Int) > 9 := by omega
    rw [pennantref22_Digits.l0]
    simp only [if_neg a1, if_neg a2, if_pos a3]
  | succ d ih =>
    intro i n k hi hk
    obtain ⟨k, rfl⟩ : ∃ m, k = m + 1 + 1 := ⟨k - 2, by omega⟩
    have hA := fun n' => ih (i + 1) n' k (by omega) (by omega)
    rw [digits_step s n i k (by omega) hz]
    simp only [hA, ite_self]
def pw : Nat → Nat
  | 0 => 1
  | i + 1 => 10 * pw i
theorem pw_le : ∀ i, i ≤ 9 → pw i ≤ 1000000000 := by decide
theorem pw_succ (i : Nat) : pw (i + 1) = 10 * pw i := rfl
theorem digits_acc (n i P v : Nat) (hn : n + 1 ≤ P) (hp : P ≤ 1000000000) (h1 : 48 ≤ v) (h2 : v ≤ 57) :
    wrap64 (wrap64 ((n : Int) * 10) + ((v : Int) - 48) % 256) = ((n * 10 + (v - 48) : Nat) : Int) := by unfold wrap64; omega
theorem digits_next (n i v : Nat) (hn : n + 1 ≤ pw i) (h1 : 48 ≤ v) (h2 : v ≤ 57) : n * 10 + (v - 48) + 1 ≤ pw (i + 1) := by
  rw [pw_succ]
  generalize pw i = P at hn ⊢
  omega
theorem digits_short (s : ByteArray) (h9 : s.size ≤ 9) : ∀ (d i n : Nat) (k : Nat), i + d = s.size → n + 1 ≤ pw i → 2 * d + 1 < k →
    pennantref22_Digits.l0 k s (n : Int) (i : Int) = some (if (s.data.toList.drop i).all digitB = true then (if s.size = 0 then -1 else ((foldV n (s.data.toList.drop i) : Nat) : Int)) else -1) := by
  have hsz := Base.size_eq s
  intro d
  induction d with
  | zero =>
    intro i n k hi hn hk
    obtain ⟨k, rfl⟩ : ∃ m, k = m + 1 := ⟨k - 1, by clear hn; omega⟩
    have a1 : ¬ (i : Int) < (s.size : Int) := by clear hn; omega
    have a3 : ¬ (s.size : Int) > 9 := by clear hn; omega
    rw [pennantref22_Digits.l0, List.drop_eq_nil_of_le (by clear hn; omega)]
    simp only [if_neg a1, if_neg a3]
    by_cases h0 : s.size = 0
    · have h0' : (s.size : Int) = 0 := by clear hn; omega
      simp only [if_pos h0, if_pos h0', List.all_nil, if_true]
    · have h0' : ¬ (s.size : Int) = 0 := by clear hn; omega
      simp only [if_neg h0, if_neg h0', List.all_nil, if_true]
      rfl
  | succ d ih =>
    intro i n k hi hn hk
    obtain ⟨k, rfl⟩ : ∃ m, k = m + 1 + 1 := ⟨k - 2, by clear hn; omega⟩
    have hlt : i < s.data.toList.length := by clear hn; omega
    have h10 : i < 10 := by clear hn; omega
    have hz : s.size ≤ 1000000000 := by clear hn; omega
    have hp : pw i ≤ 1000000000 := pw_le i (by clear hn; omega)
    refine Eq.trans (digits_step s (n : Int) i k hlt hz) ?_
    rw [List.drop_eq_getElem_cons hlt, List.all_cons]
    by_cases hd : digitB (s.data.toList[i]) = true
    · have hd' := (digitB_iff _).1 hd
      have hw := digits_acc n i (pw i) (s.data.toList[i]).toNat hn hp hd'.1 hd'.2
      have hq := digits_next n i (s.data.toList[i]).toNat hn hd'.1 hd'.2
      have hI := ih (i + 1) (n * 10 + ((s.data.toList[i]).toNat - 48)) k (by clear hn hq; omega) hq (by clear hn hq; omega)
      have hf : foldV n (s.data.toList[i] :: s.data.toList.drop (i + 1)) = foldV (n * 10 + ((s.data.toList[i]).toNat - 48)) (s.data.toList.drop (i + 1)) := rfl
      rw [hf, if_pos hd, if_pos h10, hw, hd, Bool.true_and]
      exact hI
    · rw [if_neg hd, Bool.eq_false_iff.mpr hd, Bool.false_and, if_neg Bool.false_ne_true]
theorem ref_digits_f (k : Nat) (s : ByteArray) (hz : s.size ≤ 1000000000) (hk : 2 * s.size + 1 < k) : pennantref22_Digits.f k s = some (if s.data.toList.all digitB = true ∧ 1 ≤ s.size ∧ s.size ≤ 9 then (valN s.data.toList : Int) else -1) := by
  unfold pennantref22_Digits.f
  by_cases h9 : 9 < s.size
  · rw [if_neg (by omega)]
    exact digits_long s h9 hz s.size 0 0 k (by omega) hk
  · have := digits_short s (by omega) s.size 0 0 k (by omega) (by decide) hk
    rw [show ((0 : Nat) : Int) = 0 from rfl, List.drop_zero] at this
    rw [this]
    congr 1
    by_cases h1 : s.data.toList.all digitB = true
    · rw [if_pos h1]
      by_cases h0 : s.size = 0
      · rw [if_pos h0, if_neg (by omega)]
      · rw [if_neg h0, if_pos ⟨h1, by omega, by omega⟩]
        rfl
    · rw [if_neg h1, if_neg (fun h => h1 h.1)]
end Go.Proofs.YtpikebpjlhccbaaGreatDoor.PAll
