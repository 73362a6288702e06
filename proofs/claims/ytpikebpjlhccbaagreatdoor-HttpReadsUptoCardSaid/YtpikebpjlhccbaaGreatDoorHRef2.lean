/- The reference's Split, Count, blankless and Request: the same as the program's. -/
import Derived.Test.YtpikebpjlhccbaaGreatDoorHRef
import Derived.Lib.CountLaws
namespace Go.Proofs.YtpikebpjlhccbaaGreatDoor.PAll
set_option linter.unusedVariables false
set_option linter.unusedSimpArgs false
open Go.RowKit Go.Proofs.YtpikebpjlhccbaaGreatDoorW.PrintWords Base Go.Lib

theorem ref_count_l0 (xs : List S79) (a a2 f : ByteArray) (a3 : Int) (hl : xs.length ≤ 4294967296) : ∀ (d i : Nat) (n : Int) (v : ByteArray) (k : Nat), i + d = xs.length → 0 ≤ n → n ≤ i → d + 1 < k → pennantref22_Message_Count.l0 k a n v (i : Int) f xs a2 a3 = some (cntF (xs.drop i) a n v) := by
  intro d
  induction d with
  | zero =>
    intro i n v k hi h0 h1 hk
    obtain ⟨k, rfl⟩ : ∃ m, k = m + 1 := ⟨k - 1, by omega⟩
    unfold pennantref22_Message_Count.l0
    rw [if_neg (by omega), List.drop_eq_nil_of_le (by omega)]
    rfl
  | succ d ih =>
    intro i n v k hi h0 h1 hk
    obtain ⟨k, rfl⟩ : ∃ m, k = m + 1 := ⟨k - 1, by omega⟩
    have hlt : i < xs.length := by omega
    have wi : wrap64 ((i : Int) + 1) = ((i + 1 : Nat) : Int) := by unfold wrap64; omega
    have wn : wrap64 (n + 1) = n + 1 := by unfold wrap64; omega
    rw [List.drop_eq_getElem_cons hlt]
    unfold pennantref22_Message_Count.l0
    rw [if_pos (by omega), if_pos (by omega), rd_T79_nat xs i hlt, wi, wn]
    generalize xs[i] = x
    unfold cntF
    by_cases h2 : x.f0.toList = a.toList
    · rw [if_pos h2, if_pos h2]
      by_cases h3 : n = 0
      · rw [if_pos h3, if_pos h3]
        exact ih (i + 1) (n + 1) x.f1 k (by omega) (by omega) (by omega) (by omega)
      · rw [if_neg h3, if_neg h3]
        exact ih (i + 1) (n + 1) v k (by omega) (by omega) (by omega) (by omega)
    · rw [if_neg h2, if_neg h2]
      exact ih (i + 1) n v k (by omega) h0 (by omega) (by omega)
theorem ref_count_f (k : Nat) (f : ByteArray) (xs : List S79) (a2 : ByteArray) (a3 : Int) (a : ByteArray) (hl : xs.length ≤ 4294967296) (hk : xs.length + 1 < k) : pennantref22_Message_Count.f k f xs a2 a3 a = some (cntF xs a 0 (⟨#[]⟩ : ByteArray)) := by
  unfold pennantref22_Message_Count.f
  have := ref_count_l0 xs a a2 f a3 hl xs.length 0 0 (⟨#[]⟩ : ByteArray) k (by omega) (by omega) (by omega) hk
  exact this

theorem split_step (s sep : ByteArray) (hsep : 1 ≤ sep.size) (hz : s.size ≤ 1000000000) (hz2 : sep.size ≤ 1000) (acc : List ByteArray) (fr i k : Nat) (hf : fr ≤ i) (hi : i ≤ s.size) (ha : acc.length ≤ fr) :
    pennantref22_Split.l0 (k + 1) s sep acc (fr : Int) (i : Int) = if i + sep.size ≤ s.size then (if (s.extract i (i + sep.size)).toList = sep.toList then pennantref22_Split.l0 k s sep (acc ++ [s.extract fr i]) ((i + sep.size : Nat) : Int) ((i + sep.size : Nat) : Int) else pennantref22_Split.l0 k s sep acc (fr : Int) ((i + 1 : Nat) : Int)) else some (acc ++ [s.extract fr s.size]) := by
  have hw : wrap64 ((i : Int) + (sep.size : Int)) = ((i + sep.size : Nat) : Int) := by unfold wrap64; omega
  have hw1 : wrap64 ((i : Int) + 1) = ((i + 1 : Nat) : Int) := by unfold wrap64; omega
  have a1 : (0 : Int) ≤ (i : Int) := by omega
  have a2 : (i : Int) ≤ ((i + sep.size : Nat) : Int) := by omega
  have a3 : (0 : Int) ≤ (fr : Int) := by omega
  have a4 : (fr : Int) ≤ (i : Int) := by omega
  have a5 : (i : Int) ≤ (s.size : Int) := by omega
  have a6 : acc.length < 8796093022208 := by omega
  have a7 : (fr : Int) ≤ (s.size : Int) := by omega
  rw [pennantref22_Split.l0]
  simp only [hw, hw1, if_pos a1, if_pos a2, if_pos a3, if_pos a4, if_pos a5, if_pos a6, if_pos a7, Int.toNat_natCast, Int.ofNat_le, if_pos (Nat.le_add_right i sep.size), if_pos hf, if_pos hi, if_pos (Nat.le_trans hf hi)]
set_option maxHeartbeats 2000000 in
theorem ref_split_l0 (s sep : ByteArray) (hsep : 1 ≤ sep.size) (hz : s.size ≤ 1000000000) (hz2 : sep.size ≤ 1000) : ∀ (d i fr : Nat) (acc : List ByteArray) (k : Nat), s.size - i ≤ d → fr ≤ i → i ≤ s.size → acc.length ≤ fr → NoOcc (s.data.toList.drop fr) sep.data.toList (i - fr) → d + 1 < k →
    pennantref22_Split.l0 k s sep acc (fr : Int) (i : Int) = some (acc ++ splitB sep 0 (countB (s.extract fr s.size) sep) (s.extract fr s.size)) := by
  have hsz := Base.size_eq s
  have hpz := Base.size_eq sep
  have hne : sep.data.toList ≠ [] := by intro h; rw [h] at hpz; have : sep.size = 0 := hpz; omega
  have hX : ∀ fr, fr ≤ s.size → (s.extract fr s.size).data.toList = s.data.toList.drop fr := by
    intro fr hf
    rw [data_extract]
    refine List.take_of_length_le ?_
    rw [List.length_drop, ← hsz]
    exact Nat.le_refl _
  intro d
  induction d with
  | zero =>
    intro i fr acc k hd hf hi ha hno hk
    obtain ⟨k, rfl⟩ : ∃ m, k = m + 1 := ⟨k - 1, by omega⟩
    obtain rfl : i = s.size := by omega
    rw [split_step s sep hsep hz hz2 acc fr s.size k hf hi ha, if_neg (by omega)]
    have hmiss : indexB (s.extract fr s.size) sep = -1 := by
      show index (s.extract fr s.size).data.toList sep.data.toList = -1
      rw [hX fr (Nat.le_trans hf hi)]
      refine index_past hne hno ?_
      rw [List.length_drop, ← hsz, ← hpz]
      omega
    rw [splitB_miss sep 0 _ _ hmiss]
  | succ d ih =>
    intro i fr acc k hd hf hi ha hno hk
    obtain ⟨k, rfl⟩ : ∃ m, k = m + 1 := ⟨k - 1, by omega⟩
    rw [split_step s sep hsep hz hz2 acc fr i k hf hi ha]
    by_cases h1 : i + sep.size ≤ s.size
    · rw [if_pos h1]
      have hocc : occAt (s.data.toList.drop fr) sep.data.toList (i - fr) = ((s.extract i (i + sep.size)).toList == sep.toList) := by
        rw [occAt_iff_take _ _ _ (by rw [List.length_drop]; omega), List.drop_drop, Base.toList_data, Base.toList_data, data_extract, ← hpz]
        rw [show fr + (i - fr) = i from by omega, show i + sep.size - i = sep.size from by omega]
      by_cases h2 : (s.extract i (i + sep.size)).toList = sep.toList
      · rw [if_pos h2]
        have ho2 : occAt (s.data.toList.drop fr) sep.data.toList (i - fr) = true := hocc.trans (beq_iff_eq.2 h2)
        have hl2 : i - fr ≤ (s.data.toList.drop fr).length := by rw [List.length_drop]; omega
        have hidx : index (s.data.toList.drop fr) sep.data.toList = ((i - fr : Nat) : Int) := index_hit hno hl2 ho2
        have hcnt : countB (s.extract fr s.size) sep = countB (s.extract (i + sep.size) s.size) sep + 1 := by
          unfold countB
          rw [hX fr (Nat.le_trans hf hi), hX (i + sep.size) (by omega), count_hit hne hidx, List.drop_drop, ← hpz, show fr + (i - fr + sep.size) = i + sep.size from by omega]
          omega
        have hhit := splitB_hit sep 0 (countB (s.extract (i + sep.size) s.size) sep) (s.extract fr s.size) (i - fr) (by show index _ _ = _; rw [hX fr (Nat.le_trans hf hi)]; exact hidx)
        rw [hcnt, hhit]
        have e1 : (s.extract fr s.size).extract 0 (i - fr + 0) = s.extract fr i := by
          refine ba_ext ?_
          rw [data_extract, hX fr (Nat.le_trans hf hi), data_extract, List.drop_zero]
          congr 1
        have e2 : (s.extract fr s.size).extract (i - fr + sep.size) (s.extract fr s.size).size = s.extract (i + sep.size) s.size := by
          refine ba_ext ?_
          have hs2 : (s.extract fr s.size).size = s.size - fr := by rw [Base.size_eq, hX fr (Nat.le_trans hf hi), List.length_drop]; omega
          rw [data_extract, hX fr (Nat.le_trans hf hi), hs2, data_extract, List.drop_drop, show fr + (i - fr + sep.size) = i + sep.size from by omega]
          exact (List.take_of_length_le (by rw [List.length_drop]; omega)).trans (List.take_of_length_le (by rw [List.length_drop]; omega)).symm
        rw [e1, e2, ih (i + sep.size) (i + sep.size) (acc ++ [s.extract fr i]) k (by omega) (Nat.le_refl _) (by omega) (by simp; omega) (by rw [Nat.sub_self]; exact NoOcc.zero _ _) (by omega)]
        simp
      · rw [if_neg h2]
        refine ih (i + 1) fr acc k (by omega) (by omega) (by omega) ha ?_ (by omega)
        rw [show i + 1 - fr = (i - fr) + 1 from by omega]
        exact hno.succ (hocc.trans (beq_eq_false_iff_ne.2 h2))
    · rw [if_neg h1]
      have hmiss : indexB (s.extract fr s.size) sep = -1 := by
        show index (s.extract fr s.size).data.toList sep.data.toList = -1
        rw [hX fr (Nat.le_trans hf hi)]
        refine index_past hne hno ?_
        rw [List.length_drop, ← hsz, ← hpz]
        omega
      rw [splitB_miss sep 0 _ _ hmiss]
theorem ref_split_f (k : Nat) (s sep : ByteArray) (hsep : 1 ≤ sep.size) (hz : s.size ≤ 1000000000) (hz2 : sep.size ≤ 1000) (hk : s.size + 1 < k) : pennantref22_Split.f k s sep = strings_Split.f s sep := by
  unfold pennantref22_Split.f strings_Split.f
  rw [if_pos ⟨by omega, hsep⟩]
  have := ref_split_l0 s sep hsep hz hz2 s.size 0 0 [] k (by omega) (Nat.le_refl _) (Nat.zero_le _) (Nat.le_refl _) (NoOcc.zero _ _) hk
  have e : s.extract 0 s.size = s := ba_ext (by rw [data_extract, List.drop_zero, Nat.sub_zero, Base.size_eq, List.take_length])
  rw [e, List.nil_append] at this
  exact this
theorem ref_request_f (k : Nat) (s : ByteArray) (hs : s.size ≤ 100000) (hk : 18 * (s.size + 3) ≤ k) : pennantref22_Request.f k s = http_requestLine.f k s := by
  unfold pennantref22_Request.f http_requestLine.f
  rw [ref_split_f k s _ (by decide) (by omega) (by decide) (by omega)]
  obtain ⟨l0, ls, h, hm, hl⟩ := split_f s (⟨#[32]⟩ : ByteArray) (by omega) (by decide)
  rw [h, Option.bind_some, Option.bind_some]
  generalize l0 :: ls = L at hm
  by_cases h3 : (L.length : Int) = 3
  · have m0 := hm _ (rdOf_mem L 0 (by omega))
    have m1 := hm _ (rdOf_mem L 1 (by omega))
    simp only [Int.natCast_zero, Int.natCast_one] at m0 m1
    rw [ref_token_f _ (by omega) k (by omega), token_f _ (by omega) k (by omega), ref_target_f _ (by omega) k (by omega), target_f _ (by omega) k (by omega)]
  · rw [if_neg h3, if_neg h3]
end Go.Proofs.YtpikebpjlhccbaaGreatDoor.PAll
