/- What read says of a text's beginnings, and of what stands behind a message. And that it answers everywhere. -/
import Derived.Test.YtpikebpjlhccbaaGreatDoorHPure
import Derived.Lib.SlTrimSet
namespace Go.Proofs.YtpikebpjlhccbaaGreatDoor.PAll
set_option linter.unusedVariables false
set_option linter.unusedSimpArgs false
open Go.RowKit Go.Proofs.YtpikebpjlhccbaaGreatDoorW.PrintWords Base Go.Lib

theorem ba_ext {x y : ByteArray} (h : x.data.toList = y.data.toList) : x = y := by
  cases x; cases y
  congr 1
  exact Array.toList_inj.1 h
theorem data_extract (s : ByteArray) (a b : Nat) : (s.extract a b).data.toList = (s.data.toList.drop a).take (b - a) := Lib.extract_data s a b
theorem data_append (s t : ByteArray) : (s ++ t).data.toList = s.data.toList ++ t.data.toList := by
  rw [ByteArray.data_append, Array.toList_append]
def c4 : ByteArray := ⟨#[13, 10, 13, 10]⟩
def c2 : ByteArray := ⟨#[13, 10]⟩

/-- Where a text goes on: the same places. -/
theorem occ_take (l z sub : List UInt8) (m j : Nat) (h : m + sub.length ≤ j) (hj : j ≤ l.length) : occAt (l.take j ++ z) sub m = occAt l sub m := by
  rw [occAt_iff_take _ _ _ (by rw [List.length_append, List.length_take]; omega), occAt_iff_take _ _ _ (by omega)]
  congr 1
  rw [List.drop_append_of_le_length (by rw [List.length_take]; omega), List.take_append_of_le_length (by rw [List.length_drop, List.length_take]; omega), List.drop_take, List.take_take]
  congr 1
  omega
theorem index_keep (l z sub : List UInt8) (i j : Nat) (h : index l sub = i) (hj : j ≤ l.length) (hij : i + sub.length ≤ j) : index (l.take j ++ z) sub = i := by
  rcases index_spec l sub with ⟨h1, _⟩ | ⟨i', h1, h2, h3, h4⟩
  · omega
  · obtain rfl : i' = i := by omega
    refine index_first (by rw [List.length_append, List.length_take]; omega) (by rw [occ_take l z sub i' j hij hj]; exact h3) (fun m hm => ?_)
    rw [occ_take l z sub m j (by omega) hj]
    exact h4 m hm
theorem index_lost (l sub : List UInt8) (i j : Nat) (h : index l sub = i) (hs : sub ≠ []) (hij : j < i + sub.length) : index (l.take j) sub = -1 := by
  rcases index_spec l sub with ⟨h1, _⟩ | ⟨i', h1, h2, h3, h4⟩
  · omega
  · obtain rfl : i' = i := by omega
    refine index_none (fun m hm => ?_)
    cases hb : occAt (l.take j) sub m with
    | false => rfl
    | true =>
      have hr := (occAt_room hb).resolve_right hs
      rw [List.length_take] at hr
      have := occ_take l [] sub m (min j l.length) (by omega) (by omega)
      rw [List.append_nil, ← List.take_eq_take_min, hb] at this
      rw [h4 m (by omega)] at this
      cases this

/-- What a message is read from. -/
structure Good (kk : Nat) (rl : ByteArray → Option Bool) (hosts : Bool) (b : ByteArray) (i s : Nat) (l0 : ByteArray) (ls : List ByteArray) (xs : List S79) : Prop where
  at_ : index b.data.toList c4.data.toList = (i : Int)
  small : b.size < 4294967281
  head : i + 4 ≤ 4096
  lines : strings_Split.f (b.extract 0 i) c2 = some (l0 :: ls)
  few : ls.length ≤ 4096
  first : rl l0 = some true
  heads : headsF kk ls = some (some xs)
  fine : fineH hosts xs
  size : sizeF xs = some (some s)
  plain : ¬ (0 < (cntF xs nCoded 0 (⟨#[]⟩ : ByteArray)).1 ∨ 4096 < s)
theorem index_f (b p : ByteArray) (hb : b.size < 4294967281) : strings_Index.f b p = some (index b.data.toList p.data.toList) := by
  unfold strings_Index.f
  rw [if_pos hb]
theorem size_c4 : c4.data.toList.length = 4 := rfl
theorem index_b (b : ByteArray) : -1 ≤ index b.data.toList c4.data.toList ∧ index b.data.toList c4.data.toList ≤ b.size := by
  have h1 := index_ge b.data.toList c4.data.toList
  have h2 := index_le b.data.toList c4.data.toList
  rw [← Base.size_eq] at h2
  exact ⟨h1, h2⟩

theorem good_of {kk : Nat} {rl : ByteArray → Option Bool} {hosts : Bool} {b l0 : ByteArray} {xs : List S79} {body : ByteArray} {n : Int} (h : readF kk rl hosts b = some (.good l0 xs body n)) :
    ∃ (i s : Nat) (ls : List ByteArray), Good kk rl hosts b i s l0 ls xs ∧ i + 4 + s ≤ b.size ∧ body = b.extract (i + 4) (i + 4 + s) ∧ n = ((i + 4 + s : Nat) : Int) := by
  unfold readF at h
  obtain ⟨i, hi, h⟩ := Option.bind_eq_some_iff.mp h
  have hbs : b.size < 4294967281 := by
    unfold strings_Index.f at hi
    by_cases hb : b.size < 4294967281
    · exact hb
    · rw [if_neg hb] at hi; cases hi
  have hi' := (index_f b c4 hbs).symm.trans hi
  rw [Option.some.injEq] at hi'
  by_cases h0 : -1 ≤ i ∧ i ≤ 4611686018427387904
  rotate_left
  · rw [if_neg h0] at h; cases h
  rw [if_pos h0] at h
  by_cases h1 : (i < 0 ∧ 4096 < (b.size : Int)) ∨ 4096 < i + 4
  · rw [if_pos h1] at h; cases h
  rw [if_neg h1] at h
  by_cases h2 : i < 0
  · rw [if_pos h2] at h; cases h
  rw [if_neg h2] at h
  obtain ⟨k, rfl⟩ := Int.eq_ofNat_of_zero_le (Int.not_lt.mp h2)
  rw [Int.toNat_natCast] at h
  by_cases hkb : k + 4 ≤ b.size
  rotate_left
  · rw [if_neg hkb] at h; cases h
  rw [if_pos hkb] at h
  obtain ⟨ls, hs, h⟩ := Option.bind_eq_some_iff.mp h
  cases ls with
  | nil => cases h
  | cons l1 ls =>
    unfold restF at h
    dsimp only at h
    by_cases hls : ls.length ≤ 4096
    rotate_left
    · rw [if_neg hls] at h; cases h
    rw [if_pos hls] at h
    obtain ⟨r0, hr0, h⟩ := Option.bind_eq_some_iff.mp h
    cases r0 with
    | false => rw [if_pos rfl] at h; cases h
    | true =>
      rw [if_neg (by simp)] at h
      obtain ⟨hr, hh, h⟩ := Option.bind_eq_some_iff.mp h
      cases hr with
      | none => cases h
      | some ys =>
        simp only at h
        unfold tailF at h
        by_cases h3 : 1 < (cntF ys nLen 0 (⟨#[]⟩ : ByteArray)).1
        · rw [if_pos h3] at h; cases h
        rw [if_neg h3] at h
        by_cases h4 : hosts = true ∧ (cntF ys nHost 0 (⟨#[]⟩ : ByteArray)).1 ≠ 1
        · rw [if_pos h4] at h; cases h
        rw [if_neg h4] at h
        obtain ⟨sz, hsz, h⟩ := Option.bind_eq_some_iff.mp h
        cases sz with
        | none => cases h
        | some s =>
          simp only at h
          by_cases h5 : 0 < (cntF ys nCoded 0 (⟨#[]⟩ : ByteArray)).1 ∨ 4096 < s
          · rw [if_pos h5] at h; cases h
          rw [if_neg h5] at h
          by_cases h6 : b.size < k + 4 + s
          · rw [if_pos h6] at h; cases h
          rw [if_neg h6] at h
          simp only [Option.some.injEq, RdRes.good.injEq] at h
          obtain ⟨rfl, rfl, rfl, rfl⟩ := h
          exact ⟨k, s, ls, ⟨hi', hbs, by omega, hs, hls, hr0, hh, ⟨h3, h4⟩, hsz, h5⟩, by omega, rfl, rfl⟩

/-- And back: from what a message is read from to what is read. -/
theorem read_of {kk : Nat} {rl : ByteArray → Option Bool} {hosts : Bool} {b l0 : ByteArray} {i s : Nat} {ls : List ByteArray} {xs : List S79} (G : Good kk rl hosts b i s l0 ls xs) :
    readF kk rl hosts b = some (if b.size < i + 4 + s then .bad 3 else .good l0 xs (b.extract (i + 4) (i + 4 + s)) ((i + 4 + s : Nat) : Int)) := by
  have hr : (0 : Int) ≤ index b.data.toList c4.data.toList := by rw [G.at_]; omega
  have hroom := index_room b.data.toList c4.data.toList hr
  rw [G.at_, size_c4, ← Base.size_eq] at hroom
  have hh := G.head
  unfold readF
  rw [show strings_Index.f b (⟨#[13, 10, 13, 10]⟩ : ByteArray) = some (i : Int) from (index_f b c4 G.small).trans (congrArg some G.at_), Option.bind_some, if_pos (by omega), if_neg (by omega), if_neg (by omega), Int.toNat_natCast, if_pos (by omega),
    show strings_Split.f (b.extract 0 i) (⟨#[13, 10]⟩ : ByteArray) = some (l0 :: ls) from G.lines, Option.bind_some]
  show (if ls.length ≤ 4096 then _ else _) = _
  rw [if_pos G.few, G.first, Option.bind_some, if_neg (by simp), G.heads, Option.bind_some]
  show tailF b i hosts l0 xs = _
  unfold tailF
  rw [if_neg G.fine.1, if_neg G.fine.2, G.size, Option.bind_some]
  dsimp only
  rw [if_neg G.plain]
  split <;> rfl
theorem read_short {kk : Nat} {rl : ByteArray → Option Bool} {hosts : Bool} {b : ByteArray} (h : index b.data.toList c4.data.toList = -1) (hs : b.size ≤ 4096) : readF kk rl hosts b = some (.bad 3) := by
  unfold readF
  rw [show strings_Index.f b (⟨#[13, 10, 13, 10]⟩ : ByteArray) = some (-1) from (index_f b c4 (by omega)).trans (congrArg some h), Option.bind_some, if_pos (by omega), if_neg (by omega), if_pos (by omega)]

theorem good_keep {kk : Nat} {rl : ByteArray → Option Bool} {hosts : Bool} {b l0 : ByteArray} {i s : Nat} {ls : List ByteArray} {xs : List S79} (G : Good kk rl hosts b i s l0 ls xs) (j : Nat) (hj : j ≤ b.size) (hij : i + 4 ≤ j) (z : ByteArray) (hz : (b.extract 0 j ++ z).size < 4294967281) :
    Good kk rl hosts (b.extract 0 j ++ z) i s l0 ls xs := by
  have e : (b.extract 0 j ++ z).data.toList = b.data.toList.take j ++ z.data.toList := by rw [data_append, data_extract, List.drop_zero, Nat.sub_zero]
  have hl := Base.size_eq b
  refine { G with at_ := ?_, small := hz, lines := ?_ }
  · rw [e]
    exact index_keep _ _ _ i j G.at_ (by omega) (by rw [size_c4]; exact hij)
  · rw [← G.lines]
    congr 1
    refine ba_ext ?_
    rw [data_extract, e, data_extract, List.drop_zero, List.drop_zero, Nat.sub_zero, List.take_append_of_le_length (by rw [List.length_take]; omega), List.take_take]
    congr 1
    omega

/-- A message's beginnings are not whole; what stands behind it counts for nothing. -/
theorem read_begin {kk : Nat} {rl : ByteArray → Option Bool} {hosts : Bool} {b l0 : ByteArray} {xs : List S79} {body : ByteArray} {n : Int} (h : readF kk rl hosts b = some (.good l0 xs body n)) :
    ∃ m : Nat, n = (m : Int) ∧ 1 ≤ m ∧ m ≤ b.size ∧ (∀ j, j < m → readF kk rl hosts (b.extract 0 j) = some (.bad 3)) ∧
      ∀ z, (b.extract 0 m ++ z).size < 4294967281 → readF kk rl hosts (b.extract 0 m ++ z) = some (.good l0 xs body n) := by
  obtain ⟨i, s, ls, G, h1, rfl, rfl⟩ := good_of h
  have hl := Base.size_eq b
  have hh := G.head
  have hsm := G.small
  refine ⟨i + 4 + s, rfl, by omega, h1, ?_, ?_⟩
  · intro j hj
    by_cases hij : i + 4 ≤ j
    · have hsz : (b.extract 0 j ++ (⟨#[]⟩ : ByteArray)).size = j := by rw [Base.size_eq, data_append, data_extract, List.drop_zero, Nat.sub_zero]; simp; omega
      have G' := good_keep G j (by omega) hij (⟨#[]⟩ : ByteArray) (by omega)
      have hr := read_of G'
      rw [if_pos (by omega)] at hr
      rw [← hr]
      congr 1
      exact ba_ext (by rw [data_append]; simp)
    · refine read_short ?_ ?_
      · rw [data_extract, List.drop_zero, Nat.sub_zero]
        exact index_lost _ _ i j G.at_ (by decide) (by rw [size_c4]; omega)
      · rw [Base.size_eq, data_extract, List.length_take]
        omega
  · intro z hz
    have G' := good_keep G (i + 4 + s) h1 (by omega) z hz
    rw [read_of G', if_neg (by rw [Base.size_eq, data_append, data_extract, List.length_append, List.length_take, List.length_drop]; omega)]
    congr 2
    refine ba_ext ?_
    rw [data_extract, data_extract, data_append, data_extract, List.drop_zero, Nat.sub_zero, List.drop_append_of_le_length (by rw [List.length_take]; omega), List.take_append_of_le_length (by rw [List.length_drop, List.length_take]; omega), List.drop_take, List.take_take]
    congr 1
    omega
end Go.Proofs.YtpikebpjlhccbaaGreatDoor.PAll
