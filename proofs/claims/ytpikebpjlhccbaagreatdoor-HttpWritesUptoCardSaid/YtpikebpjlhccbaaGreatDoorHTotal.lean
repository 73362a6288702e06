/- The printed token, text, target and requestLine, as plain functions of their bytes. -/
import Derived.Test.YtpikebpjlhccbaaGreatDoorBase
import Derived.Test.YtpikebpjlhccbaaGreatDoorGiveRead
import Derived.Lib.SlTrimSet
import Derived.Test.YtpikebpjlhccbaaGreatDoorPAllx16
namespace Go.Proofs.YtpikebpjlhccbaaGreatDoor.PAll
set_option linter.unusedVariables false
set_option linter.unusedSimpArgs false
open Go.RowKit Go.Proofs.YtpikebpjlhccbaaGreatDoorW.PrintWords Base

theorem or32 : ∀ x : Fin 256, (97 ≤ Go.bits .or .u8 ((x.val : Nat) : Int) 32 ∧ Go.bits .or .u8 ((x.val : Nat) : Int) 32 ≤ 122) ↔ ((97 ≤ x.val ∧ x.val ≤ 122) ∨ (65 ≤ x.val ∧ x.val ≤ 90)) := by decide +kernel
theorem or32b (b : UInt8) : (97 ≤ Go.bits .or .u8 (b.toNat : Int) 32 ∧ Go.bits .or .u8 (b.toNat : Int) 32 ≤ 122) ↔ ((97 ≤ b.toNat ∧ b.toNat ≤ 122) ∨ (65 ≤ b.toNat ∧ b.toNat ≤ 90)) := or32 ⟨b.toNat, b.toNat_lt⟩
theorem u8_back (b : UInt8) : ((b.toNat : Int)).toNat.toUInt8 = b := by simp

theorem token_f (s : ByteArray) (hs : s.size ≤ 9223372036854775807) (k : Nat) (hk : s.size + 2 < k) :
    http_token.f k s = some (tokenB s.data.toList) := by
  have hsz := size_eq s
  unfold http_token.f
  rw [show (s.size : Int) = (s.data.toList.length : Int) from by rw [hsz]]
  have h := scan0 s tokOk (fun k i => http_token.l0 k s (s.data.toList.length : Int) i) false (decide (0 < s.data.toList.length) && decide (s.data.toList.length ≤ 64)) 0 ?_ ?_ k (by omega)
  · refine Eq.trans h ?_
    unfold tokenB
    cases s.data.toList.all tokOk <;> simp
  · intro k i hi
    have hb := bt_nat s i hi
    have ho := or32b s.data.toList[i]
    have hx : (0 ≤ Lib.indexByte [33, 35, 36, 37, 38, 39, 42, 43, 45, 46, 94, 95, 96, 124, 126] s.data.toList[i]) ↔ s.data.toList[i] ∈ tokSet := indexByte_ge_zero tokSet s.data.toList[i]
    have hlt := (s.data.toList[i]).toNat_lt
    simp only [http_token.l0, strings_IndexByte.f, Option.bind_some]
    rw [if_pos (by omega), if_pos (by omega), if_pos (by omega), hb, wrap_succ hi (by omega), u8_back]
    generalize hB : s.data.toList[i] = b at *
    generalize hO : Go.bits .or .u8 (b.toNat : Int) 32 = O at *
    generalize hR : http_token.l0 k s (s.data.toList.length : Int) ((i + 1 : Nat) : Int) = R
    by_cases hp : tokOk b = true
    · rw [if_pos hp]
      unfold tokOk okL plainB at hp
      simp only [Bool.or_eq_true, Bool.and_eq_true, decide_eq_true_eq, List.contains_iff_mem] at hp
      rw [← hx] at hp
      repeat' split
      all_goals first | rfl | (exfalso; omega)
    · rw [if_neg hp]
      unfold tokOk okL plainB at hp
      simp only [Bool.or_eq_true, Bool.and_eq_true, decide_eq_true_eq, List.contains_iff_mem] at hp
      rw [← hx] at hp
      repeat' split
      all_goals first | rfl | (exfalso; omega)
  · intro k _
    simp only [http_token.l0]
    rw [if_neg (by omega)]
    by_cases h0 : s.toList = ([] : List UInt8)
    · rw [if_pos h0, (isEmpty_size s).1 h0]; rfl
    · rw [if_neg h0]
      have h1 : ¬ s.data.toList.length = 0 := fun h => h0 ((isEmpty_size s).2 h)
      rw [hsz]
      congr 1
      rw [Bool.eq_iff_iff]
      simp only [Bool.and_eq_true, decide_eq_true_eq]
      omega

theorem text_f (s : ByteArray) (hs : s.size ≤ 9223372036854775807) (k : Nat) (hk : s.size + 2 < k) :
    http_text.f k s = some (textB s.data.toList) := by
  have hsz := size_eq s
  unfold http_text.f
  rw [show (s.size : Int) = (s.data.toList.length : Int) from by rw [hsz]]
  have h := scan0 s textOk (fun k i => http_text.l0 k s (s.data.toList.length : Int) i) false true 0 ?_ ?_ k (by omega)
  · refine Eq.trans h ?_
    unfold textB
    cases s.data.toList.all textOk <;> simp
  · intro k i hi
    have hb := bt_nat s i hi
    have hlt := (s.data.toList[i]).toNat_lt
    simp only [http_text.l0]
    rw [if_pos (by omega), if_pos (by omega), if_pos (by omega), hb, wrap_succ hi (by omega)]
    generalize s.data.toList[i] = b at *
    by_cases hp : textOk b = true
    · rw [if_pos hp]
      unfold textOk at hp
      simp only [Bool.or_eq_true, Bool.and_eq_true, decide_eq_true_eq, Bool.not_eq_true', beq_eq_false_iff_ne, beq_iff_eq] at hp
      repeat' split
      all_goals first | rfl | (exfalso; omega)
    · rw [if_neg hp]
      unfold textOk at hp
      simp only [Bool.or_eq_true, Bool.and_eq_true, decide_eq_true_eq, Bool.not_eq_true', beq_eq_false_iff_ne, beq_iff_eq] at hp
      repeat' split
      all_goals first | rfl | (exfalso; omega)
  · intro k _
    simp only [http_text.l0]
    rw [if_neg (by omega)]

theorem extract_list (s : ByteArray) (a b : Nat) : (s.extract a b).toList = (s.data.toList.drop a).take (b - a) := by
  rw [toList_data, Lib.extract_data]

theorem hasPrefix_f (s p : ByteArray) : strings_HasPrefix.f s p = some (decide (p.data.toList <+: s.data.toList)) := by
  have hs := size_eq s
  have hp := size_eq p
  simp only [strings_HasPrefix.f, stringslite_HasPrefix.f]
  by_cases h : (s.size : Int) ≥ (p.size : Int)
  · rw [if_pos h, if_pos (by omega), if_pos (by omega)]
    simp only [Option.bind_some, Int.toNat_natCast]
    rw [extract_list, toList_data, Nat.sub_zero, List.drop_zero]
    congr 1
    rw [Bool.eq_iff_iff, beq_iff_eq, decide_eq_true_eq, hp, List.prefix_iff_eq_take]
    exact eq_comm
  · rw [if_neg h]
    simp only [Option.bind_some]
    congr 1
    symm
    rw [decide_eq_false_iff_not]
    intro hx
    have := hx.length_le
    omega

theorem target_f (s : ByteArray) (hs : s.size ≤ 9223372036854775807) (k : Nat) (hk : s.size + 2 < k) :
    http_target.f k s = some (targetB s.data.toList) := by
  have hsz := size_eq s
  unfold http_target.f
  rw [show (s.size : Int) = (s.data.toList.length : Int) from by rw [hsz]]
  have h := scan0 s targOk (fun k i => http_target.l0 k s (s.data.toList.length : Int) i) false (s.data.toList.head? == some 47 && decide (s.data.toList.length ≤ 256)) 0 ?_ ?_ k (by omega)
  · refine Eq.trans h ?_
    unfold targetB
    cases s.data.toList.all targOk <;> simp
  · intro k i hi
    have hb := bt_nat s i hi
    have hlt := (s.data.toList[i]).toNat_lt
    simp only [http_target.l0]
    rw [if_pos (by omega), if_pos (by omega), if_pos (by omega), hb, wrap_succ hi (by omega)]
    generalize s.data.toList[i] = b at *
    by_cases hp : targOk b = true
    · rw [if_pos hp]
      unfold targOk at hp
      simp only [Bool.and_eq_true, decide_eq_true_eq] at hp
      rw [if_neg (by omega), if_neg (by omega)]
    · rw [if_neg hp]
      unfold targOk at hp
      simp only [Bool.and_eq_true, decide_eq_true_eq] at hp
      repeat' split
      all_goals first | rfl | (exfalso; omega)
  · intro k _
    simp only [http_target.l0]
    rw [if_neg (by omega), hasPrefix_f, Option.bind_some]
    have e : (decide ((⟨#[47]⟩ : ByteArray).data.toList <+: s.data.toList) = true) ↔ s.data.toList.head? = some 47 := by
      rw [decide_eq_true_eq]
      cases s.data.toList with
      | nil => simp
      | cons b l => simp [List.cons_prefix_cons, eq_comm]
    by_cases h0 : s.data.toList.head? = some 47
    · rw [if_pos (e.2 h0), h0, hsz]
      congr 1
      rw [Bool.eq_iff_iff]
      simp; omega
    · rw [if_neg (fun h => h0 (e.1 h))]
      congr 1
      symm
      rw [Bool.and_eq_false_iff]
      left
      rw [beq_eq_false_iff_ne]
      exact h0
end Go.Proofs.YtpikebpjlhccbaaGreatDoor.PAll
/- What read says of a text's beginnings, and of what stands behind a message. And that it answers everywhere. -/
namespace Go.Proofs.YtpikebpjlhccbaaGreatDoor.PAll
set_option linter.unusedVariables false
set_option linter.unusedSimpArgs false
open Go.RowKit Go.Proofs.YtpikebpjlhccbaaGreatDoorW.PrintWords Base Go.Lib

theorem ba_ext {x y : ByteArray} (h : x.data.toList = y.data.toList) : x = y := by
  cases x; cases y
  congr 1
  exact Array.toList_inj.1 h
theorem data_extract (s : ByteArray) (a b : Nat) : (s.extract a b).data.toList = (s.data.toList.drop a).take (b - a) := Lib.extract_data s a b
theorem data_append (s t : ByteArray) : (s ++ t).data.toList = s.data.toList ++ t.data.toList := by
  rw [ByteArray.data_append, Array.toList_append]
def c4 : ByteArray := ⟨#[13, 10, 13, 10]⟩
def c2 : ByteArray := ⟨#[13, 10]⟩

/-- Where a text goes on: the same places. -/
theorem occ_take (l z sub : List UInt8) (m j : Nat) (h : m + sub.length ≤ j) (hj : j ≤ l.length) : occAt (l.take j ++ z) sub m = occAt l sub m := by
  rw [occAt_iff_take _ _ _ (by rw [List.length_append, List.length_take]; omega), occAt_iff_take _ _ _ (by omega)]
  congr 1
  rw [List.drop_append_of_le_length (by rw [List.length_take]; omega), List.take_append_of_le_length (by rw [List.length_drop, List.length_take]; omega), List.drop_take, List.take_take]
  congr 1
  omega
theorem index_keep (l z sub : List UInt8) (i j : Nat) (h : index l sub = i) (hj : j ≤ l.length) (hij : i + sub.length ≤ j) : index (l.take j ++ z) sub = i := by
  rcases index_spec l sub with ⟨h1, _⟩ | ⟨i', h1, h2, h3, h4⟩
  · omega
  · obtain rfl : i' = i := by omega
    refine index_first (by rw [List.length_append, List.length_take]; omega) (by rw [occ_take l z sub i' j hij hj]; exact h3) (fun m hm => ?_)
    rw [occ_take l z sub m j (by omega) hj]
    exact h4 m hm
theorem index_lost (l sub : List UInt8) (i j : Nat) (h : index l sub = i) (hs : sub ≠ []) (hij : j < i + sub.length) : index (l.take j) sub = -1 := by
  rcases index_spec l sub with ⟨h1, _⟩ | ⟨i', h1, h2, h3, h4⟩
  · omega
  · obtain rfl : i' = i := by omega
    refine index_none (fun m hm => ?_)
    cases hb : occAt (l.take j) sub m with
    | false => rfl
    | true =>
      have hr := (occAt_room hb).resolve_right hs
      rw [List.length_take] at hr
      have := occ_take l [] sub m (min j l.length) (by omega) (by omega)
      rw [List.append_nil, ← List.take_eq_take_min, hb] at this
      rw [h4 m (by omega)] at this
      cases this

/-- What a message is read from. -/
structure Good (kk : Nat) (rl : ByteArray → Option Bool) (hosts : Bool) (b : ByteArray) (i s : Nat) (l0 : ByteArray) (ls : List ByteArray) (xs : List S79) : Prop where
  at_ : index b.data.toList c4.data.toList = (i : Int)
  small : b.size < 4294967281
  head : i + 4 ≤ 4096
  lines : strings_Split.f (b.extract 0 i) c2 = some (l0 :: ls)
  few : ls.length ≤ 4096
  first : rl l0 = some true
  heads : headsF kk ls = some (some xs)
  fine : fineH hosts xs
  size : sizeF xs = some (some s)
  plain : ¬ (0 < (cntF xs nCoded 0 (⟨#[]⟩ : ByteArray)).1 ∨ 4096 < s)
theorem index_f (b p : ByteArray) (hb : b.size < 4294967281) : strings_Index.f b p = some (index b.data.toList p.data.toList) := by
  unfold strings_Index.f
  rw [if_pos hb]
theorem size_c4 : c4.data.toList.length = 4 := rfl
theorem index_b (b : ByteArray) : -1 ≤ index b.data.toList c4.data.toList ∧ index b.data.toList c4.data.toList ≤ b.size := by
  have h1 := index_ge b.data.toList c4.data.toList
  have h2 := index_le b.data.toList c4.data.toList
  rw [← Base.size_eq] at h2
  exact ⟨h1, h2⟩

theorem good_of {kk : Nat} {rl : ByteArray → Option Bool} {hosts : Bool} {b l0 : ByteArray} {xs : List S79} {body : ByteArray} {n : Int} (h : readF kk rl hosts b = some (.good l0 xs body n)) :
    ∃ (i s : Nat) (ls : List ByteArray), Good kk rl hosts b i s l0 ls xs ∧ i + 4 + s ≤ b.size ∧ body = b.extract (i + 4) (i + 4 + s) ∧ n = ((i + 4 + s : Nat) : Int) := by
  unfold readF at h
  obtain ⟨i, hi, h⟩ := Option.bind_eq_some_iff.mp h
  have hbs : b.size < 4294967281 := by
    unfold strings_Index.f at hi
    by_cases hb : b.size < 4294967281
    · exact hb
    · rw [if_neg hb] at hi; cases hi
  have hi' := (index_f b c4 hbs).symm.trans hi
  rw [Option.some.injEq] at hi'
  by_cases h0 : -1 ≤ i ∧ i ≤ 4611686018427387904
  rotate_left
  · rw [if_neg h0] at h; cases h
  rw [if_pos h0] at h
  by_cases h1 : (i < 0 ∧ 4096 < (b.size : Int)) ∨ 4096 < i + 4
  · rw [if_pos h1] at h; cases h
  rw [if_neg h1] at h
  by_cases h2 : i < 0
  · rw [if_pos h2] at h; cases h
  rw [if_neg h2] at h
  obtain ⟨k, rfl⟩ := Int.eq_ofNat_of_zero_le (Int.not_lt.mp h2)
  rw [Int.toNat_natCast] at h
  by_cases hkb : k + 4 ≤ b.size
  rotate_left
  · rw [if_neg hkb] at h; cases h
  rw [if_pos hkb] at h
  obtain ⟨ls, hs, h⟩ := Option.bind_eq_some_iff.mp h
  cases ls with
  | nil => cases h
  | cons l1 ls =>
    unfold restF at h
    dsimp only at h
    by_cases hls : ls.length ≤ 4096
    rotate_left
    · rw [if_neg hls] at h; cases h
    rw [if_pos hls] at h
    obtain ⟨r0, hr0, h⟩ := Option.bind_eq_some_iff.mp h
    cases r0 with
    | false => rw [if_pos rfl] at h; cases h
    | true =>
      rw [if_neg (by simp)] at h
      obtain ⟨hr, hh, h⟩ := Option.bind_eq_some_iff.mp h
      cases hr with
      | none => cases h
      | some ys =>
        simp only at h
        unfold tailF at h
        by_cases h3 : 1 < (cntF ys nLen 0 (⟨#[]⟩ : ByteArray)).1
        · rw [if_pos h3] at h; cases h
        rw [if_neg h3] at h
        by_cases h4 : hosts = true ∧ (cntF ys nHost 0 (⟨#[]⟩ : ByteArray)).1 ≠ 1
        · rw [if_pos h4] at h; cases h
        rw [if_neg h4] at h
        obtain ⟨sz, hsz, h⟩ := Option.bind_eq_some_iff.mp h
        cases sz with
        | none => cases h
        | some s =>
          simp only at h
          by_cases h5 : 0 < (cntF ys nCoded 0 (⟨#[]⟩ : ByteArray)).1 ∨ 4096 < s
          · rw [if_pos h5] at h; cases h
          rw [if_neg h5] at h
          by_cases h6 : b.size < k + 4 + s
          · rw [if_pos h6] at h; cases h
          rw [if_neg h6] at h
          simp only [Option.some.injEq, RdRes.good.injEq] at h
          obtain ⟨rfl, rfl, rfl, rfl⟩ := h
          exact ⟨k, s, ls, ⟨hi', hbs, by omega, hs, hls, hr0, hh, ⟨h3, h4⟩, hsz, h5⟩, by omega, rfl, rfl⟩

/-- And back: from what a message is read from to what is read. -/
theorem read_of {kk : Nat} {rl : ByteArray → Option Bool} {hosts : Bool} {b l0 : ByteArray} {i s : Nat} {ls : List ByteArray} {xs : List S79} (G : Good kk rl hosts b i s l0 ls xs) :
    readF kk rl hosts b = some (if b.size < i + 4 + s then .bad 3 else .good l0 xs (b.extract (i + 4) (i + 4 + s)) ((i + 4 + s : Nat) : Int)) := by
  have hr : (0 : Int) ≤ index b.data.toList c4.data.toList := by rw [G.at_]; omega
  have hroom := index_room b.data.toList c4.data.toList hr
  rw [G.at_, size_c4, ← Base.size_eq] at hroom
  have hh := G.head
  unfold readF
  rw [show strings_Index.f b (⟨#[13, 10, 13, 10]⟩ : ByteArray) = some (i : Int) from (index_f b c4 G.small).trans (congrArg some G.at_), Option.bind_some, if_pos (by omega), if_neg (by omega), if_neg (by omega), Int.toNat_natCast, if_pos (by omega),
    show strings_Split.f (b.extract 0 i) (⟨#[13, 10]⟩ : ByteArray) = some (l0 :: ls) from G.lines, Option.bind_some]
  show (if ls.length ≤ 4096 then _ else _) = _
  rw [if_pos G.few, G.first, Option.bind_some, if_neg (by simp), G.heads, Option.bind_some]
  show tailF b i hosts l0 xs = _
  unfold tailF
  rw [if_neg G.fine.1, if_neg G.fine.2, G.size, Option.bind_some]
  dsimp only
  rw [if_neg G.plain]
  split <;> rfl
theorem read_short {kk : Nat} {rl : ByteArray → Option Bool} {hosts : Bool} {b : ByteArray} (h : index b.data.toList c4.data.toList = -1) (hs : b.size ≤ 4096) : readF kk rl hosts b = some (.bad 3) := by
  unfold readF
  rw [show strings_Index.f b (⟨#[13, 10, 13, 10]⟩ : ByteArray) = some (-1) from (index_f b c4 (by omega)).trans (congrArg some h), Option.bind_some, if_pos (by omega), if_neg (by omega), if_pos (by omega)]

theorem good_keep {kk : Nat} {rl : ByteArray → Option Bool} {hosts : Bool} {b l0 : ByteArray} {i s : Nat} {ls : List ByteArray} {xs : List S79} (G : Good kk rl hosts b i s l0 ls xs) (j : Nat) (hj : j ≤ b.size) (hij : i + 4 ≤ j) (z : ByteArray) (hz : (b.extract 0 j ++ z).size < 4294967281) :
    Good kk rl hosts (b.extract 0 j ++ z) i s l0 ls xs := by
  have e : (b.extract 0 j ++ z).data.toList = b.data.toList.take j ++ z.data.toList := by rw [data_append, data_extract, List.drop_zero, Nat.sub_zero]
  have hl := Base.size_eq b
  refine { G with at_ := ?_, small := hz, lines := ?_ }
  · rw [e]
    exact index_keep _ _ _ i j G.at_ (by omega) (by rw [size_c4]; exact hij)
  · rw [← G.lines]
    congr 1
    refine ba_ext ?_
    rw [data_extract, e, data_extract, List.drop_zero, List.drop_zero, Nat.sub_zero, List.take_append_of_le_length (by rw [List.length_take]; omega), List.take_take]
    congr 1
    omega

/-- A message's beginnings are not whole; what stands behind it counts for nothing. -/
theorem read_begin {kk : Nat} {rl : ByteArray → Option Bool} {hosts : Bool} {b l0 : ByteArray} {xs : List S79} {body : ByteArray} {n : Int} (h : readF kk rl hosts b = some (.good l0 xs body n)) :
    ∃ m : Nat, n = (m : Int) ∧ 1 ≤ m ∧ m ≤ b.size ∧ (∀ j, j < m → readF kk rl hosts (b.extract 0 j) = some (.bad 3)) ∧
      ∀ z, (b.extract 0 m ++ z).size < 4294967281 → readF kk rl hosts (b.extract 0 m ++ z) = some (.good l0 xs body n) := by
  obtain ⟨i, s, ls, G, h1, rfl, rfl⟩ := good_of h
  have hl := Base.size_eq b
  have hh := G.head
  have hsm := G.small
  refine ⟨i + 4 + s, rfl, by omega, h1, ?_, ?_⟩
  · intro j hj
    by_cases hij : i + 4 ≤ j
    · have hsz : (b.extract 0 j ++ (⟨#[]⟩ : ByteArray)).size = j := by rw [Base.size_eq, data_append, data_extract, List.drop_zero, Nat.sub_zero]; simp; omega
      have G' := good_keep G j (by omega) hij (⟨#[]⟩ : ByteArray) (by omega)
      have hr := read_of G'
      rw [if_pos (by omega)] at hr
      rw [← hr]
      congr 1
      exact ba_ext (by rw [data_append]; simp)
    · refine read_short ?_ ?_
      · rw [data_extract, List.drop_zero, Nat.sub_zero]
        exact index_lost _ _ i j G.at_ (by decide) (by rw [size_c4]; omega)
      · rw [Base.size_eq, data_extract, List.length_take]
        omega
  · intro z hz
    have G' := good_keep G (i + 4 + s) h1 (by omega) z hz
    rw [read_of G', if_neg (by rw [Base.size_eq, data_append, data_extract, List.length_append, List.length_take, List.length_drop]; omega)]
    congr 2
    refine ba_ext ?_
    rw [data_extract, data_extract, data_append, data_extract, List.drop_zero, Nat.sub_zero, List.drop_append_of_le_length (by rw [List.length_take]; omega), List.take_append_of_le_length (by rw [List.length_drop, List.length_take]; omega), List.drop_take, List.take_take]
    congr 1
    omega
end Go.Proofs.YtpikebpjlhccbaaGreatDoor.PAll
/- Read answers at every text of the card's bulk. -/
namespace Go.Proofs.YtpikebpjlhccbaaGreatDoor.PAll
set_option linter.unusedVariables false
set_option linter.unusedSimpArgs false
open Go.RowKit Go.Proofs.YtpikebpjlhccbaaGreatDoorW.PrintWords Base Go.Lib

theorem split_size (sep : ByteArray) : ∀ (k : Nat) (s x : ByteArray), x ∈ splitB sep 0 k s → x.size ≤ s.size := by
  intro k
  induction k with
  | zero => intro s x hx; simp only [splitB, List.mem_singleton] at hx; rw [hx]; exact Nat.le_refl _
  | succ k ih =>
    intro s x hx
    unfold splitB at hx
    split at hx
    · simp only [List.mem_singleton] at hx; rw [hx]; exact Nat.le_refl _
    · rcases List.mem_cons.1 hx with rfl | hx
      · rw [Base.size_eq, Base.size_eq, data_extract, List.length_take, List.length_drop]; omega
      · have := ih _ x hx
        rw [Base.size_eq (s.extract _ _), data_extract, List.length_take, List.length_drop] at this
        rw [Base.size_eq s]
        omega
theorem split_ne (sep : ByteArray) (k : Nat) (s : ByteArray) : splitB sep 0 k s ≠ [] := by
  cases k with
  | zero => simp [splitB]
  | succ k => unfold splitB; split <;> simp
theorem split_f (s sep : ByteArray) (hs : s.size < 4294967281) (h1 : 1 ≤ sep.size) : ∃ l ls, strings_Split.f s sep = some (l :: ls) ∧ (∀ x ∈ l :: ls, x.size ≤ s.size) ∧ ls.length ≤ s.size := by
  unfold strings_Split.f
  rw [if_pos ⟨hs, h1⟩]
  have hn := split_ne sep (countB s sep) s
  have hm := split_size sep (countB s sep) s
  have hl := splitB_length_le sep 0 (countB s sep) s
  have hc := countB_le sep h1 s.size s (Nat.le_refl _)
  cases h : splitB sep 0 (countB s sep) s with
  | nil => exact absurd h hn
  | cons l ls =>
    rw [h] at hm hl
    refine ⟨l, ls, rfl, hm, ?_⟩
    rw [List.length_cons] at hl
    omega

theorem cut_size (l sep : List UInt8) : (cut l sep).1.length ≤ l.length ∧ (cut l sep).2.1.length ≤ l.length := by
  unfold cut
  split
  · simp only [List.length_take, List.length_drop]; omega
  · simp
theorem dropWhile_length {α : Type} (p : α → Bool) (l : List α) : (l.dropWhile p).length ≤ l.length := by
  induction l with
  | nil => simp
  | cons a l ih => rw [List.dropWhile_cons]; split <;> simp <;> omega
theorem trim_size (l cs : List UInt8) : (trimS l cs).length ≤ l.length := by
  unfold trimS trimLeftS trimRightS
  have h1 := dropWhile_length (cs.contains ·) (l.reverse.dropWhile (cs.contains ·)).reverse
  have h2 := dropWhile_length (cs.contains ·) l.reverse
  simp only [List.length_reverse] at h1 h2
  omega
theorem trim_f (a b : ByteArray) (ha : a.size ≤ 9223372036854775807) (hb : b.size < 4294967281) (hc : asciiB b.data.toList = true) : strings_Trim.f a b = some ⟨(trimS a.data.toList b.data.toList).toArray⟩ := by
  unfold strings_Trim.f
  rw [if_pos ⟨ha, hb, hc⟩]
theorem cut_f (a b : ByteArray) (ha : a.size < 4294967281) : strings_Cut.f a b = some (⟨(cut a.data.toList b.data.toList).1.toArray⟩, ⟨(cut a.data.toList b.data.toList).2.1.toArray⟩, (cut a.data.toList b.data.toList).2.2) := by
  unfold strings_Cut.f
  rw [if_pos ha]
theorem size_mk (l : List UInt8) : (⟨l.toArray⟩ : ByteArray).size = l.length := by rw [Base.size_eq]

theorem head_total (k : Nat) (l : ByteArray) (hl : l.size ≤ 1000000) (hk : l.size + 2 < k) : ∃ r, headF k l = some r := by
  unfold headF
  rw [cut_f _ _ (by omega), Option.bind_some]
  have hc := cut_size l.data.toList ([58] : List UInt8)
  rw [← Base.size_eq] at hc
  dsimp only
  rw [trim_f _ _ (by rw [size_mk]; have := hc.2; exact Nat.le_trans this (by omega)) (by decide) (by decide), Option.bind_some]
  have ht := trim_size (⟨(cut l.data.toList ([58] : List UInt8)).2.1.toArray⟩ : ByteArray).data.toList ([32, 9] : List UInt8)
  split
  · exact ⟨_, rfl⟩
  · rw [token_f _ (by rw [size_mk]; exact Nat.le_trans hc.1 (by omega)) k (by rw [size_mk]; have := hc.1; exact Nat.lt_of_le_of_lt (Nat.add_le_add_right this 2) hk), Option.bind_some]
    split
    · exact ⟨_, rfl⟩
    · have hs : (trimS (⟨(cut l.data.toList ([58] : List UInt8)).2.1.toArray⟩ : ByteArray).data.toList ([32, 9] : List UInt8)).length ≤ l.size := Nat.le_trans ht hc.2
      rw [text_f _ (by rw [size_mk]; exact Nat.le_trans hs (by omega)) k (by rw [size_mk]; exact Nat.lt_of_le_of_lt (Nat.add_le_add_right hs 2) hk), Option.bind_some]
      split
      · exact ⟨_, rfl⟩
      · unfold http_small.f
        rw [if_pos (by rw [size_mk]; exact Nat.lt_of_le_of_lt hc.1 (by omega))]
        exact ⟨_, rfl⟩
theorem heads_total (k B : Nat) (hB : B ≤ 1000000) (hk : B + 2 < k) : ∀ ls : List ByteArray, (∀ x ∈ ls, x.size ≤ B) → ∃ r, headsF k ls = some r
  | [], _ => ⟨_, rfl⟩
  | l :: ls, h => by
    have hl := h l (by simp)
    obtain ⟨r, hr⟩ := head_total k l (by omega) (by omega)
    obtain ⟨q, hq⟩ := heads_total k B hB hk ls (fun x hx => h x (by simp [hx]))
    unfold headsF
    rw [hr, Option.bind_some]
    cases r with
    | none => exact ⟨_, rfl⟩
    | some r => dsimp only; rw [hq]; exact ⟨_, rfl⟩

theorem dropWhile_nil {α : Type} (p : α → Bool) : ∀ l : List α, l.dropWhile p = [] → l.all p = true
  | [], _ => rfl
  | a :: l, h => by
    rw [List.dropWhile_cons] at h
    split at h
    · rename_i ha; rw [List.all_cons, ha, dropWhile_nil p l h]; rfl
    · cases h
theorem dropWhile_first {α : Type} (p : α → Bool) : ∀ (l : List α) (a : α) (r : List α), l.dropWhile p = a :: r → p a = false
  | [], _, _, h => by cases h
  | b :: l, a, r, h => by
    rw [List.dropWhile_cons] at h
    split at h
    · exact dropWhile_first p l a r h
    · rename_i hb; cases h; simpa using hb
theorem trim_nil (l cs : List UInt8) (h : trimS l cs = []) : l.all (cs.contains ·) = true := by
  unfold trimS trimLeftS trimRightS at h
  have h1 := dropWhile_nil _ _ h
  rw [List.all_reverse] at h1
  cases h2 : l.reverse.dropWhile (cs.contains ·) with
  | nil => have := dropWhile_nil _ _ h2; rwa [List.all_reverse] at this
  | cons a r =>
    have h3 := dropWhile_first _ _ a r h2
    rw [h2, List.all_cons] at h1
    rw [h3] at h1
    cases h1
def digsL : List UInt8 := [48, 49, 50, 51, 52, 53, 54, 55, 56, 57]
theorem digs_iff : ∀ x : Fin 256, digsL.contains (UInt8.ofNat x.val) = digitB (UInt8.ofNat x.val) := by decide +kernel
theorem digs_b (c : UInt8) : digsL.contains c = digitB c := by
  have := digs_iff ⟨c.toNat, c.toNat_lt⟩
  simpa using this
theorem foldV_lt : ∀ (l : List UInt8) (acc : Nat), l.all digitB = true → foldV acc l + 1 ≤ (acc + 1) * 10 ^ l.length
  | [], acc, _ => by simp [foldV]
  | c :: l, acc, h => by
    simp only [List.all_cons, Bool.and_eq_true] at h
    have hc := (digitB_iff c).1 h.1
    have := foldV_lt l (acc * 10 + (c.toNat - 48)) h.2
    rw [show foldV acc (c :: l) = foldV (acc * 10 + (c.toNat - 48)) l from rfl, List.length_cons, Nat.pow_succ]
    refine Nat.le_trans this ?_
    rw [Nat.mul_comm (10 ^ l.length) 10, ← Nat.mul_assoc]
    exact Nat.mul_le_mul_right _ (by omega)
theorem atoi_digits (l : List UInt8) (h0 : l ≠ []) (h1 : l.all digitB = true) (h2 : l.length ≤ 9) : atoiAll l = .ok (valN l : Int) := by
  have hv := foldV_lt l 0 h1
  have hp : (10 : Nat) ^ l.length ≤ 10 ^ 9 := Nat.pow_le_pow_right (by decide) h2
  have hv2 : valN l ≤ 1000000000 := by
    show foldV 0 l ≤ _
    have e : (10 : Nat) ^ 9 = 1000000000 := by decide
    omega
  obtain ⟨c, r, rfl⟩ : ∃ c r, l = c :: r := by cases l with | nil => exact absurd rfl h0 | cons c r => exact ⟨c, r, rfl⟩
  have hc : 48 ≤ c.toNat ∧ c.toNat ≤ 57 := (digitB_iff c).1 (by simp only [List.all_cons, Bool.and_eq_true] at h1; exact h1.1)
  have hp : parseMag (c :: r) = .ok (valN (c :: r)) := by
    unfold parseMag
    rw [if_neg h0]
    exact parse_ok (c :: r) 0 h1 (Nat.le_trans hv2 (by decide))
  unfold atoiAll
  dsimp only
  rw [if_neg (by omega), hp]
  dsimp only
  rw [if_neg (by omega), if_neg (by omega), if_neg (by omega)]

/-- How long the body is said to be, plain. -/
theorem size_total (xs : List S79) : ∃ r, sizeF xs = some r := by
  unfold sizeF
  generalize cntF xs nLen 0 (⟨#[]⟩ : ByteArray) = c
  obtain ⟨n, v⟩ := c
  dsimp only
  split
  · split
    · exact ⟨_, rfl⟩
    · rename_i hne
      split
      · exact ⟨_, rfl⟩
      · rename_i h9
        rw [trim_f _ _ (by omega) (by decide) (by decide), Option.bind_some]
        split
        · exact ⟨_, rfl⟩
        · rename_i ht
          rw [Base.toList_data] at hne
          have ht' := Decidable.not_not.mp ht
          rw [Base.toList_data] at ht'
          have ha := trim_nil _ _ ht'
          have ha2 : v.data.toList.all digitB = true := by
            rw [← ha]
            congr 1
            funext c
            exact (digs_b c).symm
          unfold strconv_Atoi.f
          rw [if_pos (by omega), atoi_digits _ hne ha2 (by rw [← Base.size_eq]; omega)]
          dsimp only
          rw [Option.bind_some]
          dsimp only
          rw [if_pos (by omega)]
          exact ⟨_, rfl⟩
  · exact ⟨_, rfl⟩

theorem read_total (kk : Nat) (rl : ByteArray → Option Bool) (hosts : Bool) (b : ByteArray) (hb : b.size ≤ 1000000000) (hrl : ∀ l, l.size ≤ 4096 → ∃ r, rl l = some r) (hk : 4098 < kk) : ∃ r, readF kk rl hosts b = some r := by
  have hi := index_b b
  unfold readF
  rw [show strings_Index.f b (⟨#[13, 10, 13, 10]⟩ : ByteArray) = _ from index_f b c4 (by omega), Option.bind_some]
  cases hx : index b.data.toList c4.data.toList with
  | negSucc m => 
    rw [hx] at hi
    rw [if_pos (by omega)]
    split
    · exact ⟨_, rfl⟩
    · rw [if_pos (by omega)]; exact ⟨_, rfl⟩
  | ofNat i =>
    rw [hx] at hi
    rw [if_pos (by simp only [Int.ofNat_eq_natCast] at *; omega)]
    split
    · exact ⟨_, rfl⟩
    · rename_i h1
      rw [if_neg (by simp only [Int.ofNat_eq_natCast] at *; omega)]
      have hr : (0 : Int) ≤ index b.data.toList c4.data.toList := by rw [hx]; simp
      have hroom := index_room b.data.toList c4.data.toList hr
      rw [hx, size_c4, ← Base.size_eq] at hroom
      simp only [Int.ofNat_eq_natCast, Int.toNat_natCast] at *
      rw [if_pos (by omega)]
      have hse : (b.extract 0 i).size ≤ i := by rw [Base.size_eq, data_extract, List.length_take]; omega
      obtain ⟨l0, ls, hs, hm, hl⟩ := split_f (b.extract 0 i) c2 (by omega) (by decide)
      rw [show strings_Split.f (b.extract 0 i) (⟨#[13, 10]⟩ : ByteArray) = some (l0 :: ls) from hs, Option.bind_some]
      show ∃ r, (if ls.length ≤ 4096 then _ else _) = some r
      rw [if_pos (by omega)]
      obtain ⟨r0, hr0⟩ := hrl l0 (by have := hm l0 (by simp); omega)
      rw [hr0, Option.bind_some]
      split
      · exact ⟨_, rfl⟩
      · obtain ⟨hr, hh⟩ := heads_total kk 4096 (by decide) hk ls (fun x hx => by have := hm x (by simp [hx]); omega)
        rw [hh, Option.bind_some]
        cases hr with
        | none => exact ⟨_, rfl⟩
        | some xs =>
          dsimp only
          unfold tailF
          split
          · exact ⟨_, rfl⟩
          · split
            · exact ⟨_, rfl⟩
            · obtain ⟨sz, hsz⟩ := size_total xs
              rw [hsz, Option.bind_some]
              cases sz with
              | none => exact ⟨_, rfl⟩
              | some s =>
                dsimp only
                split
                · exact ⟨_, rfl⟩
                · split <;> exact ⟨_, rfl⟩

theorem rdOf_mem (l : List ByteArray) (i : Nat) (h : i < l.length) : rdOf ByteArray.empty l (i : Int) ∈ l := by
  unfold rdOf
  rw [Int.toNat_natCast, List.getD_eq_getElem?_getD, List.getElem?_eq_getElem h, Option.getD_some]
  exact List.getElem_mem h
theorem request_j0_total (k : Nat) (L : List ByteArray) (h : (L.length : Int) = 3) (fl : Bool) : ∃ r, http_requestLine.j0 (k + 1) L fl = some r := by
  rw [http_requestLine.j0]
  cases fl with
  | true => exact ⟨_, rfl⟩
  | false => rw [if_neg Bool.false_ne_true, if_pos (by omega), if_pos (by omega)]; exact ⟨_, rfl⟩
theorem requestLine_total (k : Nat) (s : ByteArray) (hs : s.size ≤ 1000000) (hk : s.size + 2 < k) : ∃ r, http_requestLine.f k s = some r := by
  obtain ⟨k, rfl⟩ : ∃ m, k = m + 1 := ⟨k - 1, by omega⟩
  obtain ⟨l0, ls, h, hm, hl⟩ := split_f s (⟨#[32]⟩ : ByteArray) (by omega) (by decide)
  unfold http_requestLine.f
  rw [h, Option.bind_some]
  generalize l0 :: ls = L at hm
  by_cases h3 : (L.length : Int) = 3
  · have J := request_j0_total k L h3
    rw [if_pos h3, if_pos (by omega)]
    have m0 := hm _ (rdOf_mem L 0 (by omega))
    have m1 := hm _ (rdOf_mem L 1 (by omega))
    simp only [Int.natCast_zero, Int.natCast_one] at m0 m1
    rw [token_f _ (by omega) (k + 1) (by omega), Option.bind_some]
    split
    · rw [if_pos (by omega), target_f _ (by omega) (k + 1) (by omega), Option.bind_some]
      split
      · rw [if_pos (by omega)]
        exact J _
      · exact J _
    · exact J _
  · rw [if_neg h3]
    rw [http_requestLine.j0]
    exact ⟨_, rfl⟩
theorem request_1_total (k : Nat) (hk : 4098 < k) (l : ByteArray) (hl : l.size ≤ 4096) : ∃ r, http_ReadRequest_1.f k l = some r := by
  obtain ⟨r, hr⟩ := requestLine_total k l (by omega) (by omega)
  unfold http_ReadRequest_1.f
  rw [hr]
  exact ⟨_, rfl⟩
/-- An error's number is none of 0. -/
theorem bad_ne (kk : Nat) (rl : ByteArray → Option Bool) (hosts : Bool) (b : ByteArray) (n : Int) (h : readF kk rl hosts b = some (.bad n)) : n ≠ 0 := by
  unfold readF at h
  obtain ⟨i, hi, h⟩ := Option.bind_eq_some_iff.mp h
  have key : ∀ {P : Prop} [Decidable P] {x y : Option RdRes}, (if P then x else y) = some (.bad n) → (x = some (.bad n) ∨ y = some (.bad n)) := by
    intro P _ x y h
    split at h
    · exact .inl h
    · exact .inr h
  have bad : ∀ m : Int, m ≠ 0 → (some (RdRes.bad m) = some (.bad n)) → n ≠ 0 := by
    intro m hm h
    cases h
    exact hm
  rcases key h with h | h
  · rcases key h with h | h
    · exact bad 2 (by decide) h
    · rcases key h with h | h
      · exact bad 3 (by decide) h
      · rcases key h with h | h
        · obtain ⟨ls, hs, h⟩ := Option.bind_eq_some_iff.mp h
          cases ls with
          | nil => cases h
          | cons l0 ls =>
            unfold restF at h
            dsimp only at h
            rcases key h with h | h
            · obtain ⟨r0, hr0, h⟩ := Option.bind_eq_some_iff.mp h
              rcases key h with h | h
              · exact bad 220 (by decide) h
              · obtain ⟨hr, hh, h⟩ := Option.bind_eq_some_iff.mp h
                cases hr with
                | none => exact bad 220 (by decide) h
                | some xs =>
                  unfold tailF at h
                  rcases key h with h | h
                  · exact bad 220 (by decide) h
                  · rcases key h with h | h
                    · exact bad 220 (by decide) h
                    · obtain ⟨sz, hsz, h⟩ := Option.bind_eq_some_iff.mp h
                      cases sz with
                      | none => exact bad 222 (by decide) h
                      | some s =>
                        dsimp only at h
                        rcases key h with h | h
                        · exact bad 222 (by decide) h
                        · rcases key h with h | h
                          · exact bad 3 (by decide) h
                          · cases h
            · cases h
        · cases h
  · cases h
theorem line_size {kk : Nat} {rl : ByteArray → Option Bool} {hosts : Bool} {b l0 : ByteArray} {i s : Nat} {ls : List ByteArray} {xs : List S79} (G : Good kk rl hosts b i s l0 ls xs) : l0.size ≤ 4096 := by
  have h := G.lines
  have hh := G.head
  have hse : (b.extract 0 i).size ≤ i := by rw [Base.size_eq, data_extract, List.length_take]; omega
  obtain ⟨l1, l2, hs, hm, hl⟩ := split_f (b.extract 0 i) c2 (by omega) (by decide)
  rw [h] at hs
  cases hs
  have := hm l0 (by simp)
  omega
end Go.Proofs.YtpikebpjlhccbaaGreatDoor.PAll
/- What ReadRequest answers, at every late enough round. -/
namespace Go.Proofs.YtpikebpjlhccbaaGreatDoor.PAll
set_option linter.unusedVariables false
set_option linter.unusedSimpArgs false
open Go.RowKit Go.Proofs.YtpikebpjlhccbaaGreatDoorW.PrintWords Base Go.Lib

theorem awake_f : pennantlaw22_awake.f 200 = some true := by decide +kernel
theorem mono_up {α : Type} (f : Nat → Option α) (h : ∀ k, LeO (f k) (f (k + 1))) {k j : Nat} (hkj : k ≤ j) {r : α} (hr : f k = some r) : f j = some r := by
  induction hkj with
  | refl => exact hr
  | step _ ih => exact h _ _ ih
theorem awake_up (k : Nat) (hk : 200 ≤ k) : pennantlaw22_awake.f k = some true := mono_up (fun k => pennantlaw22_awake.f k) (fun k => pennantlaw22_awake.mono k) hk awake_f

/-- What ReadRequest answers: an error and nothing else, or a request that is whole. -/
theorem request_cases (k : Nat) (hk : 4098 < k) (b : ByteArray) (hb : b.size ≤ 1000000000) :
    (∃ n : Int, n ≠ 0 ∧ http_ReadRequest.f k b = some ((⟨#[]⟩ : ByteArray), (⟨#[]⟩ : ByteArray), (⟨#[]⟩ : ByteArray), (⟨#[]⟩ : ByteArray), (⟨#[]⟩ : ByteArray), 0, n)) ∨
    (∃ (r1 r2 r3 r4 r5 : ByteArray) (m : Nat), http_ReadRequest.f k b = some (r1, r2, r3, r4, r5, (m : Int), 0) ∧ 1 ≤ m ∧ m ≤ b.size ∧
      (∀ j, j < m → http_ReadRequest.f k (b.extract 0 j) = some ((⟨#[]⟩ : ByteArray), (⟨#[]⟩ : ByteArray), (⟨#[]⟩ : ByteArray), (⟨#[]⟩ : ByteArray), (⟨#[]⟩ : ByteArray), 0, 3)) ∧
      (∀ z, (b.extract 0 m ++ z).size < 4294967281 → http_ReadRequest.f k (b.extract 0 m ++ z) = some (r1, r2, r3, r4, r5, (m : Int), 0))) := by
  obtain ⟨r, hr⟩ := read_total k (http_ReadRequest_1.f k) true b hb (request_1_total k hk) hk
  cases r with
  | bad n =>
    left
    refine ⟨n, ?_, by unfold http_ReadRequest.f; rw [hr]; rfl⟩
    exact bad_ne k _ true b n hr
  | good l0 xs body n =>
    right
    obtain ⟨m, rfl, h1, h2, h3, h4⟩ := read_begin hr
    obtain ⟨i, s, ls, G, g1, g2, g3⟩ := good_of hr
    obtain ⟨q, hq⟩ := requestLine_total k l0 (by have := line_size G; omega) (by have := line_size G; omega)
    refine ⟨q.1, q.2.1, (cntF xs nHost 0 (⟨#[]⟩ : ByteArray)).2, (cntF xs nType 0 (⟨#[]⟩ : ByteArray)).2, body, m, ?_, h1, h2, ?_, ?_⟩
    · unfold http_ReadRequest.f
      rw [hr, Option.bind_some]
      dsimp only
      rw [hq]
      rfl
    · intro j hj
      unfold http_ReadRequest.f
      rw [h3 j hj]
      rfl
    · intro z hz
      unfold http_ReadRequest.f
      rw [h4 z hz, Option.bind_some]
      dsimp only
      rw [hq]
      rfl
/-- The same at one round less. -/
theorem request_at (k : Nat) (hk : 4098 < k) (b : ByteArray) (hb : b.size ≤ 1000000000) {r1 r2 r3 r4 r5 : ByteArray} {m : Nat} (h : http_ReadRequest.f (k + 1) b = some (r1, r2, r3, r4, r5, (m : Int), 0)) :
    http_ReadRequest.f k b = some (r1, r2, r3, r4, r5, (m : Int), 0) ∧
      (∀ j, j < m → http_ReadRequest.f k (b.extract 0 j) = some ((⟨#[]⟩ : ByteArray), (⟨#[]⟩ : ByteArray), (⟨#[]⟩ : ByteArray), (⟨#[]⟩ : ByteArray), (⟨#[]⟩ : ByteArray), 0, 3)) ∧
      (∀ z, (b.extract 0 m ++ z).size < 4294967281 → http_ReadRequest.f k (b.extract 0 m ++ z) = some (r1, r2, r3, r4, r5, (m : Int), 0)) := by
  rcases request_cases k hk b hb with ⟨n, hn, hf⟩ | ⟨q1, q2, q3, q4, q5, n, hf, m1, m2, m3, m4⟩
  · have := http_ReadRequest.mono b k _ hf
    rw [h] at this
    simp only [Option.some.injEq, Prod.mk.injEq] at this
    exact absurd this.2.2.2.2.2.2.symm hn
  · have := http_ReadRequest.mono b k _ hf
    rw [h] at this
    simp only [Option.some.injEq, Prod.mk.injEq] at this
    obtain ⟨rfl, rfl, rfl, rfl, rfl, e, _⟩ := this
    obtain rfl : m = n := by omega
    exact ⟨hf, m3, m4⟩

theorem wrap_small {i : Int} (h0 : 0 ≤ i) (h1 : i ≤ 9223372036854775807) : wrap64 i = i := by unfold wrap64; omega
end Go.Proofs.YtpikebpjlhccbaaGreatDoor.PAll
