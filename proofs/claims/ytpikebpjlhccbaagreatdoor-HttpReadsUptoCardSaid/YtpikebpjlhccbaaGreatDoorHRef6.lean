/- The reference's small letters and its status: the program's. -/
import Derived.Test.YtpikebpjlhccbaaGreatDoorHRef5
import Derived.Lib.TrimAscii
import Derived.Lib.RuneBytes
namespace Go.Proofs.YtpikebpjlhccbaaGreatDoor.PAll
set_option linter.unusedVariables false
set_option linter.unusedSimpArgs false
open Go.RowKit Go.Proofs.YtpikebpjlhccbaaGreatDoorW.PrintWords Base Go.Lib

def low (b : UInt8) : UInt8 := if 65 ≤ b.toNat ∧ b.toNat ≤ 90 then b + 32 else b
theorem low_a : ∀ x : Fin 256, 65 ≤ x.val → x.val ≤ 90 → (strOfNums [((x.val : Int) + 32) % 256]).data.toList = [low (UInt8.ofNat x.val)] := by decide +kernel
theorem low_b : ∀ x : Fin 256, ¬ (65 ≤ x.val ∧ x.val ≤ 90) → (strOfNums [(x.val : Int)]).data.toList = [low (UInt8.ofNat x.val)] := by decide +kernel
theorem low_nums (b : UInt8) (h : 65 ≤ b.toNat ∧ b.toNat ≤ 90) : (strOfNums [((b.toNat : Int) + 32) % 256]).data.toList = [low b] := by
  have := low_a ⟨b.toNat, b.toNat_lt⟩ h.1 h.2
  simpa using this
theorem low_nums2 (b : UInt8) (h : ¬ (65 ≤ b.toNat ∧ b.toNat ≤ 90)) : (strOfNums [(b.toNat : Int)]).data.toList = [low b] := by
  have := low_b ⟨b.toNat, b.toNat_lt⟩ h
  simpa using this
theorem one_size {s : ByteArray} {c : UInt8} (h : s.data.toList = [c]) : s.size = 1 := by rw [Base.size_eq, h]; rfl
theorem small_step (s : ByteArray) (hs : s.size ≤ 1000000) (i k : Nat) (hi : i < s.data.toList.length) (out : ByteArray) (ho : out.size ≤ 1000000) :
    ∃ y : ByteArray, y.data.toList = [low (s.data.toList[i])] ∧ pennantref22_Small.l0 (k + 1) s out (i : Int) = pennantref22_Small.l0 k s (out ++ y) ((i + 1 : Nat) : Int) := by
  have hsz := Base.size_eq s
  have hb := bt_nat s i hi
  have a1 : (i : Int) < (s.size : Int) := by omega
  have a2 : (0 : Int) ≤ (i : Int) := by omega
  have hw : wrap64 ((i : Int) + 1) = ((i + 1 : Nat) : Int) := wrap_succ hi (by omega)
  generalize s.data.toList[i] = b at hb ⊢
  by_cases h1 : 65 ≤ b.toNat ∧ b.toNat ≤ 90
  · have hn := low_nums b h1
    refine ⟨_, hn, ?_⟩
    have b1 : (b.toNat : Int) ≥ 65 := by omega
    have b2 : (b.toNat : Int) ≤ 90 := by omega
    have hz := one_size hn
    rw [pennantref22_Small.l0]
    simp only [if_pos a1, if_pos a2, hb, if_pos b1, if_pos b2, Option.bind_some, hw]
    rw [if_pos (by omega)]
  · have hn := low_nums2 b h1
    refine ⟨_, hn, ?_⟩
    have hz := one_size hn
    rw [pennantref22_Small.l0]
    simp only [if_pos a1, if_pos a2, hb, Option.bind_some, hw]
    by_cases b1 : (b.toNat : Int) ≥ 65
    · have b2 : ¬ (b.toNat : Int) ≤ 90 := by omega
      rw [if_pos b1, if_neg b2, if_pos (by omega)]
    · rw [if_neg b1, if_pos (by omega)]
theorem small_l0 (s : ByteArray) (hs : s.size ≤ 1000000) : ∀ (d i : Nat) (out : ByteArray) (k : Nat), i + d = s.size → out.size ≤ i → d + 1 < k → pennantref22_Small.l0 k s out (i : Int) = some (ofB (out.data.toList ++ (s.data.toList.drop i).map low)) := by
  have hsz := Base.size_eq s
  intro d
  induction d with
  | zero =>
    intro i out k hi ho hk
    obtain ⟨k, rfl⟩ : ∃ m, k = m + 1 := ⟨k - 1, by omega⟩
    have a1 : ¬ (i : Int) < (s.size : Int) := by omega
    rw [pennantref22_Small.l0, if_neg a1, List.drop_eq_nil_of_le (by omega)]
    congr 1
    exact ba_ext (by simp [ofB])
  | succ d ih =>
    intro i out k hi ho hk
    obtain ⟨k, rfl⟩ : ∃ m, k = m + 1 := ⟨k - 1, by omega⟩
    have hlt : i < s.data.toList.length := by omega
    obtain ⟨y, hy, he⟩ := small_step s hs i k hlt out (by omega)
    have hz := one_size hy
    rw [he, ih (i + 1) (out ++ y) k (by omega) (by rw [Base.size_eq, data_append, List.length_append, ← Base.size_eq, ← Base.size_eq]; omega) (by omega), data_append, hy, List.drop_eq_getElem_cons hlt, List.map_cons]
    simp
theorem ref_small_f (k : Nat) (s : ByteArray) (hs : s.size ≤ 1000000) (hk : s.size + 1 < k) : pennantref22_Small.f k s = some (ofB (s.data.toList.map low)) := by
  unfold pennantref22_Small.f
  have := small_l0 s hs s.size 0 (⟨#[]⟩ : ByteArray) k (by omega) (Nat.le_refl _) hk
  rw [show ((0 : Nat) : Int) = 0 from rfl, List.drop_zero] at this
  rw [this]
  rfl

theorem low_enc : ∀ x : Fin 128, encodeRune (lowMap (x.val : Int)) = [low (UInt8.ofNat x.val)] ∧ 0 ≤ lowMap (x.val : Int) := by decide +kernel
theorem mapD_low : ∀ l : List UInt8, (∀ b ∈ l, b.toNat < 128) → mapD lowMap l = l.map low
  | [], _ => rfl
  | b :: l, h => by
    have hb : b.toNat < 128 := h b (by simp)
    obtain ⟨e1, e2⟩ := low_enc ⟨b.toNat, hb⟩
    simp only [UInt8.ofNat_toNat] at e1 e2
    rw [mapD_step lowMap (b :: l) (by simp), decodeL_ascii b l hb]
    dsimp only
    rw [if_pos e2, e1, List.drop_succ_cons, List.drop_zero, mapD_low l (fun c hc => h c (by simp [hc]))]
    rfl
theorem tok_ascii : ∀ x : Fin 256, tokOk (UInt8.ofNat x.val) = true → x.val < 128 := by decide +kernel
theorem small_same (s : ByteArray) (hs : s.size ≤ 1000000) (ht : tokenB s.data.toList = true) (k : Nat) (hk : s.size + 1 < k) : http_small.f s = pennantref22_Small.f k s := by
  rw [ref_small_f k s hs hk]
  unfold http_small.f
  rw [if_pos (by omega), mapD_low]
  · rfl
  · intro b hb
    unfold tokenB at ht
    rw [Bool.and_eq_true, List.all_eq_true] at ht
    have := tok_ascii ⟨b.toNat, b.toNat_lt⟩
    simp only [UInt8.ofNat_toNat] at this
    exact this (ht.1 b hb)

/-! The status. -/
theorem cutPrefix_f (s p : ByteArray) : strings_CutPrefix.f s p = some (if p.data.toList <+: s.data.toList then (s.extract p.size s.size, true) else (s, false)) := by
  have hsz := Base.size_eq s
  have hpz := Base.size_eq p
  have hp := hasPrefix_f s p
  have hp2 : stringslite_HasPrefix.f s p = some (decide (p.data.toList <+: s.data.toList)) := by
    revert hp
    unfold strings_HasPrefix.f
    cases stringslite_HasPrefix.f s p with
    | none => intro h; cases h
    | some t => intro h; exact h
  unfold strings_CutPrefix.f stringslite_CutPrefix.f
  rw [hp2, Option.bind_some]
  by_cases h : p.data.toList <+: s.data.toList
  · have hl := h.length_le
    rw [if_pos (decide_eq_true h), if_pos h, if_pos (by omega), if_pos (by omega), Int.toNat_natCast]
    rfl
  · rw [if_neg (by simpa using h), if_neg h]
    rfl
theorem bt_list (s : ByteArray) (i : Nat) (L : List UInt8) (hL : s.data.toList = L) (h : i < L.length) : bt s (i : Int) = ((L[i]'h).toNat : Int) := by
  subst hL
  exact bt_nat s i h
theorem tail_data (s : ByteArray) (a : Nat) (ha : a ≤ s.size) : (s.extract a s.size).data.toList = s.data.toList.drop a := by
  have hsz := Base.size_eq s
  rw [data_extract]
  exact List.take_of_length_le (by rw [List.length_drop]; omega)
theorem bt_tail (s : ByteArray) (a i : Nat) (h : a + i < s.size) : bt (s.extract a s.size) (i : Int) = bt s ((a + i : Nat) : Int) := by
  have hsz := Base.size_eq s
  rw [bt_list _ i _ (tail_data s a (by omega)) (by rw [List.length_drop]; omega), bt_nat s (a + i) (by omega), List.getElem_drop]
def v9 : ByteArray := ⟨#[72, 84, 84, 80, 47, 49, 46, 49, 32]⟩
theorem digits_text (l : List UInt8) (h : l.all digitB = true) : l.all textOk = true := by
  rw [List.all_eq_true] at h ⊢
  intro c hc
  have := (digitB_iff c).1 (h c hc)
  unfold textOk
  simp only [Bool.and_eq_true, Bool.or_eq_true, decide_eq_true_eq, beq_iff_eq, Bool.not_eq_true', beq_eq_false_iff_ne]
  omega
theorem trim_digits (v : ByteArray) (hz : v.size ≤ 9223372036854775807) : ∃ t, strings_Trim.f v (⟨#[48, 49, 50, 51, 52, 53, 54, 55, 56, 57]⟩ : ByteArray) = some t ∧ (t.toList = ([] : List UInt8) ↔ v.data.toList.all digitB = true) := by
  refine ⟨_, trim_f v _ hz (by decide) (by decide), ?_⟩
  have hfun : (fun c : UInt8 => digsL.contains c) = digitB := funext digs_b
  rw [Base.toList_data]
  constructor
  · intro h
    have ha := trim_nil _ _ h
    rw [← ha]
    exact congrArg (fun f => v.data.toList.all f) hfun.symm
  · intro h
    exact trim_all _ _ (by rw [← h]; exact congrArg (fun f => v.data.toList.all f) hfun)
theorem status_same (k : Nat) (s : ByteArray) (hs : s.size ≤ 1000000) (hk : 3000000 ≤ k) :
    ∃ (n : Int) (ok : Bool), http_statusLine.f k s = some (n, ok) ∧ pennantref22_Status.f k s = some (if ok = true then n else -1) ∧ 0 ≤ n := by
  obtain ⟨k, rfl⟩ : ∃ m, k = m + 1 := ⟨k - 1, by omega⟩
  have hsz := Base.size_eq s
  have hj1 : pennantref22_Status.j0 (k + 1) s true = some (-1) := rfl
  unfold http_statusLine.f pennantref22_Status.f
  rw [cutPrefix_f s, Option.bind_some]
  by_cases h12 : s.size < 12
  · refine ⟨0, false, ?_, ?_, by decide⟩
    · by_cases hp : (⟨#[72, 84, 84, 80, 47, 49, 46, 49, 32]⟩ : ByteArray).data.toList <+: s.data.toList
      · have he : (s.extract 9 s.size).size = s.size - 9 := by rw [Base.size_eq, data_extract, List.length_take, List.length_drop, ← hsz]; omega
        rw [if_pos hp]
        show (if true = true then _ else _) = _
        rw [if_pos rfl]
        show (if ((s.extract 9 s.size).size : Int) < 3 then _ else _) = _
        rw [if_pos (by omega)]
      · rw [if_neg hp]
        rfl
    · rw [if_pos (by omega), hj1]
      rfl
  have e9 : (s.extract 0 9).toList = s.data.toList.take 9 := by rw [Base.toList_data, data_extract, List.drop_zero]
  rw [if_neg (show ¬ (s.size : Int) < 12 by omega), if_pos (show (0 : Nat) ≤ 9 by decide), if_pos (show (9 : Int) ≤ (s.size : Int) by omega), e9]
  by_cases hp : (⟨#[72, 84, 84, 80, 47, 49, 46, 49, 32]⟩ : ByteArray).data.toList <+: s.data.toList
  rotate_left
  · have hne : ¬ s.data.toList.take 9 = ([72, 84, 84, 80, 47, 49, 46, 49, 32] : List UInt8) := fun h => hp (by rw [List.prefix_iff_eq_take]; exact h.symm)
    rw [if_neg hp, if_neg hne, hj1]
    exact ⟨0, false, rfl, rfl, by decide⟩
  have heq : s.data.toList.take 9 = ([72, 84, 84, 80, 47, 49, 46, 49, 32] : List UInt8) := (List.prefix_iff_eq_take.1 hp).symm
  rw [if_pos hp, if_pos heq, if_pos (show (9 : Int) < (s.size : Int) by omega)]
  have s9 : (⟨#[72, 84, 84, 80, 47, 49, 46, 49, 32]⟩ : ByteArray).size = 9 := rfl
  dsimp only
  rw [s9]
  have he : (s.extract 9 s.size).data.toList = s.data.toList.drop 9 := tail_data s 9 (by omega)
  have hez : (s.extract 9 s.size).size = s.size - 9 := by rw [Base.size_eq, he, List.length_drop, ← hsz]
  have hx3 : (s.extract 9 s.size).extract 0 3 = s.extract 9 12 := by
    refine ba_ext ?_
    rw [data_extract, he, data_extract, List.drop_zero]
  rw [if_pos rfl, if_neg (by omega), if_pos (by omega)]
  have hb0 : bt (s.extract 9 s.size) 0 = bt s 9 := bt_tail s 9 0 (by omega)
  have hb3 : 12 < s.size → bt (s.extract 9 s.size) 3 = bt s 12 := fun h => bt_tail s 9 3 (by omega)
  rw [hb0]
  by_cases h1 : bt s 9 < 49
  · rw [if_pos h1, if_pos h1, hj1]
    exact ⟨0, false, rfl, rfl, by decide⟩
  rw [if_neg h1, if_neg h1]
  by_cases h2 : bt s 9 > 53
  · rw [if_pos h2, decide_eq_true h2, hj1]
    exact ⟨0, false, rfl, rfl, by decide⟩
  rw [if_neg h2, decide_eq_false h2, if_pos (show (0 : Nat) ≤ 3 by decide), if_pos (show (3 : Int) ≤ ((s.extract 9 s.size).size : Int) by omega), hx3]
  have hzz : (s.extract 9 12).size = 3 := by rw [Base.size_eq, data_extract, List.length_take, List.length_drop, ← hsz]; omega
  obtain ⟨t, ht, hti⟩ := trim_digits (s.extract 9 12) (by omega)
  rw [ht, Option.bind_some, pennantref22_Status.j0, if_neg Bool.false_ne_true, if_pos (show (9 : Nat) ≤ 12 by decide), if_pos (show (12 : Int) ≤ (s.size : Int) by omega)]
  have hr := ref_digits_f k (s.extract 9 12) (by omega) (by omega)
  by_cases hd : (s.extract 9 12).data.toList.all digitB = true
  rotate_left
  · rw [if_neg (fun h => hd h.1)] at hr
    rw [if_neg (fun h => hd (hti.1 h)), hr, Option.bind_some, if_pos (show (-1 : Int) < 0 by decide)]
    exact ⟨0, false, rfl, rfl, by decide⟩
  have hat : strconv_Atoi.f (s.extract 9 12) = some ((valN (s.extract 9 12).data.toList : Int), none) := by
    unfold strconv_Atoi.f
    rw [if_pos (by omega), atoi_digits _ (by intro h; rw [Base.size_eq, h] at hzz; cases hzz) hd (by rw [← Base.size_eq]; omega)]
  have hV : ¬ ((valN (s.extract 9 12).data.toList : Nat) : Int) < 0 := by omega
  rw [if_pos ⟨hd, by omega, by omega⟩] at hr
  rw [if_pos (hti.2 hd), hr, Option.bind_some, if_neg hV]
  clear hV hr
  generalize valN (s.extract 9 12).data.toList = V at hat ⊢
  by_cases h3 : s.size > 12
  rotate_left
  · rw [if_neg (show ¬ ((s.extract 9 s.size).size : Int) > 3 by omega), if_neg (show ¬ (s.size : Int) > 12 by omega), hat]
    exact ⟨(V : Int), true, rfl, rfl, by omega⟩
  rw [if_pos (show ((s.extract 9 s.size).size : Int) > 3 by omega), if_pos (show (3 : Int) < ((s.extract 9 s.size).size : Int) by omega), hb3 h3, if_pos (show (s.size : Int) > 12 by omega), if_pos (show (12 : Int) < (s.size : Int) by omega)]
  by_cases h4 : bt s 12 = 32
  rotate_left
  · rw [if_neg h4, if_neg h4]
    exact ⟨0, false, rfl, rfl, by decide⟩
  have he12 : (s.extract 12 s.size).data.toList = s.data.toList.drop 12 := tail_data s 12 (by omega)
  have hez2 : (s.extract 12 s.size).size = s.size - 12 := by rw [Base.size_eq, he12, List.length_drop, ← hsz]
  rw [if_pos h4, if_pos h4, text_f _ (by omega) _ (by omega), ref_text_f _ (by omega) _ (by omega), Option.bind_some, Option.bind_some, he, he12]
  have htx : textB (s.data.toList.drop 9) = textB (s.data.toList.drop 12) := by
    have e : s.data.toList.drop 9 = (s.extract 9 12).data.toList ++ s.data.toList.drop 12 := by
      rw [data_extract, show 12 - 9 = 3 from rfl, show s.data.toList.drop 12 = (s.data.toList.drop 9).drop 3 from by rw [List.drop_drop], List.take_append_drop]
    rw [e]
    unfold textB
    rw [List.all_append, digits_text _ hd, Bool.true_and]
  rw [htx, hat]
  by_cases h5 : textB (s.data.toList.drop 12) = true
  · rw [if_pos h5, if_pos h5]
    exact ⟨(V : Int), true, rfl, rfl, by omega⟩
  · rw [if_neg h5, if_neg h5]
    exact ⟨0, false, rfl, rfl, by decide⟩
end Go.Proofs.YtpikebpjlhccbaaGreatDoor.PAll
