/- The reference's reading of a message: its search, and what is behind the headers, are http.read's. -/
import Derived.Test.YtpikebpjlhccbaaGreatDoorHRef2
import Derived.Test.YtpikebpjlhccbaaGreatDoorPAllx12
import Derived.Lib.TrimAscii
import Derived.Lib.RuneBytes
namespace Go.Proofs.YtpikebpjlhccbaaGreatDoor.PAll
set_option linter.unusedVariables false
set_option linter.unusedSimpArgs false
open Go.RowKit Go.Proofs.YtpikebpjlhccbaaGreatDoorW.PrintWords Base Go.Lib

theorem all_dropWhile {α : Type} (f p : α → Bool) (h : ∀ a, p a = true → f a = true) : ∀ l : List α, (l.dropWhile p).all f = l.all f
  | [] => rfl
  | a :: l => by
    rw [List.dropWhile_cons, List.all_cons]
    by_cases hp : p a = true
    · rw [if_pos hp, h a hp, Bool.true_and]; exact all_dropWhile f p h l
    · rw [if_neg hp, List.all_cons]
theorem blk_text (c : UInt8) (h : blk c = true) : textOk c = true := by
  rw [blk_iff] at h
  unfold textOk
  simp only [Bool.and_eq_true, Bool.or_eq_true, decide_eq_true_eq, beq_iff_eq, Bool.not_eq_true', beq_eq_false_iff_ne]
  omega
/-- A value's text is right with the blanks at its ends, or without. -/
theorem textB_trim (l : List UInt8) : textB (trimS l [32, 9]) = textB l := by
  rw [trim_eq]
  unfold textB TL TR
  rw [all_dropWhile textOk blk blk_text, List.all_reverse, all_dropWhile textOk blk blk_text, List.all_reverse]

abbrev RD := ByteArray × (List (S79)) × ByteArray × Int × Int
abbrev e0 : ByteArray := ⟨#[]⟩
/-- What the reference's Read hands back. -/
def resOf : RdRes → RD
  | .bad n => (e0, [], e0, 0, n)
  | .good l0 xs body n => (l0, xs, body, n, 0)

theorem read_step (b : ByteArray) (rq : Bool) (hz : b.size ≤ 1000000000) (i k : Nat) (hi : i ≤ b.size) :
    pennantref22_Read.l0 (k + 1) b rq (i : Int) = if i + 4 ≤ b.size then (if (b.extract i (i + 4)).toList = c4.toList then pennantref22_Read.j1 k b rq (i : Int) else pennantref22_Read.l0 k b rq ((i + 1 : Nat) : Int)) else pennantref22_Read.j1 k b rq (i : Int) := by
  have hw : wrap64 ((i : Int) + 4) = ((i + 4 : Nat) : Int) := by unfold wrap64; omega
  have hw1 : wrap64 ((i : Int) + 1) = ((i + 1 : Nat) : Int) := by unfold wrap64; omega
  have a1 : (0 : Int) ≤ (i : Int) := by omega
  have hc : c4.toList = ([13, 10, 13, 10] : List UInt8) := by rw [Base.toList_data]; rfl
  rw [pennantref22_Read.l0, hc]
  simp only [hw, hw1, if_pos a1, Int.toNat_natCast, Int.ofNat_le, if_pos (Nat.le_add_right i 4)]
theorem c4_ne : c4.data.toList ≠ [] := by decide
theorem read_search (b : ByteArray) (rq : Bool) (hz : b.size ≤ 1000000000) : ∀ (d i k : Nat), b.size - i ≤ d → i ≤ b.size → NoOcc b.data.toList c4.data.toList i → d + 1 < k →
    ∃ (p k' : Nat), k ≤ k' + d + 2 ∧ pennantref22_Read.l0 k b rq (i : Int) = pennantref22_Read.j1 k' b rq (p : Int) ∧ p ≤ b.size ∧ ((index b.data.toList c4.data.toList = (p : Int) ∧ p + 4 ≤ b.size) ∨ (index b.data.toList c4.data.toList = -1 ∧ b.size < p + 4)) := by
  have hsz := Base.size_eq b
  intro d
  induction d with
  | zero =>
    intro i k hd hi hno hk
    obtain ⟨k, rfl⟩ : ∃ m, k = m + 1 := ⟨k - 1, by omega⟩
    refine ⟨i, k, by omega, ?_, hi, .inr ⟨index_past c4_ne hno (by rw [size_c4]; omega), by omega⟩⟩
    rw [read_step b rq hz i k hi, if_neg (by omega)]
  | succ d ih =>
    intro i k hd hi hno hk
    obtain ⟨k, rfl⟩ : ∃ m, k = m + 1 := ⟨k - 1, by omega⟩
    rw [read_step b rq hz i k hi]
    by_cases h1 : i + 4 ≤ b.size
    · rw [if_pos h1]
      have hocc : occAt b.data.toList c4.data.toList i = ((b.extract i (i + 4)).toList == c4.toList) := by
        rw [occAt_iff_take _ _ _ (by rw [size_c4]; omega), Base.toList_data, Base.toList_data, data_extract, size_c4, show i + 4 - i = 4 from by omega]
      by_cases h2 : (b.extract i (i + 4)).toList = c4.toList
      · rw [if_pos h2]
        exact ⟨i, k, by omega, rfl, hi, .inl ⟨index_hit hno (by omega) (hocc.trans (beq_iff_eq.2 h2)), h1⟩⟩
      · rw [if_neg h2]
        obtain ⟨p, k', g1, g2, g3, g4⟩ := ih (i + 1) k (by omega) (by omega) (hno.succ (hocc.trans (beq_eq_false_iff_ne.2 h2))) (by omega)
        exact ⟨p, k', by omega, g2, g3, g4⟩
    · rw [if_neg h1]
      exact ⟨i, k, by omega, rfl, hi, .inr ⟨index_past c4_ne hno (by rw [size_c4]; omega), by omega⟩⟩

/-! Behind the headers. -/
theorem dropWhile_all {α : Type} (p : α → Bool) : ∀ l : List α, l.all p = true → l.dropWhile p = []
  | [], _ => rfl
  | a :: l, h => by
    rw [List.all_cons, Bool.and_eq_true] at h
    rw [List.dropWhile_cons, if_pos h.1]
    exact dropWhile_all p l h.2
theorem trim_all (l cs : List UInt8) (h : l.all (cs.contains ·) = true) : trimS l cs = [] := by
  unfold trimS trimLeftS trimRightS
  rw [dropWhile_all _ l.reverse (by rw [List.all_reverse]; exact h)]
  rfl
theorem size_two (v : ByteArray) :
    (if v.toList = [] then some none else if 9 < v.size then some none else
      (strings_Trim.f v (⟨#[48, 49, 50, 51, 52, 53, 54, 55, 56, 57]⟩ : ByteArray)).bind fun t => if t.toList ≠ [] then some none else (strconv_Atoi.f v).bind fun s => if 0 ≤ s.1 then some (some s.1.toNat) else none) = some (if v.data.toList.all digitB = true ∧ 1 ≤ v.size ∧ v.size ≤ 9 then some (valN v.data.toList) else none) := by
  have hsz := Base.size_eq v
  have hne : v.toList = [] ↔ v.size = 0 := by rw [Base.toList_data, hsz]; exact List.length_eq_zero_iff.symm
  by_cases h0 : v.size = 0
  · rw [if_pos (hne.2 h0), if_neg (by rintro ⟨_, h, _⟩; omega)]
  rw [if_neg (fun h => h0 (hne.1 h))]
  by_cases h9 : 9 < v.size
  · rw [if_pos h9, if_neg (by rintro ⟨_, _, h⟩; omega)]
  rw [if_neg h9, trim_f v _ (by omega) (by decide) (by decide), Option.bind_some]
  have hne2 : v.data.toList ≠ [] := fun h => h0 (by rw [hsz, h]; rfl)
  have hfun : (fun c : UInt8 => digsL.contains c) = digitB := funext digs_b
  by_cases hd : v.data.toList.all digitB = true
  · have ht : trimS v.data.toList digsL = [] := trim_all _ _ (by rw [← hd]; exact congrArg (fun f => v.data.toList.all f) hfun)
    have h1 : ((⟨(trimS v.data.toList (⟨#[48, 49, 50, 51, 52, 53, 54, 55, 56, 57]⟩ : ByteArray).data.toList).toArray⟩ : ByteArray).toList) = [] := by
      rw [Base.toList_data]; exact ht
    rw [if_neg (fun h => h h1), if_pos ⟨hd, by omega, by omega⟩]
    unfold strconv_Atoi.f
    rw [if_pos (by omega), atoi_digits _ hne2 hd (by rw [← hsz]; omega)]
    dsimp only
    rw [Option.bind_some]
    dsimp only
    rw [if_pos (by omega)]
    rfl
  · rw [if_pos, if_neg (fun h => hd h.1)]
    intro h
    rw [Base.toList_data] at h
    have ha := trim_nil _ _ h
    apply hd
    rw [← ha]
    exact congrArg (fun f => v.data.toList.all f) hfun.symm
theorem ref_j10 (k : Nat) (b : ByteArray) (hb : b.size ≤ 1000000000) (p s : Nat) (hp : p + 4 ≤ b.size) (hs : s ≤ 4096) (l0 : ByteArray) (xs : List S79) :
    pennantref22_Read.j10 (k + 1) b (s : Int) false l0 xs e0 ((p + 4 : Nat) : Int) = some (resOf (if b.size < p + 4 + s then .bad 3 else .good l0 xs (b.extract (p + 4) (p + 4 + s)) ((p + 4 + s : Nat) : Int))) := by
  have hw : wrap64 (((p + 4 : Nat) : Int) + (s : Int)) = ((p + 4 + s : Nat) : Int) := by unfold wrap64; omega
  have a1 : (0 : Int) ≤ ((p + 4 : Nat) : Int) := by omega
  have a2 : ((p + 4 : Nat) : Int) ≤ ((p + 4 + s : Nat) : Int) := by omega
  rw [pennantref22_Read.j10]
  simp only [hw, if_pos a1, if_pos a2, Bool.false_eq_true, if_false, Int.toNat_natCast]
  by_cases h : b.size < p + 4 + s
  · have h' : (b.size : Int) < ((p + 4 + s : Nat) : Int) := by omega
    rw [if_pos h, if_pos h']
    rfl
  · have h' : ¬ (b.size : Int) < ((p + 4 + s : Nat) : Int) := by omega
    have h2 : ((p + 4 + s : Nat) : Int) ≤ (b.size : Int) := by omega
    rw [if_neg h, if_neg h', if_pos h2]
    rfl
theorem ref_j9 (k : Nat) (b : ByteArray) (hb : b.size ≤ 1000000000) (p : Nat) (hp : p + 4 ≤ b.size) (l0 : ByteArray) (xs : List S79) (cd t : Int) :
    pennantref22_Read.j9 (k + 1 + 1) b cd t l0 xs e0 ((p + 4 : Nat) : Int) = some (resOf (if t < 0 then .bad 222 else if 0 < cd ∨ 4096 < t.toNat then .bad 222 else if b.size < p + 4 + t.toNat then .bad 3 else .good l0 xs (b.extract (p + 4) (p + 4 + t.toNat)) ((p + 4 + t.toNat : Nat) : Int))) := by
  rw [pennantref22_Read.j9]
  by_cases h1 : cd > 0
  · rw [if_pos h1, if_pos (show 0 < cd ∨ 4096 < t.toNat from .inl h1), ite_self]
    rfl
  rw [if_neg h1]
  by_cases h2 : t < 0
  · rw [if_pos h2, if_pos h2]
    rfl
  rw [if_neg h2, if_neg h2]
  obtain ⟨s, rfl⟩ := Int.eq_ofNat_of_zero_le (Int.not_lt.mp h2)
  rw [Int.toNat_natCast]
  by_cases h3 : 4096 < s
  · rw [if_pos (Or.inr h3), show decide ((s : Int) > 4096) = true from decide_eq_true (by omega)]
    rfl
  · rw [if_neg (by rintro (h | h) <;> omega), show decide ((s : Int) > 4096) = false from decide_eq_false (by omega)]
    exact ref_j10 k b hb p s hp (by omega) l0 xs
theorem map3 (A B : Prop) [Decidable A] [Decidable B] (x y z : RdRes) : (if A then some x else if B then some y else some z).map resOf = some (resOf (if A then x else if B then y else z)) := by
  by_cases hA : A
  · rw [if_pos hA, if_pos hA]; rfl
  · rw [if_neg hA, if_neg hA]
    by_cases hB : B
    · rw [if_pos hB, if_pos hB]; rfl
    · rw [if_neg hB, if_neg hB]; rfl
theorem ref_tail (k : Nat) (b : ByteArray) (hb : b.size ≤ 1000000000) (p : Nat) (hp : p + 4 ≤ b.size) (rq : Bool) (ls : List ByteArray) (l0 : ByteArray) (xs : List S79) (hx : xs.length ≤ 4096) (hv : (cntF xs nLen 0 e0).2.size ≤ 1000000) (hk : 3000000 ≤ k) :
    pennantref22_Read.l1 k b rq ls (ls.length : Int) l0 xs e0 ((p + 4 : Nat) : Int) = (tailF b p rq l0 xs).map resOf := by
  obtain ⟨k, rfl⟩ : ∃ m, k = m + 1 + 1 + 1 + 1 := ⟨k - 4, by omega⟩
  have hnl : ¬ (ls.length : Int) < (ls.length : Int) := by omega
  rw [pennantref22_Read.l1]
  rw [if_neg hnl, ref_count_f _ _ xs _ _ _ (by omega) (by omega), Option.bind_some, ref_count_f _ _ xs _ _ _ (by omega) (by omega), Option.bind_some]
  have hj : ∀ fl : Bool, pennantref22_Read.j8 (k + 1 + 1 + 1) b (cntF xs nLen 0 e0).1 (cntF xs nLen 0 e0).2 fl l0 xs e0 ((p + 4 : Nat) : Int) = if fl = true then some (resOf (.bad 220)) else ((sizeF xs).bind fun sz => match sz with
      | none => some (RdRes.bad 222)
      | some s => if 0 < (cntF xs nCoded 0 e0).1 ∨ 4096 < s then some (.bad 222) else
        if b.size < p + 4 + s then some (.bad 3) else some (.good l0 xs (b.extract (p + 4) (p + 4 + s)) ((p + 4 + s : Nat) : Int))).map resOf := by
    intro fl
    rw [pennantref22_Read.j8]
    cases fl with
    | true => rfl
    | false =>
      simp only [Bool.false_eq_true, if_false]
      rw [ref_count_f _ _ xs _ _ _ (by omega) (by omega), Option.bind_some]
      unfold sizeF
      by_cases h1 : (cntF xs nLen 0 e0).1 = 1
      · rw [if_pos h1, if_pos h1, ref_digits_f _ _ (by omega) (by omega), Option.bind_some]
        rw [size_two (cntF xs nLen 0 e0).2, Option.bind_some, ref_j9 k b hb p hp l0 xs _ _]
        by_cases h2 : (cntF xs nLen 0 e0).2.data.toList.all digitB = true ∧ 1 ≤ (cntF xs nLen 0 e0).2.size ∧ (cntF xs nLen 0 e0).2.size ≤ 9
        · rw [if_pos h2, if_pos h2]
          dsimp only
          rw [if_neg (by omega), Int.toNat_natCast]
          exact (map3 _ _ _ _ _).symm
        · rw [if_neg h2, if_neg h2]
          rfl
      · rw [if_neg h1, if_neg h1, Option.bind_some, ref_j9 k b hb p hp l0 xs _ _]
        dsimp only
        rw [if_neg (by omega), show (0 : Int).toNat = 0 from rfl]
        exact (map3 _ _ _ _ _).symm
  unfold tailF
  show (if (cntF xs nLen 0 e0).1 > 1 then _ else _) = _
  by_cases h1 : (cntF xs nLen 0 e0).1 > 1
  · rw [if_pos h1, if_pos h1]
    refine (hj true).trans ?_
    rw [if_pos rfl]
    rfl
  rw [if_neg h1, if_neg h1]
  cases rq with
  | false =>
    rw [if_neg Bool.false_ne_true]
    refine (hj false).trans ?_
    rw [if_neg Bool.false_ne_true]
    refine Eq.symm (congrArg (Option.map resOf) (if_neg ?_))
    rintro ⟨h, _⟩
    cases h
  | true =>
    rw [if_pos rfl]
    show pennantref22_Read.j8 (k + 1 + 1 + 1) b (cntF xs nLen 0 e0).1 (cntF xs nLen 0 e0).2 ((cntF xs nHost 0 e0).1 != 1) l0 xs e0 ((p + 4 : Nat) : Int) = _
    by_cases h2 : (cntF xs nHost 0 e0).1 = 1
    · have e : ((cntF xs nHost 0 e0).1 != 1) = false := by simp [h2]
      rw [e]
      refine (hj false).trans ?_
      rw [if_neg Bool.false_ne_true]
      refine Eq.symm (congrArg (Option.map resOf) (if_neg ?_))
      rintro ⟨_, h⟩
      exact h h2
    · have e : ((cntF xs nHost 0 e0).1 != 1) = true := by simp [h2]
      rw [e]
      refine (hj true).trans ?_
      rw [if_pos rfl]
      exact Eq.symm (congrArg (Option.map resOf) (if_pos ⟨rfl, h2⟩))
end Go.Proofs.YtpikebpjlhccbaaGreatDoor.PAll
/- The reference's small letters and its status: the program's. -/
namespace Go.Proofs.YtpikebpjlhccbaaGreatDoor.PAll
set_option linter.unusedVariables false
set_option linter.unusedSimpArgs false
open Go.RowKit Go.Proofs.YtpikebpjlhccbaaGreatDoorW.PrintWords Base Go.Lib

def low (b : UInt8) : UInt8 := if 65 ≤ b.toNat ∧ b.toNat ≤ 90 then b + 32 else b
theorem low_a : ∀ x : Fin 256, 65 ≤ x.val → x.val ≤ 90 → (strOfNums [((x.val : Int) + 32) % 256]).data.toList = [low (UInt8.ofNat x.val)] := by decide +kernel
theorem low_b : ∀ x : Fin 256, ¬ (65 ≤ x.val ∧ x.val ≤ 90) → (strOfNums [(x.val : Int)]).data.toList = [low (UInt8.ofNat x.val)] := by decide +kernel
theorem low_nums (b : UInt8) (h : 65 ≤ b.toNat ∧ b.toNat ≤ 90) : (strOfNums [((b.toNat : Int) + 32) % 256]).data.toList = [low b] := by
  have := low_a ⟨b.toNat, b.toNat_lt⟩ h.1 h.2
  simpa using this
theorem low_nums2 (b : UInt8) (h : ¬ (65 ≤ b.toNat ∧ b.toNat ≤ 90)) : (strOfNums [(b.toNat : Int)]).data.toList = [low b] := by
  have := low_b ⟨b.toNat, b.toNat_lt⟩ h
  simpa using this
theorem one_size {s : ByteArray} {c : UInt8} (h : s.data.toList = [c]) : s.size = 1 := by rw [Base.size_eq, h]; rfl
theorem small_step (s : ByteArray) (hs : s.size ≤ 1000000) (i k : Nat) (hi : i < s.data.toList.length) (out : ByteArray) (ho : out.size ≤ 1000000) :
    ∃ y : ByteArray, y.data.toList = [low (s.data.toList[i])] ∧ pennantref22_Small.l0 (k + 1) s out (i : Int) = pennantref22_Small.l0 k s (out ++ y) ((i + 1 : Nat) : Int) := by
  have hsz := Base.size_eq s
  have hb := bt_nat s i hi
  have a1 : (i : Int) < (s.size : Int) := by omega
  have a2 : (0 : Int) ≤ (i : Int) := by omega
  have hw : wrap64 ((i : Int) + 1) = ((i + 1 : Nat) : Int) := wrap_succ hi (by omega)
  generalize s.data.toList[i] = b at hb ⊢
  by_cases h1 : 65 ≤ b.toNat ∧ b.toNat ≤ 90
  · have hn := low_nums b h1
    refine ⟨_, hn, ?_⟩
    have b1 : (b.toNat : Int) ≥ 65 := by omega
    have b2 : (b.toNat : Int) ≤ 90 := by omega
    have hz := one_size hn
    rw [pennantref22_Small.l0]
    simp only [if_pos a1, if_pos a2, hb, if_pos b1, if_pos b2, Option.bind_some, hw]
    rw [if_pos (by omega)]
  · have hn := low_nums2 b h1
    refine ⟨_, hn, ?_⟩
    have hz := one_size hn
    rw [pennantref22_Small.l0]
    simp only [if_pos a1, if_pos a2, hb, Option.bind_some, hw]
    by_cases b1 : (b.toNat : Int) ≥ 65
    · have b2 : ¬ (b.toNat : Int) ≤ 90 := by omega
      rw [if_pos b1, if_neg b2, if_pos (by omega)]
    · rw [if_neg b1, if_pos (by omega)]
theorem small_l0 (s : ByteArray) (hs : s.size ≤ 1000000) : ∀ (d i : Nat) (out : ByteArray) (k : Nat), i + d = s.size → out.size ≤ i → d + 1 < k → pennantref22_Small.l0 k s out (i : Int) = some (ofB (out.data.toList ++ (s.data.toList.drop i).map low)) := by
  have hsz := Base.size_eq s
  intro d
  induction d with
  | zero =>
    intro i out k hi ho hk
    obtain ⟨k, rfl⟩ : ∃ m, k = m + 1 := ⟨k - 1, by omega⟩
    have a1 : ¬ (i : Int) < (s.size : Int) := by omega
    rw [pennantref22_Small.l0, if_neg a1, List.drop_eq_nil_of_le (by omega)]
    congr 1
    exact ba_ext (by simp [ofB])
  | succ d ih =>
    intro i out k hi ho hk
    obtain ⟨k, rfl⟩ : ∃ m, k = m + 1 := ⟨k - 1, by omega⟩
    have hlt : i < s.data.toList.length := by omega
    obtain ⟨y, hy, he⟩ := small_step s hs i k hlt out (by omega)
    have hz := one_size hy
    rw [he, ih (i + 1) (out ++ y) k (by omega) (by rw [Base.size_eq, data_append, List.length_append, ← Base.size_eq, ← Base.size_eq]; omega) (by omega), data_append, hy, List.drop_eq_getElem_cons hlt, List.map_cons]
    simp
theorem ref_small_f (k : Nat) (s : ByteArray) (hs : s.size ≤ 1000000) (hk : s.size + 1 < k) : pennantref22_Small.f k s = some (ofB (s.data.toList.map low)) := by
  unfold pennantref22_Small.f
  have := small_l0 s hs s.size 0 (⟨#[]⟩ : ByteArray) k (by omega) (Nat.le_refl _) hk
  rw [show ((0 : Nat) : Int) = 0 from rfl, List.drop_zero] at this
  rw [this]
  rfl

theorem low_enc : ∀ x : Fin 128, encodeRune (lowMap (x.val : Int)) = [low (UInt8.ofNat x.val)] ∧ 0 ≤ lowMap (x.val : Int) := by decide +kernel
theorem mapD_low : ∀ l : List UInt8, (∀ b ∈ l, b.toNat < 128) → mapD lowMap l = l.map low
  | [], _ => rfl
  | b :: l, h => by
    have hb : b.toNat < 128 := h b (by simp)
    obtain ⟨e1, e2⟩ := low_enc ⟨b.toNat, hb⟩
    simp only [UInt8.ofNat_toNat] at e1 e2
    rw [mapD_step lowMap (b :: l) (by simp), decodeL_ascii b l hb]
    dsimp only
    rw [if_pos e2, e1, List.drop_succ_cons, List.drop_zero, mapD_low l (fun c hc => h c (by simp [hc]))]
    rfl
theorem tok_ascii : ∀ x : Fin 256, tokOk (UInt8.ofNat x.val) = true → x.val < 128 := by decide +kernel
theorem small_same (s : ByteArray) (hs : s.size ≤ 1000000) (ht : tokenB s.data.toList = true) (k : Nat) (hk : s.size + 1 < k) : http_small.f s = pennantref22_Small.f k s := by
  rw [ref_small_f k s hs hk]
  unfold http_small.f
  rw [if_pos (by omega), mapD_low]
  · rfl
  · intro b hb
    unfold tokenB at ht
    rw [Bool.and_eq_true, List.all_eq_true] at ht
    have := tok_ascii ⟨b.toNat, b.toNat_lt⟩
    simp only [UInt8.ofNat_toNat] at this
    exact this (ht.1 b hb)

/-! The status. -/
theorem cutPrefix_f (s p : ByteArray) : strings_CutPrefix.f s p = some (if p.data.toList <+: s.data.toList then (s.extract p.size s.size, true) else (s, false)) := by
  have hsz := Base.size_eq s
  have hpz := Base.size_eq p
  have hp := hasPrefix_f s p
  have hp2 : stringslite_HasPrefix.f s p = some (decide (p.data.toList <+: s.data.toList)) := by
    revert hp
    unfold strings_HasPrefix.f
    cases stringslite_HasPrefix.f s p with
    | none => intro h; cases h
    | some t => intro h; exact h
  unfold strings_CutPrefix.f stringslite_CutPrefix.f
  rw [hp2, Option.bind_some]
  by_cases h : p.data.toList <+: s.data.toList
  · have hl := h.length_le
    rw [if_pos (decide_eq_true h), if_pos h, if_pos (by omega), if_pos (by omega), Int.toNat_natCast]
    rfl
  · rw [if_neg (by simpa using h), if_neg h]
    rfl
theorem bt_list (s : ByteArray) (i : Nat) (L : List UInt8) (hL : s.data.toList = L) (h : i < L.length) : bt s (i : Int) = ((L[i]'h).toNat : Int) := by
  subst hL
  exact bt_nat s i h
theorem tail_data (s : ByteArray) (a : Nat) (ha : a ≤ s.size) : (s.extract a s.size).data.toList = s.data.toList.drop a := by
  have hsz := Base.size_eq s
  rw [data_extract]
  exact List.take_of_length_le (by rw [List.length_drop]; omega)
theorem bt_tail (s : ByteArray) (a i : Nat) (h : a + i < s.size) : bt (s.extract a s.size) (i : Int) = bt s ((a + i : Nat) : Int) := by
  have hsz := Base.size_eq s
  rw [bt_list _ i _ (tail_data s a (by omega)) (by rw [List.length_drop]; omega), bt_nat s (a + i) (by omega), List.getElem_drop]
def v9 : ByteArray := ⟨#[72, 84, 84, 80, 47, 49, 46, 49, 32]⟩
theorem digits_text (l : List UInt8) (h : l.all digitB = true) : l.all textOk = true := by
  rw [List.all_eq_true] at h ⊢
  intro c hc
  have := (digitB_iff c).1 (h c hc)
  unfold textOk
  simp only [Bool.and_eq_true, Bool.or_eq_true, decide_eq_true_eq, beq_iff_eq, Bool.not_eq_true', beq_eq_false_iff_ne]
  omega
theorem trim_digits (v : ByteArray) (hz : v.size ≤ 9223372036854775807) : ∃ t, strings_Trim.f v (⟨#[48, 49, 50, 51, 52, 53, 54, 55, 56, 57]⟩ : ByteArray) = some t ∧ (t.toList = ([] : List UInt8) ↔ v.data.toList.all digitB = true) := by
  refine ⟨_, trim_f v _ hz (by decide) (by decide), ?_⟩
  have hfun : (fun c : UInt8 => digsL.contains c) = digitB := funext digs_b
  rw [Base.toList_data]
  constructor
  · intro h
    have ha := trim_nil _ _ h
    rw [← ha]
    exact congrArg (fun f => v.data.toList.all f) hfun.symm
  · intro h
    exact trim_all _ _ (by rw [← h]; exact congrArg (fun f => v.data.toList.all f) hfun)
end Go.Proofs.YtpikebpjlhccbaaGreatDoor.PAll
/- The reference's reading of a message is http.read's, for every text. -/
namespace Go.Proofs.YtpikebpjlhccbaaGreatDoor.PAll
set_option linter.unusedVariables false
set_option linter.unusedSimpArgs false
open Go.RowKit Go.Proofs.YtpikebpjlhccbaaGreatDoorW.PrintWords Base Go.Lib

theorem colon_step (k : Nat) (b : ByteArray) (rq : Bool) (ls : List ByteArray) (i j : Nat) (hi : i < ls.length) (l : ByteArray) (hr : rdOf ByteArray.empty ls (i : Int) = l) (hz : l.size ≤ 1000000) (l0 : ByteArray) (acc : List S79) (body : ByteArray) (n : Int) :
    pennantref22_Read.l2 (k + 1) b rq ls (i : Int) (j : Int) l0 acc body n = if h : j < l.data.toList.length then (if l.data.toList[j] = 58 then pennantref22_Read.j6 k b rq ls (i : Int) (j : Int) l0 acc body n else pennantref22_Read.l2 k b rq ls (i : Int) ((j + 1 : Nat) : Int) l0 acc body n) else pennantref22_Read.j6 k b rq ls (i : Int) (j : Int) l0 acc body n := by
  have hsz := Base.size_eq l
  have a1 : (0 : Int) ≤ (i : Int) := by omega
  have a2 : (i : Int) < (ls.length : Int) := by omega
  have a3 : (0 : Int) ≤ (j : Int) := by omega
  rw [pennantref22_Read.l2, hr]
  simp only [if_pos a1, if_pos a2, if_pos a3]
  by_cases h : j < l.data.toList.length
  · have a4 : (j : Int) < (l.size : Int) := by omega
    have hw : wrap64 ((j : Int) + 1) = ((j + 1 : Nat) : Int) := wrap_succ h (by omega)
    have hb := bt_nat l j h
    rw [if_pos a4, dif_pos h, hb, hw]
    by_cases h2 : l.data.toList[j] = 58
    · rw [if_pos h2, if_pos (by rw [h2]; rfl)]
    · rw [if_neg h2, if_neg]
      intro hc
      exact h2 (UInt8.toNat_inj.1 (by rw [show (58 : UInt8).toNat = 58 from rfl]; omega))
  · have a4 : ¬ (j : Int) < (l.size : Int) := by omega
    rw [if_neg a4, dif_neg h]
theorem occ_one (L : List UInt8) (j : Nat) (h : j < L.length) : occAt L [58] j = (L[j] == 58) := by
  unfold occAt
  rw [List.drop_eq_getElem_cons h]
  show ((58 == L[j]) && true) = _
  rw [Bool.and_true, Bool.eq_iff_iff, beq_iff_eq, beq_iff_eq]
  exact eq_comm
theorem colon_search (b : ByteArray) (rq : Bool) (ls : List ByteArray) (i : Nat) (hi : i < ls.length) (l : ByteArray) (hr : rdOf ByteArray.empty ls (i : Int) = l) (hz : l.size ≤ 1000000) (l0 : ByteArray) (acc : List S79) (body : ByteArray) (n : Int) :
    ∀ (d j k : Nat), j + d = l.size → NoOcc l.data.toList [58] j → d + 1 < k → ∃ (p k' : Nat), k ≤ k' + d + 2 ∧ pennantref22_Read.l2 k b rq ls (i : Int) (j : Int) l0 acc body n = pennantref22_Read.j6 k' b rq ls (i : Int) (p : Int) l0 acc body n ∧
      ((p < l.size ∧ cut l.data.toList [58] = (l.data.toList.take p, l.data.toList.drop (p + 1), true)) ∨ (p = l.size ∧ cut l.data.toList [58] = (l.data.toList, [], false))) := by
  have hsz := Base.size_eq l
  intro d
  induction d with
  | zero =>
    intro j k hj hno hk
    obtain ⟨k, rfl⟩ : ∃ m, k = m + 1 := ⟨k - 1, by omega⟩
    refine ⟨j, k, by omega, ?_, .inr ⟨by omega, ?_⟩⟩
    · rw [colon_step k b rq ls i j hi l hr hz, dif_neg (by omega)]
    · have hx : index l.data.toList [58] = -1 := index_past (by decide) hno (by simp; omega)
      unfold cut
      rw [hx, if_neg (by decide)]
  | succ d ih =>
    intro j k hj hno hk
    obtain ⟨k, rfl⟩ : ∃ m, k = m + 1 := ⟨k - 1, by omega⟩
    have hlt : j < l.data.toList.length := by omega
    rw [colon_step k b rq ls i j hi l hr hz, dif_pos hlt]
    have ho := occ_one l.data.toList j hlt
    by_cases h2 : l.data.toList[j] = 58
    · rw [if_pos h2]
      refine ⟨j, k, by omega, rfl, .inl ⟨by omega, ?_⟩⟩
      have hx : index l.data.toList [58] = (j : Int) := index_hit hno (by omega) (by rw [ho, h2]; rfl)
      unfold cut
      rw [hx, if_pos (by omega), Int.toNat_natCast]
      rfl
    · rw [if_neg h2]
      obtain ⟨p, k', g1, g2, g3⟩ := ih (j + 1) k (by omega) (hno.succ (by rw [ho]; exact beq_eq_false_iff_ne.2 h2)) (by omega)
      exact ⟨p, k', by omega, g2, g3⟩

/-- One header. -/
theorem ref_line (kk : Nat) (hkk : 4100 < kk) (b : ByteArray) (rq : Bool) (ls : List ByteArray) (i : Nat) (hi : i < ls.length) (hls : ls.length ≤ 1000000) (l : ByteArray) (hr : rdOf ByteArray.empty ls (i : Int) = l) (hz : l.size ≤ 4096) (l0 : ByteArray) (acc : List S79) (hacc : acc.length ≤ 1000000) (body : ByteArray) (n : Int) (K : Nat) (hK : 200000 ≤ K) :
    (headF kk l = some none ∧ pennantref22_Read.l1 K b rq ls (i : Int) l0 acc body n = some (resOf (.bad 220))) ∨
    ∃ h, headF kk l = some (some h) ∧ h.f1.size ≤ 4096 ∧ ∃ K', K ≤ K' + 5000 ∧ pennantref22_Read.l1 K b rq ls (i : Int) l0 acc body n = pennantref22_Read.l1 K' b rq ls ((i + 1 : Nat) : Int) l0 (acc ++ [h]) body n := by
  obtain ⟨K, rfl⟩ : ∃ m, K = m + 1 := ⟨K - 1, by omega⟩
  have hsz := Base.size_eq l
  have a1 : (0 : Int) ≤ (i : Int) := by omega
  have a2 : (i : Int) < (ls.length : Int) := by omega
  have hl1 : pennantref22_Read.l1 (K + 1) b rq ls (i : Int) l0 acc body n = pennantref22_Read.l2 K b rq ls (i : Int) 0 l0 acc body n := by
    rw [pennantref22_Read.l1, if_pos a2]
  obtain ⟨p, K1, hK1, he, hc⟩ := colon_search b rq ls i hi l hr (by omega) l0 acc body n l.size 0 K (by omega) (NoOcc.zero _ _) (by omega)
  obtain ⟨K2, rfl⟩ : ∃ m, K1 = m + 1 + 1 := ⟨K1 - 2, by omega⟩
  rw [hl1]
  rw [show ((0 : Nat) : Int) = 0 from rfl] at he
  rw [he]
  have hj7 : pennantref22_Read.j7 (K2 + 1) b rq ls (i : Int) (p : Int) true l0 acc body n = some (resOf (.bad 220)) := by
    rw [pennantref22_Read.j7, if_pos rfl]
    rfl
  rw [pennantref22_Read.j6, if_pos a1, if_pos a2, hr]
  unfold headF
  rw [cut_f _ _ (by omega), Option.bind_some]
  have hcut : cut l.data.toList (⟨#[58]⟩ : ByteArray).data.toList = cut l.data.toList [58] := rfl
  rw [hcut]
  rcases hc with ⟨hp, hc⟩ | ⟨hp, hc⟩
  rotate_left
  · rw [hc, if_pos (by omega), hj7]
    left
    refine ⟨?_, rfl⟩
    dsimp only
    rw [trim_f _ _ (by rw [size_mk]; exact Nat.zero_le _) (by decide) (by decide), Option.bind_some, if_pos rfl]
  rw [hc]
  have e1 : l.extract 0 p = (⟨(l.data.toList.take p).toArray⟩ : ByteArray) := ba_ext (by rw [data_extract, List.drop_zero]; rfl)
  have e2 : l.extract (p + 1) l.size = (⟨(l.data.toList.drop (p + 1)).toArray⟩ : ByteArray) := ba_ext (by rw [data_extract]; exact List.take_of_length_le (by rw [List.length_drop]; omega))
  have hw : wrap64 ((p : Int) + 1) = ((p + 1 : Nat) : Int) := by unfold wrap64; omega
  have z1 : (⟨(l.data.toList.take p).toArray⟩ : ByteArray).size ≤ 4096 := by rw [size_mk, List.length_take]; omega
  have z2 : (⟨(l.data.toList.drop (p + 1)).toArray⟩ : ByteArray).size ≤ 4096 := by rw [size_mk, List.length_drop]; omega
  rw [if_neg (by omega), if_pos (by omega), if_pos (by omega), hw, if_pos (by omega), if_pos (by omega), Int.toNat_natCast, Int.toNat_natCast, e1, e2]
  dsimp only
  generalize hA : (⟨(l.data.toList.take p).toArray⟩ : ByteArray) = A at z1 e1 ⊢
  generalize hB : (⟨(l.data.toList.drop (p + 1)).toArray⟩ : ByteArray) = B at z2 e2 ⊢
  have ht32 : (⟨#[32, 9]⟩ : ByteArray).data.toList = [32, 9] := rfl
  have z3 := trim_size B.data.toList [32, 9]
  rw [← Base.size_eq] at z3
  rw [trim_f B _ (by omega) (by decide) (by decide), Option.bind_some, if_neg (by decide), ht32, token_f A (by omega) kk (by omega), Option.bind_some, ref_token_f A (by omega) _ (by omega), Option.bind_some]
  by_cases h1 : tokenB A.data.toList = true
  rotate_left
  · rw [if_neg h1, if_pos (by simpa using h1), hj7]
    exact .inl ⟨rfl, rfl⟩
  rw [if_pos h1, if_neg (by simp [h1]), ref_text_f B (by omega) _ (by omega), Option.bind_some, text_f _ (by rw [size_mk]; omega) kk (by rw [size_mk]; omega), Option.bind_some]
  have htx : textB (⟨(trimS B.data.toList [32, 9]).toArray⟩ : ByteArray).data.toList = textB B.data.toList := textB_trim B.data.toList
  rw [htx]
  by_cases h2 : textB B.data.toList = true
  rotate_left
  · rw [if_pos (by simpa using h2), show (!textB B.data.toList) = true from by simpa using h2, hj7]
    exact .inl ⟨rfl, rfl⟩
  rw [if_neg (by simp [h2]), show (!textB B.data.toList) = false from by simp [h2], small_same A (by omega) h1 K2 (by omega), ref_small_f K2 A (by omega) (by omega), Option.bind_some]
  right
  refine ⟨_, rfl, by rw [size_mk]; omega, K2, by omega, ?_⟩
  rw [pennantref22_Read.j7, if_neg Bool.false_ne_true, if_pos a1, if_pos a2, hr, if_pos (by omega), if_pos (by omega), Int.toNat_natCast, e1, ref_small_f K2 A (by omega) (by omega), Option.bind_some, hw, if_pos (by omega), if_pos (by omega), Int.toNat_natCast, e2, ref_blankless_f K2 B (by omega) (by omega), Option.bind_some, if_pos (by omega), show wrap64 ((i : Int) + 1) = ((i + 1 : Nat) : Int) from by unfold wrap64; omega]
  rfl
/-- All of them. -/
theorem ref_heads (kk : Nat) (hkk : 4100 < kk) (b : ByteArray) (rq : Bool) (ls : List ByteArray) (hls : ls.length ≤ 100000) (hz : ∀ x ∈ ls, x.size ≤ 4096) (l0 : ByteArray) (body : ByteArray) (n : Int) :
    ∀ (d i : Nat) (acc : List S79) (K : Nat), i + d = ls.length → acc.length ≤ i → 200000 + 5000 * d ≤ K →
    (headsF kk (ls.drop i) = some none ∧ pennantref22_Read.l1 K b rq ls (i : Int) l0 acc body n = some (resOf (.bad 220))) ∨
    ∃ xs, headsF kk (ls.drop i) = some (some xs) ∧ (∀ x ∈ xs, x.f1.size ≤ 4096) ∧ ∃ K', K ≤ K' + 5000 * d ∧ pennantref22_Read.l1 K b rq ls (i : Int) l0 acc body n = pennantref22_Read.l1 K' b rq ls (ls.length : Int) l0 (acc ++ xs) body n := by
  intro d
  induction d with
  | zero =>
    intro i acc K hi ha hK
    right
    obtain rfl : i = ls.length := by omega
    rw [List.drop_length]
    exact ⟨[], rfl, by simp, K, by omega, by rw [List.append_nil]⟩
  | succ d ih =>
    intro i acc K hi ha hK
    rw [Nat.mul_succ] at hK ⊢
    have hK0 : 200000 ≤ K := Nat.le_trans (Nat.le_add_right _ _) hK
    generalize hM : 5000 * d = M at hK ih ⊢
    have hlt : i < ls.length := by omega
    have hrd : rdOf ByteArray.empty ls (i : Int) = ls[i] := by
      unfold rdOf
      rw [Int.toNat_natCast, List.getD_eq_getElem?_getD, List.getElem?_eq_getElem hlt, Option.getD_some]
    rw [List.drop_eq_getElem_cons hlt]
    have hzi := hz _ (List.getElem_mem hlt)
    generalize ls[i]'hlt = l at hrd hzi ⊢
    rcases ref_line kk hkk b rq ls i hlt (by clear hK; omega) l hrd hzi l0 acc (by clear hK; omega) body n K hK0 with ⟨h1, h2⟩ | ⟨h, h1, h2, K', h3, h4⟩
    · left
      refine ⟨?_, h2⟩
      unfold headsF
      rw [h1]
      rfl
    · rw [h4]
      rcases ih (i + 1) (acc ++ [h]) K' (by omega) (by rw [List.length_append, List.length_singleton]; omega) (by omega) with ⟨g1, g2⟩ | ⟨xs, g1, g2, K2, g3, g4⟩
      · left
        refine ⟨?_, g2⟩
        unfold headsF
        rw [h1, Option.bind_some]
        dsimp only
        rw [g1]
        rfl
      · right
        refine ⟨h :: xs, ?_, ?_, K2, Nat.le_trans h3 (by rw [← Nat.add_assoc]; exact Nat.add_le_add_right g3 5000), ?_⟩
        · unfold headsF
          rw [h1, Option.bind_some]
          dsimp only
          rw [g1]
          rfl
        · intro x hx
          rcases List.mem_cons.1 hx with rfl | hx
          · exact h2
          · exact g2 x hx
        · rw [g4, List.append_assoc]
          rfl
theorem cnt_size (a : ByteArray) (M : Nat) : ∀ (xs : List S79) (n : Int) (v : ByteArray), v.size ≤ M → (∀ x ∈ xs, x.f1.size ≤ M) → (cntF xs a n v).2.size ≤ M
  | [], _, _, hv, _ => hv
  | x :: xs, n, v, hv, h => by
    unfold cntF
    have hx := h x (by simp)
    have ht : ∀ y ∈ xs, y.f1.size ≤ M := fun y hy => h y (by simp [hy])
    by_cases h1 : x.f0.toList = a.toList
    · rw [if_pos h1]
      refine cnt_size a M xs _ _ ?_ ht
      split
      · exact hx
      · exact hv
    · rw [if_neg h1]
      exact cnt_size a M xs _ _ hv ht
/-- How the first line is looked at: alike. -/
def FirstOk (rq : Bool) (rl : ByteArray → Option Bool) : Prop := ∀ l : ByteArray, l.size ≤ 4096 → ∃ r, rl l = some r ∧ ∀ k, 3000000 ≤ k → (∃ q, pennantref22_Request.f k l = some q ∧ (rq = true → q.2.2 = r)) ∧ (rq = false → ∃ m, pennantref22_Status.f k l = some m ∧ decide (m < 0) = !r)
theorem ref_read (kk : Nat) (hkk : 4100 < kk) (b : ByteArray) (hb : b.size ≤ 1000000) (rq : Bool) (rl : ByteArray → Option Bool) (hrl : FirstOk rq rl) (k : Nat) (hk : 30000000 ≤ k) :
    pennantref22_Read.f k b rq = (readF kk rl rq b).map resOf := by
  unfold pennantref22_Read.f
  obtain ⟨p, k1, hk1, he, hp, hc⟩ := read_search b rq (by omega) b.size 0 k (by omega) (Nat.zero_le _) (NoOcc.zero _ _) (by omega)
  obtain ⟨k2, rfl⟩ : ∃ m, k1 = m + 1 + 1 + 1 := ⟨k1 - 3, by omega⟩
  rw [show ((0 : Nat) : Int) = 0 from rfl] at he
  rw [he]
  have hw : wrap64 ((p : Int) + 4) = ((p + 4 : Nat) : Int) := by unfold wrap64; omega
  have hj2 : ∀ fl : Bool, pennantref22_Read.j2 (k2 + 1 + 1) b rq (p : Int) fl true = some (resOf (.bad 2)) := fun fl => by rw [pennantref22_Read.j2, if_pos rfl]; rfl
  rw [pennantref22_Read.j1, hw]
  unfold readF
  rw [show strings_Index.f b (⟨#[13, 10, 13, 10]⟩ : ByteArray) = _ from index_f b c4 (by omega), Option.bind_some]
  rcases hc with ⟨hx, hpb⟩ | ⟨hx, hpb⟩
  rotate_left
  · have ho : ((p + 4 : Nat) : Int) > (b.size : Int) := by omega
    rw [hx, if_pos ho, if_pos ho, if_pos (show (-1 : Int) ≤ -1 ∧ (-1 : Int) ≤ 4611686018427387904 by omega), decide_eq_true ho]
    by_cases h1 : (b.size : Int) > 4096
    · rw [if_pos h1, if_pos (show ((-1 : Int) < 0 ∧ 4096 < (b.size : Int)) ∨ 4096 < (-1 : Int) + 4 from .inl ⟨by decide, h1⟩)]
      exact hj2 true
    · rw [if_neg h1, if_neg (show ¬ (((-1 : Int) < 0 ∧ 4096 < (b.size : Int)) ∨ 4096 < (-1 : Int) + 4) by omega), if_pos (show (-1 : Int) < 0 by decide), pennantref22_Read.j2, if_neg Bool.false_ne_true, if_pos rfl]
      rfl
  have ho : ¬ ((p + 4 : Nat) : Int) > (b.size : Int) := by omega
  rw [hx, if_neg ho, if_neg ho, if_pos (show (-1 : Int) ≤ (p : Int) ∧ (p : Int) ≤ 4611686018427387904 by omega), decide_eq_false ho]
  by_cases h1 : ((p + 4 : Nat) : Int) > 4096
  · rw [decide_eq_true h1, if_pos (show ((p : Int) < 0 ∧ 4096 < (b.size : Int)) ∨ 4096 < (p : Int) + 4 by omega)]
    exact hj2 false
  rw [decide_eq_false h1, if_neg (show ¬ (((p : Int) < 0 ∧ 4096 < (b.size : Int)) ∨ 4096 < (p : Int) + 4) by omega), if_neg (show ¬ (p : Int) < 0 by omega), Int.toNat_natCast, if_pos hpb]
  have hez : (b.extract 0 p).size ≤ 4096 := by rw [Base.size_eq, data_extract, List.length_take, List.length_drop, ← Base.size_eq]; omega
  obtain ⟨l0, ls, hs, hm, hl⟩ := split_f (b.extract 0 p) (⟨#[13, 10]⟩ : ByteArray) (by omega) (by decide)
  rw [pennantref22_Read.j2, if_neg Bool.false_ne_true, if_neg Bool.false_ne_true, if_pos (show (0 : Int) ≤ (p : Int) by omega), if_pos (show (p : Int) ≤ (b.size : Int) by omega), Int.toNat_natCast, ref_split_f (k2 + 1) (b.extract 0 p) _ (by decide) (by omega) (by decide) (by omega), hs, Option.bind_some, Option.bind_some]
  have hr0 : rdOf ByteArray.empty (l0 :: ls) 0 = l0 := rfl
  obtain ⟨r, hr, hr2⟩ := hrl l0 (Nat.le_trans (hm l0 (by simp)) hez)
  obtain ⟨⟨q, hq, hq2⟩, hst⟩ := hr2 (k2 + 1) (by omega)
  rw [if_pos (show 0 < ((l0 :: ls).length : Int) by rw [List.length_cons]; omega), hr0, hq, Option.bind_some, hw]
  have hj3 : ∀ fl : Bool, fl = (!r) → pennantref22_Read.j3 (k2 + 1) b rq (l0 :: ls) fl l0 (⟨#[]⟩ : ByteArray) ((p + 4 : Nat) : Int) = (restF kk rl rq b p (l0 :: ls)).map resOf := by
    rintro fl rfl
    unfold restF
    rw [pennantref22_Read.j3]
    dsimp only
    rw [if_pos (show ls.length ≤ 4096 by omega), hr, Option.bind_some]
    cases r with
    | false => rfl
    | true =>
      rw [if_neg (show ¬ (!true) = true by decide), if_neg (show ¬ true = false by decide)]
      have hH := ref_heads kk hkk b rq (l0 :: ls) (by rw [List.length_cons]; omega) (fun x hx => Nat.le_trans (hm x hx) hez) l0 (⟨#[]⟩ : ByteArray) ((p + 4 : Nat) : Int) ls.length 1 [] k2 (by rw [List.length_cons]; omega) (Nat.zero_le _) (by omega)
      rw [show ((1 : Nat) : Int) = 1 from rfl, List.drop_succ_cons, List.drop_zero] at hH
      rcases hH with ⟨g1, g2⟩ | ⟨xs, g1, g2, K2, g3, g4⟩
      · rw [g1, g2]
        rfl
      · have hln := headsF_len kk ls xs g1
        rw [g1, g4, Option.bind_some, List.nil_append]
        exact ref_tail K2 b (by omega) p hpb rq (l0 :: ls) l0 xs (by omega) (Nat.le_trans (cnt_size _ 4096 xs 0 e0 (by decide) g2) (by decide)) (by omega)
  cases rq with
  | true =>
    rw [if_pos rfl]
    have := hq2 rfl
    cases hqv : q.2.2 with
    | true => rw [if_pos rfl]; exact hj3 _ (by rw [← this, hqv]; first | done | rfl)
    | false => rw [if_neg Bool.false_ne_true]; exact hj3 _ (by rw [← this, hqv]; first | done | rfl)
  | false =>
    obtain ⟨m, hm1, hm2⟩ := hst rfl
    rw [if_neg Bool.false_ne_true, hm1, Option.bind_some]
    exact hj3 _ hm2
end Go.Proofs.YtpikebpjlhccbaaGreatDoor.PAll
