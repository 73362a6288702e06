/- The reference's reading of a message: its search, and what is behind the headers, are http.read's. -/
import Derived.Test.YtpikebpjlhccbaaGreatDoorHRef4
import Derived.Test.YtpikebpjlhccbaaGreatDoorPAllx12
namespace Go.Proofs.YtpikebpjlhccbaaGreatDoor.PAll
set_option linter.unusedVariables false
set_option linter.unusedSimpArgs false
open Go.RowKit Go.Proofs.YtpikebpjlhccbaaGreatDoorW.PrintWords Base Go.Lib

theorem all_dropWhile {α : Type} (f p : α → Bool) (h : ∀ a, p a = true → f a = true) : ∀ l : List α, (l.dropWhile p).all f = l.all f
  | [] => rfl
  | a :: l => by
    rw [List.dropWhile_cons, List.all_cons]
    by_cases hp : p a = true
    · rw [if_pos hp, h a hp, Bool.true_and]; exact all_dropWhile f p h l
    · rw [if_neg hp, List.all_cons]
theorem blk_text (c : UInt8) (h : blk c = true) : textOk c = true := by
  rw [blk_iff] at h
  unfold textOk
  simp only [Bool.and_eq_true, Bool.or_eq_true, decide_eq_true_eq, beq_iff_eq, Bool.not_eq_true', beq_eq_false_iff_ne]
  omega
/-- A value's text is right with the blanks at its ends, or without. -/
theorem textB_trim (l : List UInt8) : textB (trimS l [32, 9]) = textB l := by
  rw [trim_eq]
  unfold textB TL TR
  rw [all_dropWhile textOk blk blk_text, List.all_reverse, all_dropWhile textOk blk blk_text, List.all_reverse]

abbrev RD := ByteArray × (List (S79)) × ByteArray × Int × Int
abbrev e0 : ByteArray := ⟨#[]⟩
/-- What the reference's Read hands back. -/
def resOf : RdRes → RD
  | .bad n => (e0, [], e0, 0, n)
  | .good l0 xs body n => (l0, xs, body, n, 0)

theorem read_step (b : ByteArray) (rq : Bool) (hz : b.size ≤ 1000000000) (i k : Nat) (hi : i ≤ b.size) :
    pennantref22_Read.l0 (k + 1) b rq (i : Int) = if i + 4 ≤ b.size then (if (b.extract i (i + 4)).toList = c4.toList then pennantref22_Read.j1 k b rq (i : Int) else pennantref22_Read.l0 k b rq ((i + 1 : Nat) : Int)) else pennantref22_Read.j1 k b rq (i : Int) := by
  have hw : wrap64 ((i : Int) + 4) = ((i + 4 : Nat) : Int) := by unfold wrap64; omega
  have hw1 : wrap64 ((i : Int) + 1) = ((i + 1 : Nat) : Int) := by unfold wrap64; omega
  have a1 : (0 : Int) ≤ (i : Int) := by omega
  have hc : c4.toList = ([13, 10, 13, 10] : List UInt8) := by rw [Base.toList_data]; rfl
  rw [pennantref22_Read.l0, hc]
  simp only [hw, hw1, if_pos a1, Int.toNat_natCast, Int.ofNat_le, if_pos (Nat.le_add_right i 4)]
theorem c4_ne : c4.data.toList ≠ [] := by decide
theorem read_search (b : ByteArray) (rq : Bool) (hz : b.size ≤ 1000000000) : ∀ (d i k : Nat), b.size - i ≤ d → i ≤ b.size → NoOcc b.data.toList c4.data.toList i → d + 1 < k →
    ∃ (p k' : Nat), k ≤ k' + d + 2 ∧ pennantref22_Read.l0 k b rq (i : Int) = pennantref22_Read.j1 k' b rq (p : Int) ∧ p ≤ b.size ∧ ((index b.data.toList c4.data.toList = (p : Int) ∧ p + 4 ≤ b.size) ∨ (index b.data.toList c4.data.toList = -1 ∧ b.size < p + 4)) := by
  have hsz := Base.size_eq b
  intro d
  induction d with
  | zero =>
    intro i k hd hi hno hk
    obtain ⟨k, rfl⟩ : ∃ m, k = m + 1 := ⟨k - 1, by omega⟩
    refine ⟨i, k, by omega, ?_, hi, .inr ⟨index_past c4_ne hno (by rw [size_c4]; omega), by omega⟩⟩
    rw [read_step b rq hz i k hi, if_neg (by omega)]
  | succ d ih =>
    intro i k hd hi hno hk
    obtain ⟨k, rfl⟩ : ∃ m, k = m + 1 := ⟨k - 1, by omega⟩
    rw [read_step b rq hz i k hi]
    by_cases h1 : i + 4 ≤ b.size
    · rw [if_pos h1]
      have hocc : occAt b.data.toList c4.data.toList i = ((b.extract i (i + 4)).toList == c4.toList) := by
        rw [occAt_iff_take _ _ _ (by rw [size_c4]; omega), Base.toList_data, Base.toList_data, data_extract, size_c4, show i + 4 - i = 4 from by omega]
      by_cases h2 : (b.extract i (i + 4)).toList = c4.toList
      · rw [if_pos h2]
        exact ⟨i, k, by omega, rfl, hi, .inl ⟨index_hit hno (by omega) (hocc.trans (beq_iff_eq.2 h2)), h1⟩⟩
      · rw [if_neg h2]
        obtain ⟨p, k', g1, g2, g3, g4⟩ := ih (i + 1) k (by omega) (by omega) (hno.succ (hocc.trans (beq_eq_false_iff_ne.2 h2))) (by omega)
        exact ⟨p, k', by omega, g2, g3, g4⟩
    · rw [if_neg h1]
      exact ⟨i, k, by omega, rfl, hi, .inr ⟨index_past c4_ne hno (by rw [size_c4]; omega), by omega⟩⟩

/-! Behind the headers. -/
theorem dropWhile_all {α : Type} (p : α → Bool) : ∀ l : List α, l.all p = true → l.dropWhile p = []
  | [], _ => rfl
  | a :: l, h => by
    rw [List.all_cons, Bool.and_eq_true] at h
    rw [List.dropWhile_cons, if_pos h.1]
    exact dropWhile_all p l h.2
theorem trim_all (l cs : List UInt8) (h : l.all (cs.contains ·) = true) : trimS l cs = [] := by
  unfold trimS trimLeftS trimRightS
  rw [dropWhile_all _ l.reverse (by rw [List.all_reverse]; exact h)]
  rfl
theorem size_two (v : ByteArray) :
    (if v.toList = [] then some none else if 9 < v.size then some none else
      (strings_Trim.f v (⟨#[48, 49, 50, 51, 52, 53, 54, 55, 56, 57]⟩ : ByteArray)).bind fun t => if t.toList ≠ [] then some none else (strconv_Atoi.f v).bind fun s => if 0 ≤ s.1 then some (some s.1.toNat) else none) = some (if v.data.toList.all digitB = true ∧ 1 ≤ v.size ∧ v.size ≤ 9 then some (valN v.data.toList) else none) := by
  have hsz := Base.size_eq v
  have hne : v.toList = [] ↔ v.size = 0 := by rw [Base.toList_data, hsz]; exact List.length_eq_zero_iff.symm
  by_cases h0 : v.size = 0
  · rw [if_pos (hne.2 h0), if_neg (by rintro ⟨_, h, _⟩; omega)]
  rw [if_neg (fun h => h0 (hne.1 h))]
  by_cases h9 : 9 < v.size
  · rw [if_pos h9, if_neg (by rintro ⟨_, _, h⟩; omega)]
  rw [if_neg h9, trim_f v _ (by omega) (by decide) (by decide), Option.bind_some]
  have hne2 : v.data.toList ≠ [] := fun h => h0 (by rw [hsz, h]; rfl)
  have hfun : (fun c : UInt8 => digsL.contains c) = digitB := funext digs_b
  by_cases hd : v.data.toList.all digitB = true
  · have ht : trimS v.data.toList digsL = [] := trim_all _ _ (by rw [← hd]; exact congrArg (fun f => v.data.toList.all f) hfun)
    have h1 : ((⟨(trimS v.data.toList (⟨#[48, 49, 50, 51, 52, 53, 54, 55, 56, 57]⟩ : ByteArray).data.toList).toArray⟩ : ByteArray).toList) = [] := by
      rw [Base.toList_data]; exact ht
    rw [if_neg (fun h => h h1), if_pos ⟨hd, by omega, by omega⟩]
    unfold strconv_Atoi.f
    rw [if_pos (by omega), atoi_digits _ hne2 hd (by rw [← hsz]; omega)]
    dsimp only
    rw [Option.bind_some]
    dsimp only
    rw [if_pos (by omega)]
    rfl
  · rw [if_pos, if_neg (fun h => hd h.1)]
    intro h
    rw [Base.toList_data] at h
    have ha := trim_nil _ _ h
    apply hd
    rw [← ha]
    exact congrArg (fun f => v.data.toList.all f) hfun.symm
theorem ref_j10 (k : Nat) (b : ByteArray) (hb : b.size ≤ 1000000000) (p s : Nat) (hp : p + 4 ≤ b.size) (hs : s ≤ 4096) (l0 : ByteArray) (xs : List S79) :
    pennantref22_Read.j10 (k + 1) b (s : Int) false l0 xs e0 ((p + 4 : Nat) : Int) = some (resOf (if b.size < p + 4 + s then .bad 3 else .good l0 xs (b.extract (p + 4) (p + 4 + s)) ((p + 4 + s : Nat) : Int))) := by
  have hw : wrap64 (((p + 4 : Nat) : Int) + (s : Int)) = ((p + 4 + s : Nat) : Int) := by unfold wrap64; omega
  have a1 : (0 : Int) ≤ ((p + 4 : Nat) : Int) := by omega
  have a2 : ((p + 4 : Nat) : Int) ≤ ((p + 4 + s : Nat) : Int) := by omega
  rw [pennantref22_Read.j10]
  simp only [hw, if_pos a1, if_pos a2, Bool.false_eq_true, if_false, Int.toNat_natCast]
  by_cases h : b.size < p + 4 + s
  · have h' : (b.size : Int) < ((p + 4 + s : Nat) : Int) := by omega
    rw [if_pos h, if_pos h']
    rfl
  · have h' : ¬ (b.size : Int) < ((p + 4 + s : Nat) : Int) := by omega
    have h2 : ((p + 4 + s : Nat) : Int) ≤ (b.size : Int) := by omega
    rw [if_neg h, if_neg h', if_pos h2]
    rfl
theorem ref_j9 (k : Nat) (b : ByteArray) (hb : b.size ≤ 1000000000) (p : Nat) (hp : p + 4 ≤ b.size) (l0 : ByteArray) (xs : List S79) (cd t : Int) :
    pennantref22_Read.j9 (k + 1 + 1) b cd t l0 xs e0 ((p + 4 : Nat) : Int) = some (resOf (if t < 0 then .bad 222 else if 0 < cd ∨ 4096 < t.toNat then .bad 222 else if b.size < p + 4 + t.toNat then .bad 3 else .good l0 xs (b.extract (p + 4) (p + 4 + t.toNat)) ((p + 4 + t.toNat : Nat) : Int))) := by
  rw [pennantref22_Read.j9]
  by_cases h1 : cd > 0
  · rw [if_pos h1, if_pos (show 0 < cd ∨ 4096 < t.toNat from .inl h1), ite_self]
    rfl
  rw [if_neg h1]
  by_cases h2 : t < 0
  · rw [if_pos h2, if_pos h2]
    rfl
  rw [if_neg h2, if_neg h2]
  obtain ⟨s, rfl⟩ := Int.eq_ofNat_of_zero_le (Int.not_lt.mp h2)
  rw [Int.toNat_natCast]
  by_cases h3 : 4096 < s
  · rw [if_pos (Or.inr h3), show decide ((s : Int) > 4096) = true from decide_eq_true (by omega)]
    rfl
  · rw [if_neg (by rintro (h | h) <;> omega), show decide ((s : Int) > 4096) = false from decide_eq_false (by omega)]
    exact ref_j10 k b hb p s hp (by omega) l0 xs
theorem map3 (A B : Prop) [Decidable A] [Decidable B] (x y z : RdRes) : (if A then some x else if B then some y else some z).map resOf = some (resOf (if A then x else if B then y else z)) := by
  by_cases hA : A
  · rw [if_pos hA, if_pos hA]; rfl
  · rw [if_neg hA, if_neg hA]
    by_cases hB : B
    · rw [if_pos hB, if_pos hB]; rfl
    · rw [if_neg hB, if_neg hB]; rfl
theorem ref_tail (k : Nat) (b : ByteArray) (hb : b.size ≤ 1000000000) (p : Nat) (hp : p + 4 ≤ b.size) (rq : Bool) (ls : List ByteArray) (l0 : ByteArray) (xs : List S79) (hx : xs.length ≤ 4096) (hv : (cntF xs nLen 0 e0).2.size ≤ 1000000) (hk : 3000000 ≤ k) :
    pennantref22_Read.l1 k b rq ls (ls.length : Int) l0 xs e0 ((p + 4 : Nat) : Int) = (tailF b p rq l0 xs).map resOf := by
  obtain ⟨k, rfl⟩ : ∃ m, k = m + 1 + 1 + 1 + 1 := ⟨k - 4, by omega⟩
  have hnl : ¬ (ls.length : Int) < (ls.length : Int) := by omega
  rw [pennantref22_Read.l1]
  rw [if_neg hnl, ref_count_f _ _ xs _ _ _ (by omega) (by omega), Option.bind_some, ref_count_f _ _ xs _ _ _ (by omega) (by omega), Option.bind_some]
  have hj : ∀ fl : Bool, pennantref22_Read.j8 (k + 1 + 1 + 1) b (cntF xs nLen 0 e0).1 (cntF xs nLen 0 e0).2 fl l0 xs e0 ((p + 4 : Nat) : Int) = if fl = true then some (resOf (.bad 220)) else ((sizeF xs).bind fun sz => match sz with
      | none => some (RdRes.bad 222)
      | some s => if 0 < (cntF xs nCoded 0 e0).1 ∨ 4096 < s then some (.bad 222) else
        if b.size < p + 4 + s then some (.bad 3) else some (.good l0 xs (b.extract (p + 4) (p + 4 + s)) ((p + 4 + s : Nat) : Int))).map resOf := by
    intro fl
    rw [pennantref22_Read.j8]
    cases fl with
    | true => rfl
    | false =>
      simp only [Bool.false_eq_true, if_false]
      rw [ref_count_f _ _ xs _ _ _ (by omega) (by omega), Option.bind_some]
      unfold sizeF
      by_cases h1 : (cntF xs nLen 0 e0).1 = 1
      · rw [if_pos h1, if_pos h1, ref_digits_f _ _ (by omega) (by omega), Option.bind_some]
        rw [size_two (cntF xs nLen 0 e0).2, Option.bind_some, ref_j9 k b hb p hp l0 xs _ _]
        by_cases h2 : (cntF xs nLen 0 e0).2.data.toList.all digitB = true ∧ 1 ≤ (cntF xs nLen 0 e0).2.size ∧ (cntF xs nLen 0 e0).2.size ≤ 9
        · rw [if_pos h2, if_pos h2]
          dsimp only
          rw [if_neg (by omega), Int.toNat_natCast]
          exact (map3 _ _ _ _ _).symm
        · rw [if_neg h2, if_neg h2]
          rfl
      · rw [if_neg h1, if_neg h1, Option.bind_some, ref_j9 k b hb p hp l0 xs _ _]
        dsimp only
        rw [if_neg (by omega), show (0 : Int).toNat = 0 from rfl]
        exact (map3 _ _ _ _ _).symm
  unfold tailF
  show (if (cntF xs nLen 0 e0).1 > 1 then _ else _) = _
  by_cases h1 : (cntF xs nLen 0 e0).1 > 1
  · rw [if_pos h1, if_pos h1]
    refine (hj true).trans ?_
    rw [if_pos rfl]
    rfl
  rw [if_neg h1, if_neg h1]
  cases rq with
  | false =>
    rw [if_neg Bool.false_ne_true]
    refine (hj false).trans ?_
    rw [if_neg Bool.false_ne_true]
    refine Eq.symm (congrArg (Option.map resOf) (if_neg ?_))
    rintro ⟨h, _⟩
    cases h
  | true =>
    rw [if_pos rfl]
    show pennantref22_Read.j8 (k + 1 + 1 + 1) b (cntF xs nLen 0 e0).1 (cntF xs nLen 0 e0).2 ((cntF xs nHost 0 e0).1 != 1) l0 xs e0 ((p + 4 : Nat) : Int) = _
    by_cases h2 : (cntF xs nHost 0 e0).1 = 1
    · have e : ((cntF xs nHost 0 e0).1 != 1) = false := by simp [h2]
      rw [e]
      refine (hj false).trans ?_
      rw [if_neg Bool.false_ne_true]
      refine Eq.symm (congrArg (Option.map resOf) (if_neg ?_))
      rintro ⟨_, h⟩
      exact h h2
    · have e : ((cntF xs nHost 0 e0).1 != 1) = true := by simp [h2]
      rw [e]
      refine (hj true).trans ?_
      rw [if_pos rfl]
      exact Eq.symm (congrArg (Option.map resOf) (if_pos ⟨rfl, h2⟩))
end Go.Proofs.YtpikebpjlhccbaaGreatDoor.PAll
