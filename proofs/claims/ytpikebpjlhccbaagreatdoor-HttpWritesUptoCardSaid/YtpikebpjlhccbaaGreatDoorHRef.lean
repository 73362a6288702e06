/- The reference's small readers, as plain functions of their bytes: the same as the program's. -/
import Derived.Test.YtpikebpjlhccbaaGreatDoorHTotal
import Derived.Test.YtpikebpjlhccbaaGreatDoorPAllx9
import Derived.Test.YtpikebpjlhccbaaGreatDoorPAllx10
import Derived.Test.YtpikebpjlhccbaaGreatDoorPAllx11
namespace Go.Proofs.YtpikebpjlhccbaaGreatDoor.PAll
set_option linter.unusedVariables false
set_option linter.unusedSimpArgs false
open Go.RowKit Go.Proofs.YtpikebpjlhccbaaGreatDoorW.PrintWords Base Go.Lib

theorem ref_text_f (s : ByteArray) (hs : s.size ≤ 9223372036854775807) (k : Nat) (hk : s.size + 2 < k) : pennantref22_Text.f k s = some (textB s.data.toList) := by
  have hsz := Base.size_eq s
  unfold pennantref22_Text.f
  have h := scan0 s textOk (fun k i => pennantref22_Text.l0 k s i) false true 0 ?_ ?_ k (by omega)
  · refine Eq.trans h ?_
    unfold textB
    cases s.data.toList.all textOk <;> simp
  · intro k i hi
    have hb := bt_nat s i hi
    have hlt := (s.data.toList[i]).toNat_lt
    simp only [pennantref22_Text.l0]
    rw [if_pos (by omega), if_pos (by omega), hb, wrap_succ hi (by omega)]
    generalize s.data.toList[i] = b at *
    by_cases hp : textOk b = true
    · rw [if_pos hp]
      unfold textOk at hp
      simp only [Bool.or_eq_true, Bool.and_eq_true, decide_eq_true_eq, Bool.not_eq_true', beq_eq_false_iff_ne, beq_iff_eq] at hp
      repeat' split
      all_goals first | rfl | (exfalso; omega)
    · rw [if_neg hp]
      unfold textOk at hp
      simp only [Bool.or_eq_true, Bool.and_eq_true, decide_eq_true_eq, Bool.not_eq_true', beq_eq_false_iff_ne, beq_iff_eq] at hp
      repeat' split
      all_goals first | rfl | (exfalso; omega)
  · intro k _
    simp only [pennantref22_Text.l0]
    rw [if_neg (by omega)]
theorem head_eq : ∀ (l : List UInt8) (h : 0 < l.length), (((l[0]'h).toNat : Int) == 47) = (l.head? == some 47)
  | [], h => by cases h
  | b :: l, h => by
    simp only [List.getElem_cons_zero, List.head?_cons]
    rw [Bool.eq_iff_iff, beq_iff_eq, beq_iff_eq, Option.some.injEq]
    constructor
    · intro h; exact UInt8.toNat_inj.1 (by rw [show (47 : UInt8).toNat = 47 from rfl]; omega)
    · rintro rfl; rfl
theorem ref_target_f (s : ByteArray) (hs : s.size ≤ 9223372036854775807) (k : Nat) (hk : s.size + 2 < k) : pennantref22_Target.f k s = some (targetB s.data.toList) := by
  have hsz := Base.size_eq s
  unfold pennantref22_Target.f
  have h := scan0 s targOk (fun k i => pennantref22_Target.l0 k s i) false (s.data.toList.head? == some 47 && decide (s.data.toList.length ≤ 256)) 0 ?_ ?_ k (by omega)
  · refine Eq.trans h ?_
    unfold targetB
    cases s.data.toList.all targOk <;> simp
  · intro k i hi
    have hb := bt_nat s i hi
    have hlt := (s.data.toList[i]).toNat_lt
    simp only [pennantref22_Target.l0]
    rw [if_pos (by omega), if_pos (by omega), hb, wrap_succ hi (by omega)]
    generalize s.data.toList[i] = b at *
    by_cases hp : targOk b = true
    · rw [if_pos hp]
      unfold targOk at hp
      simp only [Bool.and_eq_true, decide_eq_true_eq] at hp
      rw [if_neg (by omega), if_neg (by omega)]
    · rw [if_neg hp]
      unfold targOk at hp
      simp only [Bool.and_eq_true, decide_eq_true_eq] at hp
      repeat' split
      all_goals first | rfl | (exfalso; omega)
  · intro k _
    simp only [pennantref22_Target.l0]
    rw [if_neg (by omega)]
    by_cases h0 : (s.size : Int) > 0
    · rw [if_pos h0]
      by_cases h1 : (s.size : Int) ≤ 256
      · rw [if_pos h1, if_pos h0]
        have hb := bt_nat s 0 (by omega)
        rw [show ((0 : Nat) : Int) = 0 from rfl] at hb
        rw [hb]
        congr 1
        rw [head_eq _ (by omega), show decide (s.data.toList.length ≤ 256) = true from decide_eq_true (by omega), Bool.and_true]
      · rw [if_neg h1]
        congr 1
        symm
        rw [Bool.and_eq_false_iff]
        right
        exact decide_eq_false (by omega)
    · rw [if_neg h0]
      congr 1
      have : s.data.toList = [] := List.length_eq_zero_iff.1 (by omega)
      rw [this]
      rfl

/-! The token. -/
theorem mark_at : ∀ (i : Fin 15) (x : Fin 256), (((bt (⟨#[33, 35, 36, 37, 38, 39, 42, 43, 45, 46, 94, 95, 96, 124, 126]⟩ : ByteArray) (i.val : Int)) == ((x.val : Nat) : Int)) || (tokSet.drop (i.val + 1)).contains (UInt8.ofNat x.val)) = (tokSet.drop i.val).contains (UInt8.ofNat x.val) := by decide +kernel
theorem tok_l1 (s : ByteArray) (x3 : Int) (b : UInt8) (k : Nat) : ∀ (d i : Nat) (x5 : Bool), i + d = 15 → pennantref22_Token.l1 (k + d + 1) s x3 (b.toNat : Int) x5 (i : Int) = if (x5 || (tokSet.drop i).contains b) = true then pennantref22_Token.l0 k s (wrap64 (x3 + 1)) else some false := by
  intro d
  induction d with
  | zero =>
    intro i x5 hi
    obtain rfl : i = 15 := by omega
    rw [show k + 0 + 1 = k + 1 from rfl]
    simp only [pennantref22_Token.l1]
    rw [if_neg (by omega)]
    simp [tokSet]
  | succ d ih =>
    intro i x5 hi
    rw [show k + (d + 1) + 1 = (k + d + 1) + 1 from by omega]
    rw [show pennantref22_Token.l1 ((k + d + 1) + 1) s x3 (b.toNat : Int) x5 (i : Int) = (if (i : Int) < 15 then (if x5 = true then (pennantref22_Token.l1 (k + d + 1) s x3 (b.toNat : Int) true (wrap64 ((i : Int) + 1))) else (if 0 ≤ (i : Int) then (pennantref22_Token.l1 (k + d + 1) s x3 (b.toNat : Int) ((bt (⟨#[33, 35, 36, 37, 38, 39, 42, 43, 45, 46, 94, 95, 96, 124, 126]⟩ : ByteArray) (i : Int)) == (b.toNat : Int)) (wrap64 ((i : Int) + 1))) else (none))) else (if x5 = true then (pennantref22_Token.l0 (k + d + 1) s (wrap64 (x3 + 1))) else (some false))) from rfl]
    rw [if_pos (by omega), show wrap64 ((i : Int) + 1) = ((i + 1 : Nat) : Int) from by unfold wrap64; omega]
    cases x5 with
    | true =>
      rw [if_pos rfl, ih (i + 1) true (by omega)]
      simp
    | false =>
      have hm := mark_at ⟨i, by omega⟩ ⟨b.toNat, b.toNat_lt⟩
      simp only [UInt8.ofNat_toNat] at hm
      rw [if_neg (by simp), if_pos (by omega), ih (i + 1) _ (by omega), hm, Bool.false_or]
theorem plain_if {α : Type} (b : UInt8) (B : Int) (hB : B = (b.toNat : Int)) (J : Bool → α) :
    (if B ≥ 97 then (if B ≤ 122 then J true else (if B ≥ 65 then (if B ≤ 90 then J true else (if B ≥ 48 then J (decide (B ≤ 57)) else J false)) else (if B ≥ 48 then J (decide (B ≤ 57)) else J false))) else (if B ≥ 65 then (if B ≤ 90 then J true else (if B ≥ 48 then J (decide (B ≤ 57)) else J false)) else (if B ≥ 48 then J (decide (B ≤ 57)) else J false))) = J (plainB b) := by
  have hp : plainB b = ((decide (97 ≤ B) && decide (B ≤ 122)) || (decide (65 ≤ B) && decide (B ≤ 90)) || (decide (48 ≤ B) && decide (B ≤ 57))) := by
    unfold plainB
    rw [hB, Bool.eq_iff_iff]
    simp only [Bool.or_eq_true, Bool.and_eq_true, decide_eq_true_eq]
    omega
  rw [hp]
  repeat' split
  all_goals (congr 1; rw [Bool.eq_iff_iff]; simp only [Bool.or_eq_true, Bool.and_eq_true, decide_eq_true_eq, Bool.false_eq_true, eq_self, true_iff, false_iff]; omega)
theorem ref_token_f (s : ByteArray) (hs : s.size ≤ 1000000000) (k : Nat) (hk : 18 * (s.size + 3) ≤ k) : pennantref22_Token.f k s = some (tokenB s.data.toList) := by
  have hsz := Base.size_eq s
  refine mono_up (fun k => pennantref22_Token.f k s) (fun k => pennantref22_Token.mono _ k) hk ?_
  show pennantref22_Token.f (18 * (s.size + 3)) s = _
  unfold pennantref22_Token.f
  have h := scan0 s tokOk (fun k i => pennantref22_Token.l0 (18 * k) s i) false (decide (0 < s.data.toList.length) && decide (s.data.toList.length ≤ 64)) 0 ?_ ?_ (s.size + 3) (by omega)
  · refine Eq.trans h ?_
    unfold tokenB
    cases s.data.toList.all tokOk <;> simp
  · intro k i hi
    have hb := bt_nat s i hi
    have hlt := (s.data.toList[i]).toNat_lt
    show pennantref22_Token.l0 (18 * (k + 1)) s (i : Int) = _
    rw [show 18 * (k + 1) = (18 * k + 15 + 1 + 1) + 1 from by omega]
    conv => lhs; unfold pennantref22_Token.l0
    rw [if_pos (by omega), if_pos (by omega), hb]
    have hj : ∀ x5, pennantref22_Token.j1 (18 * k + 15 + 1 + 1) s (i : Int) ((s.data.toList[i]).toNat : Int) x5 = if (x5 || tokSet.contains (s.data.toList[i])) = true then pennantref22_Token.l0 (18 * k) s ((i + 1 : Nat) : Int) else some false := by
      intro x5
      have := tok_l1 s (i : Int) (s.data.toList[i]) (18 * k) 15 0 x5 rfl
      rw [wrap_succ hi (by omega)] at this
      exact this
    refine (plain_if (s.data.toList[i]) _ rfl (fun x5 => pennantref22_Token.j1 (18 * k + 15 + 1 + 1) s (i : Int) ((s.data.toList[i]).toNat : Int) x5)).trans ?_
    exact hj _
  · intro k _
    show pennantref22_Token.l0 (18 * (k + 1)) s (s.data.toList.length : Int) = _
    rw [show 18 * (k + 1) = (18 * k + 17) + 1 from by omega]
    conv => lhs; unfold pennantref22_Token.l0
    rw [if_neg (by omega), hsz]
    repeat' split
    all_goals first | rfl | (congr 1; rw [Bool.eq_iff_iff]; simp; omega) | (congr 1; simp; omega)
end Go.Proofs.YtpikebpjlhccbaaGreatDoor.PAll
