/- The printed token, text, target and requestLine, as plain functions of their bytes. -/
import Derived.Test.YtpikebpjlhccbaaGreatDoorSpec
import Derived.Test.YtpikebpjlhccbaaGreatDoorNum
import Derived.Test.YtpikebpjlhccbaaGreatDoorGiveRead
namespace Go.Proofs.YtpikebpjlhccbaaGreatDoor.PAll
set_option linter.unusedVariables false
set_option linter.unusedSimpArgs false
open Go.RowKit Go.Proofs.YtpikebpjlhccbaaGreatDoorW.PrintWords Base

theorem or32 : ∀ x : Fin 256, (97 ≤ Go.bits .or .u8 ((x.val : Nat) : Int) 32 ∧ Go.bits .or .u8 ((x.val : Nat) : Int) 32 ≤ 122) ↔ ((97 ≤ x.val ∧ x.val ≤ 122) ∨ (65 ≤ x.val ∧ x.val ≤ 90)) := by decide +kernel
theorem or32b (b : UInt8) : (97 ≤ Go.bits .or .u8 (b.toNat : Int) 32 ∧ Go.bits .or .u8 (b.toNat : Int) 32 ≤ 122) ↔ ((97 ≤ b.toNat ∧ b.toNat ≤ 122) ∨ (65 ≤ b.toNat ∧ b.toNat ≤ 90)) := or32 ⟨b.toNat, b.toNat_lt⟩
theorem u8_back (b : UInt8) : ((b.toNat : Int)).toNat.toUInt8 = b := by simp

theorem token_f (s : ByteArray) (hs : s.size ≤ 9223372036854775807) (k : Nat) (hk : s.size + 2 < k) :
    http_token.f k s = some (tokenB s.data.toList) := by
  have hsz := size_eq s
  unfold http_token.f
  rw [show (s.size : Int) = (s.data.toList.length : Int) from by rw [hsz]]
  have h := scan0 s tokOk (fun k i => http_token.l0 k s (s.data.toList.length : Int) i) false (decide (0 < s.data.toList.length) && decide (s.data.toList.length ≤ 64)) 0 ?_ ?_ k (by omega)
  · refine Eq.trans h ?_
    unfold tokenB
    cases s.data.toList.all tokOk <;> simp
  · intro k i hi
    have hb := bt_nat s i hi
    have ho := or32b s.data.toList[i]
    have hx : (0 ≤ Lib.indexByte [33, 35, 36, 37, 38, 39, 42, 43, 45, 46, 94, 95, 96, 124, 126] s.data.toList[i]) ↔ s.data.toList[i] ∈ tokSet := indexByte_ge_zero tokSet s.data.toList[i]
    have hlt := (s.data.toList[i]).toNat_lt
    simp only [http_token.l0, strings_IndexByte.f, Option.bind_some]
    rw [if_pos (by omega), if_pos (by omega), if_pos (by omega), hb, wrap_succ hi (by omega), u8_back]
    generalize hB : s.data.toList[i] = b at *
    generalize hO : Go.bits .or .u8 (b.toNat : Int) 32 = O at *
    generalize hR : http_token.l0 k s (s.data.toList.length : Int) ((i + 1 : Nat) : Int) = R
    by_cases hp : tokOk b = true
    · rw [if_pos hp]
      unfold tokOk okL plainB at hp
      simp only [Bool.or_eq_true, Bool.and_eq_true, decide_eq_true_eq, List.contains_iff_mem] at hp
      rw [← hx] at hp
      repeat' split
      all_goals first | rfl | (exfalso; omega)
    · rw [if_neg hp]
      unfold tokOk okL plainB at hp
      simp only [Bool.or_eq_true, Bool.and_eq_true, decide_eq_true_eq, List.contains_iff_mem] at hp
      rw [← hx] at hp
      repeat' split
      all_goals first | rfl | (exfalso; omega)
  · intro k _
    simp only [http_token.l0]
    rw [if_neg (by omega)]
    by_cases h0 : s.toList = ([] : List UInt8)
    · rw [if_pos h0, (isEmpty_size s).1 h0]; rfl
    · rw [if_neg h0]
      have h1 : ¬ s.data.toList.length = 0 := fun h => h0 ((isEmpty_size s).2 h)
      rw [hsz]
      congr 1
      rw [Bool.eq_iff_iff]
      simp only [Bool.and_eq_true, decide_eq_true_eq]
      omega

theorem text_f (s : ByteArray) (hs : s.size ≤ 9223372036854775807) (k : Nat) (hk : s.size + 2 < k) :
    http_text.f k s = some (textB s.data.toList) := by
  have hsz := size_eq s
  unfold http_text.f
  rw [show (s.size : Int) = (s.data.toList.length : Int) from by rw [hsz]]
  have h := scan0 s textOk (fun k i => http_text.l0 k s (s.data.toList.length : Int) i) false true 0 ?_ ?_ k (by omega)
  · refine Eq.trans h ?_
    unfold textB
    cases s.data.toList.all textOk <;> simp
  · intro k i hi
    have hb := bt_nat s i hi
    have hlt := (s.data.toList[i]).toNat_lt
    simp only [http_text.l0]
    rw [if_pos (by omega), if_pos (by omega), if_pos (by omega), hb, wrap_succ hi (by omega)]
    generalize s.data.toList[i] = b at *
    by_cases hp : textOk b = true
    · rw [if_pos hp]
      unfold textOk at hp
      simp only [Bool.or_eq_true, Bool.and_eq_true, decide_eq_true_eq, Bool.not_eq_true', beq_eq_false_iff_ne, beq_iff_eq] at hp
      repeat' split
      all_goals first | rfl | (exfalso; omega)
    · rw [if_neg hp]
      unfold textOk at hp
      simp only [Bool.or_eq_true, Bool.and_eq_true, decide_eq_true_eq, Bool.not_eq_true', beq_eq_false_iff_ne, beq_iff_eq] at hp
      repeat' split
      all_goals first | rfl | (exfalso; omega)
  · intro k _
    simp only [http_text.l0]
    rw [if_neg (by omega)]

theorem extract_list (s : ByteArray) (a b : Nat) : (s.extract a b).toList = (s.data.toList.drop a).take (b - a) := by
  rw [toList_data, Lib.extract_data]

theorem hasPrefix_f (s p : ByteArray) : strings_HasPrefix.f s p = some (decide (p.data.toList <+: s.data.toList)) := by
  have hs := size_eq s
  have hp := size_eq p
  simp only [strings_HasPrefix.f, stringslite_HasPrefix.f]
  by_cases h : (s.size : Int) ≥ (p.size : Int)
  · rw [if_pos h, if_pos (by omega), if_pos (by omega)]
    simp only [Option.bind_some, Int.toNat_natCast]
    rw [extract_list, toList_data, Nat.sub_zero, List.drop_zero]
    congr 1
    rw [Bool.eq_iff_iff, beq_iff_eq, decide_eq_true_eq, hp, List.prefix_iff_eq_take]
    exact eq_comm
  · rw [if_neg h]
    simp only [Option.bind_some]
    congr 1
    symm
    rw [decide_eq_false_iff_not]
    intro hx
    have := hx.length_le
    omega

theorem target_f (s : ByteArray) (hs : s.size ≤ 9223372036854775807) (k : Nat) (hk : s.size + 2 < k) :
    http_target.f k s = some (targetB s.data.toList) := by
  have hsz := size_eq s
  unfold http_target.f
  rw [show (s.size : Int) = (s.data.toList.length : Int) from by rw [hsz]]
  have h := scan0 s targOk (fun k i => http_target.l0 k s (s.data.toList.length : Int) i) false (s.data.toList.head? == some 47 && decide (s.data.toList.length ≤ 256)) 0 ?_ ?_ k (by omega)
  · refine Eq.trans h ?_
    unfold targetB
    cases s.data.toList.all targOk <;> simp
  · intro k i hi
    have hb := bt_nat s i hi
    have hlt := (s.data.toList[i]).toNat_lt
    simp only [http_target.l0]
    rw [if_pos (by omega), if_pos (by omega), if_pos (by omega), hb, wrap_succ hi (by omega)]
    generalize s.data.toList[i] = b at *
    by_cases hp : targOk b = true
    · rw [if_pos hp]
      unfold targOk at hp
      simp only [Bool.and_eq_true, decide_eq_true_eq] at hp
      rw [if_neg (by omega), if_neg (by omega)]
    · rw [if_neg hp]
      unfold targOk at hp
      simp only [Bool.and_eq_true, decide_eq_true_eq] at hp
      repeat' split
      all_goals first | rfl | (exfalso; omega)
  · intro k _
    simp only [http_target.l0]
    rw [if_neg (by omega), hasPrefix_f, Option.bind_some]
    have e : (decide ((⟨#[47]⟩ : ByteArray).data.toList <+: s.data.toList) = true) ↔ s.data.toList.head? = some 47 := by
      rw [decide_eq_true_eq]
      cases s.data.toList with
      | nil => simp
      | cons b l => simp [List.cons_prefix_cons, eq_comm]
    by_cases h0 : s.data.toList.head? = some 47
    · rw [if_pos (e.2 h0), h0, hsz]
      congr 1
      rw [Bool.eq_iff_iff]
      simp; omega
    · rw [if_neg (fun h => h0 (e.1 h))]
      congr 1
      symm
      rw [Bool.and_eq_false_iff]
      left
      rw [beq_eq_false_iff_ne]
      exact h0
end Go.Proofs.YtpikebpjlhccbaaGreatDoor.PAll
