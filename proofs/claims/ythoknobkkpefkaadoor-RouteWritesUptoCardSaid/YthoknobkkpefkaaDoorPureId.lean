/- An id's plain law: mapping whatever lies beyond ASCII to 'x' and asking for letters is asking each byte. -/
import Derived.Test.YthoknobkkpefkaaDoorSpec
namespace Go.Proofs.YthoknobkkpefkaaDoor.Base
set_option linter.unusedVariables false
set_option linter.unusedSimpArgs false
open Go.Lib

theorem getD_eq {l : List UInt8} {i : Nat} (h : i < l.length) : l.getD i 0 = l[i] := by simp [List.getD, h]

theorem all_take_ge (m : List UInt8) : ∀ (n : Nat) (l : List UInt8), n ≤ l.length → (∀ i, i < n → 128 ≤ (l.getD i 0).toNat) → (l.take n).all idOk = true
  | 0, _, _, _ => by simp
  | n + 1, [], h, _ => by simp at h
  | n + 1, b :: l, h, hg => by
    have h0 := hg 0 (by omega)
    simp only [List.getD_cons_zero] at h0
    have ih := all_take_ge m n l (by simpa using h) (fun i hi => by have := hg (i + 1) (by omega); simpa using this)
    simp [ih, idOk, h0]

theorem enc_small (z : Int) (h0 : 0 ≤ z) (h1 : z ≤ 127) : encodeRune z = [z.toNat.toUInt8] := by
  unfold encodeRune; rw [encodeRuneZ_one h0 h1]; rfl

/-- one rune -/
theorem id_step (l : List UInt8) (hne : l ≠ []) :
    (encodeRune (idMap (decodeL l).1)).all (okL [95, 45, 46, 35]) = (l.take (decodeL l).2).all idOk ∧ (encodeRune (idMap (decodeL l).1)).length = 1 ∧ 0 ≤ idMap (decodeL l).1 := by
  have hl : 0 < l.length := List.length_pos_iff.2 hne
  have k0 := (l.getD 0 0).toNat_lt
  have k1 := (l.getD 1 0).toNat_lt
  have k2 := (l.getD 2 0).toNat_lt
  have k3 := (l.getD 3 0).toNat_lt
  rw [decodeL_N]
  have big : ∀ n r : Nat, 128 ≤ r → n ≤ l.length → (∀ i, i < n → 128 ≤ (l.getD i 0).toNat) →
      (encodeRune (idMap (r : Int))).all (okL [95, 45, 46, 35]) = (l.take n).all idOk ∧ (encodeRune (idMap (r : Int))).length = 1 ∧ 0 ≤ idMap (r : Int) := by
    intro n r hr hn hg
    have e : idMap (r : Int) = 120 := by unfold idMap; rw [if_pos (by omega)]
    rw [e, all_take_ge [] n l hn hg]
    exact ⟨by decide, by decide, by decide⟩
  rcases decodeN_shape l.length (l.getD 0 0).toNat (l.getD 1 0).toNat (l.getD 2 0).toNat (l.getD 3 0).toNat with ⟨c, e⟩ | ⟨c1, c2, c3, cv, e⟩ | ⟨c1, c2, c3, c4, cv, cs, e⟩ | ⟨c1, c2, c3, c4, c5, cv, cs, e⟩ | e
  · rw [e]
    have em : idMap (((l.getD 0 0).toNat : Nat) : Int) = ((l.getD 0 0).toNat : Int) := by unfold idMap; rw [if_neg (by omega)]
    dsimp only
    rw [em, enc_small _ (by omega) (by omega), takeA l hl, toByte _ (l.getD 0 0) rfl]
    refine ⟨?_, rfl, by omega⟩
    have : decide (128 ≤ (l.getD 0 0).toNat) = false := by simp only [decide_eq_false_iff_not]; omega
    simp only [List.all_cons, List.all_nil, Bool.and_true, idOk, this, Bool.or_false]
  · rw [e]; exact big 2 _ (by omega) (by omega) (fun i hi => by
      obtain rfl | rfl : i = 0 ∨ i = 1 := by omega
      all_goals omega)
  · rw [e]; exact big 3 _ (by omega) (by omega) (fun i hi => by
      obtain rfl | rfl | rfl : i = 0 ∨ i = 1 ∨ i = 2 := by omega
      all_goals omega)
  · rw [e]; exact big 4 _ (by omega) (by omega) (fun i hi => by
      obtain rfl | rfl | rfl | rfl : i = 0 ∨ i = 1 ∨ i = 2 ∨ i = 3 := by omega
      all_goals omega)
  · rw [e]
    have hb : 128 ≤ (l.getD 0 0).toNat := by
      rcases Nat.lt_or_ge (l.getD 0 0).toNat 128 with h | h
      · have : decodeN l.length (l.getD 0 0).toNat (l.getD 1 0).toNat (l.getD 2 0).toNat (l.getD 3 0).toNat = ((l.getD 0 0).toNat, 1) := by unfold decodeN; rw [if_pos h]
        rw [this] at e
        have := congrArg Prod.fst e
        simp only at this
        omega
      · exact h
    exact big 1 65533 (by omega) (by omega) (fun i hi => by obtain rfl : i = 0 := by omega
                                                            exact hb)

theorem id_all : ∀ (n : Nat) (l : List UInt8), l.length ≤ n → (mapD idMap l).all (okL [95, 45, 46, 35]) = l.all idOk ∧ (mapD idMap l).length ≤ l.length ∧ ((mapD idMap l).length = 0 → l.length = 0)
  | 0, l, hn => by
    obtain rfl : l = [] := List.eq_nil_of_length_eq_zero (by omega)
    simp [mapD_nil]
  | n + 1, l, hn => by
    by_cases hne : l = []
    · subst hne; simp [mapD_nil]
    · have hw := decodeL_width l
      have hle := decodeL_le l hne
      obtain ⟨h1, h2, h3⟩ := id_step l hne
      obtain ⟨i1, i2, _⟩ := id_all n (l.drop (decodeL l).2) (by rw [List.length_drop]; omega)
      rw [List.length_drop] at i2
      rw [mapD_step idMap l hne, if_pos h3, List.all_append, List.length_append, h1, h2, i1]
      refine ⟨?_, by omega, by omega⟩
      rw [← List.all_append, List.take_append_drop]

theorem id_law (l : List UInt8) : (lettersB (okL [95, 45, 46, 35]) (mapD idMap l) && decide (l.length ≤ 64)) = idB l := by
  obtain ⟨h1, h2, h3⟩ := id_all l.length l (Nat.le_refl _)
  unfold idB lettersB
  rw [h1]
  have e : (decide (0 < (mapD idMap l).length) && decide ((mapD idMap l).length ≤ 64) && decide (l.length ≤ 64)) = (decide (0 < l.length) && decide (l.length ≤ 64)) := by
    rw [Bool.eq_iff_iff]
    simp only [Bool.and_eq_true, decide_eq_true_eq]
    omega
  rw [Bool.and_assoc, e]
end Go.Proofs.YthoknobkkpefkaaDoor.Base
