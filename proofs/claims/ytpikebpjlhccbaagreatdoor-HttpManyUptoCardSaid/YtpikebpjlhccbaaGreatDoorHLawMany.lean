/- HttpMany, plain: requests one behind the other are read one by one. -/
import Derived.Test.YtpikebpjlhccbaaGreatDoorHWrite
import Derived.Test.YtpikebpjlhccbaaGreatDoorPAllx21
namespace Go.Proofs.YtpikebpjlhccbaaGreatDoor.PAll
set_option linter.unusedVariables false
set_option linter.unusedSimpArgs false
open Go.RowKit Go.Proofs.YtpikebpjlhccbaaGreatDoorW.PrintWords Base Go.Lib

def catB : List ByteArray → ByteArray
  | [] => ⟨#[]⟩
  | s :: l => s ++ catB l
theorem rd24 (l : List S24) (i : Nat) (h : i < l.length) : rd_T24 l (i : Int) = l[i] := by
  unfold rd_T24
  rw [Int.toNat_natCast, List.getD_eq_getElem?_getD, List.getElem?_eq_getElem h, Option.getD_some]
inductive Fits : List ByteArray → List S24 → Prop
  | nil : Fits [] []
  | cons {s r ss rs} : okText s r → s.size ≤ 2000077 → Fits ss rs → Fits (s :: ss) (r :: rs)
theorem Fits.snoc {ss rs s r} (h : Fits ss rs) (h1 : okText s r) (h2 : s.size ≤ 2000077) : Fits (ss ++ [s]) (rs ++ [r]) := by
  induction h with
  | nil => exact .cons h1 h2 .nil
  | cons a b c ih => exact .cons a b ih
theorem catB_snoc (ss : List ByteArray) (s : ByteArray) : catB (ss ++ [s]) = catB ss ++ s := by
  induction ss with
  | nil => exact ba_ext (by simp [catB])
  | cons a l ih =>
    show a ++ catB (l ++ [s]) = (a ++ catB l) ++ s
    rw [ih]
    exact ba_ext (by simp [data_append])
theorem Fits.size {ss rs} (h : Fits ss rs) : (catB ss).size ≤ rs.length * 2000077 := by
  induction h with
  | nil => exact Nat.zero_le _
  | cons a b c ih => show (_ ++ _ : ByteArray).size ≤ _; rw [ByteArray.size_append, List.length_cons]; omega

/-- The reading loop. -/
theorem many_l1 : ∀ (rest : List S24) (ss : List ByteArray) (done : List S24) (k : Nat), Fits ss rest → (done ++ rest).length ≤ 8 → 4200 + rest.length < k →
    pennantlaw22_HttpMany.l1 k (catB ss) (done ++ rest) ((done ++ rest).length : Int) (done.length : Int) = some true := by
  intro rest
  induction rest with
  | nil =>
    intro ss done k hF hl hk
    cases hF
    obtain ⟨k, rfl⟩ : ∃ m, k = m + 1 := ⟨k - 1, by omega⟩
    unfold pennantlaw22_HttpMany.l1
    rw [if_neg (by simp), Base.toList_data]
    rfl
  | cons r rest ih =>
    intro ss done k hF hl hk
    obtain ⟨k, rfl⟩ : ∃ m, k = m + 1 := ⟨k - 1, by omega⟩
    have hsz := hF.size
    cases hF with
    | @cons s _ ss' _ h1 h2 h3 =>
    simp only [List.length_append, List.length_cons] at hl hk hsz
    have hm := ok_more h1 (by omega)
    have hz3 := h3.size
    have hcat : (s ++ catB ss').size < 4294967281 := by rw [ByteArray.size_append]; omega
    have hR := hm.2 k (by omega) (catB ss') hcat
    unfold pennantlaw22_HttpMany.l1
    rw [if_pos (by simp; omega), if_pos (by omega), if_pos (by simp; omega)]
    rw [rd24 _ _ (by simp)]
    rw [show (done ++ r :: rest)[done.length]'(by simp) = r from by simp]
    rw [show catB (s :: ss') = s ++ catB ss' from rfl, hR, Option.bind_some]
    dsimp only
    rw [if_pos rfl, if_neg (by simp), if_neg (by omega), if_neg (by rw [ByteArray.size_append]; omega), if_pos (by omega), if_pos (by rw [ByteArray.size_append]; omega)]
    have e : (s ++ catB ss').extract (s.size : Int).toNat (s ++ catB ss').size = catB ss' := by
      refine ba_ext ?_
      rw [data_extract, Int.toNat_natCast, data_append, Base.size_eq, Base.size_eq, data_append, List.drop_left, List.length_append, Nat.add_sub_cancel_left, List.take_length]
    rw [e]
    have hw : wrap64 ((done.length : Int) + 1) = ((done ++ [r]).length : Int) := by unfold wrap64; simp; omega
    rw [hw]
    have := ih ss' (done ++ [r]) k h3 (by simp; omega) (by omega)
    rw [List.append_assoc, List.singleton_append] at this
    exact this

/-- The writing loop. -/
theorem many_l0 (all : List S24) (h8 : all.length ≤ 8) : ∀ (rest done : List S24) (ss : List ByteArray) (rs : List S24) (k : Nat), all = done ++ rest → (∀ r ∈ rest, sz24 r ≤ 2000000) → Fits ss rs → rs.length ≤ done.length → 4300 + rest.length < k →
    pennantlaw22_HttpMany.l0 k (catB ss) rs all (all.length : Int) (done.length : Int) = some true := by
  intro rest
  induction rest with
  | nil =>
    intro done ss rs k ha hr hF hl hk
    obtain ⟨k, rfl⟩ : ∃ m, k = m + 1 := ⟨k - 1, by omega⟩
    unfold pennantlaw22_HttpMany.l0
    rw [if_neg (by rw [ha]; simp)]
    have := many_l1 rs ss [] k hF (by rw [ha] at h8; simp at h8 ⊢; omega) (by rw [ha] at h8; simp at h8; omega)
    simpa using this
  | cons r rest ih =>
    intro done ss rs k ha hr hF hl hk
    obtain ⟨k, rfl⟩ : ∃ m, k = m + 1 := ⟨k - 1, by omega⟩
    have hlen : all.length = done.length + (rest.length + 1) := by rw [ha]; simp
    simp only [List.length_cons] at hk
    have hat : all[done.length]'(by omega) = r := by simp [ha]
    have hw : wrap64 ((done.length : Int) + 1) = ((done ++ [r]).length : Int) := by unfold wrap64; simp; omega
    unfold pennantlaw22_HttpMany.l0
    rw [if_pos (by omega), if_pos (by omega), if_pos (by omega), rd24 _ _ (by omega), hat]
    obtain ⟨j, rfl⟩ : ∃ j, k = j + 1 := ⟨k - 1, by omega⟩
    have hz := hr r (by simp)
    unfold sz24 at hz
    rcases write_cases r.f0 r.f1 r.f2 r.f3 r.f4 hz with h | h
    · rw [(h j (by omega)).1, Option.bind_some]
      dsimp only
      have hts := textR_size r.f0 r.f1 r.f2 r.f3 r.f4 hz
      have hcs := hF.size
      rw [if_pos rfl, if_pos (by omega), if_pos (by omega), hw, ← catB_snoc]
      exact ih (done ++ [r]) _ (rs ++ [r]) (j + 1) (by rw [ha]; simp) (fun x hx => hr x (by simp [hx])) (hF.snoc (fun k hk => (h k hk).2) (by omega)) (by simp; omega) (by omega)
    · rw [h j (by omega), Option.bind_some]
      dsimp only
      rw [if_neg (by decide), hw]
      exact ih (done ++ [r]) ss rs (j + 1) (by rw [ha]; simp) (fun x hx => hr x (by simp [hx])) hF (by simp; omega) (by omega)
theorem many_f (l : List S24) (h : ∀ r ∈ l, sz24 r ≤ 2000000) : ∃ k, pennantlaw22_HttpMany.f k l = some true := by
  refine ⟨5000, ?_⟩
  unfold pennantlaw22_HttpMany.f
  rw [awake_up 5000 (by decide), Option.bind_some, if_pos rfl]
  split
  · rfl
  · have := many_l0 l (by omega) l [] [] [] 5000 rfl h .nil (Nat.le_refl _) (by omega)
    exact this
end Go.Proofs.YtpikebpjlhccbaaGreatDoor.PAll
