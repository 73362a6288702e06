/- Read answers at every text of the card's bulk. -/
import Derived.Test.YtpikebpjlhccbaaGreatDoorHBegin
namespace Go.Proofs.YtpikebpjlhccbaaGreatDoor.PAll
set_option linter.unusedVariables false
set_option linter.unusedSimpArgs false
open Go.RowKit Go.Proofs.YtpikebpjlhccbaaGreatDoorW.PrintWords Base Go.Lib

theorem split_size (sep : ByteArray) : ∀ (k : Nat) (s x : ByteArray), x ∈ splitB sep 0 k s → x.size ≤ s.size := by
  intro k
  induction k with
  | zero => intro s x hx; simp only [splitB, List.mem_singleton] at hx; rw [hx]; exact Nat.le_refl _
  | succ k ih =>
    intro s x hx
    unfold splitB at hx
    split at hx
    · simp only [List.mem_singleton] at hx; rw [hx]; exact Nat.le_refl _
    · rcases List.mem_cons.1 hx with rfl | hx
      · rw [Base.size_eq, Base.size_eq, data_extract, List.length_take, List.length_drop]; omega
      · have := ih _ x hx
        rw [Base.size_eq (s.extract _ _), data_extract, List.length_take, List.length_drop] at this
        rw [Base.size_eq s]
        omega
theorem split_ne (sep : ByteArray) (k : Nat) (s : ByteArray) : splitB sep 0 k s ≠ [] := by
  cases k with
  | zero => simp [splitB]
  | succ k => unfold splitB; split <;> simp
theorem split_f (s sep : ByteArray) (hs : s.size < 4294967281) (h1 : 1 ≤ sep.size) : ∃ l ls, strings_Split.f s sep = some (l :: ls) ∧ (∀ x ∈ l :: ls, x.size ≤ s.size) ∧ ls.length ≤ s.size := by
  unfold strings_Split.f
  rw [if_pos ⟨hs, h1⟩]
  have hn := split_ne sep (countB s sep) s
  have hm := split_size sep (countB s sep) s
  have hl := splitB_length_le sep 0 (countB s sep) s
  have hc := countB_le sep h1 s.size s (Nat.le_refl _)
  cases h : splitB sep 0 (countB s sep) s with
  | nil => exact absurd h hn
  | cons l ls =>
    rw [h] at hm hl
    refine ⟨l, ls, rfl, hm, ?_⟩
    rw [List.length_cons] at hl
    omega

theorem cut_size (l sep : List UInt8) : (cut l sep).1.length ≤ l.length ∧ (cut l sep).2.1.length ≤ l.length := by
  unfold cut
  split
  · simp only [List.length_take, List.length_drop]; omega
  · simp
theorem dropWhile_length {α : Type} (p : α → Bool) (l : List α) : (l.dropWhile p).length ≤ l.length := by
  induction l with
  | nil => simp
  | cons a l ih => rw [List.dropWhile_cons]; split <;> simp <;> omega
theorem trim_size (l cs : List UInt8) : (trimS l cs).length ≤ l.length := by
  unfold trimS trimLeftS trimRightS
  have h1 := dropWhile_length (cs.contains ·) (l.reverse.dropWhile (cs.contains ·)).reverse
  have h2 := dropWhile_length (cs.contains ·) l.reverse
  simp only [List.length_reverse] at h1 h2
  omega
theorem trim_f (a b : ByteArray) (ha : a.size ≤ 9223372036854775807) (hb : b.size < 4294967281) (hc : asciiB b.data.toList = true) : strings_Trim.f a b = some ⟨(trimS a.data.toList b.data.toList).toArray⟩ := by
  unfold strings_Trim.f
  rw [if_pos ⟨ha, hb, hc⟩]
theorem cut_f (a b : ByteArray) (ha : a.size < 4294967281) : strings_Cut.f a b = some (⟨(cut a.data.toList b.data.toList).1.toArray⟩, ⟨(cut a.data.toList b.data.toList).2.1.toArray⟩, (cut a.data.toList b.data.toList).2.2) := by
  unfold strings_Cut.f
  rw [if_pos ha]
theorem size_mk (l : List UInt8) : (⟨l.toArray⟩ : ByteArray).size = l.length := by rw [Base.size_eq]

theorem head_total (k : Nat) (l : ByteArray) (hl : l.size ≤ 1000000) (hk : l.size + 2 < k) : ∃ r, headF k l = some r := by
  unfold headF
  rw [cut_f _ _ (by omega), Option.bind_some]
  have hc := cut_size l.data.toList ([58] : List UInt8)
  rw [← Base.size_eq] at hc
  dsimp only
  rw [trim_f _ _ (by rw [size_mk]; have := hc.2; exact Nat.le_trans this (by omega)) (by decide) (by decide), Option.bind_some]
  have ht := trim_size (⟨(cut l.data.toList ([58] : List UInt8)).2.1.toArray⟩ : ByteArray).data.toList ([32, 9] : List UInt8)
  split
  · exact ⟨_, rfl⟩
  · rw [token_f _ (by rw [size_mk]; exact Nat.le_trans hc.1 (by omega)) k (by rw [size_mk]; have := hc.1; exact Nat.lt_of_le_of_lt (Nat.add_le_add_right this 2) hk), Option.bind_some]
    split
    · exact ⟨_, rfl⟩
    · have hs : (trimS (⟨(cut l.data.toList ([58] : List UInt8)).2.1.toArray⟩ : ByteArray).data.toList ([32, 9] : List UInt8)).length ≤ l.size := Nat.le_trans ht hc.2
      rw [text_f _ (by rw [size_mk]; exact Nat.le_trans hs (by omega)) k (by rw [size_mk]; exact Nat.lt_of_le_of_lt (Nat.add_le_add_right hs 2) hk), Option.bind_some]
      split
      · exact ⟨_, rfl⟩
      · unfold http_small.f
        rw [if_pos (by rw [size_mk]; exact Nat.lt_of_le_of_lt hc.1 (by omega))]
        exact ⟨_, rfl⟩
theorem heads_total (k B : Nat) (hB : B ≤ 1000000) (hk : B + 2 < k) : ∀ ls : List ByteArray, (∀ x ∈ ls, x.size ≤ B) → ∃ r, headsF k ls = some r
  | [], _ => ⟨_, rfl⟩
  | l :: ls, h => by
    have hl := h l (by simp)
    obtain ⟨r, hr⟩ := head_total k l (by omega) (by omega)
    obtain ⟨q, hq⟩ := heads_total k B hB hk ls (fun x hx => h x (by simp [hx]))
    unfold headsF
    rw [hr, Option.bind_some]
    cases r with
    | none => exact ⟨_, rfl⟩
    | some r => dsimp only; rw [hq]; exact ⟨_, rfl⟩

theorem dropWhile_nil {α : Type} (p : α → Bool) : ∀ l : List α, l.dropWhile p = [] → l.all p = true
  | [], _ => rfl
  | a :: l, h => by
    rw [List.dropWhile_cons] at h
    split at h
    · rename_i ha; rw [List.all_cons, ha, dropWhile_nil p l h]; rfl
    · cases h
theorem dropWhile_first {α : Type} (p : α → Bool) : ∀ (l : List α) (a : α) (r : List α), l.dropWhile p = a :: r → p a = false
  | [], _, _, h => by cases h
  | b :: l, a, r, h => by
    rw [List.dropWhile_cons] at h
    split at h
    · exact dropWhile_first p l a r h
    · rename_i hb; cases h; simpa using hb
theorem trim_nil (l cs : List UInt8) (h : trimS l cs = []) : l.all (cs.contains ·) = true := by
  unfold trimS trimLeftS trimRightS at h
  have h1 := dropWhile_nil _ _ h
  rw [List.all_reverse] at h1
  cases h2 : l.reverse.dropWhile (cs.contains ·) with
  | nil => have := dropWhile_nil _ _ h2; rwa [List.all_reverse] at this
  | cons a r =>
    have h3 := dropWhile_first _ _ a r h2
    rw [h2, List.all_cons] at h1
    rw [h3] at h1
    cases h1
def digsL : List UInt8 := [48, 49, 50, 51, 52, 53, 54, 55, 56, 57]
theorem digs_iff : ∀ x : Fin 256, digsL.contains (UInt8.ofNat x.val) = digitB (UInt8.ofNat x.val) := by decide +kernel
theorem digs_b (c : UInt8) : digsL.contains c = digitB c := by
  have := digs_iff ⟨c.toNat, c.toNat_lt⟩
  simpa using this
theorem foldV_lt : ∀ (l : List UInt8) (acc : Nat), l.all digitB = true → foldV acc l + 1 ≤ (acc + 1) * 10 ^ l.length
  | [], acc, _ => by simp [foldV]
  | c :: l, acc, h => by
    simp only [List.all_cons, Bool.and_eq_true] at h
    have hc := (digitB_iff c).1 h.1
    have := foldV_lt l (acc * 10 + (c.toNat - 48)) h.2
    rw [show foldV acc (c :: l) = foldV (acc * 10 + (c.toNat - 48)) l from rfl, List.length_cons, Nat.pow_succ]
    refine Nat.le_trans this ?_
    rw [Nat.mul_comm (10 ^ l.length) 10, ← Nat.mul_assoc]
    exact Nat.mul_le_mul_right _ (by omega)
theorem atoi_digits (l : List UInt8) (h0 : l ≠ []) (h1 : l.all digitB = true) (h2 : l.length ≤ 9) : atoiAll l = .ok (valN l : Int) := by
  have hv := foldV_lt l 0 h1
  have hp : (10 : Nat) ^ l.length ≤ 10 ^ 9 := Nat.pow_le_pow_right (by decide) h2
  have hv2 : valN l ≤ 1000000000 := by
    show foldV 0 l ≤ _
    have e : (10 : Nat) ^ 9 = 1000000000 := by decide
    omega
  obtain ⟨c, r, rfl⟩ : ∃ c r, l = c :: r := by cases l with | nil => exact absurd rfl h0 | cons c r => exact ⟨c, r, rfl⟩
  have hc : 48 ≤ c.toNat ∧ c.toNat ≤ 57 := (digitB_iff c).1 (by simp only [List.all_cons, Bool.and_eq_true] at h1; exact h1.1)
  have hp : parseMag (c :: r) = .ok (valN (c :: r)) := by
    unfold parseMag
    rw [if_neg h0]
    exact parse_ok (c :: r) 0 h1 (Nat.le_trans hv2 (by decide))
  unfold atoiAll
  dsimp only
  rw [if_neg (by omega), hp]
  dsimp only
  rw [if_neg (by omega), if_neg (by omega), if_neg (by omega)]

/-- How long the body is said to be, plain. -/
theorem size_total (xs : List S79) : ∃ r, sizeF xs = some r := by
  unfold sizeF
  generalize cntF xs nLen 0 (⟨#[]⟩ : ByteArray) = c
  obtain ⟨n, v⟩ := c
  dsimp only
  split
  · split
    · exact ⟨_, rfl⟩
    · rename_i hne
      split
      · exact ⟨_, rfl⟩
      · rename_i h9
        rw [trim_f _ _ (by omega) (by decide) (by decide), Option.bind_some]
        split
        · exact ⟨_, rfl⟩
        · rename_i ht
          rw [Base.toList_data] at hne
          have ht' := Decidable.not_not.mp ht
          rw [Base.toList_data] at ht'
          have ha := trim_nil _ _ ht'
          have ha2 : v.data.toList.all digitB = true := by
            rw [← ha]
            congr 1
            funext c
            exact (digs_b c).symm
          unfold strconv_Atoi.f
          rw [if_pos (by omega), atoi_digits _ hne ha2 (by rw [← Base.size_eq]; omega)]
          dsimp only
          rw [Option.bind_some]
          dsimp only
          rw [if_pos (by omega)]
          exact ⟨_, rfl⟩
  · exact ⟨_, rfl⟩

theorem read_total (kk : Nat) (rl : ByteArray → Option Bool) (hosts : Bool) (b : ByteArray) (hb : b.size ≤ 1000000000) (hrl : ∀ l, l.size ≤ 4096 → ∃ r, rl l = some r) (hk : 4098 < kk) : ∃ r, readF kk rl hosts b = some r := by
  have hi := index_b b
  unfold readF
  rw [show strings_Index.f b (⟨#[13, 10, 13, 10]⟩ : ByteArray) = _ from index_f b c4 (by omega), Option.bind_some]
  cases hx : index b.data.toList c4.data.toList with
  | negSucc m => 
    rw [hx] at hi
    rw [if_pos (by omega)]
    split
    · exact ⟨_, rfl⟩
    · rw [if_pos (by omega)]; exact ⟨_, rfl⟩
  | ofNat i =>
    rw [hx] at hi
    rw [if_pos (by simp only [Int.ofNat_eq_natCast] at *; omega)]
    split
    · exact ⟨_, rfl⟩
    · rename_i h1
      rw [if_neg (by simp only [Int.ofNat_eq_natCast] at *; omega)]
      have hr : (0 : Int) ≤ index b.data.toList c4.data.toList := by rw [hx]; simp
      have hroom := index_room b.data.toList c4.data.toList hr
      rw [hx, size_c4, ← Base.size_eq] at hroom
      simp only [Int.ofNat_eq_natCast, Int.toNat_natCast] at *
      rw [if_pos (by omega)]
      have hse : (b.extract 0 i).size ≤ i := by rw [Base.size_eq, data_extract, List.length_take]; omega
      obtain ⟨l0, ls, hs, hm, hl⟩ := split_f (b.extract 0 i) c2 (by omega) (by decide)
      rw [show strings_Split.f (b.extract 0 i) (⟨#[13, 10]⟩ : ByteArray) = some (l0 :: ls) from hs, Option.bind_some]
      show ∃ r, (if ls.length ≤ 4096 then _ else _) = some r
      rw [if_pos (by omega)]
      obtain ⟨r0, hr0⟩ := hrl l0 (by have := hm l0 (by simp); omega)
      rw [hr0, Option.bind_some]
      split
      · exact ⟨_, rfl⟩
      · obtain ⟨hr, hh⟩ := heads_total kk 4096 (by decide) hk ls (fun x hx => by have := hm x (by simp [hx]); omega)
        rw [hh, Option.bind_some]
        cases hr with
        | none => exact ⟨_, rfl⟩
        | some xs =>
          dsimp only
          unfold tailF
          split
          · exact ⟨_, rfl⟩
          · split
            · exact ⟨_, rfl⟩
            · obtain ⟨sz, hsz⟩ := size_total xs
              rw [hsz, Option.bind_some]
              cases sz with
              | none => exact ⟨_, rfl⟩
              | some s =>
                dsimp only
                split
                · exact ⟨_, rfl⟩
                · split <;> exact ⟨_, rfl⟩

theorem rdOf_mem (l : List ByteArray) (i : Nat) (h : i < l.length) : rdOf ByteArray.empty l (i : Int) ∈ l := by
  unfold rdOf
  rw [Int.toNat_natCast, List.getD_eq_getElem?_getD, List.getElem?_eq_getElem h, Option.getD_some]
  exact List.getElem_mem h
theorem requestLine_total (k : Nat) (s : ByteArray) (hs : s.size ≤ 1000000) (hk : s.size + 2 < k) : ∃ r, http_requestLine.f k s = some r := by
  obtain ⟨l0, ls, h, hm, hl⟩ := split_f s (⟨#[32]⟩ : ByteArray) (by omega) (by decide)
  unfold http_requestLine.f
  rw [h, Option.bind_some]
  generalize l0 :: ls = L at hm
  split
  · rename_i h3
    rw [if_pos (by omega)]
    have m0 := hm _ (rdOf_mem L 0 (by omega))
    have m1 := hm _ (rdOf_mem L 1 (by omega))
    simp only [Int.natCast_zero, Int.natCast_one] at m0 m1
    rw [token_f _ (by omega) k (by omega), Option.bind_some]
    split
    · rw [if_pos (by omega), target_f _ (by omega) k (by omega), Option.bind_some]
      split
      · rw [if_pos (by omega)]
        split <;> exact ⟨_, rfl⟩
      · exact ⟨_, rfl⟩
    · exact ⟨_, rfl⟩
  · exact ⟨_, rfl⟩
theorem request_1_total (k : Nat) (hk : 4098 < k) (l : ByteArray) (hl : l.size ≤ 4096) : ∃ r, http_ReadRequest_1.f k l = some r := by
  obtain ⟨r, hr⟩ := requestLine_total k l (by omega) (by omega)
  unfold http_ReadRequest_1.f
  rw [hr]
  exact ⟨_, rfl⟩
/-- An error's number is none of 0. -/
theorem bad_ne (kk : Nat) (rl : ByteArray → Option Bool) (hosts : Bool) (b : ByteArray) (n : Int) (h : readF kk rl hosts b = some (.bad n)) : n ≠ 0 := by
  unfold readF at h
  obtain ⟨i, hi, h⟩ := Option.bind_eq_some_iff.mp h
  have key : ∀ {P : Prop} [Decidable P] {x y : Option RdRes}, (if P then x else y) = some (.bad n) → (x = some (.bad n) ∨ y = some (.bad n)) := by
    intro P _ x y h
    split at h
    · exact .inl h
    · exact .inr h
  have bad : ∀ m : Int, m ≠ 0 → (some (RdRes.bad m) = some (.bad n)) → n ≠ 0 := by
    intro m hm h
    cases h
    exact hm
  rcases key h with h | h
  · rcases key h with h | h
    · exact bad 2 (by decide) h
    · rcases key h with h | h
      · exact bad 3 (by decide) h
      · rcases key h with h | h
        · obtain ⟨ls, hs, h⟩ := Option.bind_eq_some_iff.mp h
          cases ls with
          | nil => cases h
          | cons l0 ls =>
            unfold restF at h
            dsimp only at h
            rcases key h with h | h
            · obtain ⟨r0, hr0, h⟩ := Option.bind_eq_some_iff.mp h
              rcases key h with h | h
              · exact bad 220 (by decide) h
              · obtain ⟨hr, hh, h⟩ := Option.bind_eq_some_iff.mp h
                cases hr with
                | none => exact bad 220 (by decide) h
                | some xs =>
                  unfold tailF at h
                  rcases key h with h | h
                  · exact bad 220 (by decide) h
                  · rcases key h with h | h
                    · exact bad 220 (by decide) h
                    · obtain ⟨sz, hsz, h⟩ := Option.bind_eq_some_iff.mp h
                      cases sz with
                      | none => exact bad 222 (by decide) h
                      | some s =>
                        dsimp only at h
                        rcases key h with h | h
                        · exact bad 222 (by decide) h
                        · rcases key h with h | h
                          · exact bad 3 (by decide) h
                          · cases h
            · cases h
        · cases h
  · cases h
theorem line_size {kk : Nat} {rl : ByteArray → Option Bool} {hosts : Bool} {b l0 : ByteArray} {i s : Nat} {ls : List ByteArray} {xs : List S79} (G : Good kk rl hosts b i s l0 ls xs) : l0.size ≤ 4096 := by
  have h := G.lines
  have hh := G.head
  have hse : (b.extract 0 i).size ≤ i := by rw [Base.size_eq, data_extract, List.length_take]; omega
  obtain ⟨l1, l2, hs, hm, hl⟩ := split_f (b.extract 0 i) c2 (by omega) (by decide)
  rw [h] at hs
  cases hs
  have := hm l0 (by simp)
  omega
end Go.Proofs.YtpikebpjlhccbaaGreatDoor.PAll
