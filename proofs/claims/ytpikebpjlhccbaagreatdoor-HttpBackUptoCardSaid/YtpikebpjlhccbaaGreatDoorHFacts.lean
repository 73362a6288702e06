/- What is known of a request that was read: its parts are right, and together no longer than the text. -/
import Derived.Test.YtpikebpjlhccbaaGreatDoorHResp
namespace Go.Proofs.YtpikebpjlhccbaaGreatDoor.PAll
set_option linter.unusedVariables false
set_option linter.unusedSimpArgs false
open Go.RowKit Go.Proofs.YtpikebpjlhccbaaGreatDoorW.PrintWords Base Go.Lib

def sumB (l : List ByteArray) : Nat := (l.map (·.size)).sum
theorem split_sum (sep : ByteArray) (hsep : 1 ≤ sep.size) : ∀ (k : Nat) (s : ByteArray), sumB (splitB sep 0 k s) + ((splitB sep 0 k s).length - 1) * sep.size ≤ s.size := by
  intro k
  induction k with
  | zero => intro s; simp [splitB, sumB]
  | succ k ih =>
    intro s
    unfold splitB
    split
    · simp [sumB]
    · rename_i hne
      have hge := index_ge s.data.toList sep.data.toList
      have hne' : index s.data.toList sep.data.toList ≠ -1 := fun h => hne (by rw [show indexB s sep = index s.data.toList sep.data.toList from rfl, h]; rfl)
      have hroom := index_room s.data.toList sep.data.toList (by omega)
      rw [show indexB s sep = index s.data.toList sep.data.toList from rfl]
      generalize index s.data.toList sep.data.toList = j at *
      obtain ⟨i, rfl⟩ := Int.eq_ofNat_of_zero_le (show 0 ≤ j by omega)
      rw [← Base.size_eq, ← Base.size_eq] at hroom
      rw [Int.toNat_natCast]
      have h1 : (s.extract 0 (i + 0)).size ≤ i := by rw [Base.size_eq, data_extract, List.length_take]; omega
      have h2 : (s.extract (i + sep.size) s.size).size = s.size - (i + sep.size) := by
        rw [Base.size_eq, data_extract, List.length_take, List.length_drop, ← Base.size_eq]; omega
      have h3 := ih (s.extract (i + sep.size) s.size)
      have h4 : 1 ≤ (splitB sep 0 k (s.extract (i + sep.size) s.size)).length := by
        have := split_ne sep k (s.extract (i + sep.size) s.size)
        cases h : splitB sep 0 k (s.extract (i + sep.size) s.size) with
        | nil => exact absurd h this
        | cons a b => simp
      generalize splitB sep 0 k (s.extract (i + sep.size) s.size) = L at h3 h4 ⊢
      have e1 : sumB ((s.extract 0 (i + 0)) :: L) = (s.extract 0 (i + 0)).size + sumB L := by simp [sumB]
      rw [e1, List.length_cons]
      obtain ⟨q, hq⟩ : ∃ q, L.length = q + 1 := ⟨L.length - 1, by omega⟩
      rw [hq] at h3 ⊢
      simp only [Nat.add_sub_cancel] at h3 ⊢
      rw [Nat.add_mul, Nat.one_mul]
      omega

theorem requestLine_facts (k : Nat) (l0 m t : ByteArray) (hk : 6000 < k) (hz : l0.size ≤ 4096) (h : http_requestLine.f k l0 = some (m, t, true)) : tokenB m.data.toList = true ∧ targetB t.data.toList = true ∧ m.size + t.size + 10 ≤ l0.size := by
  unfold http_requestLine.f at h
  obtain ⟨L, hs, h⟩ := Option.bind_eq_some_iff.mp h
  have hsum := split_sum spB (by decide) (countB l0 spB) l0
  have hmem := split_size spB (countB l0 spB) l0
  unfold strings_Split.f at hs
  rw [if_pos ⟨by omega, by decide⟩, Option.some.injEq] at hs
  have hs' : splitB spB 0 (countB l0 spB) l0 = L := hs
  rw [hs'] at hsum hmem
  by_cases h3 : (L.length : Int) = 3
  rotate_left
  · rw [if_neg h3] at h
    simp only [Option.some.injEq, Prod.mk.injEq, Bool.false_eq_true, and_false] at h
  rw [if_pos h3, if_pos (by omega)] at h
  obtain ⟨a, b, c, rfl⟩ : ∃ a b c, L = [a, b, c] := by
    match L, h3 with
    | [a, b, c], _ => exact ⟨a, b, c, rfl⟩
    | [], h => simp at h
    | [_], h => simp at h
    | [_, _], h => simp at h
    | _ :: _ :: _ :: _ :: _, h => simp at h; omega
  have ma := hmem a (by simp)
  have mb := hmem b (by simp)
  have mc := hmem c (by simp)
  rw [show rdOf ByteArray.empty [a, b, c] 0 = a from rfl, show rdOf ByteArray.empty [a, b, c] 1 = b from rfl, show rdOf ByteArray.empty [a, b, c] 2 = c from rfl] at h
  rw [token_f a (by omega) k (by omega), Option.bind_some] at h
  by_cases h4 : tokenB a.data.toList = true
  rotate_left
  · rw [if_neg h4] at h
    simp only [Option.some.injEq, Prod.mk.injEq, Bool.false_eq_true, and_false] at h
  rw [if_pos h4, if_pos (by omega), target_f b (by omega) k (by omega), Option.bind_some] at h
  by_cases h5 : targetB b.data.toList = true
  rotate_left
  · rw [if_neg h5] at h
    simp only [Option.some.injEq, Prod.mk.injEq, Bool.false_eq_true, and_false] at h
  rw [if_pos h5, if_pos (by omega)] at h
  by_cases h6 : c.toList = ([72, 84, 84, 80, 47, 49, 46, 49] : List UInt8)
  rotate_left
  · rw [if_neg h6] at h
    simp only [Option.some.injEq, Prod.mk.injEq, Bool.false_eq_true, and_false] at h
  rw [if_pos h6] at h
  simp only [Option.some.injEq, Prod.mk.injEq, and_true] at h
  obtain ⟨rfl, rfl⟩ := h
  have hc : c.size = 8 := by rw [Base.size_eq, ← Base.toList_data, h6]; rfl
  refine ⟨h4, h5, ?_⟩
  simp only [sumB, List.map_cons, List.map_nil, List.sum_cons, List.sum_nil, List.length_cons, List.length_nil] at hsum
  rw [show spB.size = 1 from rfl, hc] at hsum
  omega

theorem trim_idem (v : List UInt8) : trimS (trimS v [32, 9]) [32, 9] = trimS v [32, 9] := by
  have key : ∀ (p : UInt8 → Bool) (v : List UInt8), (((((v.reverse.dropWhile p).reverse).dropWhile p).reverse.dropWhile p).reverse).dropWhile p = ((v.reverse.dropWhile p).reverse).dropWhile p := by
    intro p v
    generalize hR : (v.reverse.dropWhile p).reverse = R
    obtain ⟨q, hq⟩ := List.dropWhile_suffix (l := R) p
    generalize hw : R.dropWhile p = w at hq ⊢
    cases hwr : w.reverse with
    | nil =>
      have : w = [] := by simpa using hwr
      subst this
      rfl
    | cons a r =>
      have e : v.reverse.dropWhile p = a :: (r ++ q.reverse) := by
        have : R.reverse = v.reverse.dropWhile p := by rw [← hR, List.reverse_reverse]
        rw [← this, ← hq, List.reverse_append, hwr, List.cons_append]
      have pa := dropWhile_first p _ _ _ e
      rw [List.dropWhile_cons, if_neg (by rw [pa]; simp), ← hwr, List.reverse_reverse]
      cases w with
      | nil => rfl
      | cons b w' =>
        have pb := dropWhile_first p _ _ _ hw
        rw [List.dropWhile_cons, if_neg (by rw [pb]; simp)]
  exact key _ v
theorem head_facts (k : Nat) (l : ByteArray) (x : S79) (hz : l.size ≤ 4096) (hk : 6000 < k) (h : headF k l = some (some x)) : okVal x.f1.data.toList ∧ x.f1.size ≤ l.size := by
  unfold headF at h
  rw [cut_f _ _ (by omega), Option.bind_some] at h
  have hc := cut_size l.data.toList ([58] : List UInt8)
  rw [← Base.size_eq] at hc
  dsimp only at h
  rw [trim_f _ _ (by rw [size_mk]; have := hc.2; exact Nat.le_trans this (by omega)) (by decide) (by decide), Option.bind_some] at h
  have ht := trim_size (⟨(cut l.data.toList ([58] : List UInt8)).2.1.toArray⟩ : ByteArray).data.toList ([32, 9] : List UInt8)
  have hs : (trimS (⟨(cut l.data.toList ([58] : List UInt8)).2.1.toArray⟩ : ByteArray).data.toList ([32, 9] : List UInt8)).length ≤ l.size := Nat.le_trans ht hc.2
  split at h
  · cases h
  · obtain ⟨b1, _, h⟩ := Option.bind_eq_some_iff.mp h
    split at h
    · cases h
    · rw [text_f _ (by rw [size_mk]; exact Nat.le_trans hs (by omega)) k (by rw [size_mk]; exact Nat.lt_of_le_of_lt (Nat.add_le_add_right hs 2) (by omega)), Option.bind_some] at h
      split at h
      · cases h
      · rename_i htx
        obtain ⟨nm, _, h⟩ := Option.bind_eq_some_iff.mp h
        simp only [Option.some.injEq] at h
        subst h
        refine ⟨⟨by simpa using htx, trim_idem _⟩, ?_⟩
        rw [size_mk]
        exact hs
def sumV (xs : List S79) : Nat := (xs.map (·.f1.size)).sum
theorem heads_facts (k : Nat) (hk : 6000 < k) : ∀ (ls : List ByteArray) (xs : List S79), (∀ l ∈ ls, l.size ≤ 4096) → headsF k ls = some (some xs) → (∀ x ∈ xs, okVal x.f1.data.toList) ∧ sumV xs ≤ sumB ls
  | [], xs, _, h => by simp only [headsF, Option.some.injEq] at h; subst h; simp [sumV, sumB]
  | l :: ls, xs, hl, h => by
    unfold headsF at h
    obtain ⟨x, hx, h⟩ := Option.bind_eq_some_iff.mp h
    cases x with
    | none => cases h
    | some x =>
      obtain ⟨r, hr, h⟩ := Option.bind_eq_some_iff.mp h
      cases r with
      | none => cases h
      | some r =>
        simp only [Option.map_some, Option.some.injEq] at h
        subst h
        obtain ⟨f1, f2⟩ := head_facts k l x (hl l (by simp)) hk hx
        obtain ⟨g1, g2⟩ := heads_facts k hk ls r (fun y hy => hl y (by simp [hy])) hr
        refine ⟨fun y hy => ?_, ?_⟩
        · rcases List.mem_cons.1 hy with rfl | hy
          · exact f1
          · exact g1 y hy
        · simp only [sumV, sumB, List.map_cons, List.sum_cons] at g2 ⊢
          omega
theorem cnt_pos : ∀ (xs : List S79) (a : ByteArray) (n : Int) (v : ByteArray), 1 ≤ n → (cntF xs a n v).2 = v
  | [], _, _, _, _ => rfl
  | x :: xs, a, n, v, h => by
    unfold cntF
    split
    · rw [cnt_pos xs a (n + 1) _ (by omega), if_neg (by omega)]
    · exact cnt_pos xs a n v h
theorem cnt_val (P : ByteArray → Prop) (h0 : P ⟨#[]⟩) : ∀ (xs : List S79) (a : ByteArray), (∀ x ∈ xs, P x.f1) → P (cntF xs a 0 (⟨#[]⟩ : ByteArray)).2
  | [], _, _ => h0
  | x :: xs, a, h => by
    unfold cntF
    split
    · rw [cnt_pos xs a (0 + 1) _ (by omega), if_pos rfl]; exact h x (by simp)
    · exact cnt_val P h0 xs a (fun y hy => h y (by simp [hy]))
theorem cnt_one : ∀ (xs : List S79) (a : ByteArray), (cntF xs a 0 (⟨#[]⟩ : ByteArray)).2.size ≤ sumV xs
  | [], _ => Nat.zero_le _
  | x :: xs, a => by
    have ih := cnt_one xs a
    have e : sumV (x :: xs) = x.f1.size + sumV xs := by simp [sumV]
    unfold cntF
    split
    · rw [cnt_pos xs a (0 + 1) _ (by omega), if_pos rfl]; omega
    · omega
theorem cnt_two (a b : ByteArray) (hab : a.toList ≠ b.toList) : ∀ (xs : List S79), (cntF xs a 0 (⟨#[]⟩ : ByteArray)).2.size + (cntF xs b 0 (⟨#[]⟩ : ByteArray)).2.size ≤ sumV xs
  | [] => Nat.zero_le _
  | x :: xs => by
    have ih := cnt_two a b hab xs
    have e : sumV (x :: xs) = x.f1.size + sumV xs := by simp [sumV]
    have oa := cnt_one xs a
    have ob := cnt_one xs b
    unfold cntF
    by_cases h1 : x.f0.toList = a.toList
    · rw [if_pos h1, if_neg (fun h => hab (h1.symm.trans h)), cnt_pos xs a (0 + 1) _ (by omega), if_pos rfl]; omega
    · rw [if_neg h1]
      by_cases h2 : x.f0.toList = b.toList
      · rw [if_pos h2, cnt_pos xs b (0 + 1) _ (by omega), if_pos rfl]; omega
      · rw [if_neg h2]; omega

theorem lines_len (m t h y b : ByteArray) : (linesL (line0 m t :: linesR m t h y b)).length ≤ m.size + t.size + 10 + (2 + (h.size + 6)) + (2 + (y.size + 14)) + (2 + (16 + (itoaB b.size).size)) := by
  unfold linesL linesR
  split
  · simp only [List.nil_append, List.map_cons, List.map_nil, joinL, line0, lineH, List.length_append, data_append, ← Base.size_eq, clB_size]
    rw [show spB.size = 1 from rfl]
    simp only [List.length_cons, List.length_nil]
    omega
  · simp only [List.singleton_append, List.map_cons, List.map_nil, joinL, line0, lineH, List.length_append, data_append, ← Base.size_eq, clB_size, ctB_size]
    rw [show spB.size = 1 from rfl]
    simp only [List.length_cons, List.length_nil]
    omega

/-- What was read from a text of at most 3900 bytes can be written again. -/
theorem read_facts (k : Nat) (hk : 6000 < k) (s m t h y b : ByteArray) (n : Nat) (hs : s.size ≤ 3900) (hr : http_ReadRequest.f k s = some (m, t, h, y, b, (n : Int), 0)) :
    tokenB m.data.toList = true ∧ targetB t.data.toList = true ∧ okVal h.data.toList ∧ okVal y.data.toList ∧ b.size ≤ 4096 ∧ (linesL (line0 m t :: linesR m t h y b)).length + 4 ≤ 4096 ∧ m.size + t.size + h.size + y.size + b.size ≤ 2000000 := by
  unfold http_ReadRequest.f at hr
  obtain ⟨r, hrd, hr⟩ := Option.bind_eq_some_iff.mp hr
  cases r with
  | bad e =>
    have hne := bad_ne _ _ _ _ _ hrd
    simp only [Option.some.injEq, Prod.mk.injEq] at hr
    exact absurd hr.2.2.2.2.2.2 hne
  | good l0 xs body n' =>
    obtain ⟨q, hq, hr⟩ := Option.bind_eq_some_iff.mp hr
    simp only [Option.some.injEq, Prod.mk.injEq] at hr
    obtain ⟨rfl, rfl, rfl, rfl, rfl, _, _⟩ := hr
    obtain ⟨i, sz, ls, G, g1, rfl, _⟩ := good_of hrd
    have hfirst := G.first
    unfold http_ReadRequest_1.f at hfirst
    rw [hq, Option.bind_some, Option.some.injEq] at hfirst
    obtain ⟨q1, q2, q3⟩ := q
    dsimp only at hfirst ⊢
    subst hfirst
    have hl0 := line_size G
    obtain ⟨f1, f2, f3⟩ := requestLine_facts k l0 q1 q2 hk hl0 hq
    have hse : (s.extract 0 i).size ≤ i := by rw [Base.size_eq, data_extract, List.length_take]; omega
    have hsplit := G.lines
    unfold strings_Split.f at hsplit
    have hhead := G.head
    rw [if_pos ⟨by omega, by decide⟩, Option.some.injEq] at hsplit
    have hsum := split_sum c2 (by decide) (countB (s.extract 0 i) c2) (s.extract 0 i)
    have hmem := split_size c2 (countB (s.extract 0 i) c2) (s.extract 0 i)
    rw [hsplit] at hsum hmem
    obtain ⟨v1, v2⟩ := heads_facts k hk ls xs (fun l hl => by have := hmem l (by simp [hl]); omega) G.heads
    have hok0 : okVal (⟨#[]⟩ : ByteArray).data.toList := ⟨by decide, by decide⟩
    have h1 := cnt_val (fun v => okVal v.data.toList) hok0 xs nHost v1
    have h2 := cnt_val (fun v => okVal v.data.toList) hok0 xs nType v1
    have h3 := cnt_two nHost nType (Ne.symm ne3) xs
    have hsum2 : l0.size + sumB ls ≤ i := by
      have e : sumB (l0 :: ls) = l0.size + sumB ls := by simp [sumB]
      rw [e] at hsum
      omega
    have hbs : (s.extract (i + 4) (i + 4 + sz)).size ≤ sz := by rw [Base.size_eq, data_extract, List.length_take]; omega
    have hpl := G.plain
    have hsz : sz ≤ 4096 := by
      rcases Nat.lt_or_ge 4096 sz with h | h
      · exact absurd (Or.inr h) hpl
      · exact h
    have h4 := itoaB_four (s.extract (i + 4) (i + 4 + sz)).size (by omega)
    have hll := lines_len q1 q2 (cntF xs nHost 0 (⟨#[]⟩ : ByteArray)).2 (cntF xs nType 0 (⟨#[]⟩ : ByteArray)).2 (s.extract (i + 4) (i + 4 + sz))
    exact ⟨f1, f2, h1, h2, by omega, by omega, by omega⟩
/-- The sizes of what was read, at any text. -/
theorem read_sizes (k : Nat) (hk : 6000 < k) (s m t h y b : ByteArray) (n : Nat) (hs : s.size ≤ 1100000) (hr : http_ReadRequest.f k s = some (m, t, h, y, b, (n : Int), 0)) : m.size + t.size + h.size + y.size + b.size ≤ 2000000 := by
  unfold http_ReadRequest.f at hr
  obtain ⟨r, hrd, hr⟩ := Option.bind_eq_some_iff.mp hr
  cases r with
  | bad e =>
    have hne := bad_ne _ _ _ _ _ hrd
    simp only [Option.some.injEq, Prod.mk.injEq] at hr
    exact absurd hr.2.2.2.2.2.2 hne
  | good l0 xs body n' =>
    obtain ⟨q, hq, hr⟩ := Option.bind_eq_some_iff.mp hr
    simp only [Option.some.injEq, Prod.mk.injEq] at hr
    obtain ⟨rfl, rfl, rfl, rfl, rfl, _, _⟩ := hr
    obtain ⟨i, sz, ls, G, g1, rfl, _⟩ := good_of hrd
    have hfirst := G.first
    unfold http_ReadRequest_1.f at hfirst
    rw [hq, Option.bind_some, Option.some.injEq] at hfirst
    obtain ⟨q1, q2, q3⟩ := q
    dsimp only at hfirst ⊢
    subst hfirst
    have hl0 := line_size G
    obtain ⟨f1, f2, f3⟩ := requestLine_facts k l0 q1 q2 hk hl0 hq
    have hse : (s.extract 0 i).size ≤ i := by rw [Base.size_eq, data_extract, List.length_take]; omega
    have hsplit := G.lines
    unfold strings_Split.f at hsplit
    have hhead := G.head
    rw [if_pos ⟨by omega, by decide⟩, Option.some.injEq] at hsplit
    have hsum := split_sum c2 (by decide) (countB (s.extract 0 i) c2) (s.extract 0 i)
    have hmem := split_size c2 (countB (s.extract 0 i) c2) (s.extract 0 i)
    rw [hsplit] at hsum hmem
    obtain ⟨v1, v2⟩ := heads_facts k hk ls xs (fun l hl => by have := hmem l (by simp [hl]); omega) G.heads
    have h3 := cnt_two nHost nType (Ne.symm ne3) xs
    have hsum2 : l0.size + sumB ls ≤ i := by
      have e : sumB (l0 :: ls) = l0.size + sumB ls := by simp [sumB]
      rw [e] at hsum
      omega
    have hbs : (s.extract (i + 4) (i + 4 + sz)).size ≤ sz := by rw [Base.size_eq, data_extract, List.length_take]; omega
    omega
end Go.Proofs.YtpikebpjlhccbaaGreatDoor.PAll
