/- Lines with their ends between them: where they end, how they are split. Plain lists. -/
import Derived.Test.YtpikebpjlhccbaaGreatDoorHTotal
import Derived.Test.YtpikebpjlhccbaaGreatDoorHWrite
import Derived.Test.YtpikebpjlhccbaaGreatDoorPAllx8
namespace Go.Proofs.YtpikebpjlhccbaaGreatDoor.PAll
set_option linter.unusedVariables false
set_option linter.unusedSimpArgs false
open Go.RowKit Go.Proofs.YtpikebpjlhccbaaGreatDoorW.PrintWords Base Go.Lib

theorem prefix_head {c b : UInt8} {t l : List UInt8} (h : c ≠ b) : (c :: t).isPrefixOf (b :: l) = false := by
  rw [List.isPrefixOf, beq_eq_false_iff_ne.mpr h, Bool.false_and]
theorem index_skip (c : UInt8) (t : List UInt8) : ∀ (l z : List UInt8), c ∉ l → 0 ≤ index z (c :: t) → index (l ++ z) (c :: t) = l.length + index z (c :: t)
  | [], z, _, _ => by simp
  | b :: l, z, h, hz => by
    have hb : c ≠ b := fun e => h (by simp [e])
    have ih := index_skip c t l z (fun e => h (by simp [e])) hz
    rw [List.cons_append, index, prefix_head hb]
    rw [if_neg (by simp), if_neg (by rw [ih]; simp; omega), ih, List.length_cons]
    omega
theorem index_lacks (c : UInt8) (t : List UInt8) : ∀ (l : List UInt8), c ∉ l → index l (c :: t) = -1
  | [], _ => by simp [index]
  | b :: l, h => by
    have hb : c ≠ b := fun e => h (by simp [e])
    rw [index, prefix_head hb, if_neg (by simp), if_pos (by rw [index_lacks c t l (fun e => h (by simp [e]))]; rfl)]
theorem index_here (sub z : List UInt8) (h : sub ≠ []) : index (sub ++ z) sub = 0 := by
  cases sub with
  | nil => exact absurd rfl h
  | cons c t => rw [List.cons_append, index, if_pos (by rw [← List.cons_append]; simp)]

/-- Parts with a separator between. -/
def joinL (sep : List UInt8) : List (List UInt8) → List UInt8
  | [] => []
  | [l] => l
  | l :: m :: r => l ++ (sep ++ joinL sep (m :: r))
theorem join_cons (sep l m : List UInt8) (r : List (List UInt8)) : joinL sep (l :: m :: r) = l ++ (sep ++ joinL sep (m :: r)) := rfl

theorem splitK_join (c : UInt8) (t : List UInt8) : ∀ (r : List (List UInt8)) (l : List UInt8) (k : Nat), (∀ x ∈ l :: r, c ∉ x) → r.length ≤ k → splitK (c :: t) 0 k (joinL (c :: t) (l :: r)) = l :: r
  | [], l, 0, h, _ => rfl
  | [], l, k + 1, h, _ => by
    show splitK (c :: t) 0 (k + 1) l = [l]
    rw [splitK, if_pos (by rw [index_lacks c t l (h l (by simp))]; rfl)]
  | m :: r, l, 0, h, hk => by simp at hk
  | m :: r, l, k + 1, h, hk => by
    have hz := index_here (c :: t) (joinL (c :: t) (m :: r)) (by simp)
    have hi := index_skip c t l ((c :: t) ++ joinL (c :: t) (m :: r)) (h l (by simp)) (by rw [hz]; exact Int.le_refl 0)
    rw [hz, Int.add_zero] at hi
    rw [join_cons, splitK, hi, if_neg (by simp), Int.toNat_natCast, Nat.add_zero, List.take_left' rfl, List.drop_append, Nat.add_sub_cancel_left, List.drop_eq_nil_of_le (by omega), List.nil_append, List.drop_left' rfl]
    rw [splitK_join c t r m k (fun x hx => h x (by simp at hx ⊢; right; exact hx)) (by simpa using hk)]
theorem countFrom_join (c : UInt8) (t : List UInt8) : ∀ (r : List (List UInt8)) (l : List UInt8) (k : Nat), (∀ x ∈ l :: r, c ∉ x) → r.length < k → countFrom (c :: t) k (joinL (c :: t) (l :: r)) = r.length
  | _, l, 0, h, hk => by simp at hk
  | [], l, k + 1, h, _ => by
    show countFrom (c :: t) (k + 1) l = 0
    rw [countFrom, if_pos (by rw [index_lacks c t l (h l (by simp))]; rfl)]
  | m :: r, l, k + 1, h, hk => by
    have hz := index_here (c :: t) (joinL (c :: t) (m :: r)) (by simp)
    have hi := index_skip c t l ((c :: t) ++ joinL (c :: t) (m :: r)) (h l (by simp)) (by rw [hz]; exact Int.le_refl 0)
    rw [hz, Int.add_zero] at hi
    rw [join_cons, countFrom, hi, if_neg (by simp), Int.toNat_natCast, List.drop_append, Nat.add_sub_cancel_left, List.drop_eq_nil_of_le (by omega), List.nil_append, List.drop_left' rfl]
    rw [countFrom_join c t r m k (fun x hx => h x (by simp at hx ⊢; right; exact hx)) (by simp at hk; omega), List.length_cons]
    omega
theorem join_length (sep : List UInt8) (hs : 1 ≤ sep.length) : ∀ (r : List (List UInt8)) (l : List UInt8), r.length ≤ (joinL sep (l :: r)).length
  | [], l => by simp
  | m :: r, l => by
    have := join_length sep hs r m
    rw [join_cons, List.length_append, List.length_append, List.length_cons]
    omega
def ofL (l : List UInt8) : ByteArray := ⟨l.toArray⟩
theorem ofL_data (l : List UInt8) : (ofL l).data.toList = l := rfl
theorem ofL_self (b : ByteArray) : ofL b.data.toList = b := ba_ext rfl
theorem split_join (c : UInt8) (t : List UInt8) (l : ByteArray) (r : List ByteArray) (s sep : ByteArray) (hsep : sep.data.toList = c :: t) (hs : s.data.toList = joinL (c :: t) ((l :: r).map (·.data.toList))) (hz : s.size < 4294967281) (h : ∀ x ∈ l :: r, c ∉ x.data.toList) :
    strings_Split.f s sep = some (l :: r) := by
  have hmem : ∀ x ∈ l.data.toList :: r.map (·.data.toList), c ∉ x := by
    intro x hx
    rw [← List.map_cons (f := fun b : ByteArray => b.data.toList)] at hx
    obtain ⟨y, hy, rfl⟩ := List.mem_map.1 hx
    exact h y hy
  have hs' : s.data.toList = joinL (c :: t) (l.data.toList :: r.map (·.data.toList)) := hs
  unfold strings_Split.f
  rw [if_pos ⟨hz, by rw [Base.size_eq, hsep]; simp⟩]
  have hlen := join_length (c :: t) (by simp) (r.map (·.data.toList)) l.data.toList
  have hc : countB s sep = r.length := by
    unfold countB
    rw [hsep, hs']
    unfold count
    rw [countFrom_join c t _ _ _ hmem (by omega), List.length_map]
  have hd := splitB_data sep 0 (countB s sep) s
  rw [hc, hsep, hs', splitK_join c t _ _ _ hmem (by simp)] at hd
  rw [hc]
  congr 1
  have e : (splitB sep 0 r.length s).map (fun b : ByteArray => b.data.toList) = (l :: r).map (fun b : ByteArray => b.data.toList) := hd
  exact (List.map_inj_right (fun x y hxy => ba_ext hxy)).1 e

/-- Where a head ends. -/
theorem index_head : ∀ (r : List (List UInt8)) (l z : List UInt8), (∀ x ∈ l :: r, (13 : UInt8) ∉ x ∧ x ≠ []) → index (joinL [13, 10] (l :: r) ++ ([13, 10, 13, 10] ++ z)) [13, 10, 13, 10] = (joinL [13, 10] (l :: r)).length
  | [], l, z, h => by
    have h0 := index_here [13, 10, 13, 10] z (by simp)
    have := index_skip 13 [10, 13, 10] l ([13, 10, 13, 10] ++ z) (h l (by simp)).1 (by rw [h0]; exact Int.le_refl 0)
    rw [h0, Int.add_zero] at this
    exact this
  | m :: r, l, z, h => by
    have ih := index_head r m z (fun x hx => h x (by simp at hx ⊢; right; exact hx))
    obtain ⟨a, m', hm⟩ : ∃ a m', joinL [13, 10] (m :: r) ++ ([13, 10, 13, 10] ++ z) = a :: m' ∧ a ≠ 13 := by
      have hh := h m (by simp)
      cases m with
      | nil => exact absurd rfl hh.2
      | cons a m' =>
        have ha : a ≠ 13 := fun e => hh.1 (by simp [e])
        cases r with
        | nil => exact ⟨a, _, rfl, ha⟩
        | cons q r => exact ⟨a, _, rfl, ha⟩
    have hB : index ([13, 10] ++ (joinL [13, 10] (m :: r) ++ ([13, 10, 13, 10] ++ z))) [13, 10, 13, 10] = 2 + (joinL [13, 10] (m :: r)).length := by
      rw [← ih]
      generalize joinL [13, 10] (m :: r) ++ ([13, 10, 13, 10] ++ z) = q at hm ih ⊢
      obtain ⟨rfl, ha⟩ := hm
      have h1 : index (10 :: a :: m') [13, 10, 13, 10] = index (a :: m') [13, 10, 13, 10] + 1 := by
        rw [index, prefix_head (by decide), if_neg (by simp), if_neg (by rw [ih]; simp)]
      show index (13 :: 10 :: a :: m') [13, 10, 13, 10] = _
      rw [index, if_neg (by simp [List.isPrefixOf, Ne.symm ha]), if_neg (by rw [h1, ih]; simp; omega), h1]
      omega
    have := index_skip 13 [10, 13, 10] l ([13, 10] ++ (joinL [13, 10] (m :: r) ++ ([13, 10, 13, 10] ++ z))) (h l (by simp)).1 (by rw [hB]; omega)
    rw [join_cons, List.append_assoc, List.append_assoc, this, hB]
    simp only [List.length_append, List.length_cons, List.length_nil]
    omega
end Go.Proofs.YtpikebpjlhccbaaGreatDoor.PAll
/- A text of lines, headers and a body, read back. -/
namespace Go.Proofs.YtpikebpjlhccbaaGreatDoor.PAll
set_option linter.unusedVariables false
set_option linter.unusedSimpArgs false
open Go.RowKit Go.Proofs.YtpikebpjlhccbaaGreatDoorW.PrintWords Base Go.Lib

def linesL (ls : List ByteArray) : List UInt8 := joinL [13, 10] (ls.map (·.data.toList))
theorem read_lines (k : Nat) (rl : ByteArray → Option Bool) (hosts : Bool) (l0 : ByteArray) (ls : List ByteArray) (body s : ByteArray) (hs : s.data.toList = linesL (l0 :: ls) ++ ([13, 10, 13, 10] ++ body.data.toList))
    (hl : ∀ x ∈ l0 :: ls, (13 : UInt8) ∉ x.data.toList ∧ x.data.toList ≠ []) (hi : (linesL (l0 :: ls)).length + 4 ≤ 4096) (hz : s.size < 4294967281) (hr : rl l0 = some true) (xs : List S79) (hh : headsF k ls = some (some xs)) :
    readF k rl hosts s = tailF s (linesL (l0 :: ls)).length hosts l0 xs := by
  have hmem : ∀ x ∈ l0.data.toList :: ls.map (·.data.toList), (13 : UInt8) ∉ x ∧ x ≠ [] := by
    intro x hx
    rw [← List.map_cons (f := fun b : ByteArray => b.data.toList)] at hx
    obtain ⟨y, hy, rfl⟩ := List.mem_map.1 hx
    exact hl y hy
  have hidx : index s.data.toList c4.data.toList = ((linesL (l0 :: ls)).length : Int) := by
    rw [hs]
    exact index_head (ls.map (·.data.toList)) l0.data.toList body.data.toList hmem
  have hlen := join_length [13, 10] (by decide) (ls.map (·.data.toList)) l0.data.toList
  rw [List.length_map] at hlen
  have hlen' : ls.length ≤ (linesL (l0 :: ls)).length := hlen
  have hsize : s.size = (linesL (l0 :: ls)).length + (4 + body.size) := by
    rw [Base.size_eq, hs, Base.size_eq]
    simp only [List.length_append, List.length_cons, List.length_nil]
  have hsp : strings_Split.f (s.extract 0 (linesL (l0 :: ls)).length) c2 = some (l0 :: ls) := by
    refine split_join 13 [10] l0 ls _ _ rfl ?_ ?_ (fun x hx => (hl x hx).1)
    · rw [data_extract, List.drop_zero, Nat.sub_zero, hs, List.take_left' rfl]
      rfl
    · rw [Base.size_eq, data_extract, List.length_take]
      omega
  generalize (linesL (l0 :: ls)).length = i at *
  unfold readF
  rw [show strings_Index.f s (⟨#[13, 10, 13, 10]⟩ : ByteArray) = some (i : Int) from (index_f s c4 hz).trans (congrArg some hidx), Option.bind_some, if_pos (by omega), if_neg (by omega), if_neg (by omega), Int.toNat_natCast, if_pos (by omega),
    show strings_Split.f (s.extract 0 i) (⟨#[13, 10]⟩ : ByteArray) = some (l0 :: ls) from hsp, Option.bind_some]
  show (if ls.length ≤ 4096 then _ else _) = _
  rw [if_pos (by omega), hr, Option.bind_some, if_neg (by simp), hh, Option.bind_some]

/-- A value of a header: nothing to trim, no letter that is none. -/
def okVal (v : List UInt8) : Prop := textB v = true ∧ trimS v [32, 9] = v
theorem trim_space (v : List UInt8) (h : trimS v [32, 9] = v) : trimS (32 :: v) [32, 9] = v := by
  unfold trimS trimLeftS trimRightS at *
  rw [List.reverse_cons, List.dropWhile_append]
  split
  · rename_i he
    have he' : v.reverse.dropWhile ([32, 9].contains ·) = [] := by simpa using he
    rw [he'] at h
    rw [show ([32] : List UInt8).dropWhile ([32, 9].contains ·) = [] from rfl]
    exact h
  · rw [List.reverse_append]
    show ((32 : UInt8) :: (v.reverse.dropWhile ([32, 9].contains ·)).reverse).dropWhile ([32, 9].contains ·) = v
    rw [List.dropWhile_cons, if_pos (by decide)]
    exact h
theorem head_line (k : Nat) (nm sm v l : ByteArray) (hl : l.data.toList = nm.data.toList ++ (58 :: 32 :: v.data.toList)) (h58 : (58 : UInt8) ∉ nm.data.toList) (ht : tokenB nm.data.toList = true) (hsm : http_small.f nm = some sm) (hv : okVal v.data.toList) (hz : l.size ≤ 1000000) (hk : l.size + 2 < k) :
    headF k l = some (some ⟨sm, v⟩) := by
  have hlen := Base.size_eq l
  rw [hl] at hlen
  simp only [List.length_append, List.length_cons] at hlen
  rw [← Base.size_eq, ← Base.size_eq] at hlen
  have hi : index l.data.toList [58] = (nm.data.toList.length : Int) := by
    rw [hl]
    have h0 := index_here [58] (32 :: v.data.toList) (by simp)
    have := index_skip 58 [] nm.data.toList ([58] ++ (32 :: v.data.toList)) h58 (by rw [h0]; exact Int.le_refl 0)
    rw [h0, Int.add_zero] at this
    exact this
  have hc : cut l.data.toList [58] = (nm.data.toList, 32 :: v.data.toList, true) := by
    unfold cut
    rw [hi, if_pos (by omega), Int.toNat_natCast, hl, List.take_left' rfl]
    rw [show nm.data.toList ++ 58 :: 32 :: v.data.toList = (nm.data.toList ++ [58]) ++ (32 :: v.data.toList) from by simp, List.drop_left' (by simp)]
  unfold headF
  rw [show strings_Cut.f l (⟨#[58]⟩ : ByteArray) = some (ofL (cut l.data.toList [58]).1, ofL (cut l.data.toList [58]).2.1, (cut l.data.toList [58]).2.2) from cut_f l _ (by omega), Option.bind_some, hc]
  dsimp only
  rw [trim_f _ _ (by rw [Base.size_eq, ofL_data]; simp only [List.length_cons]; rw [← Base.size_eq]; omega) (by decide) (by decide), Option.bind_some]
  rw [show (⟨(trimS (ofL (32 :: v.data.toList)).data.toList (⟨#[32, 9]⟩ : ByteArray).data.toList).toArray⟩ : ByteArray) = v from by
    rw [ofL_data, show (⟨#[32, 9]⟩ : ByteArray).data.toList = [32, 9] from rfl, trim_space _ hv.2]]
  rw [if_neg (by simp), ofL_self, token_f nm (by omega) k (by omega), Option.bind_some, ht, if_neg (by simp), text_f v (by omega) k (by omega), Option.bind_some, hv.1, if_neg (by simp), hsm]
  rfl
/-! A length of up to four digits. -/
theorem nDigits_four (u : Nat) (h : u < 10000) : nDigits u ≤ 4 := by
  by_cases h1 : u < 10
  · rw [nDigits_small h1]; decide
  rw [nDigits_big h1]
  by_cases h2 : u / 10 < 10
  · rw [nDigits_small h2]; decide
  rw [nDigits_big h2]
  by_cases h3 : u / 10 / 10 < 10
  · rw [nDigits_small h3]; decide
  rw [nDigits_big h3, nDigits_small (by omega)]
  decide
theorem itoaB_data (n : Nat) : (itoaB n).data.toList = decDigits n := itoa_nonneg n
theorem itoaB_four (n : Nat) (h : n < 10000) : (itoaB n).size ≤ 4 := by
  rw [Base.size_eq, itoaB_data, decDigits_length]
  exact nDigits_four n h
theorem trim_all (l cs : List UInt8) (h : l.all (cs.contains ·) = true) : trimS l cs = [] := by
  have e : l.reverse.dropWhile (cs.contains ·) = [] := by
    have h' : l.reverse.all (cs.contains ·) = true := by rw [List.all_reverse]; exact h
    revert h'
    generalize l.reverse = q
    intro h'
    induction q with
    | nil => rfl
    | cons a q ih =>
      rw [List.all_cons, Bool.and_eq_true] at h'
      rw [List.dropWhile_cons, if_pos h'.1, ih h'.2]
  unfold trimS trimLeftS trimRightS
  rw [e]
  rfl
theorem size_of (xs : List S79) (n : Nat) (hn : n < 10000) (h : cntF xs nLen 0 (⟨#[]⟩ : ByteArray) = (1, itoaB n)) : sizeF xs = some (some n) := by
  obtain ⟨d1, d2, d3, _⟩ := dec_facts n n (Nat.le_refl _)
  have h4 := itoaB_four n hn
  have hd : (itoaB n).data.toList.all (digsL.contains ·) = true := by
    rw [itoaB_data, ← d1]
    congr 1
    funext c
    exact digs_b c
  unfold sizeF
  rw [h]
  dsimp only
  rw [if_pos rfl, if_neg (by rw [Base.toList_data, itoaB_data]; exact d2), if_neg (by omega), trim_f _ _ (by omega) (by decide) (by decide), Option.bind_some,
    show (⟨#[48, 49, 50, 51, 52, 53, 54, 55, 56, 57]⟩ : ByteArray).data.toList = digsL from rfl, trim_all _ _ hd, if_neg (by rw [Base.toList_data]; simp)]
  unfold strconv_Atoi.f
  rw [if_pos (by omega), itoaB_data, atoi_digits _ d2 d1 (by have := itoaB_data n; rw [← this, ← Base.size_eq]; omega), d3]
  dsimp only
  rw [Option.bind_some]
  dsimp only
  rw [if_pos (by omega), Int.toNat_natCast]

/-- The tail, where the headers are fine. -/
theorem tail_of (i0 : List UInt8) (s l0 body : ByteArray) (i n : Nat) (hosts : Bool) (xs : List S79) (hd : s.data.toList = i0 ++ ([13, 10, 13, 10] ++ body.data.toList)) (hi : i0.length = i) (hn : n = body.size) (h1 : cntF xs nLen 0 (⟨#[]⟩ : ByteArray) = (1, itoaB n)) (hlt : n < 10000)
    (h2 : hosts = true → (cntF xs nHost 0 (⟨#[]⟩ : ByteArray)).1 = 1) (h3 : (cntF xs nCoded 0 (⟨#[]⟩ : ByteArray)).1 = 0) :
    tailF s i hosts l0 xs = some (if 4096 < body.size then .bad 222 else .good l0 xs body (s.size : Int)) := by
  have hsize : s.size = i + 4 + n := by
    rw [Base.size_eq, hd, hn, Base.size_eq]
    simp only [List.length_append, List.length_cons, List.length_nil]
    omega
  unfold tailF
  rw [size_of xs n hlt h1, if_neg (by rw [h1]; show ¬ (1 : Int) < 1; decide), if_neg (by rintro ⟨a, b⟩; exact b (h2 a)), Option.bind_some]
  dsimp only
  rw [h3]
  by_cases hb : 4096 < body.size
  · rw [if_pos hb, if_pos (by right; omega)]
  · rw [if_neg hb, if_neg (by rintro (a | a) <;> omega), if_neg (by omega)]
    have e : s.extract (i + 4) (i + 4 + n) = body := by
      refine ba_ext ?_
      rw [data_extract, hd, ← List.append_assoc, List.drop_left' (by simp [hi]), List.take_of_length_le (by rw [← Base.size_eq]; omega)]
    rw [e, hsize]
theorem cnt_hit (x : S79) (xs : List S79) (a : ByteArray) (v : ByteArray) (h : x.f0 = a) : cntF (x :: xs) a 0 v = cntF xs a 1 x.f1 := by
  show (if x.f0.toList = a.toList then _ else _) = _
  rw [if_pos (by rw [h])]
  rfl
theorem cnt_miss (x : S79) (xs : List S79) (a : ByteArray) (n : Int) (v : ByteArray) (h : x.f0.toList ≠ a.toList) : cntF (x :: xs) a n v = cntF xs a n v := by
  show (if x.f0.toList = a.toList then _ else _) = _
  rw [if_neg h]
theorem ne1 : nHost.toList ≠ nLen.toList := by rw [Base.toList_data, Base.toList_data]; decide
theorem ne2 : nType.toList ≠ nLen.toList := by rw [Base.toList_data, Base.toList_data]; decide
theorem ne3 : nType.toList ≠ nHost.toList := by rw [Base.toList_data, Base.toList_data]; decide
theorem ne4 : nHost.toList ≠ nCoded.toList := by rw [Base.toList_data, Base.toList_data]; decide
theorem ne5 : nType.toList ≠ nCoded.toList := by rw [Base.toList_data, Base.toList_data]; decide
theorem ne6 : nLen.toList ≠ nCoded.toList := by rw [Base.toList_data, Base.toList_data]; decide
/-- The headers of a request. -/
def headsR (h y : ByteArray) (n : Nat) : List S79 := ⟨nHost, h⟩ :: ((if y.toList = ([] : List UInt8) then [] else [⟨nType, y⟩]) ++ [⟨nLen, itoaB n⟩])
theorem headsR_len (h y : ByteArray) (n : Nat) : cntF (headsR h y n) nLen 0 (⟨#[]⟩ : ByteArray) = (1, itoaB n) := by
  unfold headsR
  rw [cnt_miss _ _ _ _ _ ne1]
  split
  · rw [List.nil_append, cnt_hit _ _ _ _ rfl]; rfl
  · rw [List.singleton_append, cnt_miss _ _ _ _ _ ne2, cnt_hit _ _ _ _ rfl]; rfl
theorem headsR_host (h y : ByteArray) (n : Nat) : cntF (headsR h y n) nHost 0 (⟨#[]⟩ : ByteArray) = (1, h) := by
  unfold headsR
  rw [cnt_hit _ _ _ _ rfl]
  split
  · rw [List.nil_append, cnt_miss _ _ _ _ _ (Ne.symm ne1)]; rfl
  · rw [List.singleton_append, cnt_miss _ _ _ _ _ ne3, cnt_miss _ _ _ _ _ (Ne.symm ne1)]; rfl
theorem headsR_coded (h y : ByteArray) (n : Nat) : cntF (headsR h y n) nCoded 0 (⟨#[]⟩ : ByteArray) = (0, ⟨#[]⟩) := by
  unfold headsR
  rw [cnt_miss _ _ _ _ _ ne4]
  split
  · rw [List.nil_append, cnt_miss _ _ _ _ _ ne6]; rfl
  · rw [List.singleton_append, cnt_miss _ _ _ _ _ ne5, cnt_miss _ _ _ _ _ ne6]; rfl
theorem headsR_type (h y : ByteArray) (n : Nat) : (cntF (headsR h y n) nType 0 (⟨#[]⟩ : ByteArray)).2 = y := by
  unfold headsR
  rw [cnt_miss _ _ _ _ _ (Ne.symm ne3)]
  split
  · rename_i hy
    rw [List.nil_append, cnt_miss _ _ _ _ _ (Ne.symm ne2)]
    exact (toList_ext (by rw [hy, Base.toList_data]; rfl)).symm
  · rw [List.singleton_append, cnt_hit _ _ _ _ rfl, cnt_miss _ _ _ _ _ (Ne.symm ne2)]; rfl
end Go.Proofs.YtpikebpjlhccbaaGreatDoor.PAll
/- A request that is right is read from its text. -/
namespace Go.Proofs.YtpikebpjlhccbaaGreatDoor.PAll
set_option linter.unusedVariables false
set_option linter.unusedSimpArgs false
open Go.RowKit Go.Proofs.YtpikebpjlhccbaaGreatDoorW.PrintWords Base Go.Lib

def http11 : ByteArray := ⟨#[72, 84, 84, 80, 47, 49, 46, 49]⟩
def spB : ByteArray := ⟨#[32]⟩
def line0 (m t : ByteArray) : ByteArray := (m ++ spB) ++ (t ++ (⟨#[32, 72, 84, 84, 80, 47, 49, 46, 49]⟩ : ByteArray))
def hostB : ByteArray := ⟨#[72, 111, 115, 116]⟩
def lineH (h : ByteArray) : ByteArray := (⟨#[72, 111, 115, 116, 58, 32]⟩ : ByteArray) ++ h
theorem token_lacks (c : UInt8) (hc : tokOk c = false) (l : List UInt8) (h : tokenB l = true) : c ∉ l := by
  intro hm
  unfold tokenB at h
  rw [Bool.and_eq_true, List.all_eq_true] at h
  rw [h.1 c hm] at hc
  cases hc
theorem target_lacks (c : UInt8) (hc : targOk c = false) (l : List UInt8) (h : targetB l = true) : c ∉ l := by
  intro hm
  unfold targetB at h
  rw [Bool.and_eq_true, List.all_eq_true] at h
  rw [h.1 c hm] at hc
  cases hc
theorem text_lacks (c : UInt8) (hc : textOk c = false) (l : List UInt8) (h : textB l = true) : c ∉ l := by
  intro hm
  unfold textB at h
  rw [List.all_eq_true] at h
  rw [h c hm] at hc
  cases hc
theorem digits_lack (c : UInt8) (hc : digitB c = false) (l : List UInt8) (h : l.all digitB = true) : c ∉ l := by
  intro hm
  rw [List.all_eq_true] at h
  rw [h c hm] at hc
  cases hc
theorem token_ne (l : List UInt8) (h : tokenB l = true) : l ≠ [] := by
  rintro rfl
  simp [tokenB] at h

theorem requestLine_f (k : Nat) (m t : ByteArray) (hm : tokenB m.data.toList = true) (ht : targetB t.data.toList = true) (hk : 6000 < k) (hz : m.size + t.size ≤ 5000) : http_requestLine.f k (line0 m t) = some (m, t, true) := by
  have hs : strings_Split.f (line0 m t) spB = some [m, t, http11] := by
    refine split_join 32 [] m [t, http11] _ _ rfl ?_ ?_ ?_
    · unfold line0
      simp only [data_append]
      show _ = m.data.toList ++ ([32] ++ (t.data.toList ++ ([32] ++ http11.data.toList)))
      simp [http11, spB]
    · unfold line0
      simp only [ByteArray.size_append]
      rw [show spB.size = 1 from rfl, show (⟨#[32, 72, 84, 84, 80, 47, 49, 46, 49]⟩ : ByteArray).size = 9 from rfl]
      omega
    · intro x hx
      simp only [List.mem_cons, List.not_mem_nil, or_false] at hx
      rcases hx with rfl | rfl | rfl
      · exact token_lacks 32 (by decide) _ hm
      · exact target_lacks 32 (by decide) _ ht
      · decide
  unfold http_requestLine.f
  rw [show strings_Split.f (line0 m t) (⟨#[32]⟩ : ByteArray) = some [m, t, http11] from hs, Option.bind_some]
  rw [if_pos (by simp), if_pos (by simp)]
  rw [show rdOf ByteArray.empty [m, t, http11] 0 = m from rfl, show rdOf ByteArray.empty [m, t, http11] 1 = t from rfl, show rdOf ByteArray.empty [m, t, http11] 2 = http11 from rfl]
  rw [token_f m (by omega) k (by omega), Option.bind_some, if_pos hm, if_pos (by simp), target_f t (by omega) k (by omega), Option.bind_some, if_pos ht, if_pos (by simp), if_pos (by rw [Base.toList_data]; rfl)]

theorem small_host : http_small.f hostB = some nHost := by decide +kernel
theorem small_type : http_small.f (⟨#[67, 111, 110, 116, 101, 110, 116, 45, 84, 121, 112, 101]⟩ : ByteArray) = some nType := by decide +kernel
theorem small_len : http_small.f (⟨#[67, 111, 110, 116, 101, 110, 116, 45, 76, 101, 110, 103, 116, 104]⟩ : ByteArray) = some nLen := by decide +kernel
theorem line_host (k : Nat) (h : ByteArray) (hv : okVal h.data.toList) (hz : h.size ≤ 5000) (hk : 6000 < k) : headF k (lineH h) = some (some ⟨nHost, h⟩) := by
  have e : (lineH h).size = h.size + 6 := by unfold lineH; rw [ByteArray.size_append, show (⟨#[72, 111, 115, 116, 58, 32]⟩ : ByteArray).size = 6 from rfl]; omega
  exact head_line k hostB nHost h (lineH h) (by unfold lineH; rw [data_append]; rfl) (by decide) (by decide) small_host hv (by omega) (by omega)
theorem line_type (k : Nat) (h : ByteArray) (hv : okVal h.data.toList) (hz : h.size ≤ 5000) (hk : 6000 < k) : headF k (ctB ++ h) = some (some ⟨nType, h⟩) := by
  have e : (ctB ++ h).size = h.size + 14 := by rw [ByteArray.size_append, ctB_size]; omega
  exact head_line k (⟨#[67, 111, 110, 116, 101, 110, 116, 45, 84, 121, 112, 101]⟩ : ByteArray) nType h (ctB ++ h) (by rw [data_append]; rfl) (by decide) (by decide) small_type hv (by omega) (by omega)
theorem trim_lacks (l : List UInt8) (h : l.all (fun c => !([32, 9] : List UInt8).contains c) = true) : trimS l [32, 9] = l := by
  have hd : ∀ q : List UInt8, q.all (fun c => !([32, 9] : List UInt8).contains c) = true → q.dropWhile (([32, 9] : List UInt8).contains ·) = q := by
    intro q hq
    cases q with
    | nil => rfl
    | cons a q =>
      rw [List.all_cons, Bool.and_eq_true] at hq
      rw [List.dropWhile_cons, if_neg (by simpa using hq.1)]
  unfold trimS trimLeftS trimRightS
  rw [hd l.reverse (by rw [List.all_reverse]; exact h), List.reverse_reverse, hd l h]
theorem digit_plain : ∀ x : Fin 256, digitB (UInt8.ofNat x.val) = true → (!([32, 9] : List UInt8).contains (UInt8.ofNat x.val)) = true ∧ textOk (UInt8.ofNat x.val) = true := by decide +kernel
theorem digits_val (l : List UInt8) (h : l.all digitB = true) : okVal l := by
  have key : ∀ c ∈ l, (!([32, 9] : List UInt8).contains c) = true ∧ textOk c = true := by
    intro c hc
    have h1 := List.all_eq_true.1 h c hc
    have := digit_plain ⟨c.toNat, c.toNat_lt⟩
    simp only [UInt8.ofNat_toNat] at this
    exact this h1
  exact ⟨List.all_eq_true.2 fun c hc => (key c hc).2, trim_lacks l (List.all_eq_true.2 fun c hc => (key c hc).1)⟩
theorem line_len (k : Nat) (n : Nat) (hn : n < 10000) (hk : 6000 < k) : headF k (clB ++ itoaB n) = some (some ⟨nLen, itoaB n⟩) := by
  have h4 := itoaB_four n hn
  have e : (clB ++ itoaB n).size = (itoaB n).size + 16 := by rw [ByteArray.size_append, clB_size]; omega
  exact head_line k (⟨#[67, 111, 110, 116, 101, 110, 116, 45, 76, 101, 110, 103, 116, 104]⟩ : ByteArray) nLen (itoaB n) (clB ++ itoaB n) (by rw [data_append]; rfl) (by decide) (by decide) small_len (digits_val _ (by rw [itoaB_data]; exact (dec_facts n n (Nat.le_refl _)).1)) (by omega) (by omega)

/-- The lines of a request's text. -/
def linesR (m t h y b : ByteArray) : List ByteArray := lineH h :: ((if y.toList = ([] : List UInt8) then [] else [ctB ++ y]) ++ [clB ++ itoaB b.size])
theorem textR_data (m t h y b : ByteArray) : (textR m t h y b).data.toList = linesL (line0 m t :: linesR m t h y b) ++ ([13, 10, 13, 10] ++ b.data.toList) := by
  unfold textR headT clT lineT linesR linesL
  split
  · simp only [data_append, List.nil_append, List.map_cons, List.map_nil, joinL, line0, lineH, List.append_assoc]
    rfl
  · simp only [data_append, List.singleton_append, List.map_cons, List.map_nil, joinL, line0, lineH, List.append_assoc]
    rfl
theorem headsR_f (k : Nat) (m t h y b : ByteArray) (hh : okVal h.data.toList) (hy : okVal y.data.toList) (h1 : h.size ≤ 5000) (h2 : y.size ≤ 5000) (hb : b.size < 10000) (hk : 6000 < k) : headsF k (linesR m t h y b) = some (some (headsR h y b.size)) := by
  unfold linesR headsR
  rw [headsF, line_host k h hh h1 hk, Option.bind_some]
  dsimp only
  split
  · rw [List.nil_append, headsF, line_len k _ hb hk, Option.bind_some]
    rfl
  · rw [List.singleton_append, headsF, line_type k y hy h2 hk, Option.bind_some]
    dsimp only
    rw [headsF, line_len k _ hb hk, Option.bind_some]
    rfl
theorem head_of (nm v : List UInt8) (h1 : nm ≠ []) (h2 : (13 : UInt8) ∉ nm) (h3 : (13 : UInt8) ∉ v) : (13 : UInt8) ∉ nm ++ v ∧ nm ++ v ≠ [] := by
  refine ⟨?_, ?_⟩
  · rw [List.mem_append]; rintro (h | h)
    · exact h2 h
    · exact h3 h
  · intro h
    exact h1 (List.append_eq_nil_iff.1 h).1
/-- READ BACK: a right request's text is read as the request; a body that is too long is refused. -/
theorem read_back (k : Nat) (m t h y b : ByteArray) (hm : tokenB m.data.toList = true) (ht : targetB t.data.toList = true) (hh : okVal h.data.toList) (hy : okVal y.data.toList) (hb : b.size < 10000)
    (hi : (linesL (line0 m t :: linesR m t h y b)).length + 4 ≤ 4096) (hk : 6000 < k) :
    http_ReadRequest.f k (textR m t h y b) = some (if 4096 < b.size then ((⟨#[]⟩ : ByteArray), (⟨#[]⟩ : ByteArray), (⟨#[]⟩ : ByteArray), (⟨#[]⟩ : ByteArray), (⟨#[]⟩ : ByteArray), 0, 222) else (m, t, h, y, b, ((textR m t h y b).size : Int), 0)) := by
  have hd := textR_data m t h y b
  have hlen : (linesL (line0 m t :: linesR m t h y b)).length = m.size + t.size + 10 + (2 + (h.size + 6)) + (if y.toList = ([] : List UInt8) then 0 else 2 + (y.size + 14)) + (2 + (16 + (itoaB b.size).size)) := by
    unfold linesL linesR
    split
    · simp only [List.nil_append, List.map_cons, List.map_nil, joinL, line0, lineH, List.length_append, data_append, ← Base.size_eq, clB_size]
      rw [show spB.size = 1 from rfl]
      simp only [List.length_cons, List.length_nil]
      omega
    · simp only [List.singleton_append, List.map_cons, List.map_nil, joinL, line0, lineH, List.length_append, data_append, ← Base.size_eq, clB_size, ctB_size]
      rw [show spB.size = 1 from rfl]
      simp only [List.length_cons, List.length_nil]
      omega
  have hysz : y.size ≤ 4096 := by
    by_cases h0 : y.toList = ([] : List UInt8)
    · rw [Base.toList_data] at h0
      rw [Base.size_eq, h0]
      simp
    · rw [if_neg h0] at hlen
      omega
  have hsz : (textR m t h y b).size < 4294967281 := by
    rw [Base.size_eq, hd]
    simp only [List.length_append, List.length_cons, List.length_nil]
    rw [← Base.size_eq]
    omega
  have hql := requestLine_f k m t hm ht (by omega) (by omega)
  have hR := read_lines k (http_ReadRequest_1.f k) true (line0 m t) (linesR m t h y b) b (textR m t h y b) hd ?_ hi hsz (by unfold http_ReadRequest_1.f; rw [hql]; rfl) (headsR h y b.size) (headsR_f k m t h y b hh hy (by omega) (by omega) hb hk)
  · rw [tail_of (linesL (line0 m t :: linesR m t h y b)) (textR m t h y b) (line0 m t) b _ b.size true (headsR h y b.size) hd rfl rfl (headsR_len _ _ _) hb (fun _ => by rw [headsR_host]) (by rw [headsR_coded])] at hR
    unfold http_ReadRequest.f
    rw [hR, Option.bind_some]
    by_cases hb2 : 4096 < b.size
    · rw [if_pos hb2, if_pos hb2]
    · rw [if_neg hb2, if_neg hb2]
      dsimp only
      rw [hql, Option.bind_some, headsR_host, headsR_type]
  · intro x hx
    have n13 : tokOk 13 = false := by decide
    have t13 : textOk 13 = false := by decide
    have d13 := digits_lack 13 (by decide) _ (by rw [itoaB_data b.size]; exact (dec_facts b.size b.size (Nat.le_refl _)).1 : (itoaB b.size).data.toList.all digitB = true)
    have cl : (13 : UInt8) ∉ (clB ++ itoaB b.size).data.toList ∧ (clB ++ itoaB b.size).data.toList ≠ [] := by
      rw [data_append]
      exact head_of _ _ (by decide) (by decide) d13
    have ho : (13 : UInt8) ∉ (lineH h).data.toList ∧ (lineH h).data.toList ≠ [] := by
      unfold lineH
      rw [data_append]
      exact head_of _ _ (by decide) (by decide) (text_lacks 13 t13 _ hh.1)
    have ty : (13 : UInt8) ∉ (ctB ++ y).data.toList ∧ (ctB ++ y).data.toList ≠ [] := by
      rw [data_append]
      exact head_of _ _ (by decide) (by decide) (text_lacks 13 t13 _ hy.1)
    have l0 : (13 : UInt8) ∉ (line0 m t).data.toList ∧ (line0 m t).data.toList ≠ [] := by
      unfold line0
      rw [data_append, data_append, data_append]
      refine head_of _ _ (fun h => token_ne _ hm (List.append_eq_nil_iff.1 h).1) ?_ ?_
      · rw [List.mem_append]
        rintro (h | h)
        · exact token_lacks 13 n13 _ hm h
        · exact absurd h (by decide)
      · rw [List.mem_append]
        rintro (h | h)
        · exact target_lacks 13 (by decide) _ ht h
        · exact absurd h (by decide)
    rcases List.mem_cons.1 hx with rfl | hx
    · exact l0
    · unfold linesR at hx
      rcases List.mem_cons.1 hx with rfl | hx
      · exact ho
      · split at hx
        · simp only [List.nil_append, List.mem_singleton] at hx
          rw [hx]; exact cl
        · simp only [List.singleton_append, List.mem_cons, List.not_mem_nil, or_false] at hx
          rcases hx with rfl | rfl
          · exact ty
          · exact cl
end Go.Proofs.YtpikebpjlhccbaaGreatDoor.PAll
/- A response's text is read as the response, whatever is behind it. -/
namespace Go.Proofs.YtpikebpjlhccbaaGreatDoor.PAll
set_option linter.unusedVariables false
set_option linter.unusedSimpArgs false
open Go.RowKit Go.Proofs.YtpikebpjlhccbaaGreatDoorW.PrintWords Base Go.Lib

def respB : ByteArray := ⟨#[72, 84, 84, 80, 47, 49, 46, 49, 32]⟩
def reasonB (n : Nat) : ByteArray := (http_reason.f (n : Int)).getD ⟨#[]⟩
def lineS (n : Nat) : ByteArray := ((respB ++ itoaB n) ++ spB) ++ reasonB n
def textS (n : Nat) (b : ByteArray) : ByteArray := (((((lineS n ++ c2) ++ clB) ++ itoaB b.size) ++ c2) ++ c2) ++ b
theorem status_all : ∀ x : Fin 500, http_statusLine.f 60 (lineS (x.val + 100)) = some (((x.val + 100 : Nat) : Int), true) ∧ (lineS (x.val + 100)).data.toList.contains 13 = false ∧ (lineS (x.val + 100)).data.toList.length ≤ 60 ∧ (lineS (x.val + 100)).data.toList ≠ [] := by decide +kernel
theorem status_one (n : Nat) (h1 : 100 ≤ n) (h2 : n ≤ 599) : http_statusLine.f 60 (lineS n) = some ((n : Int), true) ∧ (13 : UInt8) ∉ (lineS n).data.toList ∧ (lineS n).data.toList.length ≤ 60 ∧ (lineS n).data.toList ≠ [] := by
  obtain ⟨m, rfl⟩ : ∃ m, n = m + 100 := ⟨n - 100, by omega⟩
  have h : http_statusLine.f 60 (lineS (m + 100)) = some (((m + 100 : Nat) : Int), true) ∧ (lineS (m + 100)).data.toList.contains 13 = false ∧ (lineS (m + 100)).data.toList.length ≤ 60 ∧ (lineS (m + 100)).data.toList ≠ [] := status_all ⟨m, by omega⟩
  generalize http_statusLine.f 60 (lineS (m + 100)) = q at h ⊢
  generalize (lineS (m + 100)).data.toList = l at h ⊢
  refine ⟨h.1, ?_, h.2.2⟩
  have := h.2.1
  intro hm
  rw [List.contains_iff_mem.2 hm] at this
  cases this
theorem textS_data (n : Nat) (b : ByteArray) : (textS n b).data.toList = linesL [lineS n, clB ++ itoaB b.size] ++ ([13, 10, 13, 10] ++ b.data.toList) := by
  unfold textS linesL
  simp only [data_append, List.map_cons, List.map_nil, joinL, List.append_assoc]
  rfl
theorem read_resp (k : Nat) (hk : 6000 < k) (n : Nat) (h1 : 100 ≤ n) (h2 : n ≤ 599) (b : ByteArray) (hb : b.size ≤ 4096) (z : ByteArray) (hz : (textS n b ++ z).size < 4294967281) :
    http_ReadResponse.f k (textS n b ++ z) = some ((n : Int), b, ((textS n b).size : Int), 0) := by
  obtain ⟨s1, s2, s3, s4⟩ := status_one n h1 h2
  have hst : http_statusLine.f k (lineS n) = some ((n : Int), true) := mono_up (fun k => http_statusLine.f k (lineS n)) (fun k => http_statusLine.mono _ k) (by omega) s1
  have hd := textS_data n b
  have h4 := itoaB_four b.size (by omega)
  have hlen : (linesL [lineS n, clB ++ itoaB b.size]).length + 4 ≤ 4096 := by
    unfold linesL
    simp only [List.map_cons, List.map_nil, joinL, List.length_append, data_append, ← Base.size_eq, clB_size] at *
    simp only [List.length_cons, List.length_nil]
    omega
  have d13 := digits_lack 13 (by decide) _ (by rw [itoaB_data b.size]; exact (dec_facts b.size b.size (Nat.le_refl _)).1 : (itoaB b.size).data.toList.all digitB = true)
  have cl : (13 : UInt8) ∉ (clB ++ itoaB b.size).data.toList ∧ (clB ++ itoaB b.size).data.toList ≠ [] := by
    rw [data_append]
    exact head_of _ _ (by decide) (by decide) d13
  have hsz : (textS n b).size < 4294967281 := by rw [ByteArray.size_append] at hz; omega
  have hR := read_lines k (http_ReadResponse_1.f k) false (lineS n) [clB ++ itoaB b.size] b (textS n b) hd (by
      intro x hx
      simp only [List.mem_cons, List.not_mem_nil, or_false] at hx
      rcases hx with rfl | rfl
      · exact ⟨s2, s4⟩
      · exact cl) hlen hsz (by unfold http_ReadResponse_1.f; rw [hst]; rfl) [⟨nLen, itoaB b.size⟩] (by rw [headsF, line_len k _ (by omega) hk, Option.bind_some]; rfl)
  rw [tail_of (linesL [lineS n, clB ++ itoaB b.size]) (textS n b) (lineS n) b _ b.size false _ hd rfl rfl (by rw [cnt_hit _ _ _ _ rfl]; rfl) (by omega) (fun h => by cases h) (by rw [cnt_miss _ _ _ _ _ ne6]; rfl), if_neg (by omega)] at hR
  obtain ⟨m, e, m1, m2, m3, m4⟩ := read_begin hR
  obtain rfl : m = (textS n b).size := by omega
  have hA := m4 z (by rw [extract_all]; exact hz)
  rw [extract_all] at hA
  unfold http_ReadResponse.f
  rw [hA, Option.bind_some]
  dsimp only
  rw [hst]
  rfl
theorem reason_f (n : Nat) : http_reason.f (n : Int) = some (reasonB n) := by
  unfold reasonB http_reason.f
  repeat' split
  all_goals rfl
theorem reason_size (n : Nat) : (reasonB n).size ≤ 18 := by
  unfold reasonB http_reason.f
  repeat' split
  all_goals decide
theorem resp_f (k : Nat) (n : Nat) (h1 : 100 ≤ n) (h2 : n ≤ 599) (b : ByteArray) (hb : b.size ≤ 4096) : http_WriteResponse.f (k + 1) (n : Int) b = some (textS n b, 0) := by
  have i1 := itoa_size n (by omega)
  have i2 := itoa_size b.size (by omega)
  have i3 := reason_size n
  unfold http_WriteResponse.f
  rw [if_neg (by omega), if_neg (by omega), show decide ((b.size : Int) > 4096) = false from decide_eq_false (by omega)]
  unfold http_WriteResponse.j0
  dsimp only
  have e1 : (⟨#[72, 84, 84, 80, 47, 49, 46, 49, 32]⟩ : ByteArray).size = 9 := rfl
  have e2 : (⟨#[32]⟩ : ByteArray).size = 1 := rfl
  have e3 : (⟨#[13, 10]⟩ : ByteArray).size = 2 := rfl
  have e4 : (⟨#[67, 111, 110, 116, 101, 110, 116, 45, 76, 101, 110, 103, 116, 104, 58, 32]⟩ : ByteArray).size = 16 := rfl
  rw [if_neg (by simp), itoa_f n (by omega), Option.bind_some, if_pos (by omega), if_pos (by simp only [ByteArray.size_append]; omega), reason_f, Option.bind_some, if_pos (by simp only [ByteArray.size_append]; omega), if_pos (by simp only [ByteArray.size_append]; omega), if_pos (by simp only [ByteArray.size_append]; omega),
    itoa_f b.size (by omega), Option.bind_some, if_pos (by simp only [ByteArray.size_append]; omega), if_pos (by simp only [ByteArray.size_append]; omega), if_pos (by simp only [ByteArray.size_append]; omega), if_pos (by simp only [ByteArray.size_append]; omega)]
  rfl
theorem resp_bad (k : Nat) (s : Int) (b : ByteArray) (h : s < 100 ∨ 599 < s ∨ 4096 < b.size) : http_WriteResponse.f (k + 1) s b = some ((⟨#[]⟩ : ByteArray), 1) := by
  unfold http_WriteResponse.f
  by_cases h1 : s < 100
  · rw [if_pos h1]; rfl
  · rw [if_neg h1]
    by_cases h2 : s > 599
    · rw [if_pos h2]; rfl
    · rw [if_neg h2, show decide ((b.size : Int) > 4096) = true from decide_eq_true (by omega)]
      rfl
end Go.Proofs.YtpikebpjlhccbaaGreatDoor.PAll
