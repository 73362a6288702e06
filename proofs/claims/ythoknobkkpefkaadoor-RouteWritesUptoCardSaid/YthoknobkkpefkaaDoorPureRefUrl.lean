/- The reference's Url, as the plain urlP. -/
import Derived.Test.YthoknobkkpefkaaDoorUrlRef
import Derived.Test.YthoknobkkpefkaaDoorPureRef
namespace Go.Proofs.YthoknobkkpefkaaDoor.PRef
set_option linter.unusedVariables false
set_option linter.unusedSimpArgs false
open Go.RowKit Go.Proofs.YthoknobkkpefkaaDoorW.PrintWords Base PAll

theorem bad_eq : (some (0, (⟨#[]⟩ : ByteArray), (⟨#[]⟩ : ByteArray), (0 : Int), (⟨#[]⟩ : ByteArray), (190 : Int)) : Option Ans) = some (urlR none) := rfl

theorem bt_bl (l : List UInt8) (i : Nat) (h : i < l.length) : bt (bl l) (i : Int) = ((l[i]'h).toNat : Int) := bt_nat (bl l) i h
theorem pathR_cons (h r : List UInt8) (c : UInt8) (n : Int) : pathR h (c :: r) n = if c = 47 then fin2 h (c :: r) n else none := rfl

theorem host_k (h : List UInt8) (hh : h.length ≤ 256) (k : Nat) (hk : 300 < k) : pennantref16_Host.f k (bl h) = some (lettersB (okL [45, 46]) h) := ref_host_f h (by omega) k (by omega)

theorem l2_f (h q : List UInt8) (n : Int) (hh : h.length ≤ 256) (hq : q.length ≤ 256) (k : Nat) (hk : 600 < k) :
    pennantref16_Url.l2 k 0 6 (bl []) (bl h) n (bl q) = some (urlR (fin2 h q n)) := by
  have hsz := bl_size q
  have hs := scan0 (bl q) pathOk (fun k i => pennantref16_Url.l2 k i 6 (bl []) (bl h) n (bl q)) (urlR none) (urlR (if lettersB (okL [45, 46]) h = true then some (h, n, q) else none)) 301 ?_ ?_ k (by rw [bl_data]; omega)
  · refine Eq.trans hs ?_
    rw [bl_data]
    unfold fin2
    cases q.all pathOk
    · rw [Bool.and_false]; rfl
    · rw [Bool.and_true, if_pos rfl]
  · intro k i hi
    have hb := bt_nat (bl q) i hi
    have hil : i < q.length := hi
    simp only [pennantref16_Url.l2]
    rw [hsz, if_pos (by omega), if_pos (by omega), hb, wrap_succ hil (by omega)]
    generalize (bl q).data.toList[i] = c at *
    generalize pennantref16_Url.l2 k ((i + 1 : Nat) : Int) 6 (bl []) (bl h) n (bl q) = R
    by_cases hp : pathOk c = true
    · rw [if_pos hp]
      unfold pathOk at hp
      simp only [Bool.and_eq_true, decide_eq_true_eq, Bool.not_eq_true', beq_eq_false_iff_ne] at hp
      rw [if_neg (by omega), if_neg (by omega), if_neg (by omega)]
    · rw [if_neg hp]
      unfold pathOk at hp
      simp only [Bool.and_eq_true, decide_eq_true_eq, Bool.not_eq_true', beq_eq_false_iff_ne] at hp
      repeat' split
      all_goals first | rfl | (exfalso; omega)
  · intro k hk
    simp only [pennantref16_Url.l2]
    rw [hsz, bl_data, if_neg (by omega), host_k h hh k (by omega), Option.bind_some]
    cases lettersB (okL [45, 46]) h
    · rfl
    · rfl

theorem j5_f (l h : List UInt8) (n : Int) (i : Nat) (hi : i ≤ l.length) (hh : h.length ≤ 256) (hl : l.length ≤ 256) (k : Nat) (hk : 602 < k) :
    pennantref16_Url.j5 k (bl l) (i : Int) 6 (bl []) (bl h) n (bl [47]) = some (urlR (pathR h (l.drop i) n)) := by
  obtain ⟨k, rfl⟩ : ∃ m, k = m + 2 := ⟨k - 2, by omega⟩
  simp only [pennantref16_Url.j5, pennantref16_Url.j6]
  rw [bl_size]
  by_cases hlt : i < l.length
  · have hb := bt_bl l i hlt
    rw [if_pos (by omega), if_pos (by omega), hb, List.drop_eq_getElem_cons hlt, pathR_cons]
    by_cases h47 : l[i] = 47
    · rw [if_pos h47, if_pos (by rw [h47]; rfl), if_pos (by omega), bl_extract, Int.toNat_natCast, List.take_of_length_le (by rw [List.length_drop]; omega), l2_f h _ n hh (by rw [List.length_drop]; omega) k (by omega), List.drop_eq_getElem_cons hlt]
    · rw [if_neg h47, if_neg (fun e => h47 (UInt8.toNat_inj.1 (by have : (47 : UInt8).toNat = 47 := rfl; omega)))]; rfl
  · obtain rfl : i = l.length := by omega
    rw [if_neg (by omega), List.drop_length]
    exact l2_f h [47] n hh (by simp) k (by omega)

theorem acc_step (acc c : Nat) (ha : acc ≤ 100000) (h1 : 48 ≤ c) (h2 : c ≤ 57) : mn (wrap64 ((wrap64 ((acc : Int) * 10)) + (((c : Int) - 48) % 256))) 100000 = ((min (acc * 10 + (c - 48)) 100000 : Nat) : Int) := by
  have e1 : ((c : Int) - 48) % 256 = ((c - 48 : Nat) : Int) := by omega
  rw [e1]
  generalize c - 48 = d at *
  have e2 : wrap64 ((acc : Int) * 10) = ((acc * 10 : Nat) : Int) := by unfold wrap64; omega
  rw [e2]
  have e3 : wrap64 (((acc * 10 : Nat) : Int) + (d : Int)) = ((acc * 10 + d : Nat) : Int) := by unfold wrap64; omega
  rw [e3]
  unfold mn
  omega
/-- The digits of a port. -/
theorem l1_f (l h : List UInt8) (fr : Nat) (hfr : fr ≤ l.length) (hh : h.length ≤ 256) (hl : l.length ≤ 256) (x3 : Int) :
    ∀ (d k i acc : Nat), l.length - i = d → i ≤ l.length → fr ≤ i → acc ≤ 100000 → d + 700 < k →
      pennantref16_Url.l1 k (bl l) (i : Int) (fr : Int) (acc : Int) 6 (bl []) (bl h) x3 (bl [47]) =
        some (urlR (if i + ((l.drop i).takeWhile digitB).length = fr then none else if l[fr]? = some 48 then none else if 65535 < clip acc ((l.drop i).takeWhile digitB) then none
          else pathR h ((l.drop i).dropWhile digitB) (clip acc ((l.drop i).takeWhile digitB)))) := by
  have stop : ∀ (k i acc : Nat) (hi : i ≤ l.length) (hfi : fr ≤ i) (hk : 699 < k), (if (i : Int) = (fr : Int) then (some (0, (⟨#[]⟩ : ByteArray), (⟨#[]⟩ : ByteArray), (0 : Int), (⟨#[]⟩ : ByteArray), (190 : Int)) : Option Ans) else (if 0 ≤ (fr : Int) then (if (fr : Int) < ((bl l).size : Int) then (if (bt (bl l) (fr : Int)) = 48 then (some (0, (⟨#[]⟩ : ByteArray), (⟨#[]⟩ : ByteArray), 0, (⟨#[]⟩ : ByteArray), 190)) else (if (acc : Int) > 65535 then (some (0, (⟨#[]⟩ : ByteArray), (⟨#[]⟩ : ByteArray), 0, (⟨#[]⟩ : ByteArray), 190)) else (pennantref16_Url.j5 k (bl l) (i : Int) 6 (bl []) (bl h) (acc : Int) (bl [47])))) else (none)) else (none))) =
      some (urlR (if i = fr then none else if l[fr]? = some 48 then none else if 65535 < acc then none else pathR h (l.drop i) acc)) := by
    intro k i acc hi hfi hk
    by_cases h1 : i = fr
    · rw [if_pos (by omega), if_pos h1]; rfl
    · have hlt : fr < l.length := by omega
      rw [if_neg (by omega), if_neg h1, if_pos (by omega), if_pos (by rw [bl_size]; omega), bt_bl l fr hlt]
      simp only [List.getElem?_eq_getElem hlt, Option.some.injEq]
      by_cases h2 : l[fr] = 48
      · rw [if_pos h2, if_pos (by rw [h2]; rfl)]; rfl
      · rw [if_neg h2, if_neg (fun e => h2 (UInt8.toNat_inj.1 (by have : (48 : UInt8).toNat = 48 := rfl; omega)))]
        by_cases h3 : 65535 < acc
        · rw [if_pos h3, if_pos (by omega)]; rfl
        · rw [if_neg h3, if_neg (by omega), j5_f l h acc i hi hh hl k (by omega)]
  intro d
  induction d with
  | zero =>
    intro k i acc hd hi hfi ha hk
    obtain ⟨k, rfl⟩ : ∃ m, k = m + 1 := ⟨k - 1, by omega⟩
    obtain rfl : i = l.length := by omega
    have hst := stop k l.length acc hi hfi (by omega)
    simp only [pennantref16_Url.l1]
    rw [if_neg (by rw [bl_size]; omega)]
    rw [List.drop_length] at hst ⊢
    rw [List.takeWhile_nil, List.dropWhile_nil, List.length_nil, Nat.add_zero]
    exact hst
  | succ d ih =>
    intro k i acc hd hi hfi ha hk
    obtain ⟨k, rfl⟩ : ∃ m, k = m + 1 := ⟨k - 1, by omega⟩
    have hlt : i < l.length := by omega
    have hb := bt_bl l i hlt
    have hst := stop k i acc hi hfi (by omega)
    have hcl := (l[i]).toNat_lt
    simp only [pennantref16_Url.l1]
    rw [if_pos (by rw [bl_size]; omega), if_pos (by omega)]
    rw [List.drop_eq_getElem_cons hlt] at hst ⊢
    rw [hb]
    rw [List.takeWhile_cons, List.dropWhile_cons]
    by_cases hg : digitB l[i] = true
    · have hg' := (digitB_iff _).1 hg
      rw [if_pos (by omega), if_pos (by omega), if_pos hg, if_pos hg, wrap_succ hlt (by omega)]
      have e := acc_step acc (l[i]).toNat ha hg'.1 hg'.2
      rw [e, ih k (i + 1) _ (by omega) (by omega) (by omega) (by omega) (by omega), List.length_cons]
      rw [show clip acc (l[i] :: (l.drop (i + 1)).takeWhile digitB) = clip (min (acc * 10 + ((l[i]).toNat - 48)) 100000) ((l.drop (i + 1)).takeWhile digitB) from rfl,
        show i + 1 + ((l.drop (i + 1)).takeWhile digitB).length = i + (((l.drop (i + 1)).takeWhile digitB).length + 1) from by omega]
    · rw [if_neg hg, if_neg hg, List.length_nil, Nat.add_zero]
      rw [digitB_iff] at hg
      by_cases h48 : ((l[i]).toNat : Int) ≥ 48
      · rw [if_pos h48, if_neg (by omega)]; exact hst
      · rw [if_neg h48]; exact hst

theorem j2_f (s : List UInt8) (l : List UInt8) (hs : httpL ++ s = l) (hl : l.length ≤ 256) (k : Nat) (hk : 1100 < k) :
    pennantref16_Url.j2 k (bl l) ((7 + (s.takeWhile hostB).length : Nat) : Int) = some (urlR (tailR s)) := by
  obtain ⟨k, rfl⟩ : ∃ m, k = m + 2 := ⟨k - 2, by omega⟩
  have hsum := List.takeWhile_append_dropWhile (p := hostB) (l := s)
  have hsl := congrArg List.length hsum
  rw [List.length_append] at hsl
  have hll : l.length = 7 + s.length := by rw [← hs, List.length_append]; rfl
  have hd : l.drop (7 + (s.takeWhile hostB).length) = s.dropWhile hostB := by
    rw [← hs, ← List.drop_drop, show (httpL ++ s).drop 7 = s from rfl, (take_part s hostB).2]
  have hx : (bl l).extract 7 (7 + (s.takeWhile hostB).length) = bl (s.takeWhile hostB) := by
    rw [bl_extract, ← hs, show (httpL ++ s).drop 7 = s from rfl, show 7 + (s.takeWhile hostB).length - 7 = (s.takeWhile hostB).length from by omega, (take_part s hostB).1]
  simp only [pennantref16_Url.j2, pennantref16_Url.j3]
  rw [bl_size, if_pos (by omega), if_pos (by omega), Int.toNat_natCast, hx, show (⟨#[]⟩ : ByteArray) = bl [] from rfl, show (⟨#[47]⟩ : ByteArray) = bl [47] from rfl]
  have hj := j5_f l (s.takeWhile hostB) 80 (7 + (s.takeWhile hostB).length) (by omega) (by omega) hl k (by omega)
  rw [hd] at hj
  by_cases hlt : 7 + (s.takeWhile hostB).length < l.length
  · have hb := bt_bl l _ hlt
    rw [if_pos (by omega), if_pos (by omega), hb]
    have hcons := List.drop_eq_getElem_cons hlt
    rw [hd] at hcons
    unfold tailR
    rw [hcons] at hj ⊢
    dsimp only
    generalize hc : l[7 + (s.takeWhile hostB).length] = c at *
    by_cases h58 : c = 58
    · rw [if_pos h58, if_pos (by rw [h58]; rfl), wrap_succ hlt (by omega)]
      have h1 := l1_f l (s.takeWhile hostB) (7 + (s.takeWhile hostB).length + 1) (by omega) (by omega) hl 80 _ k (7 + (s.takeWhile hostB).length + 1) 0 rfl (by omega) (by omega) (by omega) (by omega)
      refine Eq.trans h1 ?_
      congr 2
      generalize l.drop (7 + (s.takeWhile hostB).length + 1) = r at *
      unfold portR
      have hhd : l[7 + (s.takeWhile hostB).length + 1]? = r.head? := by
        have hdr : l.drop (7 + (s.takeWhile hostB).length + 1) = r := by
          have := congrArg (List.drop 1) hcons
          rw [← hd, List.drop_drop] at this
          simpa using this
        rw [← hdr, List.head?_drop]
      rw [hhd]
      by_cases h0 : r.takeWhile digitB = []
      · rw [if_pos h0, h0, List.length_nil, if_pos (by omega)]
      · have := List.length_pos_iff.2 h0
        rw [if_neg h0, if_neg (by omega)]
    · have hne : ((c.toNat : Int) == 58) = false := by
        rw [beq_eq_false_iff_ne]
        intro e
        exact h58 (UInt8.toNat_inj.1 (by have : (58 : UInt8).toNat = 58 := rfl; omega))
      rw [if_neg h58, if_neg (by rw [hne]; decide), hj]
      have hc47 : c = 47 := by
        have hh := dw_head hostB s c _ hcons
        unfold hostB neB at hh
        simp only [Bool.and_eq_false_iff, Bool.not_eq_false', beq_iff_eq] at hh
        rcases hh with h | h
        · exact h
        · exact absurd h h58
      rw [pathR_cons, if_pos hc47]
  · have hnil : s.dropWhile hostB = [] := List.eq_nil_of_length_eq_zero (by omega)
    rw [if_neg (by omega), if_neg (by decide), hj, hnil]
    unfold tailR pathR
    rw [hnil]

theorem l0_f (s l : List UInt8) (hs : httpL ++ s = l) (hl : l.length ≤ 256) :
    ∀ (d k i : Nat), s.length - i = d → i ≤ (s.takeWhile hostB).length → d + 1200 < k → pennantref16_Url.l0 k (bl l) ((7 + i : Nat) : Int) = some (urlR (tailR s)) := by
  have hsum := List.takeWhile_append_dropWhile (p := hostB) (l := s)
  have hsl := congrArg List.length hsum
  rw [List.length_append] at hsl
  have hll : l.length = 7 + s.length := by rw [← hs, List.length_append]; rfl
  have hat : ∀ i (h : 7 + i < l.length), l[7 + i] = s[i]'(by omega) := by
    intro i h
    subst hs
    rw [List.getElem_append_right (by show 7 ≤ 7 + i; omega)]
    congr 1
    show 7 + i - 7 = i
    omega
  intro d
  induction d with
  | zero =>
    intro k i hd hi hk
    obtain ⟨k, rfl⟩ : ∃ m, k = m + 1 := ⟨k - 1, by omega⟩
    have he : i = (s.takeWhile hostB).length := by omega
    simp only [pennantref16_Url.l0]
    rw [bl_size, if_neg (by omega), he]
    exact j2_f s l hs hl k (by omega)
  | succ d ih =>
    intro k i hd hi hk
    obtain ⟨k, rfl⟩ : ∃ m, k = m + 1 := ⟨k - 1, by omega⟩
    have hlt : 7 + i < l.length := by omega
    have hb := bt_bl l (7 + i) hlt
    simp only [pennantref16_Url.l0]
    rw [bl_size, if_pos (by omega), if_pos (by omega), hb, wrap_succ hlt (by omega)]
    rw [hat i hlt]
    by_cases hin : i < (s.takeWhile hostB).length
    · have hmem : hostB (s[i]'(by omega)) = true := by
        have h1 : (s.takeWhile hostB)[i] = s[i]'(by omega) := by
          have h2 : (s.takeWhile hostB ++ s.dropWhile hostB)[i]? = (s.takeWhile hostB)[i]? := List.getElem?_append_left hin
          rw [hsum, List.getElem?_eq_getElem hin, List.getElem?_eq_getElem (by omega)] at h2
          exact (Option.some.inj h2).symm
        rw [← h1]
        exact tw_all hostB s _ (List.getElem_mem hin)
      unfold hostB neB at hmem
      simp only [Bool.and_eq_true, Bool.not_eq_true', beq_eq_false_iff_ne, ne_eq] at hmem
      rw [if_neg (fun e => hmem.1 (UInt8.toNat_inj.1 (by have : (47 : UInt8).toNat = 47 := rfl; omega))), if_neg (fun e => hmem.2 (UInt8.toNat_inj.1 (by have : (58 : UInt8).toNat = 58 := rfl; omega)))]
      exact ih k (i + 1) (by omega) (by omega) (by omega)
    · have he : i = (s.takeWhile hostB).length := by omega
      have hdrop : s.dropWhile hostB = s[i]'(by omega) :: s.drop (i + 1) := by
        rw [← (take_part s hostB).2, ← he]
        exact List.drop_eq_getElem_cons (by omega)
      have hh := dw_head hostB s _ _ hdrop
      unfold hostB neB at hh
      simp only [Bool.and_eq_false_iff, Bool.not_eq_false', beq_iff_eq] at hh
      have hj := j2_f s l hs hl k (by omega)
      rw [← he] at hj
      rcases hh with h | h
      · rw [h, if_pos (by decide)]; exact hj
      · rw [h, if_neg (by decide), if_pos (by decide)]; exact hj

theorem url_ref_f (l : List UInt8) (hl : l.length ≤ 9223372036854775807) (k : Nat) (hk : 2000 < k) : pennantref16_Url.f k (bl l) = some (urlR (urlP l)) := by
  obtain ⟨k, rfl⟩ : ∃ m, k = m + 1 := ⟨k - 1, by omega⟩
  unfold pennantref16_Url.f urlP
  rw [lit_http, ref_begins_f, Option.bind_some, bl_size]
  simp only [pennantref16_Url.j0]
  by_cases hp : httpL <+: l
  · rw [decide_eq_true hp, if_pos rfl]
    by_cases h256 : l.length ≤ 256
    · rw [decide_eq_false (by omega), if_neg (by decide), if_pos ⟨hp, h256⟩, tail_eq]
      obtain ⟨s, hs⟩ := hp
      have hd : l.drop 7 = s := by rw [← hs]; rfl
      rw [hd]
      have hll : l.length = 7 + s.length := by rw [← hs, List.length_append]; rfl
      exact l0_f s l hs h256 s.length k 0 (by omega) (by omega) (by omega)
    · rw [decide_eq_true (by omega), if_pos rfl, if_neg (fun h => h256 h.2)]; rfl
  · rw [decide_eq_false hp, if_neg (by decide), if_pos trivial, if_neg (fun h => hp h.1)]; rfl
end Go.Proofs.YthoknobkkpefkaaDoor.PRef
