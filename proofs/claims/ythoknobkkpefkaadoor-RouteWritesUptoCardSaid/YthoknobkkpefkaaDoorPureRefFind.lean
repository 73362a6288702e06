/- The reference's Id, Find, Digits and Write, as the same plain functions. -/
import Derived.Test.YthoknobkkpefkaaDoorPureRefUrl
import Derived.Test.YthoknobkkpefkaaDoorPureWrite
import Derived.Test.YthoknobkkpefkaaDoorPAllx8
namespace Go.Proofs.YthoknobkkpefkaaDoor.PAll
set_option linter.unusedVariables false
set_option linter.unusedSimpArgs false
open Go.RowKit Go.Proofs.YthoknobkkpefkaaDoorW.PrintWords Base
open Go.Lib (decDigits itoa)

set_option maxRecDepth 4000 in
theorem ref_id_f (l : List UInt8) (hl : l.length ≤ 9223372036854775800) (k : Nat) (hk : l.length + 2 < k) : pennantref16_Id.f k (bl l) = some (idB l) := by
  unfold pennantref16_Id.f
  have hsz := bl_size l
  have h := scan0 (bl l) idOk (fun k i => pennantref16_Id.l0 k (bl l) i) false (decide (0 < l.length) && decide (l.length ≤ 64)) 0 ?_ ?_ k (by rw [bl_data]; omega)
  · refine Eq.trans h ?_
    rw [bl_data]
    unfold idB lettersB
    cases l.all idOk <;> simp
  · intro k i hi
    have hb := bt_nat (bl l) i hi
    have hil : i < l.length := hi
    simp only [pennantref16_Id.l0]
    rw [hsz, if_pos (by omega), if_pos (by omega), hb, wrap_succ hil (by omega), plain_f, Option.bind_some]
    generalize (bl l).data.toList[i] = c at *
    generalize pennantref16_Id.l0 k (bl l) ((i + 1 : Nat) : Int) = R
    have key : ∀ c : UInt8, idOk c = (if plainB c = true then true else if (c.toNat : Int) = 95 then true else if (c.toNat : Int) = 45 then true else if (c.toNat : Int) = 46 then true else if (c.toNat : Int) = 35 then true else if (c.toNat : Int) < 128 then false else true) := by
      apply forall_byte
      decide +kernel
    rw [key c]
    repeat' split
    all_goals first | rfl | (exfalso; contradiction) | simp_all
  · intro k _
    simp only [pennantref16_Id.l0]
    rw [hsz, bl_data, if_neg (by omega)]
    by_cases h0 : (l.length : Int) > 0
    · rw [if_pos h0, decide_eq_true (show 0 < l.length by omega), Bool.true_and]
      congr 1
      rw [Bool.eq_iff_iff, decide_eq_true_eq, decide_eq_true_eq]; omega
    · rw [if_neg h0, decide_eq_false (show ¬ 0 < l.length by omega), Bool.false_and]

theorem ref_find_j0 (l : List UInt8) (hl : l.length ≤ 9223372036854775800) (k : Nat) (hk : l.length + 2 < k) (b : Bool) (hb : b = true → sessL <+: l) :
    pennantref16_Find.j0 (k + 1) (bl l) b = some (if b = true then ans 4 (l.drop 8) 0 else if invL <+: l ∧ idB (l.drop 2) = true then ans 5 (l.drop 2) 0 else ans 0 [] 190) := by
  simp only [pennantref16_Find.j0]
  cases b
  · rw [if_neg (c := false = true) (by decide), if_neg (c := false = true) (by decide), show (⟨#[35, 95]⟩ : ByteArray) = bl invL from rfl, ref_begins_f, Option.bind_some]
    by_cases hp : invL <+: l
    · have h2 : 2 ≤ l.length := hp.length_le
      rw [decide_eq_true hp, if_pos rfl, bl_size, if_pos (by omega), show (bl l).extract 2 l.length = bl (l.drop 2) from by rw [bl_extract, List.take_of_length_le (by rw [List.length_drop]; omega)],
        ref_id_f _ (by rw [List.length_drop]; omega) k (by rw [List.length_drop]; omega), Option.bind_some]
      by_cases hi : idB (l.drop 2) = true
      · rw [if_pos hi, if_pos ⟨hp, hi⟩]; rfl
      · rw [if_neg hi, if_neg (fun h => hi h.2)]; rfl
    · rw [decide_eq_false hp, if_neg (by decide), if_neg (fun h => hp h.1)]; rfl
  · have h8 : 8 ≤ l.length := (hb rfl).length_le
    rw [if_pos rfl, if_pos rfl, bl_size, if_pos (by omega), show (bl l).extract 8 l.length = bl (l.drop 8) from by rw [bl_extract, List.take_of_length_le (by rw [List.length_drop]; omega)]]
    rfl

theorem ref_find_f (l t : List UInt8) (hl : l.length ≤ 9223372036854775800) (k : Nat) (hk : l.length + 2005 < k) : pennantref16_Find.f k (bl l) (bl t) = some (findP l t) := by
  obtain ⟨k, rfl⟩ : ∃ m, k = m + 1 := ⟨k - 1, by omega⟩
  unfold pennantref16_Find.f findP
  rw [ref_processor_f, Option.bind_some]
  have hu : pennantref16_Url.f (k + 1) (bl l) = some (urlR (urlP l)) := PRef.url_ref_f l (by omega) (k + 1) (by omega)
  have hp3 : procP t = 0 ∨ procP t = 1 ∨ procP t = 2 := by
    unfold procP
    repeat' split
    all_goals simp
  rcases hp3 with h | h | h
  · rw [h, if_pos rfl]; rfl
  · rw [h, if_neg (by decide), if_neg (by decide), if_pos rfl]
    unfold internalP
    simp only [bl_toList]
    by_cases h1 : l = []
    · rw [if_pos h1, if_pos h1]; rfl
    · rw [if_neg h1, if_neg h1]
      by_cases h2 : l = internalL
      · subst h2; rfl
      · rw [if_neg (show ¬ l = [35, 95, 105, 110, 116, 101, 114, 110, 97, 108] from h2), if_neg h2]
        by_cases h3 : l = parentL
        · subst h3; rfl
        · rw [if_neg (show ¬ l = [35, 95, 112, 97, 114, 101, 110, 116] from h3), if_neg h3, show (⟨#[35, 95, 115, 99, 120, 109, 108, 95]⟩ : ByteArray) = bl sessL from rfl, ref_begins_f, Option.bind_some]
          by_cases hs : sessL <+: l
          · have h8 : 8 ≤ l.length := hs.length_le
            rw [decide_eq_true hs, if_pos rfl, bl_size, if_pos (by omega), show (bl l).extract 8 l.length = bl (l.drop 8) from by rw [bl_extract, List.take_of_length_le (by rw [List.length_drop]; omega)],
              ref_id_f _ (by rw [List.length_drop]; omega) (k + 1) (by rw [List.length_drop]; omega), Option.bind_some, ref_find_j0 l hl k (by omega) _ (fun _ => hs)]
            by_cases hi : idB (l.drop 8) = true
            · rw [if_pos hi, if_pos ⟨hs, hi⟩]
            · rw [if_neg hi, if_neg (c := sessL <+: l ∧ idB (l.drop 8) = true) (fun h => hi h.2)]
          · rw [decide_eq_false hs, if_neg (by decide), ref_find_j0 l hl k (by omega) false (fun h => by cases h), if_neg (by decide), if_neg (c := sessL <+: l ∧ idB (l.drop 8) = true) (fun h => hs h.1)]
  · rw [h, if_neg (by decide), if_pos rfl, hu, if_neg (by decide), if_pos rfl]; rfl

theorem tdm (n : Int) : (0 ≤ n → Int.tdiv n 10 = n / 10 ∧ Int.tmod n 10 = n % 10) ∧ (n < 0 → Int.tdiv n 10 = -((-n) / 10) ∧ Int.tmod n 10 = -((-n) % 10)) := by
  refine ⟨fun h => ⟨Int.tdiv_eq_ediv_of_nonneg h, Int.tmod_eq_emod_of_nonneg h⟩, fun h => ?_⟩
  obtain ⟨m, rfl⟩ : ∃ m, n = -m := ⟨-n, by omega⟩
  rw [Int.neg_tdiv, Int.neg_tmod, Int.tdiv_eq_ediv_of_nonneg (by omega), Int.tmod_eq_emod_of_nonneg (by omega), Int.neg_neg]
  exact ⟨rfl, rfl⟩
theorem dig_abs (n : Int) : (Int.tdiv n 10).natAbs = n.natAbs / 10 := by
  obtain ⟨hp, hn⟩ := tdm n
  by_cases h : 0 ≤ n
  · rw [(hp h).1]; omega
  · rw [(hn (by omega)).1]; omega
theorem dig_wrap (n : Int) (hlo : -9223372036854775808 ≤ n) (hhi : n ≤ 9223372036854775807) : wrap64 (Int.tdiv n 10) = Int.tdiv n 10 := by
  have := dig_abs n
  unfold wrap64; omega
theorem dig_neg (n : Int) (h : Int.tmod n 10 < 0) : (wrap64 (48 + wrap64 (-(Int.tmod n 10)))) % 256 = ((48 + n.natAbs % 10 : Nat) : Int) := by
  obtain ⟨hp, hn⟩ := tdm n
  have e : -(Int.tmod n 10) = ((n.natAbs % 10 : Nat) : Int) := by
    by_cases hh : 0 ≤ n
    · rw [(hp hh).2] at h ⊢; omega
    · rw [(hn (by omega)).2]; omega
  have hlt : n.natAbs % 10 < 10 := Nat.mod_lt _ (by decide)
  rw [e]
  generalize n.natAbs % 10 = m at *
  have e1 : wrap64 (m : Int) = m := by unfold wrap64; omega
  rw [e1]
  unfold wrap64; omega
theorem dig_pos (n : Int) (h : ¬ Int.tmod n 10 < 0) : (wrap64 (48 + (Int.tmod n 10))) % 256 = ((48 + n.natAbs % 10 : Nat) : Int) := by
  obtain ⟨hp, hn⟩ := tdm n
  have e : Int.tmod n 10 = ((n.natAbs % 10 : Nat) : Int) := by
    by_cases hh : 0 ≤ n
    · rw [(hp hh).2]; omega
    · rw [(hn (by omega)).2] at h ⊢; omega
  have hlt : n.natAbs % 10 < 10 := Nat.mod_lt _ (by decide)
  rw [e]
  generalize n.natAbs % 10 = m at *
  unfold wrap64; omega

theorem dec_last (n : Int) (h0 : Int.tdiv n 10 = 0) : decDigits n.natAbs = [UInt8.ofNat (48 + n.natAbs % 10)] := by
  have := dig_abs n
  rw [h0] at this
  have hlt : n.natAbs < 10 := by simp at this; omega
  rw [decDigits, dif_pos hlt, Nat.mod_eq_of_lt hlt]
theorem dec_more (n : Int) (h0 : ¬ Int.tdiv n 10 = 0) : decDigits n.natAbs = decDigits (Int.tdiv n 10).natAbs ++ [UInt8.ofNat (48 + n.natAbs % 10)] := by
  have := dig_abs n
  have hge : ¬ n.natAbs < 10 := by omega
  conv => lhs; rw [decDigits, dif_neg hge]
  rw [this]

theorem digits_l0 (s : List UInt8) (hs : s.length ≤ 1) : ∀ (d k : Nat) (n : Int) (acc : List UInt8), n.natAbs < 10 ^ (d + 1) → -9223372036854775808 ≤ n → n ≤ 9223372036854775807 → acc.length + d ≤ 30 → d < k →
    pennantref08_Digits.l0 k n (bl acc) (bl s) = some (bl (s ++ (decDigits n.natAbs ++ acc))) := by
  intro d
  induction d with
  | zero =>
    intro k n acc hn hlo hhi ha hk
    obtain ⟨k, rfl⟩ : ∃ m, k = m + 1 := ⟨k - 1, by omega⟩
    simp only [pennantref08_Digits.l0]
    have h0 : Int.tdiv n 10 = 0 := by
      have := dig_abs n
      have : n.natAbs < 10 := by simpa using hn
      omega
    rw [dig_wrap n hlo hhi, dec_last n h0, h0]
    have step : ∀ y : List Int, strOfNums y = bl [UInt8.ofNat (48 + n.natAbs % 10)] → ((some y : Option (List Int)).bind fun y200 => (if (strOfNums y200).size + (bl acc).size ≤ 9223372036854775807 then (if (0 : Int) = 0 then (if (bl s).size + ((strOfNums y200) ++ bl acc).size ≤ 9223372036854775807 then (some (bl s ++ ((strOfNums y200) ++ bl acc))) else (none)) else (pennantref08_Digits.l0 k 0 ((strOfNums y200) ++ bl acc) (bl s))) else (none))) = some (bl (s ++ ([UInt8.ofNat (48 + n.natAbs % 10)] ++ acc))) := by
      intro y hy
      clear hn
      rw [Option.bind_some, hy, bl_append]
      simp only [bl_size, List.length_append, List.length_singleton]
      rw [if_pos (by omega), if_pos trivial, if_pos (by omega), bl_append]
    by_cases hneg : Int.tmod n 10 < 0
    · rw [if_pos hneg, dig_neg n hneg]
      exact step _ rfl
    · rw [if_neg hneg, dig_pos n hneg]
      exact step _ rfl
  | succ d ih =>
    intro k n acc hn hlo hhi ha hk
    obtain ⟨k, rfl⟩ : ∃ m, k = m + 1 := ⟨k - 1, by omega⟩
    simp only [pennantref08_Digits.l0]
    have hdv := dig_abs n
    have hn' : (Int.tdiv n 10).natAbs < 10 ^ (d + 1) := by
      rw [hdv, Nat.div_lt_iff_lt_mul (by decide)]
      rw [Nat.pow_succ] at hn
      exact hn
    have hih := fun a h => ih k (Int.tdiv n 10) a hn' (by omega) (by omega) h (by omega)
    rw [dig_wrap n hlo hhi]
    have step : ∀ y : List Int, strOfNums y = bl [UInt8.ofNat (48 + n.natAbs % 10)] → ((some y : Option (List Int)).bind fun y200 => (if (strOfNums y200).size + (bl acc).size ≤ 9223372036854775807 then (if Int.tdiv n 10 = 0 then (if (bl s).size + ((strOfNums y200) ++ bl acc).size ≤ 9223372036854775807 then (some (bl s ++ ((strOfNums y200) ++ bl acc))) else (none)) else (pennantref08_Digits.l0 k (Int.tdiv n 10) ((strOfNums y200) ++ bl acc) (bl s))) else (none))) = some (bl (s ++ (decDigits n.natAbs ++ acc))) := by
      intro y hy
      clear hn hn' ih
      rw [Option.bind_some, hy, bl_append]
      simp only [bl_size, List.length_append, List.length_singleton]
      rw [if_pos (by omega)]
      by_cases h0 : Int.tdiv n 10 = 0
      · rw [if_pos h0, if_pos (by omega), bl_append, dec_last n h0]
      · rw [if_neg h0, hih _ (by simp only [List.length_append, List.length_singleton]; omega), dec_more n h0, List.append_assoc]
    by_cases hneg : Int.tmod n 10 < 0
    · rw [if_pos hneg, dig_neg n hneg]
      exact step _ rfl
    · rw [if_neg hneg, dig_pos n hneg]
      exact step _ rfl

theorem digits_f (n : Int) (hn : -9223372036854775808 ≤ n ∧ n ≤ 9223372036854775807) (k : Nat) (hk : 25 < k) : pennantref08_Digits.f k n = some (bl (itoa n)) := by
  obtain ⟨k, rfl⟩ : ∃ m, k = m + 1 := ⟨k - 1, by omega⟩
  unfold pennantref08_Digits.f itoa
  simp only [pennantref08_Digits.j0]
  by_cases h : n < 0
  · have := digits_l0 [45] (by simp) 18 k n [] (by omega) hn.1 hn.2 (by simp) (by omega)
    rw [if_pos h, if_pos h, show (⟨#[]⟩ : ByteArray) = bl [] from rfl, show (⟨#[45]⟩ : ByteArray) = bl [45] from rfl, this, List.append_nil]; rfl
  · have := digits_l0 [] (by simp) 18 k n [] (by omega) hn.1 hn.2 (by simp) (by omega)
    rw [if_neg h, if_neg h, show (⟨#[]⟩ : ByteArray) = bl [] from rfl, this, List.append_nil, show n.natAbs = n.toNat from by omega]; rfl

theorem ref_write_f (kind : Int) (id host : List UInt8) (port : Int) (path : List UInt8) (hp : -9223372036854775808 ≤ port ∧ port ≤ 9223372036854775807)
    (hl : id.length + host.length + path.length ≤ 17592186044416) (k : Nat) (hk : id.length + host.length + path.length + 3000 < k) : pennantref16_Write.f k kind (bl id) (bl host) port (bl path) = writeP kind id host port path := by
  have hi := itoa_len port hp
  have hf : ∀ (l t : List UInt8), l.length ≤ id.length + host.length + path.length + 40 → pennantref16_Find.f k (bl l) (bl t) = some (findP l t) := fun l t h => ref_find_f l t (by omega) k (by omega)
  have e8 : sessL.length = 8 := rfl
  have e2 : invL.length = 2 := rfl
  have e7 : httpL.length = 7 := rfl
  unfold pennantref16_Write.f writeP writeS
  simp only [bl_size]
  rw [show (⟨#[115, 99, 120, 109, 108]⟩ : ByteArray) = bl tScxml from rfl, show (⟨#[98, 97, 115, 105, 99, 104, 116, 116, 112]⟩ : ByteArray) = bl tBasic from rfl]
  by_cases h1 : kind = 1
  · subst h1
    rw [if_pos rfl, if_pos rfl, show (⟨#[]⟩ : ByteArray) = bl [] from rfl, hf _ _ (by simp), Option.bind_some]; rfl
  · rw [if_neg h1, if_neg h1]
    by_cases h2 : kind = 2
    · subst h2
      rw [if_pos rfl, if_pos rfl, show (⟨#[35, 95, 105, 110, 116, 101, 114, 110, 97, 108]⟩ : ByteArray) = bl internalL from rfl, hf _ _ (by simp [internalL]), Option.bind_some]; rfl
    · rw [if_neg h2, if_neg h2]
      by_cases h3 : kind = 3
      · subst h3
        rw [if_pos rfl, if_pos rfl, show (⟨#[35, 95, 112, 97, 114, 101, 110, 116]⟩ : ByteArray) = bl parentL from rfl, hf _ _ (by simp [parentL]), Option.bind_some]; rfl
      · rw [if_neg h3, if_neg h3]
        by_cases h4 : kind = 4
        · subst h4
          rw [if_pos rfl, if_pos rfl, if_pos (by omega), show (⟨#[35, 95, 115, 99, 120, 109, 108, 95]⟩ : ByteArray) = bl sessL from rfl, bl_append,
            hf _ _ (by rw [List.length_append]; omega), Option.bind_some]; rfl
        · rw [if_neg h4, if_neg h4]
          by_cases h5 : kind = 5
          · subst h5
            rw [if_pos rfl, if_pos rfl, if_pos (by omega), show (⟨#[35, 95]⟩ : ByteArray) = bl invL from rfl, bl_append,
              hf _ _ (by rw [List.length_append]; omega), Option.bind_some]; rfl
          · rw [if_neg h5, if_neg h5]
            by_cases h6 : kind = 6
            · subst h6
              rw [if_pos rfl, if_pos rfl, if_pos (by omega), lit_http, bl_append]
              unfold portS
              by_cases h80 : port = 80
              · rw [if_pos h80, if_pos h80, bl_size, if_pos (by rw [List.length_append]; omega), bl_append, List.append_nil,
                  hf _ _ (by rw [List.length_append, List.length_append]; omega), Option.bind_some]; rfl
              · rw [if_neg h80, if_neg h80]
                rw [digits_f port hp k (by omega), Option.bind_some, show (⟨#[58]⟩ : ByteArray) = bl [58] from rfl, bl_append, bl_append, bl_append]
                simp only [bl_size, List.length_append, List.length_singleton]
                rw [if_pos (by omega), if_pos (by omega), if_pos (by omega)]
                have hx : httpL ++ host ++ [58] ++ itoa port ++ path = httpL ++ host ++ (58 :: itoa port) ++ path := by simp
                rw [hx, hf _ _ (by simp only [List.length_append, List.length_cons]; omega), Option.bind_some]; rfl
            · rw [if_neg h6, if_neg h6]; rfl
end Go.Proofs.YthoknobkkpefkaaDoor.PAll
