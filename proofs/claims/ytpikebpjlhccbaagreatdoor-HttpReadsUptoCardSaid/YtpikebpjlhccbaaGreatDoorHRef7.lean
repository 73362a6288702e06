/- The reference's reading of a message is http.read's, for every text. -/
import Derived.Test.YtpikebpjlhccbaaGreatDoorHRef6
namespace Go.Proofs.YtpikebpjlhccbaaGreatDoor.PAll
set_option linter.unusedVariables false
set_option linter.unusedSimpArgs false
open Go.RowKit Go.Proofs.YtpikebpjlhccbaaGreatDoorW.PrintWords Base Go.Lib

theorem colon_step (k : Nat) (b : ByteArray) (rq : Bool) (ls : List ByteArray) (i j : Nat) (hi : i < ls.length) (l : ByteArray) (hr : rdOf ByteArray.empty ls (i : Int) = l) (hz : l.size ≤ 1000000) (l0 : ByteArray) (acc : List S79) (body : ByteArray) (n : Int) :
    pennantref22_Read.l2 (k + 1) b rq ls (i : Int) (j : Int) l0 acc body n = if h : j < l.data.toList.length then (if l.data.toList[j] = 58 then pennantref22_Read.j6 k b rq ls (i : Int) (j : Int) l0 acc body n else pennantref22_Read.l2 k b rq ls (i : Int) ((j + 1 : Nat) : Int) l0 acc body n) else pennantref22_Read.j6 k b rq ls (i : Int) (j : Int) l0 acc body n := by
  have hsz := Base.size_eq l
  have a1 : (0 : Int) ≤ (i : Int) := by omega
  have a2 : (i : Int) < (ls.length : Int) := by omega
  have a3 : (0 : Int) ≤ (j : Int) := by omega
  rw [pennantref22_Read.l2, hr]
  simp only [if_pos a1, if_pos a2, if_pos a3]
  by_cases h : j < l.data.toList.length
  · have a4 : (j : Int) < (l.size : Int) := by omega
    have hw : wrap64 ((j : Int) + 1) = ((j + 1 : Nat) : Int) := wrap_succ h (by omega)
    have hb := bt_nat l j h
    rw [if_pos a4, dif_pos h, hb, hw]
    by_cases h2 : l.data.toList[j] = 58
    · rw [if_pos h2, if_pos (by rw [h2]; rfl)]
    · rw [if_neg h2, if_neg]
      intro hc
      exact h2 (UInt8.toNat_inj.1 (by rw [show (58 : UInt8).toNat = 58 from rfl]; omega))
  · have a4 : ¬ (j : Int) < (l.size : Int) := by omega
    rw [if_neg a4, dif_neg h]
theorem occ_one (L : List UInt8) (j : Nat) (h : j < L.length) : occAt L [58] j = (L[j] == 58) := by
  unfold occAt
  rw [List.drop_eq_getElem_cons h]
  show ((58 == L[j]) && true) = _
  rw [Bool.and_true, Bool.eq_iff_iff, beq_iff_eq, beq_iff_eq]
  exact eq_comm
theorem colon_search (b : ByteArray) (rq : Bool) (ls : List ByteArray) (i : Nat) (hi : i < ls.length) (l : ByteArray) (hr : rdOf ByteArray.empty ls (i : Int) = l) (hz : l.size ≤ 1000000) (l0 : ByteArray) (acc : List S79) (body : ByteArray) (n : Int) :
    ∀ (d j k : Nat), j + d = l.size → NoOcc l.data.toList [58] j → d + 1 < k → ∃ (p k' : Nat), k ≤ k' + d + 2 ∧ pennantref22_Read.l2 k b rq ls (i : Int) (j : Int) l0 acc body n = pennantref22_Read.j6 k' b rq ls (i : Int) (p : Int) l0 acc body n ∧
      ((p < l.size ∧ cut l.data.toList [58] = (l.data.toList.take p, l.data.toList.drop (p + 1), true)) ∨ (p = l.size ∧ cut l.data.toList [58] = (l.data.toList, [], false))) := by
  have hsz := Base.size_eq l
  intro d
  induction d with
  | zero =>
    intro j k hj hno hk
    obtain ⟨k, rfl⟩ : ∃ m, k = m + 1 := ⟨k - 1, by omega⟩
    refine ⟨j, k, by omega, ?_, .inr ⟨by omega, ?_⟩⟩
    · rw [colon_step k b rq ls i j hi l hr hz, dif_neg (by omega)]
    · have hx : index l.data.toList [58] = -1 := index_past (by decide) hno (by simp; omega)
      unfold cut
      rw [hx, if_neg (by decide)]
  | succ d ih =>
    intro j k hj hno hk
    obtain ⟨k, rfl⟩ : ∃ m, k = m + 1 := ⟨k - 1, by omega⟩
    have hlt : j < l.data.toList.length := by omega
    rw [colon_step k b rq ls i j hi l hr hz, dif_pos hlt]
    have ho := occ_one l.data.toList j hlt
    by_cases h2 : l.data.toList[j] = 58
    · rw [if_pos h2]
      refine ⟨j, k, by omega, rfl, .inl ⟨by omega, ?_⟩⟩
      have hx : index l.data.toList [58] = (j : Int) := index_hit hno (by omega) (by rw [ho, h2]; rfl)
      unfold cut
      rw [hx, if_pos (by omega), Int.toNat_natCast]
      rfl
    · rw [if_neg h2]
      obtain ⟨p, k', g1, g2, g3⟩ := ih (j + 1) k (by omega) (hno.succ (by rw [ho]; exact beq_eq_false_iff_ne.2 h2)) (by omega)
      exact ⟨p, k', by omega, g2, g3⟩

/-- One header. -/
theorem ref_line (kk : Nat) (hkk : 4100 < kk) (b : ByteArray) (rq : Bool) (ls : List ByteArray) (i : Nat) (hi : i < ls.length) (hls : ls.length ≤ 1000000) (l : ByteArray) (hr : rdOf ByteArray.empty ls (i : Int) = l) (hz : l.size ≤ 4096) (l0 : ByteArray) (acc : List S79) (hacc : acc.length ≤ 1000000) (body : ByteArray) (n : Int) (K : Nat) (hK : 200000 ≤ K) :
    (headF kk l = some none ∧ pennantref22_Read.l1 K b rq ls (i : Int) l0 acc body n = some (resOf (.bad 220))) ∨
    ∃ h, headF kk l = some (some h) ∧ h.f1.size ≤ 4096 ∧ ∃ K', K ≤ K' + 5000 ∧ pennantref22_Read.l1 K b rq ls (i : Int) l0 acc body n = pennantref22_Read.l1 K' b rq ls ((i + 1 : Nat) : Int) l0 (acc ++ [h]) body n := by
  obtain ⟨K, rfl⟩ : ∃ m, K = m + 1 := ⟨K - 1, by omega⟩
  have hsz := Base.size_eq l
  have a1 : (0 : Int) ≤ (i : Int) := by omega
  have a2 : (i : Int) < (ls.length : Int) := by omega
  have hl1 : pennantref22_Read.l1 (K + 1) b rq ls (i : Int) l0 acc body n = pennantref22_Read.l2 K b rq ls (i : Int) 0 l0 acc body n := by
    rw [pennantref22_Read.l1, if_pos a2]
  obtain ⟨p, K1, hK1, he, hc⟩ := colon_search b rq ls i hi l hr (by omega) l0 acc body n l.size 0 K (by omega) (NoOcc.zero _ _) (by omega)
  obtain ⟨K2, rfl⟩ : ∃ m, K1 = m + 1 + 1 := ⟨K1 - 2, by omega⟩
  rw [hl1]
  rw [show ((0 : Nat) : Int) = 0 from rfl] at he
  rw [he]
  have hj7 : pennantref22_Read.j7 (K2 + 1) b rq ls (i : Int) (p : Int) true l0 acc body n = some (resOf (.bad 220)) := by
    rw [pennantref22_Read.j7, if_pos rfl]
    rfl
  rw [pennantref22_Read.j6, if_pos a1, if_pos a2, hr]
  unfold headF
  rw [cut_f _ _ (by omega), Option.bind_some]
  have hcut : cut l.data.toList (⟨#[58]⟩ : ByteArray).data.toList = cut l.data.toList [58] := rfl
  rw [hcut]
  rcases hc with ⟨hp, hc⟩ | ⟨hp, hc⟩
  rotate_left
  · rw [hc, if_pos (by omega), hj7]
    left
    refine ⟨?_, rfl⟩
    dsimp only
    rw [trim_f _ _ (by rw [size_mk]; exact Nat.zero_le _) (by decide) (by decide), Option.bind_some, if_pos rfl]
  rw [hc]
  have e1 : l.extract 0 p = (⟨(l.data.toList.take p).toArray⟩ : ByteArray) := ba_ext (by rw [data_extract, List.drop_zero]; rfl)
  have e2 : l.extract (p + 1) l.size = (⟨(l.data.toList.drop (p + 1)).toArray⟩ : ByteArray) := ba_ext (by rw [data_extract]; exact List.take_of_length_le (by rw [List.length_drop]; omega))
  have hw : wrap64 ((p : Int) + 1) = ((p + 1 : Nat) : Int) := by unfold wrap64; omega
  have z1 : (⟨(l.data.toList.take p).toArray⟩ : ByteArray).size ≤ 4096 := by rw [size_mk, List.length_take]; omega
  have z2 : (⟨(l.data.toList.drop (p + 1)).toArray⟩ : ByteArray).size ≤ 4096 := by rw [size_mk, List.length_drop]; omega
  rw [if_neg (by omega), if_pos (by omega), if_pos (by omega), hw, if_pos (by omega), if_pos (by omega), Int.toNat_natCast, Int.toNat_natCast, e1, e2]
  dsimp only
  generalize hA : (⟨(l.data.toList.take p).toArray⟩ : ByteArray) = A at z1 e1 ⊢
  generalize hB : (⟨(l.data.toList.drop (p + 1)).toArray⟩ : ByteArray) = B at z2 e2 ⊢
  have ht32 : (⟨#[32, 9]⟩ : ByteArray).data.toList = [32, 9] := rfl
  have z3 := trim_size B.data.toList [32, 9]
  rw [← Base.size_eq] at z3
  rw [trim_f B _ (by omega) (by decide) (by decide), Option.bind_some, if_neg (by decide), ht32, token_f A (by omega) kk (by omega), Option.bind_some, ref_token_f A (by omega) _ (by omega), Option.bind_some]
  by_cases h1 : tokenB A.data.toList = true
  rotate_left
  · rw [if_neg h1, if_pos (by simpa using h1), hj7]
    exact .inl ⟨rfl, rfl⟩
  rw [if_pos h1, if_neg (by simp [h1]), ref_text_f B (by omega) _ (by omega), Option.bind_some, text_f _ (by rw [size_mk]; omega) kk (by rw [size_mk]; omega), Option.bind_some]
  have htx : textB (⟨(trimS B.data.toList [32, 9]).toArray⟩ : ByteArray).data.toList = textB B.data.toList := textB_trim B.data.toList
  rw [htx]
  by_cases h2 : textB B.data.toList = true
  rotate_left
  · rw [if_pos (by simpa using h2), show (!textB B.data.toList) = true from by simpa using h2, hj7]
    exact .inl ⟨rfl, rfl⟩
  rw [if_neg (by simp [h2]), show (!textB B.data.toList) = false from by simp [h2], small_same A (by omega) h1 K2 (by omega), ref_small_f K2 A (by omega) (by omega), Option.bind_some]
  right
  refine ⟨_, rfl, by rw [size_mk]; omega, K2, by omega, ?_⟩
  rw [pennantref22_Read.j7, if_neg Bool.false_ne_true, if_pos a1, if_pos a2, hr, if_pos (by omega), if_pos (by omega), Int.toNat_natCast, e1, ref_small_f K2 A (by omega) (by omega), Option.bind_some, hw, if_pos (by omega), if_pos (by omega), Int.toNat_natCast, e2, ref_blankless_f K2 B (by omega) (by omega), Option.bind_some, if_pos (by omega), show wrap64 ((i : Int) + 1) = ((i + 1 : Nat) : Int) from by unfold wrap64; omega]
  rfl
/-- All of them. -/
theorem ref_heads (kk : Nat) (hkk : 4100 < kk) (b : ByteArray) (rq : Bool) (ls : List ByteArray) (hls : ls.length ≤ 100000) (hz : ∀ x ∈ ls, x.size ≤ 4096) (l0 : ByteArray) (body : ByteArray) (n : Int) :
    ∀ (d i : Nat) (acc : List S79) (K : Nat), i + d = ls.length → acc.length ≤ i → 200000 + 5000 * d ≤ K →
    (headsF kk (ls.drop i) = some none ∧ pennantref22_Read.l1 K b rq ls (i : Int) l0 acc body n = some (resOf (.bad 220))) ∨
    ∃ xs, headsF kk (ls.drop i) = some (some xs) ∧ (∀ x ∈ xs, x.f1.size ≤ 4096) ∧ ∃ K', K ≤ K' + 5000 * d ∧ pennantref22_Read.l1 K b rq ls (i : Int) l0 acc body n = pennantref22_Read.l1 K' b rq ls (ls.length : Int) l0 (acc ++ xs) body n := by
  intro d
  induction d with
  | zero =>
    intro i acc K hi ha hK
    right
    obtain rfl : i = ls.length := by omega
    rw [List.drop_length]
    exact ⟨[], rfl, by simp, K, by omega, by rw [List.append_nil]⟩
  | succ d ih =>
    intro i acc K hi ha hK
    rw [Nat.mul_succ] at hK ⊢
    have hK0 : 200000 ≤ K := Nat.le_trans (Nat.le_add_right _ _) hK
    generalize hM : 5000 * d = M at hK ih ⊢
    have hlt : i < ls.length := by omega
    have hrd : rdOf ByteArray.empty ls (i : Int) = ls[i] := by
      unfold rdOf
      rw [Int.toNat_natCast, List.getD_eq_getElem?_getD, List.getElem?_eq_getElem hlt, Option.getD_some]
    rw [List.drop_eq_getElem_cons hlt]
    have hzi := hz _ (List.getElem_mem hlt)
    generalize ls[i]'hlt = l at hrd hzi ⊢
    rcases ref_line kk hkk b rq ls i hlt (by clear hK; omega) l hrd hzi l0 acc (by clear hK; omega) body n K hK0 with ⟨h1, h2⟩ | ⟨h, h1, h2, K', h3, h4⟩
    · left
      refine ⟨?_, h2⟩
      unfold headsF
      rw [h1]
      rfl
    · rw [h4]
      rcases ih (i + 1) (acc ++ [h]) K' (by omega) (by rw [List.length_append, List.length_singleton]; omega) (by omega) with ⟨g1, g2⟩ | ⟨xs, g1, g2, K2, g3, g4⟩
      · left
        refine ⟨?_, g2⟩
        unfold headsF
        rw [h1, Option.bind_some]
        dsimp only
        rw [g1]
        rfl
      · right
        refine ⟨h :: xs, ?_, ?_, K2, Nat.le_trans h3 (by rw [← Nat.add_assoc]; exact Nat.add_le_add_right g3 5000), ?_⟩
        · unfold headsF
          rw [h1, Option.bind_some]
          dsimp only
          rw [g1]
          rfl
        · intro x hx
          rcases List.mem_cons.1 hx with rfl | hx
          · exact h2
          · exact g2 x hx
        · rw [g4, List.append_assoc]
          rfl
theorem cnt_size (a : ByteArray) (M : Nat) : ∀ (xs : List S79) (n : Int) (v : ByteArray), v.size ≤ M → (∀ x ∈ xs, x.f1.size ≤ M) → (cntF xs a n v).2.size ≤ M
  | [], _, _, hv, _ => hv
  | x :: xs, n, v, hv, h => by
    unfold cntF
    have hx := h x (by simp)
    have ht : ∀ y ∈ xs, y.f1.size ≤ M := fun y hy => h y (by simp [hy])
    by_cases h1 : x.f0.toList = a.toList
    · rw [if_pos h1]
      refine cnt_size a M xs _ _ ?_ ht
      split
      · exact hx
      · exact hv
    · rw [if_neg h1]
      exact cnt_size a M xs _ _ hv ht
/-- How the first line is looked at: alike. -/
def FirstOk (rq : Bool) (rl : ByteArray → Option Bool) : Prop := ∀ l : ByteArray, l.size ≤ 4096 → ∃ r, rl l = some r ∧ ∀ k, 3000000 ≤ k → (∃ q, pennantref22_Request.f k l = some q ∧ (rq = true → q.2.2 = r)) ∧ (rq = false → ∃ m, pennantref22_Status.f k l = some m ∧ decide (m < 0) = !r)
theorem ref_read (kk : Nat) (hkk : 4100 < kk) (b : ByteArray) (hb : b.size ≤ 1000000) (rq : Bool) (rl : ByteArray → Option Bool) (hrl : FirstOk rq rl) (k : Nat) (hk : 30000000 ≤ k) :
    pennantref22_Read.f k b rq = (readF kk rl rq b).map resOf := by
  unfold pennantref22_Read.f
  obtain ⟨p, k1, hk1, he, hp, hc⟩ := read_search b rq (by omega) b.size 0 k (by omega) (Nat.zero_le _) (NoOcc.zero _ _) (by omega)
  obtain ⟨k2, rfl⟩ : ∃ m, k1 = m + 1 + 1 + 1 := ⟨k1 - 3, by omega⟩
  rw [show ((0 : Nat) : Int) = 0 from rfl] at he
  rw [he]
  have hw : wrap64 ((p : Int) + 4) = ((p + 4 : Nat) : Int) := by unfold wrap64; omega
  have hj2 : ∀ fl : Bool, pennantref22_Read.j2 (k2 + 1 + 1) b rq (p : Int) fl true = some (resOf (.bad 2)) := fun fl => by rw [pennantref22_Read.j2, if_pos rfl]; rfl
  rw [pennantref22_Read.j1, hw]
  unfold readF
  rw [show strings_Index.f b (⟨#[13, 10, 13, 10]⟩ : ByteArray) = _ from index_f b c4 (by omega), Option.bind_some]
  rcases hc with ⟨hx, hpb⟩ | ⟨hx, hpb⟩
  rotate_left
  · have ho : ((p + 4 : Nat) : Int) > (b.size : Int) := by omega
    rw [hx, if_pos ho, if_pos ho, if_pos (show (-1 : Int) ≤ -1 ∧ (-1 : Int) ≤ 4611686018427387904 by omega), decide_eq_true ho]
    by_cases h1 : (b.size : Int) > 4096
    · rw [if_pos h1, if_pos (show ((-1 : Int) < 0 ∧ 4096 < (b.size : Int)) ∨ 4096 < (-1 : Int) + 4 from .inl ⟨by decide, h1⟩)]
      exact hj2 true
    · rw [if_neg h1, if_neg (show ¬ (((-1 : Int) < 0 ∧ 4096 < (b.size : Int)) ∨ 4096 < (-1 : Int) + 4) by omega), if_pos (show (-1 : Int) < 0 by decide), pennantref22_Read.j2, if_neg Bool.false_ne_true, if_pos rfl]
      rfl
  have ho : ¬ ((p + 4 : Nat) : Int) > (b.size : Int) := by omega
  rw [hx, if_neg ho, if_neg ho, if_pos (show (-1 : Int) ≤ (p : Int) ∧ (p : Int) ≤ 4611686018427387904 by omega), decide_eq_false ho]
  by_cases h1 : ((p + 4 : Nat) : Int) > 4096
  · rw [decide_eq_true h1, if_pos (show ((p : Int) < 0 ∧ 4096 < (b.size : Int)) ∨ 4096 < (p : Int) + 4 by omega)]
    exact hj2 false
  rw [decide_eq_false h1, if_neg (show ¬ (((p : Int) < 0 ∧ 4096 < (b.size : Int)) ∨ 4096 < (p : Int) + 4) by omega), if_neg (show ¬ (p : Int) < 0 by omega), Int.toNat_natCast, if_pos hpb]
  have hez : (b.extract 0 p).size ≤ 4096 := by rw [Base.size_eq, data_extract, List.length_take, List.length_drop, ← Base.size_eq]; omega
  obtain ⟨l0, ls, hs, hm, hl⟩ := split_f (b.extract 0 p) (⟨#[13, 10]⟩ : ByteArray) (by omega) (by decide)
  rw [pennantref22_Read.j2, if_neg Bool.false_ne_true, if_neg Bool.false_ne_true, if_pos (show (0 : Int) ≤ (p : Int) by omega), if_pos (show (p : Int) ≤ (b.size : Int) by omega), Int.toNat_natCast, ref_split_f (k2 + 1) (b.extract 0 p) _ (by decide) (by omega) (by decide) (by omega), hs, Option.bind_some, Option.bind_some]
  have hr0 : rdOf ByteArray.empty (l0 :: ls) 0 = l0 := rfl
  obtain ⟨r, hr, hr2⟩ := hrl l0 (Nat.le_trans (hm l0 (by simp)) hez)
  obtain ⟨⟨q, hq, hq2⟩, hst⟩ := hr2 (k2 + 1) (by omega)
  rw [if_pos (show 0 < ((l0 :: ls).length : Int) by rw [List.length_cons]; omega), hr0, hq, Option.bind_some, hw]
  have hj3 : ∀ fl : Bool, fl = (!r) → pennantref22_Read.j3 (k2 + 1) b rq (l0 :: ls) fl l0 (⟨#[]⟩ : ByteArray) ((p + 4 : Nat) : Int) = (restF kk rl rq b p (l0 :: ls)).map resOf := by
    rintro fl rfl
    unfold restF
    rw [pennantref22_Read.j3]
    dsimp only
    rw [if_pos (show ls.length ≤ 4096 by omega), hr, Option.bind_some]
    cases r with
    | false => rfl
    | true =>
      rw [if_neg (show ¬ (!true) = true by decide), if_neg (show ¬ true = false by decide)]
      have hH := ref_heads kk hkk b rq (l0 :: ls) (by rw [List.length_cons]; omega) (fun x hx => Nat.le_trans (hm x hx) hez) l0 (⟨#[]⟩ : ByteArray) ((p + 4 : Nat) : Int) ls.length 1 [] k2 (by rw [List.length_cons]; omega) (Nat.zero_le _) (by omega)
      rw [show ((1 : Nat) : Int) = 1 from rfl, List.drop_succ_cons, List.drop_zero] at hH
      rcases hH with ⟨g1, g2⟩ | ⟨xs, g1, g2, K2, g3, g4⟩
      · rw [g1, g2]
        rfl
      · have hln := headsF_len kk ls xs g1
        rw [g1, g4, Option.bind_some, List.nil_append]
        exact ref_tail K2 b (by omega) p hpb rq (l0 :: ls) l0 xs (by omega) (Nat.le_trans (cnt_size _ 4096 xs 0 e0 (by decide) g2) (by decide)) (by omega)
  cases rq with
  | true =>
    rw [if_pos rfl]
    have := hq2 rfl
    cases hqv : q.2.2 with
    | true => rw [if_pos rfl]; exact hj3 _ (by rw [← this, hqv]; first | done | rfl)
    | false => rw [if_neg Bool.false_ne_true]; exact hj3 _ (by rw [← this, hqv]; first | done | rfl)
  | false =>
    obtain ⟨m, hm1, hm2⟩ := hst rfl
    rw [if_neg Bool.false_ne_true, hm1, Option.bind_some]
    exact hj3 _ hm2
end Go.Proofs.YtpikebpjlhccbaaGreatDoor.PAll
