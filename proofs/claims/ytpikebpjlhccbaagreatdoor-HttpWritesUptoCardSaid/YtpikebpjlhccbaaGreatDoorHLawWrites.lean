/- HttpWrites, plain: the program's writing and the reference's are the same for every request and response. -/
import Derived.Test.YtpikebpjlhccbaaGreatDoorHReqSame
import Derived.Test.YtpikebpjlhccbaaGreatDoorHWrite
import Derived.Test.YtpikebpjlhccbaaGreatDoorHRespW
import Derived.Test.YtpikebpjlhccbaaGreatDoorPAllx15
import Derived.Test.YtpikebpjlhccbaaGreatDoorPAllx19
namespace Go.Proofs.YtpikebpjlhccbaaGreatDoor.PAll
set_option linter.unusedVariables false
set_option linter.unusedSimpArgs false
open Go.RowKit Go.Proofs.YtpikebpjlhccbaaGreatDoorW.PrintWords Base Go.Lib

theorem dig_num : ∀ x : Fin 10, (strOfNums [(wrap64 (48 + (x.val : Int))) % 256]).data.toList = [UInt8.ofNat (48 + x.val)] := by decide +kernel
theorem dig_step (m : Nat) (hm : m ≤ 1000000) (k : Nat) (out e : ByteArray) (ho : out.size ≤ 1000000) (he : e.size ≤ 1000000) :
    ∃ D : ByteArray, D.data.toList = [UInt8.ofNat (48 + m % 10)] ∧ pennantref08_Digits.l0 (k + 1) (m : Int) out e = if m / 10 = 0 then some (e ++ (D ++ out)) else pennantref08_Digits.l0 k ((m / 10 : Nat) : Int) (D ++ out) e := by
  have h1 : Int.tmod (m : Int) 10 = ((m % 10 : Nat) : Int) := rfl
  have h2 : Int.tdiv (m : Int) 10 = ((m / 10 : Nat) : Int) := rfl
  have hw : wrap64 ((m / 10 : Nat) : Int) = ((m / 10 : Nat) : Int) := by unfold wrap64; omega
  have hD := dig_num ⟨m % 10, by omega⟩
  refine ⟨_, hD, ?_⟩
  have hz := one_size hD
  have a1 : ¬ ((m % 10 : Nat) : Int) < 0 := by omega
  rw [pennantref08_Digits.l0, h1, h2, hw, if_neg a1, Option.bind_some]
  generalize strOfNums [(wrap64 (48 + ((m % 10 : Nat) : Int))) % 256] = D at hz ⊢
  have hz2 : (D ++ out).size = 1 + out.size := by rw [ByteArray.size_append, hz]
  rw [if_pos (by omega)]
  by_cases h0 : m / 10 = 0
  · rw [if_pos h0, if_pos (by omega), if_pos (by omega)]
  · rw [if_neg h0, if_neg (by omega)]
theorem dig_l0 (e : ByteArray) (he : e.size ≤ 1000) : ∀ (n m k : Nat) (out : ByteArray), m ≤ n → m ≤ 1000000 → n + out.size ≤ 1000000 → n + 1 < k → pennantref08_Digits.l0 k (m : Int) out e = some (e ++ (ofB (decDigits m) ++ out))
  | n, m, k, out, hmn, hm, ho, hk => by
    obtain ⟨k, rfl⟩ : ∃ j, k = j + 1 := ⟨k - 1, by omega⟩
    obtain ⟨D, hD, hl⟩ := dig_step m hm k out e (by omega) (by omega)
    rw [hl]
    by_cases h0 : m / 10 = 0
    · have h10 : m < 10 := by omega
      rw [if_pos h0, decDigits, dif_pos h10]
      have : D = ofB [UInt8.ofNat (48 + m)] := ba_ext (by rw [hD, Nat.mod_eq_of_lt h10]; rfl)
      rw [this]
    · obtain ⟨n, rfl⟩ : ∃ j, n = j + 1 := ⟨n - 1, by omega⟩
      have hz := one_size hD
      rw [if_neg h0, dig_l0 e he n (m / 10) k (D ++ out) (by omega) (by omega) (by rw [ByteArray.size_append, hz]; omega) (by omega), decDigits.eq_1 m, dif_neg (by omega)]
      congr 2
      refine ba_ext ?_
      simp only [data_append, hD, ofB, List.append_assoc]
theorem ref08_f (n : Nat) (hn : n ≤ 900000) (k : Nat) (hk : n + 3 < k) : pennantref08_Digits.f k (n : Int) = some (itoaB n) := by
  obtain ⟨k, rfl⟩ : ∃ j, k = j + 1 := ⟨k - 1, by omega⟩
  have a1 : ¬ (n : Int) < 0 := by omega
  unfold pennantref08_Digits.f
  rw [if_neg a1, pennantref08_Digits.j0, dig_l0 (⟨#[]⟩ : ByteArray) (by decide) n n k (⟨#[]⟩ : ByteArray) (Nat.le_refl _) (by omega) (by show n + 0 ≤ _; omega) (by omega)]
  congr 1
  refine ba_ext ?_
  unfold itoaB
  rw [itoa_nonneg]
  simp [data_append, ofB]

theorem ref_j0_eq (k : Nat) (hk : 30000000 ≤ k) (x m t h y b : ByteArray) (hx : x.size ≤ 400000) (hb : b.size ≤ 400000) : pennantref22_WriteRequest.j0 (k + 1) x m t h y b = answerR k (x ++ clT b) m t h y b := by
  have hi := itoa_size b.size (by omega)
  have hc := clT_size b (by omega)
  unfold pennantref22_WriteRequest.j0
  dsimp only
  rw [ref08_f b.size (by omega) k (by omega), Option.bind_some]
  have e : ((((x ++ (⟨#[67, 111, 110, 116, 101, 110, 116, 45, 76, 101, 110, 103, 116, 104, 58, 32]⟩ : ByteArray)) ++ itoaB b.size) ++ (⟨#[13, 10, 13, 10]⟩ : ByteArray)) ++ b) = x ++ clT b := by
    refine ba_ext ?_
    unfold clT clB c2
    simp only [data_append, List.append_assoc]
    rfl
  have e1 : (⟨#[67, 111, 110, 116, 101, 110, 116, 45, 76, 101, 110, 103, 116, 104, 58, 32]⟩ : ByteArray).size = 16 := rfl
  have e2 : (⟨#[13, 10, 13, 10]⟩ : ByteArray).size = 4 := rfl
  rw [if_pos (by omega), if_pos (by simp only [ByteArray.size_append]; omega), if_pos (by simp only [ByteArray.size_append]; omega), if_pos (by simp only [ByteArray.size_append]; omega), e, (read_request_same k hk (x ++ clT b) (by rw [ByteArray.size_append]; omega)).1]
  rfl
theorem ref_write_eq (k : Nat) (hk : 30000000 ≤ k) (m t h y b : ByteArray) (hs : m.size + t.size + h.size + y.size + b.size ≤ 300000) : pennantref22_WriteRequest.f (k + 1) m t h y b = answerR k (textR m t h y b) m t h y b := by
  have hl := lineT_size m t h
  have h0 := headT_size m t h y
  unfold pennantref22_WriteRequest.f
  have e1 : (⟨#[32]⟩ : ByteArray).size = 1 := rfl
  have e2 : (⟨#[32, 72, 84, 84, 80, 47, 49, 46, 49, 13, 10, 72, 111, 115, 116, 58, 32]⟩ : ByteArray).size = 17 := rfl
  have e3 : (⟨#[13, 10]⟩ : ByteArray).size = 2 := rfl
  have e5 : (⟨#[67, 111, 110, 116, 101, 110, 116, 45, 84, 121, 112, 101, 58, 32]⟩ : ByteArray).size = 14 := rfl
  have eL : ((((m ++ (⟨#[32]⟩ : ByteArray)) ++ t) ++ (⟨#[32, 72, 84, 84, 80, 47, 49, 46, 49, 13, 10, 72, 111, 115, 116, 58, 32]⟩ : ByteArray)) ++ h) ++ (⟨#[13, 10]⟩ : ByteArray) = lineT m t h := by
    refine ba_ext ?_
    unfold lineT c2
    simp only [data_append, List.append_assoc]
    rfl
  rw [if_pos (by omega), if_pos (by simp only [ByteArray.size_append]; omega), if_pos (by simp only [ByteArray.size_append]; omega), if_pos (by simp only [ByteArray.size_append]; omega), if_pos (by simp only [ByteArray.size_append]; omega), eL]
  unfold textR headT
  by_cases hy : y.toList = ([] : List UInt8)
  · rw [if_pos hy, if_pos hy]
    exact ref_j0_eq k hk (lineT m t h) m t h y b (by omega) (by omega)
  · unfold headT at h0
    rw [if_neg hy] at h0
    rw [if_neg hy, if_neg hy, if_pos (by omega), if_pos (by simp only [ByteArray.size_append]; omega), if_pos (by simp only [ByteArray.size_append]; omega)]
    have eT : ((lineT m t h ++ (⟨#[67, 111, 110, 116, 101, 110, 116, 45, 84, 121, 112, 101, 58, 32]⟩ : ByteArray)) ++ y) ++ (⟨#[13, 10]⟩ : ByteArray) = lineT m t h ++ ((ctB ++ y) ++ c2) := by
      refine ba_ext ?_
      unfold ctB c2
      simp only [data_append, List.append_assoc]
    rw [eT]
    exact ref_j0_eq k hk (lineT m t h ++ ((ctB ++ y) ++ c2)) m t h y b (by omega) (by omega)
theorem write_request_same (k : Nat) (hk : 30000000 ≤ k) (m t h y b : ByteArray) (hs : m.size + t.size + h.size + y.size + b.size ≤ 300000) : pennantref22_WriteRequest.f (k + 1) m t h y b = http_WriteRequest.f (k + 1) m t h y b ∧ ∃ r, http_WriteRequest.f (k + 1) m t h y b = some r := by
  rw [ref_write_eq k hk m t h y b hs, write_eq k m t h y b (by omega)]
  refine ⟨rfl, ?_⟩
  rcases answer_cases k (by omega) m t h y b (by omega) with ⟨h1, _⟩ | ⟨h1, _⟩
  · exact ⟨_, h1⟩
  · exact ⟨_, h1⟩

/-! Responses. -/
theorem ref_resp_bad (k : Nat) (s : Int) (b : ByteArray) (h : s < 100 ∨ 599 < s ∨ 4096 < b.size) : pennantref22_WriteResponse.f (k + 1) s b = some ((⟨#[]⟩ : ByteArray), 1) := by
  have hj : pennantref22_WriteResponse.j0 (k + 1) true s b = some ((⟨#[]⟩ : ByteArray), 1) := by rw [pennantref22_WriteResponse.j0, if_pos rfl]
  unfold pennantref22_WriteResponse.f
  by_cases h1 : s < 100
  · rw [if_pos h1, hj]
  rw [if_neg h1]
  by_cases h2 : s > 599
  · rw [if_pos h2, hj]
  rw [if_neg h2, decide_eq_true (by rcases h with h | h | h <;> omega), hj]
theorem resp_text (n : Nat) (b w : ByteArray) (hw : reasonB n = w) : (((((((⟨#[72, 84, 84, 80, 47, 49, 46, 49, 32]⟩ : ByteArray) ++ itoaB n) ++ (⟨#[32]⟩ : ByteArray)) ++ w) ++ (⟨#[13, 10, 67, 111, 110, 116, 101, 110, 116, 45, 76, 101, 110, 103, 116, 104, 58, 32]⟩ : ByteArray)) ++ itoaB b.size) ++ (⟨#[13, 10, 13, 10]⟩ : ByteArray)) ++ b = textS n b := by
  refine ba_ext ?_
  unfold textS lineS clB c2 respB spB
  rw [hw]
  simp only [data_append, List.append_assoc]
  rfl
theorem reason_none (n : Nat) (h1 : n ≠ 200) (h2 : n ≠ 400) (h3 : n ≠ 404) (h4 : n ≠ 405) (h5 : n ≠ 413) : reasonB n = (⟨#[]⟩ : ByteArray) := by
  unfold reasonB http_reason.f
  rw [if_neg (by omega), if_neg (by omega), if_neg (by omega), if_neg (by omega), if_neg (by omega)]
  rfl
theorem ref_resp_j1 (k : Nat) (hk : 20000000 ≤ k) (n : Nat) (h2 : n ≤ 599) (b : ByteArray) (hb : b.size ≤ 4096) (v : ByteArray) (hv : reasonB n = v) : pennantref22_WriteResponse.j1 (k + 1) v (n : Int) b = some (textS n b, 0) := by
  have d1 := ref08_f n (by omega) k (by omega)
  have d2 := ref08_f b.size (by omega) k (by omega)
  have hz1 := itoa_size n (by omega)
  have hz2 := itoa_size b.size (by omega)
  have e1 : (⟨#[72, 84, 84, 80, 47, 49, 46, 49, 32]⟩ : ByteArray).size = 9 := rfl
  have e2 : (⟨#[32]⟩ : ByteArray).size = 1 := rfl
  have e3 : (⟨#[13, 10, 67, 111, 110, 116, 101, 110, 116, 45, 76, 101, 110, 103, 116, 104, 58, 32]⟩ : ByteArray).size = 18 := rfl
  have e4 : (⟨#[13, 10, 13, 10]⟩ : ByteArray).size = 4 := rfl
  have e5 := reason_size n
  rw [hv] at e5
  have w := resp_text n b v hv
  rw [pennantref22_WriteResponse.j1, d1, Option.bind_some, d2, Option.bind_some, w]
  rw [if_pos (by omega), if_pos (by simp only [ByteArray.size_append]; omega), if_pos (by simp only [ByteArray.size_append]; omega), if_pos (by simp only [ByteArray.size_append]; omega), if_pos (by simp only [ByteArray.size_append]; omega), if_pos (by simp only [ByteArray.size_append]; omega), if_pos (by simp only [ByteArray.size_append]; omega)]
theorem ref_resp_f (k : Nat) (hk : 30000000 ≤ k) (n : Nat) (h1 : 100 ≤ n) (h2 : n ≤ 599) (b : ByteArray) (hb : b.size ≤ 4096) : pennantref22_WriteResponse.f (k + 1) (n : Int) b = some (textS n b, 0) := by
  obtain ⟨k, rfl⟩ : ∃ j, k = j + 1 := ⟨k - 1, by omega⟩
  have J := ref_resp_j1 k (by omega) n h2 b hb
  have a1 : ¬ (n : Int) < 100 := by omega
  have a2 : ¬ (n : Int) > 599 := by omega
  have a3 : ¬ (b.size : Int) > 4096 := by omega
  unfold pennantref22_WriteResponse.f
  rw [if_neg a1, if_neg a2, decide_eq_false a3, pennantref22_WriteResponse.j0, if_neg Bool.false_ne_true]
  by_cases c1 : n = 200
  · rw [if_pos (by omega)]
    exact J _ (by rw [c1]; rfl)
  rw [if_neg (by omega)]
  by_cases c2' : n = 400
  · rw [if_pos (by omega)]
    exact J _ (by rw [c2']; rfl)
  rw [if_neg (by omega)]
  by_cases c3 : n = 404
  · rw [if_pos (by omega)]
    exact J _ (by rw [c3]; rfl)
  rw [if_neg (by omega)]
  by_cases c4 : n = 405
  · rw [if_pos (by omega)]
    exact J _ (by rw [c4]; rfl)
  rw [if_neg (by omega)]
  by_cases c5 : n = 413
  · rw [if_pos (by omega)]
    exact J _ (by rw [c5]; rfl)
  · rw [if_neg (by omega)]
    exact J _ (reason_none n c1 c2' c3 c4 c5)
theorem write_response_same (k : Nat) (hk : 30000000 ≤ k) (s : Int) (b : ByteArray) : pennantref22_WriteResponse.f (k + 1) s b = http_WriteResponse.f (k + 1) s b ∧ ∃ r, http_WriteResponse.f (k + 1) s b = some r := by
  by_cases h : s < 100 ∨ 599 < s ∨ 4096 < b.size
  · rw [ref_resp_bad k s b h, resp_bad k s b h]
    exact ⟨rfl, _, rfl⟩
  · obtain ⟨n, rfl⟩ := Int.eq_ofNat_of_zero_le (show 0 ≤ s by omega)
    rw [ref_resp_f k hk n (by omega) (by omega) b (by omega), resp_f k n (by omega) (by omega) b (by omega)]
    exact ⟨rfl, _, rfl⟩
theorem wrap_add {a b : Nat} (h : a + b ≤ 1000000000) : wrap64 ((a : Int) + (b : Int)) = ((a + b : Nat) : Int) := by unfold wrap64; omega
theorem writes_f (a0 a1 a2 a3 a4 : ByteArray) (s : Int) (b : ByteArray) (hs : a0.size + a1.size + a2.size + a3.size + a4.size + b.size ≤ 1000000000) : ∃ k, pennantlaw22_HttpWrites.f k a0 a1 a2 a3 a4 s b = some true := by
  refine ⟨30000000 + 1, ?_⟩
  generalize hk : 30000000 = k
  have hk' : 30000000 ≤ k := by omega
  clear hk
  unfold pennantlaw22_HttpWrites.f
  rw [awake_up (k + 1) (by omega), Option.bind_some, if_pos rfl, wrap_add (by omega), wrap_add (by omega), wrap_add (by omega), wrap_add (by omega), wrap_add (by omega)]
  by_cases h : ((a0.size + a1.size + a2.size + a3.size + a4.size + b.size : Nat) : Int) > 12000
  · rw [if_pos h]
  rw [if_neg h]
  obtain ⟨h1, r, hr⟩ := write_request_same k hk' a0 a1 a2 a3 a4 (by omega)
  obtain ⟨h2, q, hq⟩ := write_response_same k hk' s b
  rw [h1, h2, hr, hq]
  simp only [Option.bind_some]
  simp
end Go.Proofs.YtpikebpjlhccbaaGreatDoor.PAll
