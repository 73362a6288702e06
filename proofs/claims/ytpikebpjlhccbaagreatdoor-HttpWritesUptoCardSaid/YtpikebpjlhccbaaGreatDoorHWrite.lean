/- What WriteRequest answers: a text that is read as the request, or a refusal. -/
import Derived.Test.YtpikebpjlhccbaaGreatDoorHTotal
import Derived.Test.YtpikebpjlhccbaaGreatDoorPAllx7
import Derived.Lib.ItoaLen
namespace Go.Proofs.YtpikebpjlhccbaaGreatDoor.PAll
set_option linter.unusedVariables false
set_option linter.unusedSimpArgs false
open Go.RowKit Go.Proofs.YtpikebpjlhccbaaGreatDoorW.PrintWords Base Go.Lib

def clB : ByteArray := ⟨#[67, 111, 110, 116, 101, 110, 116, 45, 76, 101, 110, 103, 116, 104, 58, 32]⟩
def ctB : ByteArray := ⟨#[67, 111, 110, 116, 101, 110, 116, 45, 84, 121, 112, 101, 58, 32]⟩
def itoaB (n : Nat) : ByteArray := ⟨(itoa (n : Int)).toArray⟩
def clT (b : ByteArray) : ByteArray := (((clB ++ itoaB b.size) ++ c2) ++ c2) ++ b
def lineT (m t h : ByteArray) : ByteArray := ((((((m ++ (⟨#[32]⟩ : ByteArray)) ++ t) ++ (⟨#[32, 72, 84, 84, 80, 47, 49, 46, 49]⟩ : ByteArray)) ++ c2) ++ (⟨#[72, 111, 115, 116, 58, 32]⟩ : ByteArray)) ++ h) ++ c2
def typeT (y : ByteArray) : ByteArray := if y.toList = ([] : List UInt8) then ⟨#[]⟩ else (ctB ++ y) ++ c2
def headT (m t h y : ByteArray) : ByteArray := if y.toList = ([] : List UInt8) then lineT m t h else lineT m t h ++ ((ctB ++ y) ++ c2)
/-- The text of a request. -/
def textR (m t h y b : ByteArray) : ByteArray := headT m t h y ++ clT b
theorem itoa_f (n : Nat) (hn : n ≤ 9223372036854775807) : strconv_Itoa.f (n : Int) = some (itoaB n) := by
  unfold strconv_Itoa.f
  rw [if_pos (by omega)]
  rfl
theorem itoa_size (n : Nat) (hn : n ≤ 9223372036854775807) : (itoaB n).size ≤ 21 := by
  unfold itoaB
  rw [size_mk]
  exact itoa_length_le _ (by omega) (by omega)
theorem clB_size : clB.size = 16 := rfl
theorem ctB_size : ctB.size = 14 := rfl
theorem c2_size : c2.size = 2 := rfl
theorem clT_size (b : ByteArray) (hb : b.size ≤ 2000000) : (clT b).size ≤ b.size + 41 := by
  have := itoa_size b.size (by omega)
  unfold clT
  simp only [ByteArray.size_append, clB_size, c2_size]
  omega
theorem lineT_size (m t h : ByteArray) : (lineT m t h).size = m.size + t.size + h.size + 20 := by
  unfold lineT
  simp only [ByteArray.size_append, c2_size]
  rw [show (⟨#[32]⟩ : ByteArray).size = 1 from rfl, show (⟨#[32, 72, 84, 84, 80, 47, 49, 46, 49]⟩ : ByteArray).size = 9 from rfl, show (⟨#[72, 111, 115, 116, 58, 32]⟩ : ByteArray).size = 6 from rfl]
  omega
theorem headT_size (m t h y : ByteArray) : (headT m t h y).size ≤ m.size + t.size + h.size + y.size + 36 := by
  unfold headT
  have := lineT_size m t h
  split
  · omega
  · simp only [ByteArray.size_append, ctB_size, c2_size]; omega

/-- What stands behind the text that is written: it is read, and held against the request. -/
def answerR (k : Nat) (s m t h y b : ByteArray) : Option (ByteArray × Int) :=
  (http_ReadRequest.f k s).bind fun bt135 => (if bt135.2.2.2.2.2.2 = 0 then (if bt135.2.2.2.2.2.1 = (s.size : Int) then (if (!(bt135.1.toList == m.toList) || (!(bt135.2.1.toList == t.toList) || (!(bt135.2.2.1.toList == h.toList) || (!(bt135.2.2.2.1.toList == y.toList) || (!(bt135.2.2.2.2.1.toList == b.toList)))))) = true then (some ((⟨#[]⟩ : ByteArray), 1)) else (some (s, 0))) else (some ((⟨#[]⟩ : ByteArray), 1))) else (some ((⟨#[]⟩ : ByteArray), 1)))
theorem j0_eq (k : Nat) (x m t h y b : ByteArray) (hx : x.size ≤ 4000000) (hb : b.size ≤ 2000000) : http_WriteRequest.j0 (k + 1) x m t h y b = answerR k (x ++ clT b) m t h y b := by
  have hi := itoa_size b.size (by omega)
  unfold http_WriteRequest.j0
  dsimp only
  rw [itoa_f b.size (by omega), Option.bind_some]
  have e1 : (⟨#[67, 111, 110, 116, 101, 110, 116, 45, 76, 101, 110, 103, 116, 104, 58, 32]⟩ : ByteArray).size = 16 := rfl
  have e2 : (⟨#[13, 10]⟩ : ByteArray).size = 2 := rfl
  rw [if_pos (by omega), if_pos (by simp only [ByteArray.size_append]; omega), if_pos (by simp only [ByteArray.size_append]; omega), if_pos (by simp only [ByteArray.size_append]; omega), if_pos (by simp only [ByteArray.size_append]; omega)]
  rfl
theorem write_eq (k : Nat) (m t h y b : ByteArray) (hs : m.size + t.size + h.size + y.size + b.size ≤ 2000000) : http_WriteRequest.f (k + 1) m t h y b = answerR k (textR m t h y b) m t h y b := by
  have hl := lineT_size m t h
  have h0 := headT_size m t h y
  unfold http_WriteRequest.f
  have e1 : (⟨#[32]⟩ : ByteArray).size = 1 := rfl
  have e2 : (⟨#[32, 72, 84, 84, 80, 47, 49, 46, 49]⟩ : ByteArray).size = 9 := rfl
  have e3 : (⟨#[13, 10]⟩ : ByteArray).size = 2 := rfl
  have e4 : (⟨#[72, 111, 115, 116, 58, 32]⟩ : ByteArray).size = 6 := rfl
  have e5 : (⟨#[67, 111, 110, 116, 101, 110, 116, 45, 84, 121, 112, 101, 58, 32]⟩ : ByteArray).size = 14 := rfl
  rw [if_pos (by omega), if_pos (by simp only [ByteArray.size_append]; omega), if_pos (by simp only [ByteArray.size_append]; omega), if_pos (by simp only [ByteArray.size_append]; omega), if_pos (by simp only [ByteArray.size_append]; omega), if_pos (by simp only [ByteArray.size_append]; omega), if_pos (by simp only [ByteArray.size_append]; omega)]
  unfold textR headT
  by_cases hy : y.toList = ([] : List UInt8)
  · rw [if_pos hy, if_pos hy]
    exact j0_eq k (lineT m t h) m t h y b (by omega) (by omega)
  · rw [if_neg hy, if_neg hy, if_pos (by omega), if_pos (by simp only [ByteArray.size_append]; omega), if_pos (by simp only [ByteArray.size_append]; omega)]
    unfold headT at h0
    rw [if_neg hy] at h0
    exact j0_eq k (lineT m t h ++ ((ctB ++ y) ++ c2)) m t h y b (by omega) (by omega)
theorem textR_size (m t h y b : ByteArray) (hs : m.size + t.size + h.size + y.size + b.size ≤ 2000000) : (textR m t h y b).size ≤ m.size + t.size + h.size + y.size + b.size + 77 := by
  have h1 := headT_size m t h y
  have h2 := clT_size b (by omega)
  unfold textR
  rw [ByteArray.size_append]
  omega
theorem toList_ext {x y : ByteArray} (h : x.toList = y.toList) : x = y := ba_ext (by rw [← Base.toList_data, ← Base.toList_data]; exact h)

theorem answer_cases (k : Nat) (hk : 4098 < k) (m t h y b : ByteArray) (hs : m.size + t.size + h.size + y.size + b.size ≤ 2000000) :
    (answerR k (textR m t h y b) m t h y b = some (textR m t h y b, 0) ∧ http_ReadRequest.f k (textR m t h y b) = some (m, t, h, y, b, ((textR m t h y b).size : Int), 0)) ∨
    (answerR k (textR m t h y b) m t h y b = some ((⟨#[]⟩ : ByteArray), 1) ∧ http_ReadRequest.f k (textR m t h y b) ≠ some (m, t, h, y, b, ((textR m t h y b).size : Int), 0)) := by
  have hz := textR_size m t h y b hs
  generalize textR m t h y b = s at hz ⊢
  have hc : ∃ r, http_ReadRequest.f k s = some r := by
    rcases request_cases k hk s (by omega) with ⟨n, _, hf⟩ | ⟨r1, r2, r3, r4, r5, n, hf, _⟩
    · exact ⟨_, hf⟩
    · exact ⟨_, hf⟩
  obtain ⟨⟨r1, r2, r3, r4, r5, n, e⟩, hf⟩ := hc
  unfold answerR
  rw [hf, Option.bind_some]
  dsimp only
  by_cases h0 : e = 0
  · rw [if_pos h0]
    by_cases h1 : n = (s.size : Int)
    · rw [if_pos h1]
      by_cases h2 : (!(r1.toList == m.toList) || (!(r2.toList == t.toList) || (!(r3.toList == h.toList) || (!(r4.toList == y.toList) || (!(r5.toList == b.toList)))))) = true
      · rw [if_pos h2]
        right
        refine ⟨rfl, fun hx => ?_⟩
        simp only [Option.some.injEq, Prod.mk.injEq] at hx
        obtain ⟨rfl, rfl, rfl, rfl, rfl, _⟩ := hx
        simp at h2
      · rw [if_neg h2]
        left
        refine ⟨rfl, ?_⟩
        simp only [Bool.or_eq_true, Bool.not_eq_true', beq_eq_false_iff_ne, not_or, ne_eq, Decidable.not_not] at h2
        obtain ⟨a1, a2, a3, a4, a5⟩ := h2
        rw [toList_ext a1, toList_ext a2, toList_ext a3, toList_ext a4, toList_ext a5, h0, h1]
    · rw [if_neg h1]
      right
      refine ⟨rfl, fun hx => ?_⟩
      simp only [Option.some.injEq, Prod.mk.injEq] at hx
      exact h1 hx.2.2.2.2.2.1
  · rw [if_neg h0]
    right
    refine ⟨rfl, fun hx => ?_⟩
    simp only [Option.some.injEq, Prod.mk.injEq] at hx
    exact h0 hx.2.2.2.2.2.2

/-- WriteRequest at every round that is late enough. -/
theorem write_cases (m t h y b : ByteArray) (hs : m.size + t.size + h.size + y.size + b.size ≤ 2000000) :
    (∀ k, 4100 ≤ k → http_WriteRequest.f (k + 1) m t h y b = some (textR m t h y b, 0) ∧ http_ReadRequest.f k (textR m t h y b) = some (m, t, h, y, b, ((textR m t h y b).size : Int), 0)) ∨
    (∀ k, 4100 ≤ k → http_WriteRequest.f (k + 1) m t h y b = some ((⟨#[]⟩ : ByteArray), 1)) := by
  rcases answer_cases 4100 (by decide) m t h y b hs with ⟨h1, h2⟩ | ⟨h1, h2⟩
  · left
    intro k hk
    exact ⟨mono_up (fun k => http_WriteRequest.f (k + 1) m t h y b) (fun k => http_WriteRequest.mono _ _ _ _ _ (k + 1)) hk (by show http_WriteRequest.f (4100 + 1) m t h y b = _; rw [write_eq _ _ _ _ _ _ hs]; exact h1), mono_up (fun k => http_ReadRequest.f k (textR m t h y b)) (fun k => http_ReadRequest.mono _ k) hk h2⟩
  · right
    intro k hk
    exact mono_up (fun k => http_WriteRequest.f (k + 1) m t h y b) (fun k => http_WriteRequest.mono _ _ _ _ _ (k + 1)) hk (by show http_WriteRequest.f (4100 + 1) m t h y b = _; rw [write_eq _ _ _ _ _ _ hs]; exact h1)
end Go.Proofs.YtpikebpjlhccbaaGreatDoor.PAll
/- A text that is read as a request, whatever is behind it. -/
namespace Go.Proofs.YtpikebpjlhccbaaGreatDoor.PAll
set_option linter.unusedVariables false
set_option linter.unusedSimpArgs false
open Go.RowKit Go.Proofs.YtpikebpjlhccbaaGreatDoorW.PrintWords Base Go.Lib

def sz24 (r : S24) : Nat := r.f0.size + r.f1.size + r.f2.size + r.f3.size + r.f4.size
/-- A text that is read as a request, and as nothing more. -/
def okText (s : ByteArray) (r : S24) : Prop := ∀ k, 4100 ≤ k → http_ReadRequest.f k s = some (r.f0, r.f1, r.f2, r.f3, r.f4, (s.size : Int), 0)
theorem extract_all (s : ByteArray) : s.extract 0 s.size = s := by
  refine ba_ext ?_
  rw [data_extract, List.drop_zero, Nat.sub_zero, Base.size_eq, List.take_length]
theorem ok_more {s : ByteArray} {r : S24} (h : okText s r) (hs : s.size ≤ 1000000000) : 1 ≤ s.size ∧ ∀ k, 4100 ≤ k → ∀ z, (s ++ z).size < 4294967281 → http_ReadRequest.f k (s ++ z) = some (r.f0, r.f1, r.f2, r.f3, r.f4, (s.size : Int), 0) := by
  have key : ∀ k, 4100 ≤ k → 1 ≤ s.size ∧ ∀ z, (s ++ z).size < 4294967281 → http_ReadRequest.f k (s ++ z) = some (r.f0, r.f1, r.f2, r.f3, r.f4, (s.size : Int), 0) := by
    intro k hk
    have hf := h k hk
    rcases request_cases k (by omega) s hs with ⟨n, hn, hg⟩ | ⟨r1, r2, r3, r4, r5, m, hg, m1, m2, m3, m4⟩
    · rw [hg] at hf
      simp only [Option.some.injEq, Prod.mk.injEq] at hf
      exact absurd hf.2.2.2.2.2.2 hn
    · rw [hg] at hf
      simp only [Option.some.injEq, Prod.mk.injEq] at hf
      obtain ⟨rfl, rfl, rfl, rfl, rfl, e, _⟩ := hf
      obtain rfl : m = s.size := by omega
      refine ⟨m1, fun z hz => ?_⟩
      have := m4 z (by rw [extract_all]; exact hz)
      rw [extract_all] at this
      exact this
  exact ⟨(key 4100 (Nat.le_refl _)).1, fun k hk => (key k hk).2⟩
end Go.Proofs.YtpikebpjlhccbaaGreatDoor.PAll
