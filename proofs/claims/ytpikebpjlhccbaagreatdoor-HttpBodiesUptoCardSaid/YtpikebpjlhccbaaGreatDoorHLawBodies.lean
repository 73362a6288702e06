/- HttpBodies, plain: bodies up to the limit are written and read, longer ones are neither. -/
import Derived.Test.YtpikebpjlhccbaaGreatDoorHResp
import Derived.Test.YtpikebpjlhccbaaGreatDoorPAllx22
namespace Go.Proofs.YtpikebpjlhccbaaGreatDoor.PAll
set_option linter.unusedVariables false
set_option linter.unusedSimpArgs false
open Go.RowKit Go.Proofs.YtpikebpjlhccbaaGreatDoorW.PrintWords Base Go.Lib

/-- WriteRequest at a right request: its text, or a refusal where the body is too long. -/
theorem write_right (k : Nat) (hk : 6000 < k) (m t h y b : ByteArray) (hm : tokenB m.data.toList = true) (ht : targetB t.data.toList = true) (hh : okVal h.data.toList) (hy : okVal y.data.toList) (hb : b.size < 10000)
    (hi : (linesL (line0 m t :: linesR m t h y b)).length + 4 ≤ 4096) (hs : m.size + t.size + h.size + y.size + b.size ≤ 2000000) :
    http_WriteRequest.f (k + 1) m t h y b = some (if 4096 < b.size then ((⟨#[]⟩ : ByteArray), 1) else (textR m t h y b, 0)) := by
  rw [write_eq k m t h y b hs]
  unfold answerR
  rw [read_back k m t h y b hm ht hh hy hb hi hk, Option.bind_some]
  by_cases h1 : 4096 < b.size
  · rw [if_pos h1, if_pos h1]
    rfl
  · rw [if_neg h1, if_neg h1]
    dsimp only
    rw [if_pos rfl, if_pos rfl, if_neg (by simp)]
def postB : ByteArray := ⟨#[80, 79, 83, 84]⟩
def rootB : ByteArray := ⟨#[47]⟩
def hB : ByteArray := ⟨#[104]⟩
theorem bodies_l0 (a1 : Int) : ∀ (d : Nat) (x5 : List Int) (i k : Nat), x5.length = i + d → x5.length ≤ 4101 → 7000 + d < k → pennantlaw22_HttpBodies.l0 k a1 x5 (x5.length : Int) (i : Int) = some true := by
  intro d
  induction d with
  | zero =>
    intro x5 i k hl hn hk
    obtain ⟨j, rfl⟩ : ∃ j, k = j + 1 + 1 := ⟨k - 2, by omega⟩
    have hbs : (strOfNums x5).size = x5.length := by
      rw [Base.size_eq]
      simp [strOfNums]
    unfold pennantlaw22_HttpBodies.l0
    rw [if_neg (by omega)]
    generalize strOfNums x5 = b at hbs ⊢
    have hi : (linesL (line0 postB rootB :: linesR postB rootB hB ⟨#[]⟩ b)).length + 4 ≤ 4096 := by
      have h4 := itoaB_four b.size (by omega)
      unfold linesL linesR
      rw [if_pos (by rw [Base.toList_data])]
      simp only [List.nil_append, List.map_cons, List.map_nil, joinL, line0, lineH, List.length_append, data_append, ← Base.size_eq, clB_size]
      rw [show spB.size = 1 from rfl, show postB.size = 4 from rfl, show rootB.size = 1 from rfl, show hB.size = 1 from rfl]
      simp only [List.length_cons, List.length_nil]
      omega
    have hv : okVal hB.data.toList := ⟨by decide, by decide⟩
    have hv0 : okVal (⟨#[]⟩ : ByteArray).data.toList := ⟨by decide, by decide⟩
    have hW := write_right j (by omega) postB rootB hB ⟨#[]⟩ b (by decide) (by decide) hv hv0 (by omega) hi (by rw [show postB.size = 4 from rfl, show rootB.size = 1 from rfl, show hB.size = 1 from rfl, show (⟨#[]⟩ : ByteArray).size = 0 from rfl]; omega)
    rw [show http_WriteRequest.f (j + 1) (⟨#[80, 79, 83, 84]⟩ : ByteArray) (⟨#[47]⟩ : ByteArray) (⟨#[104]⟩ : ByteArray) (⟨#[]⟩ : ByteArray) b = _ from hW, Option.bind_some]
    by_cases hb : 4096 < b.size
    · rw [if_pos hb, show http_WriteResponse.f (j + 1) 200 b = _ from resp_bad j 200 b (by right; right; exact hb), Option.bind_some]
      dsimp only
      rw [if_pos (by omega), if_pos rfl, if_pos rfl, if_pos (by rw [Base.toList_data]), Base.toList_data]
      rfl
    · rw [if_neg hb, show http_WriteResponse.f (j + 1) 200 b = _ from resp_f j 200 (by decide) (by decide) b (by omega), Option.bind_some]
      dsimp only
      have hR := read_back (j + 1) postB rootB hB ⟨#[]⟩ b (by decide) (by decide) hv hv0 (by omega) hi (by omega)
      rw [if_neg hb] at hR
      have htz : (textS 200 b ++ (⟨#[]⟩ : ByteArray)) = textS 200 b := ba_ext (by rw [data_append]; simp)
      have hs := (status_one 200 (by decide) (by decide)).2.2.1
      rw [← Base.size_eq] at hs
      have h4 := itoaB_four b.size (by omega)
      have hsz : (textS 200 b).size < 4294967281 := by
        unfold textS
        simp only [ByteArray.size_append, clB_size, c2_size]
        omega
      have hP := read_resp (j + 1) (by omega) 200 (by decide) (by decide) b (by omega) ⟨#[]⟩ (by rw [htz]; exact hsz)
      rw [htz] at hP
      rw [if_neg (by omega), hR, Option.bind_some, hP, Option.bind_some]
      dsimp only
      rw [if_pos rfl, if_pos rfl, if_pos rfl, if_pos rfl, if_pos (by simp only [Base.toList_data]; simp [postB, rootB, hB]), if_pos rfl, if_pos rfl, if_pos rfl]
      rfl
  | succ d ih =>
    intro x5 i k hl hn hk
    obtain ⟨k, rfl⟩ : ∃ j, k = j + 1 := ⟨k - 1, by omega⟩
    unfold pennantlaw22_HttpBodies.l0
    rw [if_pos (by omega), if_pos (by omega), if_pos (by omega)]
    rw [show wrap64 ((i : Int) + 1) = ((i + 1 : Nat) : Int) from by unfold wrap64; omega]
    have := ih (x5.set (i : Int).toNat a1) (i + 1) k (by rw [List.length_set]; omega) (by rw [List.length_set]; omega) (by omega)
    rw [List.length_set] at this
    exact this
theorem bodies_f (a0 a1 : Int) (h0 : 0 ≤ a0) (h1 : a0 ≤ 255) : ∃ k, pennantlaw22_HttpBodies.f k a0 a1 = some true := by
  refine ⟨20000, ?_⟩
  obtain ⟨c, rfl⟩ := Int.eq_ofNat_of_zero_le h0
  have e : wrap64 (4090 + wrap64 (Int.tmod (c : Int) 12)) = ((4090 + c % 12 : Nat) : Int) := by
    have e1 : Int.tmod (c : Int) 12 = ((c % 12 : Nat) : Int) := (Int.ofNat_tmod c 12).symm
    rw [e1]
    unfold wrap64
    omega
  unfold pennantlaw22_HttpBodies.f
  rw [awake_up 20000 (by decide), Option.bind_some, if_pos rfl, e, if_pos (by omega), if_pos (by omega), Option.bind_some, Int.toNat_natCast]
  have := bodies_l0 a1 (4090 + c % 12) (List.replicate (4090 + c % 12) 0) 0 20000 (by simp) (by rw [List.length_replicate]; omega) (by omega)
  exact this
end Go.Proofs.YtpikebpjlhccbaaGreatDoor.PAll
