/- HttpBack, plain: what is written is read as it was; what is read is written to be read alike. -/
import Derived.Test.YtpikebpjlhccbaaGreatDoorHFacts
import Derived.Test.YtpikebpjlhccbaaGreatDoorPAllx20
namespace Go.Proofs.YtpikebpjlhccbaaGreatDoor.PAll
set_option linter.unusedVariables false
set_option linter.unusedSimpArgs false
open Go.RowKit Go.Proofs.YtpikebpjlhccbaaGreatDoorW.PrintWords Base Go.Lib

theorem back_j1 (k : Nat) (hk : 7000 < k) (x : ByteArray) (hx : x.size ≤ 1100000) : pennantlaw22_HttpBack.j1 (k + 2) x = some true := by
  unfold pennantlaw22_HttpBack.j1
  dsimp only
  rcases request_cases (k + 1) (by omega) x (by omega) with ⟨n, hn, hf⟩ | ⟨r1, r2, r3, r4, r5, m, hf, m1, m2, m3, m4⟩
  · rw [hf, Option.bind_some]
    dsimp only
    rw [if_neg hn, if_pos (by simp only [Base.toList_data]; simp)]
    rfl
  · rw [hf, Option.bind_some]
    dsimp only
    rw [if_pos rfl]
    have hsz : r1.size + r2.size + r3.size + r4.size + r5.size ≤ 2000000 := read_sizes (k + 1) (by omega) x r1 r2 r3 r4 r5 m hx hf
    rcases write_cases r1 r2 r3 r4 r5 hsz with h | h
    · rw [(h k (by omega)).1, Option.bind_some]
      dsimp only
      rw [if_pos rfl, (h (k + 1) (by omega)).2, Option.bind_some]
      dsimp only
      rw [if_pos rfl]
      simp
    · rw [h k (by omega), Option.bind_some]
      dsimp only
      rw [if_neg (by decide), if_pos rfl]
      congr 1
      rw [decide_eq_true_eq]
      apply Classical.byContradiction
      intro hle
      obtain ⟨f1, f2, f3, f4, f5, f6, f7⟩ := read_facts (k + 1) (by omega) x r1 r2 r3 r4 r5 m (by omega) hf
      have hW := write_eq k r1 r2 r3 r4 r5 f7
      rw [h k (by omega)] at hW
      unfold answerR at hW
      rw [read_back k r1 r2 r3 r4 r5 f1 f2 f3 f4 (by omega) f6 (by omega), if_neg (by omega), Option.bind_some] at hW
      dsimp only at hW
      rw [if_pos rfl, if_pos rfl, if_neg (by simp)] at hW
      simp at hW
theorem back_j0 (k : Nat) (hk : 7000 < k) (x : ByteArray) (hx : x.size ≤ 1100000) (s : Int) (b : ByteArray) : pennantlaw22_HttpBack.j0 (k + 3) x s b = some true := by
  unfold pennantlaw22_HttpBack.j0
  dsimp only
  by_cases h : s < 100 ∨ 599 < s ∨ 4096 < b.size
  · rw [show http_WriteResponse.f (k + 2) s b = _ from resp_bad (k + 1) s b h, Option.bind_some]
    dsimp only
    rw [if_neg (by decide)]
    exact back_j1 k hk x hx
  · obtain ⟨n, rfl⟩ := Int.eq_ofNat_of_zero_le (show 0 ≤ s by omega)
    rw [show http_WriteResponse.f (k + 2) (n : Int) b = _ from resp_f (k + 1) n (by omega) (by omega) b (by omega), Option.bind_some]
    dsimp only
    have hs := (status_one n (by omega) (by omega)).2.2.1
    rw [← Base.size_eq] at hs
    have h4 := itoaB_four b.size (by omega)
    have hsz : (textS n b).size ≤ 10000 := by
      unfold textS
      simp only [ByteArray.size_append, clB_size, c2_size]
      omega
    rw [if_pos rfl, if_pos (by omega), read_resp (k + 2) (by omega) n (by omega) (by omega) b (by omega) x (by rw [ByteArray.size_append]; omega), Option.bind_some]
    dsimp only
    rw [if_pos rfl, if_pos rfl, if_neg (by simp)]
    exact back_j1 k hk x hx
theorem back_f (m t h y b : ByteArray) (s : Int) (c x : ByteArray) (hs : m.size + t.size + h.size + y.size + b.size ≤ 2000000) (hx : x.size ≤ 1100000) (hb : b.size + c.size + x.size ≤ 1100000000) : ∃ k, pennantlaw22_HttpBack.f k m t h y b s c x = some true := by
  suffices hh : ∀ K, 8000 ≤ K → pennantlaw22_HttpBack.f (K + 3) m t h y b s c x = some true from ⟨8003, hh 8000 (Nat.le_refl _)⟩
  intro K hK
  unfold pennantlaw22_HttpBack.f
  rw [awake_up (K + 3) (by omega), Option.bind_some, if_pos rfl]
  split
  · rfl
  · rcases write_cases m t h y b hs with hw | hw
    · rw [(hw (K + 2) (by omega)).1, Option.bind_some]
      dsimp only
      have hts := textR_size m t h y b hs
      have hok : okText (textR m t h y b) ⟨m, t, h, y, b⟩ := fun k hk => (hw k hk).2
      rw [if_pos rfl, if_pos (by omega), (ok_more hok (by omega)).2 (K + 3) (by omega) x (by rw [ByteArray.size_append]; omega), Option.bind_some]
      dsimp only
      rw [if_pos rfl, if_pos rfl, if_neg (by simp)]
      exact back_j0 K (by omega) x hx s c
    · rw [hw (K + 2) (by omega), Option.bind_some]
      dsimp only
      rw [if_neg (by decide), if_pos (by rw [Base.toList_data])]
      exact back_j0 K (by omega) x hx s c
end Go.Proofs.YtpikebpjlhccbaaGreatDoor.PAll
