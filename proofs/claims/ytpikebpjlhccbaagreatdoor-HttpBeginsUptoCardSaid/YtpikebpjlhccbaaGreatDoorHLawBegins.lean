/- HttpBegins, plain: what is printed of it answers true at every text. -/
import Derived.Test.YtpikebpjlhccbaaGreatDoorHTotal
import Derived.Test.YtpikebpjlhccbaaGreatDoorPAllx18
namespace Go.Proofs.YtpikebpjlhccbaaGreatDoor.PAll
set_option linter.unusedVariables false
set_option linter.unusedSimpArgs false
open Go.RowKit Go.Proofs.YtpikebpjlhccbaaGreatDoorW.PrintWords Base Go.Lib

theorem awake_f : pennantlaw22_awake.f 200 = some true := by decide +kernel
theorem mono_up {α : Type} (f : Nat → Option α) (h : ∀ k, LeO (f k) (f (k + 1))) {k j : Nat} (hkj : k ≤ j) {r : α} (hr : f k = some r) : f j = some r := by
  induction hkj with
  | refl => exact hr
  | step _ ih => exact h _ _ ih
theorem awake_up (k : Nat) (hk : 200 ≤ k) : pennantlaw22_awake.f k = some true := mono_up (fun k => pennantlaw22_awake.f k) (fun k => pennantlaw22_awake.mono k) hk awake_f

/-- What ReadRequest answers: an error and nothing else, or a request that is whole. -/
theorem request_cases (k : Nat) (hk : 4098 < k) (b : ByteArray) (hb : b.size ≤ 1000000000) :
    (∃ n : Int, n ≠ 0 ∧ http_ReadRequest.f k b = some ((⟨#[]⟩ : ByteArray), (⟨#[]⟩ : ByteArray), (⟨#[]⟩ : ByteArray), (⟨#[]⟩ : ByteArray), (⟨#[]⟩ : ByteArray), 0, n)) ∨
    (∃ (r1 r2 r3 r4 r5 : ByteArray) (m : Nat), http_ReadRequest.f k b = some (r1, r2, r3, r4, r5, (m : Int), 0) ∧ 1 ≤ m ∧ m ≤ b.size ∧
      (∀ j, j < m → http_ReadRequest.f k (b.extract 0 j) = some ((⟨#[]⟩ : ByteArray), (⟨#[]⟩ : ByteArray), (⟨#[]⟩ : ByteArray), (⟨#[]⟩ : ByteArray), (⟨#[]⟩ : ByteArray), 0, 3)) ∧
      (∀ z, (b.extract 0 m ++ z).size < 4294967281 → http_ReadRequest.f k (b.extract 0 m ++ z) = some (r1, r2, r3, r4, r5, (m : Int), 0))) := by
  obtain ⟨r, hr⟩ := read_total k (http_ReadRequest_1.f k) true b hb (request_1_total k hk) hk
  cases r with
  | bad n =>
    left
    refine ⟨n, ?_, by unfold http_ReadRequest.f; rw [hr]; rfl⟩
    exact bad_ne k _ true b n hr
  | good l0 xs body n =>
    right
    obtain ⟨m, rfl, h1, h2, h3, h4⟩ := read_begin hr
    obtain ⟨i, s, ls, G, g1, g2, g3⟩ := good_of hr
    obtain ⟨q, hq⟩ := requestLine_total k l0 (by have := line_size G; omega) (by have := line_size G; omega)
    refine ⟨q.1, q.2.1, (cntF xs nHost 0 (⟨#[]⟩ : ByteArray)).2, (cntF xs nType 0 (⟨#[]⟩ : ByteArray)).2, body, m, ?_, h1, h2, ?_, ?_⟩
    · unfold http_ReadRequest.f
      rw [hr, Option.bind_some]
      dsimp only
      rw [hq]
      rfl
    · intro j hj
      unfold http_ReadRequest.f
      rw [h3 j hj]
      rfl
    · intro z hz
      unfold http_ReadRequest.f
      rw [h4 z hz, Option.bind_some]
      dsimp only
      rw [hq]
      rfl
/-- The same at one round less. -/
theorem request_at (k : Nat) (hk : 4098 < k) (b : ByteArray) (hb : b.size ≤ 1000000000) {r1 r2 r3 r4 r5 : ByteArray} {m : Nat} (h : http_ReadRequest.f (k + 1) b = some (r1, r2, r3, r4, r5, (m : Int), 0)) :
    http_ReadRequest.f k b = some (r1, r2, r3, r4, r5, (m : Int), 0) ∧
      (∀ j, j < m → http_ReadRequest.f k (b.extract 0 j) = some ((⟨#[]⟩ : ByteArray), (⟨#[]⟩ : ByteArray), (⟨#[]⟩ : ByteArray), (⟨#[]⟩ : ByteArray), (⟨#[]⟩ : ByteArray), 0, 3)) ∧
      (∀ z, (b.extract 0 m ++ z).size < 4294967281 → http_ReadRequest.f k (b.extract 0 m ++ z) = some (r1, r2, r3, r4, r5, (m : Int), 0)) := by
  rcases request_cases k hk b hb with ⟨n, hn, hf⟩ | ⟨q1, q2, q3, q4, q5, n, hf, m1, m2, m3, m4⟩
  · have := http_ReadRequest.mono b k _ hf
    rw [h] at this
    simp only [Option.some.injEq, Prod.mk.injEq] at this
    exact absurd this.2.2.2.2.2.2.symm hn
  · have := http_ReadRequest.mono b k _ hf
    rw [h] at this
    simp only [Option.some.injEq, Prod.mk.injEq] at this
    obtain ⟨rfl, rfl, rfl, rfl, rfl, e, _⟩ := this
    obtain rfl : m = n := by omega
    exact ⟨hf, m3, m4⟩

theorem wrap_small {i : Int} (h0 : 0 ≤ i) (h1 : i ≤ 9223372036854775807) : wrap64 i = i := by unfold wrap64; omega
theorem begins_f (a0 : ByteArray) (a1 : Int) (a2 : ByteArray) (h0 : 0 ≤ a1) (h1 : a1 ≤ 65535) (hb : a0.size + a2.size ≤ 1000000000) : ∃ k, pennantlaw22_HttpBegins.f k a0 a1 a2 = some true := by
  suffices h : ∀ K, 5000 ≤ K → pennantlaw22_HttpBegins.f (K + 1) a0 a1 a2 = some true from ⟨5001, h 5000 (Nat.le_refl _)⟩
  intro K hK
  unfold pennantlaw22_HttpBegins.f
  rw [awake_up (K + 1) (by omega), Option.bind_some, if_pos rfl, wrap_small (by omega) (by omega)]
  split
  · rfl
  · rcases request_cases (K + 1) (by omega) a0 (by omega) with ⟨n, hn, hf⟩ | ⟨r1, r2, r3, r4, r5, m, hf, m1, m2, m3, m4⟩
    · rw [hf, Option.bind_some]
      dsimp only
      rw [if_neg hn]
      rfl
    · rw [hf, Option.bind_some]
      dsimp only
      rw [if_pos rfl, if_neg (by omega)]
      rw [show decide ((m : Int) > (a0.size : Int)) = false from decide_eq_false (by omega)]
      unfold pennantlaw22_HttpBegins.j0
      dsimp only
      have ht : Int.tmod a1 (m : Int) = ((a1.toNat % m : Nat) : Int) := by
        obtain ⟨c, rfl⟩ := Int.eq_ofNat_of_zero_le h0
        rw [Int.toNat_natCast]
        exact (Int.ofNat_tmod c m).symm
      have hlt : a1.toNat % m < m := Nat.mod_lt _ (by omega)
      rw [if_neg (by simp), if_neg (by omega), wrap_small h0 (by omega), ht, if_pos (by omega), if_pos (by omega), Int.toNat_natCast]
      have k1 := (request_at K (by omega) a0 (by omega) hf).2.1 (a1.toNat % m) hlt
      rw [k1, Option.bind_some, if_pos (by omega), if_pos (by omega), Int.toNat_natCast]
      have hsz : (a0.extract 0 m).size = m := by rw [Base.size_eq, data_extract, List.length_take, List.drop_zero, ← Base.size_eq]; omega
      rw [if_pos (by omega)]
      have k2 := (request_at K (by omega) a0 (by omega) hf).2.2 a2 (by rw [ByteArray.size_append]; omega)
      rw [k2, Option.bind_some]
      dsimp only
      rw [if_pos (by simp), if_pos rfl, if_pos rfl, if_pos (by simp), if_pos rfl]
      rfl
end Go.Proofs.YtpikebpjlhccbaaGreatDoor.PAll
