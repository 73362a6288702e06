/- HttpReads, plain: the program's reading and the reference's are the same at every text. -/
import Derived.Test.YtpikebpjlhccbaaGreatDoorHRef7
import Derived.Test.YtpikebpjlhccbaaGreatDoorPAllx17
namespace Go.Proofs.YtpikebpjlhccbaaGreatDoor.PAll
set_option linter.unusedVariables false
set_option linter.unusedSimpArgs false
open Go.RowKit Go.Proofs.YtpikebpjlhccbaaGreatDoorW.PrintWords Base Go.Lib

theorem first_request (kk : Nat) (hkk : 4100 < kk) : FirstOk true (http_ReadRequest_1.f kk) := by
  intro l hl
  obtain ⟨q, hq⟩ := requestLine_total kk l (by omega) (by omega)
  refine ⟨q.2.2, ?_, ?_⟩
  · unfold http_ReadRequest_1.f
    rw [hq]
    rfl
  · intro k hk
    refine ⟨⟨q, ?_, fun _ => rfl⟩, fun h => by cases h⟩
    rw [ref_request_f k l (by omega) (by omega)]
    rcases Nat.le_total kk k with h | h
    · exact mono_up (fun k => http_requestLine.f k l) (fun k => http_requestLine.mono _ k) h hq
    · obtain ⟨q2, hq2⟩ := requestLine_total k l (by omega) (by omega)
      have := mono_up (fun k => http_requestLine.f k l) (fun k => http_requestLine.mono _ k) h hq2
      rw [hq, Option.some.injEq] at this
      rw [hq2, this]
theorem first_response (kk : Nat) (hkk : 3000000 ≤ kk) : FirstOk false (http_ReadResponse_1.f kk) := by
  intro l hl
  obtain ⟨n, ok, h1, h2, h3⟩ := status_same kk l (by omega) hkk
  refine ⟨ok, ?_, ?_⟩
  · unfold http_ReadResponse_1.f
    rw [h1]
    rfl
  · intro k hk
    obtain ⟨n2, ok2, g1, g2, g3⟩ := status_same k l (by omega) hk
    have e : ok2 = ok := by
      rcases Nat.le_total kk k with h | h
      · have := mono_up (fun k => http_statusLine.f k l) (fun k => http_statusLine.mono _ k) h h1
        rw [show http_statusLine.f k l = _ from g1, Option.some.injEq, Prod.mk.injEq] at this
        exact this.2
      · have := mono_up (fun k => http_statusLine.f k l) (fun k => http_statusLine.mono _ k) h g1
        rw [show http_statusLine.f kk l = _ from h1, Option.some.injEq, Prod.mk.injEq] at this
        exact this.2.symm
    obtain ⟨q, hq⟩ := requestLine_total k l (by omega) (by omega)
    refine ⟨⟨q, by rw [ref_request_f k l (by omega) (by omega)]; exact hq, fun h => by cases h⟩, fun _ => ⟨_, g2, ?_⟩⟩
    subst e
    cases ok2 with
    | true => exact decide_eq_false (by rw [if_pos rfl]; omega)
    | false => rfl
/-- ReadRequest: the same. -/
theorem read_request_same (k : Nat) (hk : 30000000 ≤ k) (b : ByteArray) (hb : b.size ≤ 1000000) : pennantref22_ReadRequest.f k b = http_ReadRequest.f k b ∧ ∃ r, http_ReadRequest.f k b = some r := by
  obtain ⟨r, hr⟩ := read_total k (http_ReadRequest_1.f k) true b (by omega) (request_1_total k (by omega)) (by omega)
  unfold pennantref22_ReadRequest.f http_ReadRequest.f
  rw [ref_read k (by omega) b hb true (http_ReadRequest_1.f k) (first_request k (by omega)) k hk, hr]
  cases r with
  | bad n =>
    have hn := bad_ne k _ true b n hr
    refine ⟨?_, _, rfl⟩
    show (if n = 0 then _ else _) = _
    rw [if_neg hn]
    rfl
  | good l0 xs body n =>
    obtain ⟨i, s, ls, G, g1, g2, g3⟩ := good_of hr
    have hl0 := line_size G
    obtain ⟨q, hq⟩ := requestLine_total k l0 (by omega) (by omega)
    have hxl := headsF_len k ls xs G.heads
    have hfew := G.few
    rw [Option.bind_some]
    dsimp only
    rw [hq, Option.bind_some]
    refine ⟨?_, _, rfl⟩
    rw [Option.map_some, Option.bind_some]
    rw [if_pos (show (resOf (RdRes.good l0 xs body n)).2.2.2.2 = 0 from rfl)]
    dsimp only [resOf]
    rw [ref_request_f k l0 (by omega) (by omega), hq, Option.bind_some]
    rw [ref_count_f k l0 xs body n _ (by omega) (by omega), Option.bind_some]
    rw [ref_count_f k l0 xs body n _ (by omega) (by omega), Option.bind_some]
    rfl
/-- ReadResponse: the same. -/
theorem read_response_same (k : Nat) (hk : 30000000 ≤ k) (b : ByteArray) (hb : b.size ≤ 1000000) : pennantref22_ReadResponse.f k b = http_ReadResponse.f k b ∧ ∃ r, http_ReadResponse.f k b = some r := by
  have hF := first_response k (by omega)
  obtain ⟨r, hr⟩ := read_total k (http_ReadResponse_1.f k) false b (by omega) (fun l hl => by obtain ⟨r, h, _⟩ := hF l hl; exact ⟨r, h⟩) (by omega)
  unfold pennantref22_ReadResponse.f http_ReadResponse.f
  rw [ref_read k (by omega) b hb false (http_ReadResponse_1.f k) hF k hk, hr]
  cases r with
  | bad n =>
    have hn := bad_ne k _ false b n hr
    refine ⟨?_, _, rfl⟩
    show (if n = 0 then _ else _) = _
    rw [if_neg hn]
    rfl
  | good l0 xs body n =>
    obtain ⟨i, s, ls, G, g1, g2, g3⟩ := good_of hr
    have hl0 := line_size G
    obtain ⟨v, ok, h1, h2, h3⟩ := status_same k l0 (by omega) (by omega)
    have hok : ok = true := by
      have := G.first
      unfold http_ReadResponse_1.f at this
      rw [h1] at this
      exact Option.some.inj this
    subst hok
    rw [if_pos rfl] at h2
    rw [Option.bind_some]
    dsimp only
    rw [h1, Option.bind_some]
    refine ⟨?_, _, rfl⟩
    rw [Option.map_some, Option.bind_some]
    rw [if_pos (show (resOf (RdRes.good l0 xs body n)).2.2.2.2 = 0 from rfl)]
    dsimp only [resOf]
    rw [h2, Option.bind_some]
theorem reads_f (a0 : ByteArray) : ∃ k, pennantlaw22_HttpReads.f k a0 = some true := by
  refine ⟨30000000, ?_⟩
  generalize hk : 30000000 = k
  have hk' : 30000000 ≤ k := by omega
  clear hk
  unfold pennantlaw22_HttpReads.f
  rw [awake_up k (by omega), Option.bind_some, if_pos rfl]
  by_cases h : (a0.size : Int) > 9000
  · rw [if_pos h]
  rw [if_neg h]
  obtain ⟨h1, r, hr⟩ := read_request_same k hk' a0 (by omega)
  obtain ⟨h2, q, hq⟩ := read_response_same k hk' a0 (by omega)
  rw [h1, h2, hr, hq]
  simp only [Option.bind_some]
  simp
end Go.Proofs.YtpikebpjlhccbaaGreatDoor.PAll
