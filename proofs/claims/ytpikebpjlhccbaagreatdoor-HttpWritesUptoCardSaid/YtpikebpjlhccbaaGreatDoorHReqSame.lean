/- ReadRequest: the program's and the reference's are the same at every text. -/
import Derived.Test.YtpikebpjlhccbaaGreatDoorHRef5
import Derived.Test.YtpikebpjlhccbaaGreatDoorPAllx13
namespace Go.Proofs.YtpikebpjlhccbaaGreatDoor.PAll
set_option linter.unusedVariables false
set_option linter.unusedSimpArgs false
open Go.RowKit Go.Proofs.YtpikebpjlhccbaaGreatDoorW.PrintWords Base Go.Lib

theorem first_request (kk : Nat) (hkk : 4100 < kk) : FirstOk true (http_ReadRequest_1.f kk) := by
  intro l hl
  obtain ⟨q, hq⟩ := requestLine_total kk l (by omega) (by omega)
  refine ⟨q.2.2, ?_, ?_⟩
  · unfold http_ReadRequest_1.f
    rw [hq]
    rfl
  · intro k hk
    refine ⟨⟨q, ?_, fun _ => rfl⟩, fun h => by cases h⟩
    rw [ref_request_f k l (by omega) (by omega)]
    rcases Nat.le_total kk k with h | h
    · exact mono_up (fun k => http_requestLine.f k l) (fun k => http_requestLine.mono _ k) h hq
    · obtain ⟨q2, hq2⟩ := requestLine_total k l (by omega) (by omega)
      have := mono_up (fun k => http_requestLine.f k l) (fun k => http_requestLine.mono _ k) h hq2
      rw [hq, Option.some.injEq] at this
      rw [hq2, this]
/-- ReadRequest: the same. -/
theorem read_request_same (k : Nat) (hk : 30000000 ≤ k) (b : ByteArray) (hb : b.size ≤ 1000000) : pennantref22_ReadRequest.f k b = http_ReadRequest.f k b ∧ ∃ r, http_ReadRequest.f k b = some r := by
  obtain ⟨r, hr⟩ := read_total k (http_ReadRequest_1.f k) true b (by omega) (request_1_total k (by omega)) (by omega)
  unfold pennantref22_ReadRequest.f http_ReadRequest.f
  rw [ref_read k (by omega) b hb true (http_ReadRequest_1.f k) (first_request k (by omega)) k hk, hr]
  cases r with
  | bad n =>
    have hn := bad_ne k _ true b n hr
    refine ⟨?_, _, rfl⟩
    show (if n = 0 then _ else _) = _
    rw [if_neg hn]
    rfl
  | good l0 xs body n =>
    obtain ⟨i, s, ls, G, g1, g2, g3⟩ := good_of hr
    have hl0 := line_size G
    obtain ⟨q, hq⟩ := requestLine_total k l0 (by omega) (by omega)
    have hxl := headsF_len k ls xs G.heads
    have hfew := G.few
    rw [Option.bind_some]
    dsimp only
    rw [hq, Option.bind_some]
    refine ⟨?_, _, rfl⟩
    rw [Option.map_some, Option.bind_some]
    rw [if_pos (show (resOf (RdRes.good l0 xs body n)).2.2.2.2 = 0 from rfl)]
    dsimp only [resOf]
    rw [ref_request_f k l0 (by omega) (by omega), hq, Option.bind_some]
    rw [ref_count_f k l0 xs body n _ (by omega) (by omega), Option.bind_some]
    rw [ref_count_f k l0 xs body n _ (by omega) (by omega), Option.bind_some]
    rfl
end Go.Proofs.YtpikebpjlhccbaaGreatDoor.PAll
