/- What is written is found as it was: over lists of bytes, no program in sight. -/
import Derived.Test.YthoknobkkpefkaaDoorFindSpec
namespace Go.Proofs.YthoknobkkpefkaaDoor.Base
set_option linter.unusedVariables false
set_option linter.unusedSimpArgs false
open Go.Lib

theorem letters_all {ok : UInt8 → Bool} {h : List UInt8} (hh : lettersB ok h = true) : ∀ b ∈ h, ok b = true := by
  unfold lettersB at hh
  simp only [Bool.and_eq_true] at hh
  exact fun b hb => List.all_eq_true.1 hh.1 b hb
theorem letters_len {ok : UInt8 → Bool} {h : List UInt8} (hh : lettersB ok h = true) : 1 ≤ h.length ∧ h.length ≤ 64 := by
  unfold lettersB at hh
  simp only [Bool.and_eq_true, decide_eq_true_eq] at hh
  omega
theorem path_head {q : List UInt8} (hq : pathB q = true) : ∃ r, q = 47 :: r := by
  unfold pathB at hq
  simp only [Bool.and_eq_true, beq_iff_eq] at hq
  cases q with
  | nil => cases hq.2
  | cons b r =>
    have : b = 47 := by simpa using hq.2
    exact ⟨r, by rw [this]⟩
theorem host_ne (c : UInt8) (hc : c = 47 ∨ c = 58) {h : List UInt8} (hh : lettersB (okL [45, 46]) h = true) : ∀ b ∈ h, neB c b = true := by
  intro b hb
  have ho := letters_all hh b hb
  unfold neB
  by_cases e : b = c
  · subst e
    rcases hc with rfl | rfl
    · exact absurd ho (by decide)
    · exact absurd ho (by decide)
  · simp [e]
theorem port_digits (n : Int) (h1 : 1 ≤ n) (h2 : n ≤ 65535) : portOk (itoa n) ∧ (valN (itoa n) : Int) = n := by
  have := port_of (itoa n) n rfl h1 h2
  exact ⟨this.1, this.2.symm⟩
theorem portS_ne (n : Int) (h1 : 1 ≤ n) (h2 : n ≤ 65535) : ∀ b ∈ portS n, neB 47 b = true := by
  intro b hb
  unfold portS at hb
  by_cases h : n = 80
  · rw [if_pos h] at hb; cases hb
  · rw [if_neg h] at hb
    rcases List.mem_cons.1 hb with rfl | hb
    · decide
    · have hd := (digitB_iff b).1 (List.all_eq_true.1 (port_digits n h1 h2).1.2.1 b hb)
      unfold neB
      have : b ≠ 47 := fun e => by subst e; have : (47 : UInt8).toNat = 47 := rfl; omega
      simp [this]
theorem tw_app {p : UInt8 → Bool} {l r : List UInt8} (h : ∀ b ∈ l, p b = true) : (l ++ r).takeWhile p = l ++ r.takeWhile p ∧ (l ++ r).dropWhile p = r.dropWhile p := by
  induction l with
  | nil => exact ⟨rfl, rfl⟩
  | cons b l ih =>
    have hb := h b (List.mem_cons_self ..)
    obtain ⟨i1, i2⟩ := ih (fun x hx => h x (List.mem_cons_of_mem _ hx))
    rw [List.cons_append, List.takeWhile_cons, List.dropWhile_cons, if_pos hb, if_pos hb, i1, i2]
    exact ⟨rfl, rfl⟩

/-- A host, a port and a path, written, say themselves. -/
theorem tail_back (h q : List UInt8) (n : Int) (hh : lettersB (okL [45, 46]) h = true) (hq : pathB q = true) (h1 : 1 ≤ n) (h2 : n ≤ 65535) :
    tailP (h ++ portS n ++ q) = some (h, n, q) := by
  obtain ⟨r, hr⟩ := path_head hq
  have hn47 : ∀ b ∈ h ++ portS n, neB 47 b = true := by
    intro b hb
    rcases List.mem_append.1 hb with x | x
    · exact host_ne 47 (.inl rfl) hh b x
    · exact portS_ne n h1 h2 b x
  have e1 := tw_app (r := q) hn47
  have e2 : q.takeWhile (neB 47) = [] ∧ q.dropWhile (neB 47) = q := by subst hr; exact ⟨rfl, rfl⟩
  have e3 := tw_app (r := portS n) (host_ne 58 (.inr rfl) hh)
  have e4 : (portS n).takeWhile (neB 58) = [] ∧ (portS n).dropWhile (neB 58) = portS n := by
    unfold portS
    by_cases h80 : n = 80
    · rw [if_pos h80]; exact ⟨rfl, rfl⟩
    · rw [if_neg h80]; exact ⟨rfl, rfl⟩
  have e5 : portP (portS n) = some n := by
    unfold portP portS
    by_cases h80 : n = 80
    · rw [if_pos h80, if_pos rfl, h80]
    · rw [if_neg h80, if_neg (by simp), List.tail_cons, if_pos (port_digits n h1 h2).1, (port_digits n h1 h2).2]
  unfold tailP
  dsimp only
  rw [e1.1, e1.2, e2.1, e2.2, List.append_nil, e3.1, e3.2, e4.1, e4.2, List.append_nil, if_neg (by rw [hr]; simp), e5]
  dsimp only
  rw [hh, hq]
  rfl

theorem portP_range (r : List UInt8) (n : Int) (h : portP r = some n) : 1 ≤ n ∧ n ≤ 65535 ∧ (portS n).length ≤ r.length := by
  unfold portP at h
  by_cases h0 : r = []
  · rw [if_pos h0] at h
    obtain rfl := Option.some.inj h
    exact ⟨by omega, by omega, by unfold portS; rw [if_pos rfl]; simp⟩
  · rw [if_neg h0] at h
    by_cases hp : portOk r.tail
    · rw [if_pos hp] at h
      obtain rfl := Option.some.inj h
      obtain ⟨a1, a2, a3⟩ := atoi_port _ hp
      refine ⟨by omega, by have := hp.2.2.2; omega, ?_⟩
      unfold portS
      have hl : 1 ≤ r.length := List.length_pos_iff.2 h0
      split
      · simp
      · rw [a2, List.length_cons, List.length_tail]; omega
    · rw [if_neg hp] at h; cases h

/-- What an http target says, written, says the same. -/
theorem url_back (l h q : List UInt8) (n : Int) (he : urlP l = some (h, n, q)) : urlP (httpL ++ h ++ portS n ++ q) = some (h, n, q) ∧ 1 ≤ n ∧ n ≤ 65535 ∧ h.length + q.length ≤ 400 := by
  unfold urlP at he
  by_cases hc : httpL <+: l ∧ l.length ≤ 256
  · rw [if_pos hc] at he
    obtain ⟨⟨s, hs⟩, h256⟩ := hc
    have hl : l.length = 7 + s.length := by rw [← hs, List.length_append]; rfl
    have hd : l.drop 7 = s := by rw [← hs]; rfl
    rw [hd] at he
    unfold tailP at he
    dsimp only at he
    cases hp : portP ((s.takeWhile (neB 47)).dropWhile (neB 58)) with
    | none => rw [hp] at he; cases he
    | some m =>
      rw [hp] at he
      dsimp only at he
      by_cases hb : (lettersB (okL [45, 46]) ((s.takeWhile (neB 47)).takeWhile (neB 58)) && pathB (if s.dropWhile (neB 47) = [] then [47] else s.dropWhile (neB 47))) = true
      · rw [if_pos hb] at he
        simp only [Option.some.injEq, Prod.mk.injEq] at he
        obtain ⟨rfl, rfl, rfl⟩ := he
        simp only [Bool.and_eq_true] at hb
        obtain ⟨b1, b2⟩ := hb
        obtain ⟨r1, r2, r3⟩ := portP_range _ _ hp
        have s1 := congrArg List.length (List.takeWhile_append_dropWhile (p := neB 47) (l := s))
        have s2 := congrArg List.length (List.takeWhile_append_dropWhile (p := neB 58) (l := s.takeWhile (neB 47)))
        rw [List.length_append] at s1 s2
        have hlen : (httpL ++ (s.takeWhile (neB 47)).takeWhile (neB 58) ++ portS m ++ (if s.dropWhile (neB 47) = [] then [47] else s.dropWhile (neB 47))).length ≤ 256 := by
          simp only [List.length_append]
          have h7 : httpL.length = 7 := rfl
          have h64 := letters_len b1
          by_cases h0 : s.dropWhile (neB 47) = []
          · rw [if_pos h0]
            have hps : (portS m).length ≤ 6 := by
              unfold portS
              split
              · simp
              · have hi := itoa_nonneg m.toNat
                rw [show ((m.toNat : Nat) : Int) = m from by omega] at hi
                have := decDigits_len 4 m.toNat (by omega)
                rw [List.length_cons, hi]
                omega
            simp only [List.length_singleton]
            omega
          · rw [if_neg h0]; omega
        refine ⟨?_, r1, r2, ?_⟩
        · unfold urlP
          rw [if_pos ⟨⟨_, by rw [List.append_assoc, List.append_assoc]⟩, hlen⟩]
          rw [show (httpL ++ (s.takeWhile (neB 47)).takeWhile (neB 58) ++ portS m ++ (if s.dropWhile (neB 47) = [] then [47] else s.dropWhile (neB 47))).drop 7 = (s.takeWhile (neB 47)).takeWhile (neB 58) ++ portS m ++ (if s.dropWhile (neB 47) = [] then [47] else s.dropWhile (neB 47)) from by rw [List.append_assoc, List.append_assoc, List.append_assoc]; rfl]
          exact tail_back _ _ _ b1 b2 r1 r2
        · by_cases h0 : s.dropWhile (neB 47) = []
          · rw [if_pos h0]; simp only [List.length_singleton]; omega
          · rw [if_neg h0]; omega
      · rw [if_neg hb] at he; cases he
  · rw [if_neg hc] at he; cases he
end Go.Proofs.YthoknobkkpefkaaDoor.Base
