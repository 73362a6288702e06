/- The plain law of RouteBack: what is found is written to be found again; what is written is found as it was. -/
import Derived.Test.YthoknobkkpefkaaDoorBackSpec
import Derived.Test.YthoknobkkpefkaaDoorPureWrite
import Derived.Test.YthoknobkkpefkaaDoorPAllx12
namespace Go.Proofs.YthoknobkkpefkaaDoor.PAll
set_option linter.unusedVariables false
set_option linter.unusedSimpArgs false
open Go.RowKit Go.Proofs.YthoknobkkpefkaaDoorW.PrintWords Base

theorem ba_eq {a b : ByteArray} (h : a.toList = b.toList) : a = b := by
  rw [toList_data, toList_data] at h
  rw [← bl_self a, ← bl_self b, h]
theorem checkW_self (kind : Int) (id host : ByteArray) (port : Int) (path s : ByteArray) : checkW (kind, id, host, port, path, 0) kind id host port path s = some (s, 0) := by
  unfold checkW
  rw [if_pos rfl, if_neg (by simp)]
theorem checkW_cases (r : Ans) (kind : Int) (id host : ByteArray) (port : Int) (path s : ByteArray) :
    (checkW r kind id host port path s = some (s, 0) ∧ r = (kind, id, host, port, path, 0)) ∨ checkW r kind id host port path s = some (bl [], 190) := by
  obtain ⟨r1, r2, r3, r4, r5, r6⟩ := r
  unfold checkW
  dsimp only
  by_cases h0 : r6 = 0
  · rw [if_pos h0]
    by_cases h1 : (!(r1 == kind) || (!(r2.toList == id.toList) || (!(r3.toList == host.toList) || (!(r4 == port) || (!(r5.toList == path.toList)))))) = true
    · rw [if_pos h1]; exact .inr rfl
    · rw [if_neg h1]
      refine .inl ⟨rfl, ?_⟩
      simp only [Bool.or_eq_true, Bool.not_eq_true', beq_eq_false_iff_ne, not_or, Decidable.not_not] at h1
      obtain ⟨a1, a2, a3, a4, a5⟩ := h1
      rw [a1, ba_eq a2, ba_eq a3, a4, ba_eq a5, h0]
  · rw [if_neg h0]; exact .inr rfl

theorem findP_proc (l t u : List UInt8) (h : procP t = procP u) : findP l t = findP l u := by
  unfold findP; rw [h]

theorem found_back (l t : List UInt8) (h : (findP l t).2.2.2.2.2 = 0) :
    ∃ (kind : Int) (id host path : List UInt8) (port : Int), findP l t = (kind, bl id, bl host, port, bl path, 0) ∧ writeP kind id host port path = (writeS kind id host port path).map (fun s => (bl s, 0)) ∧
      (∃ s, writeS kind id host port path = some s ∧ findP s t = findP l t ∧ s.length ≤ l.length + 500) ∧ -9223372036854775808 ≤ port ∧ port ≤ 9223372036854775807 ∧ id.length + host.length + path.length ≤ l.length + 400 := by
  have key : ∀ (kind : Int) (id host path : List UInt8) (port : Int) (s : List UInt8), findP l t = (kind, bl id, bl host, port, bl path, 0) → writeS kind id host port path = some s → findP s (typS kind) = findP l t → procP (typS kind) = procP t →
      s.length ≤ l.length + 500 → -9223372036854775808 ≤ port → port ≤ 9223372036854775807 → id.length + host.length + path.length ≤ l.length + 400 →
      ∃ (kind : Int) (id host path : List UInt8) (port : Int), findP l t = (kind, bl id, bl host, port, bl path, 0) ∧ writeP kind id host port path = (writeS kind id host port path).map (fun s => (bl s, 0)) ∧
        (∃ s, writeS kind id host port path = some s ∧ findP s t = findP l t ∧ s.length ≤ l.length + 500) ∧ -9223372036854775808 ≤ port ∧ port ≤ 9223372036854775807 ∧ id.length + host.length + path.length ≤ l.length + 400 := by
    intro kind id host path port s h1 h2 h3 h4 h5 h6 h7 h8
    refine ⟨kind, id, host, path, port, h1, ?_, ⟨s, h2, ?_, h5⟩, h6, h7, h8⟩
    · unfold writeP
      rw [h2]
      dsimp only
      rw [h3, h1]
      exact checkW_self _ _ _ _ _ _
    · rw [findP_proc s t (typS kind) h4.symm]; exact h3
  by_cases p1 : procP t = 1
  · have e : findP l t = internalP l := by unfold findP; rw [if_pos p1]
    have eP : ∀ s, findP s [] = internalP s := fun s => rfl
    rw [e] at h
    have hI : internalP l = internalP l := rfl
    unfold internalP at h
    by_cases c1 : l = []
    · subst c1
      exact key 1 [] [] [] 0 [] (by rw [e]; rfl) rfl (by rw [e]; rfl) p1.symm (by simp) (by decide) (by decide) (by simp)
    · rw [if_neg c1] at h
      by_cases c2 : l = internalL
      · subst c2
        exact key 2 [] [] [] 0 internalL (by rw [e]; rfl) rfl (by rw [e]; rfl) p1.symm (by simp) (by decide) (by decide) (by simp)
      · rw [if_neg c2] at h
        by_cases c3 : l = parentL
        · subst c3
          exact key 3 [] [] [] 0 parentL (by rw [e]; rfl) rfl (by rw [e]; rfl) p1.symm (by simp) (by decide) (by decide) (by simp)
        · rw [if_neg c3] at h
          by_cases c4 : sessL <+: l ∧ idB (l.drop 8) = true
          · have hr : internalP l = ans 4 (l.drop 8) 0 := by unfold internalP; rw [if_neg c1, if_neg c2, if_neg c3, if_pos c4]
            have hl : sessL ++ l.drop 8 = l := by obtain ⟨⟨r, rfl⟩, _⟩ := c4; rfl
            exact key 4 (l.drop 8) [] [] 0 l (by rw [e, hr]; rfl) (by show some (sessL ++ l.drop 8) = _; rw [hl]) (by rw [e]; rfl) p1.symm (by omega) (by decide) (by decide) (by rw [List.length_drop]; simp; omega)
          · rw [if_neg c4] at h
            by_cases c5 : invL <+: l ∧ idB (l.drop 2) = true
            · have hr : internalP l = ans 5 (l.drop 2) 0 := by unfold internalP; rw [if_neg c1, if_neg c2, if_neg c3, if_neg c4, if_pos c5]
              have hl : invL ++ l.drop 2 = l := by obtain ⟨⟨r, rfl⟩, _⟩ := c5; rfl
              exact key 5 (l.drop 2) [] [] 0 l (by rw [e, hr]; rfl) (by show some (invL ++ l.drop 2) = _; rw [hl]) (by rw [e]; rfl) p1.symm (by omega) (by decide) (by decide) (by rw [List.length_drop]; simp; omega)
            · rw [if_neg c5] at h
              exact absurd h (by show ¬ (190 : Int) = 0; omega)
  · by_cases p2 : procP t = 2
    · have e : findP l t = urlR (urlP l) := by unfold findP; rw [if_neg p1, if_pos p2]
      rw [e] at h
      cases hu : urlP l with
      | none => rw [hu] at h; exact absurd h (by show ¬ (190 : Int) = 0; omega)
      | some y =>
        obtain ⟨hh, n, q⟩ := y
        obtain ⟨b1, b2, b3, b4⟩ := url_back l hh q n hu
        have hps : (portS n).length ≤ 21 := by
          unfold portS
          split
          · simp
          · have := Lib.itoa_nonneg 0
            have := itoa_len n (by omega)
            rw [List.length_cons]; omega
        exact key 6 [] hh q n (httpL ++ hh ++ portS n ++ q) (by rw [e, hu]; rfl) rfl (by rw [e, hu]; show urlR (urlP _) = _; rw [b1]) p2.symm
          (by simp only [List.length_append]; have : httpL.length = 7 := rfl; omega) (by omega) (by omega) (by simp; omega)
    · have e : findP l t = ans 0 [] 1 := by unfold findP; rw [if_neg p1, if_neg p2]
      rw [e] at h
      exact absurd h (by show ¬ (1 : Int) = 0; omega)

theorem back_j0 (kind : Int) (id host : List UInt8) (port : Int) (path : List UInt8) (hp : -9223372036854775808 ≤ port ∧ port ≤ 9223372036854775807)
    (hl : id.length + host.length + path.length ≤ 1048576) (k : Nat) : pennantlaw16_RouteBack.j0 (k + 2) kind (bl id) (bl host) port (bl path) = some true := by
  have hw := write_f kind id host port path hp (by omega) k
  simp only [pennantlaw16_RouteBack.j0]
  rw [hw, show (⟨#[98, 97, 115, 105, 99, 104, 116, 116, 112]⟩ : ByteArray) = bl tBasic from rfl, show (⟨#[115, 99, 120, 109, 108]⟩ : ByteArray) = bl tScxml from rfl]
  unfold writeP
  cases hs : writeS kind id host port path with
  | none =>
    dsimp only
    rw [Option.bind_some, if_neg (by decide), if_pos (bl_toList [])]; rfl
  | some s =>
    dsimp only
    have hsl : s.length ≤ 2000000 := by
      have hi := itoa_len port hp
      have h7 : httpL.length = 7 := rfl
      have h8 : sessL.length = 8 := rfl
      have h2 : invL.length = 2 := rfl
      unfold writeS at hs
      repeat' split at hs
      all_goals first | cases hs; done | (cases hs; simp [internalL, parentL]; done) | skip
      all_goals (obtain rfl := Option.some.inj hs; simp only [List.length_append, portS]; first | omega | (split <;> simp only [List.length_cons, List.length_nil] <;> omega))
    rcases checkW_cases (findP s (typS kind)) kind (bl id) (bl host) port (bl path) (bl s) with ⟨e1, e2⟩ | e1
    · rw [e1, Option.bind_some, if_pos rfl]
      by_cases h6 : kind = 6
      · rw [if_pos h6, find_f _ _ (by omega), Option.bind_some, show findP s tBasic = findP s (typS kind) from by unfold typS; rw [if_pos h6], e2]
        simp
      · rw [if_neg h6, find_f _ _ (by omega), Option.bind_some, show findP s tScxml = findP s (typS kind) from by unfold typS; rw [if_neg h6]; rfl, e2]
        simp
    · rw [e1, Option.bind_some, if_neg (by decide), if_pos (bl_toList [])]; rfl

theorem back_f (l t : List UInt8) (kind : Int) (id host : List UInt8) (port : Int) (path : List UInt8) (hp : -9223372036854775808 ≤ port ∧ port ≤ 9223372036854775807)
    (hl : l.length + t.length + id.length + host.length + path.length ≤ 1048576) : ∃ k, pennantlaw16_RouteBack.f k (bl l) (bl t) kind (bl id) (bl host) port (bl path) = some true := by
  refine ⟨5, ?_⟩
  unfold pennantlaw16_RouteBack.f
  have hj := back_j0 kind id host port path hp (by omega) 3
  rw [awake_f, Option.bind_some, if_pos rfl, find_f _ _ (by omega), Option.bind_some]
  by_cases h0 : (findP l t).2.2.2.2.2 = 0
  · rw [if_pos h0]
    obtain ⟨kind', id', host', path', port', e1, e2, ⟨s, e3, e4, e5⟩, e6, e7, e8⟩ := found_back l t h0
    rw [e1]
    dsimp only
    rw [write_f kind' id' host' port' path' ⟨e6, e7⟩ (by omega), e2, e3, Option.map_some, Option.bind_some]
    dsimp only
    rw [find_f _ _ (by omega), Option.bind_some, if_pos rfl, e4, e1]
    dsimp only
    rw [if_pos rfl, if_neg (by simp)]
    exact hj
  · rw [if_neg h0]; exact hj
end Go.Proofs.YthoknobkkpefkaaDoor.PAll
