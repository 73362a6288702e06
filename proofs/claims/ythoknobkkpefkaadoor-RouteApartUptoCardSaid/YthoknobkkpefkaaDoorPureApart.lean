/- The plain law of RouteApart: no target is one of both processors. -/
import Derived.Test.YthoknobkkpefkaaDoorPureWrite
import Derived.Test.YthoknobkkpefkaaDoorPAllx13
namespace Go.Proofs.YthoknobkkpefkaaDoor.PAll
set_option linter.unusedVariables false
set_option linter.unusedSimpArgs false
open Go.RowKit Go.Proofs.YthoknobkkpefkaaDoorW.PrintWords Base

theorem urlR_err (x : Option (List UInt8 × Int × List UInt8)) (h : (urlR x).2.2.2.2.2 = 0) : ∃ y, x = some y := by
  cases x with
  | none => exact absurd h (by show ¬ (190 : Int) = 0; omega)
  | some y => exact ⟨y, rfl⟩
theorem urlP_head (l : List UInt8) (y : List UInt8 × Int × List UInt8) (h : urlP l = some y) : httpL <+: l := by
  unfold urlP at h
  by_cases hc : httpL <+: l ∧ l.length ≤ 256
  · exact hc.1
  · rw [if_neg hc] at h; cases h
theorem internal_head (l : List UInt8) (h : (internalP l).2.2.2.2.2 = 0) : l = [] ∨ l.head? = some 35 := by
  unfold internalP at h
  by_cases h1 : l = []
  · exact .inl h1
  · rw [if_neg h1] at h
    refine .inr ?_
    by_cases h2 : l = internalL
    · subst h2; rfl
    · rw [if_neg h2] at h
      by_cases h3 : l = parentL
      · subst h3; rfl
      · rw [if_neg h3] at h
        by_cases h4 : sessL <+: l ∧ idB (l.drop 8) = true
        · obtain ⟨⟨r, rfl⟩, _⟩ := h4; rfl
        · rw [if_neg h4] at h
          by_cases h5 : invL <+: l ∧ idB (l.drop 2) = true
          · obtain ⟨⟨r, rfl⟩, _⟩ := h5; rfl
          · rw [if_neg h5] at h
            exact absurd h (by show ¬ (190 : Int) = 0; omega)

theorem apart_f (l : List UInt8) (hl : l.length ≤ 1048576) : ∃ k, pennantlaw16_RouteApart.f k (bl l) = some true := by
  refine ⟨1, ?_⟩
  unfold pennantlaw16_RouteApart.f
  rw [awake_f, Option.bind_some, if_pos rfl, show (⟨#[115, 99, 120, 109, 108]⟩ : ByteArray) = bl tScxml from rfl, show (⟨#[98, 97, 115, 105, 99, 104, 116, 116, 112]⟩ : ByteArray) = bl tBasic from rfl,
    find_f _ _ (by omega), find_f _ _ (by omega)]
  simp only [Option.bind_some]
  rw [show findP l tScxml = internalP l from rfl, show findP l tBasic = urlR (urlP l) from rfl]
  by_cases h1 : (internalP l).2.2.2.2.2 = 0
  · rw [if_pos h1]
    congr 1
    rw [bne_iff_ne]
    intro h2
    obtain ⟨y, hy⟩ := urlR_err _ h2
    obtain ⟨r, rfl⟩ := urlP_head l y hy
    rcases internal_head _ h1 with h | h
    · cases h
    · exact absurd h (by show ¬ some (104 : UInt8) = some 35; decide)
  · rw [if_neg h1]
end Go.Proofs.YthoknobkkpefkaaDoor.PAll
