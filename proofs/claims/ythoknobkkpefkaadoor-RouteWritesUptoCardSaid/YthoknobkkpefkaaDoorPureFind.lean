/- The program's Processor, internal and Find, as plain functions. -/
import Derived.Test.YthoknobkkpefkaaDoorFindSpec
import Derived.Test.YthoknobkkpefkaaDoorPureUrl
import Derived.Test.YthoknobkkpefkaaDoorPAllx4
namespace Go.Proofs.YthoknobkkpefkaaDoor.PAll
set_option linter.unusedVariables false
set_option linter.unusedSimpArgs false
open Go.RowKit Go.Proofs.YthoknobkkpefkaaDoorW.PrintWords Base

theorem processor_f (t : List UInt8) (k : Nat) : route_Processor.f (k + 1) (bl t) = some (procP t) := by
  unfold route_Processor.f procP
  simp only [route_Processor.j0, bl_toList]
  by_cases h1 : t = []
  · subst h1; rfl
  · rw [if_neg h1]
    by_cases h2 : t = tScxml
    · subst h2; rfl
    · rw [if_neg (show ¬ t = [115, 99, 120, 109, 108] from h2)]
      by_cases h3 : t = tScxmlUrl
      · subst h3; rfl
      · change (if (t == tScxmlUrl) = true then some (1 : Int) else if t = tBasic then some 2 else if t = tBasicUrl then some 2 else some 0) = _
        rw [beq_eq_false_iff_ne.2 h3, if_neg (by decide), if_neg (c := t = [] ∨ t = tScxml ∨ t = tScxmlUrl) (by rintro (h | h | h) <;> contradiction)]
        by_cases h4 : t = tBasic
        · subst h4; rfl
        · rw [if_neg h4]
          by_cases h5 : t = tBasicUrl
          · subst h5; rfl
          · rw [if_neg h5, if_neg (by rintro (h | h) <;> contradiction)]

theorem id_f (l : List UInt8) (hl : l.length < 35184372088832) : route_id.f (bl l) = some (idB l) := by
  unfold route_id.f
  rw [bl_size, if_pos hl, bl_data]

theorem internal_f (l : List UInt8) (hl : l.length < 35184372088832) (k : Nat) : route_internal.f (k + 1) (bl l) = some (internalP l) := by
  unfold route_internal.f internalP
  simp only [route_internal.j0, bl_toList]
  by_cases h1 : l = []
  · subst h1; rfl
  · rw [if_neg h1, if_neg h1]
    by_cases h2 : l = internalL
    · subst h2; rfl
    · rw [if_neg (show ¬ l = [35, 95, 105, 110, 116, 101, 114, 110, 97, 108] from h2), if_neg h2]
      by_cases h3 : l = parentL
      · subst h3; rfl
      · rw [if_neg (show ¬ l = [35, 95, 112, 97, 114, 101, 110, 116] from h3), if_neg h3]
        have e1 := cutPrefix_f l sessL
        have e2 := cutPrefix_f l invL
        rw [show (⟨#[35, 95, 115, 99, 120, 109, 108, 95]⟩ : ByteArray) = bl sessL from rfl, show (⟨#[35, 95]⟩ : ByteArray) = bl invL from rfl, e1, e2]
        have d1 := id_f (l.drop 8) (by rw [List.length_drop]; omega)
        have d2 := id_f (l.drop 2) (by rw [List.length_drop]; omega)
        have tail : ((some (if invL <+: l then (bl (l.drop invL.length), true) else (bl l, false))).bind fun bt114 => if bt114.2 = true then (route_id.f bt114.1).bind fun t116 => if t116 = true then some (5, bt114.1, (⟨#[]⟩ : ByteArray), (0 : Int), (⟨#[]⟩ : ByteArray), (0 : Int)) else some (0, (⟨#[]⟩ : ByteArray), (⟨#[]⟩ : ByteArray), 0, (⟨#[]⟩ : ByteArray), 190) else some (0, (⟨#[]⟩ : ByteArray), (⟨#[]⟩ : ByteArray), 0, (⟨#[]⟩ : ByteArray), 190)) =
            some (if invL <+: l ∧ idB (l.drop 2) = true then ans 5 (l.drop 2) 0 else ans 0 [] 190) := by
          by_cases hi : invL <+: l
          · rw [if_pos hi, Option.bind_some]
            simp only [if_true]
            rw [show l.drop invL.length = l.drop 2 from rfl, d2, Option.bind_some]
            by_cases hb : idB (l.drop 2) = true
            · rw [if_pos hb, if_pos ⟨hi, hb⟩]; rfl
            · rw [if_neg hb, if_neg (c := invL <+: l ∧ idB (l.drop 2) = true) (fun h => hb h.2)]; rfl
          · rw [if_neg hi, if_neg (c := invL <+: l ∧ idB (l.drop 2) = true) (fun h => hi h.1)]; rfl
        by_cases hs : sessL <+: l
        · rw [if_pos hs, Option.bind_some]
          simp only [if_true]
          rw [show l.drop sessL.length = l.drop 8 from rfl, d1, Option.bind_some]
          by_cases hb : idB (l.drop 8) = true
          · rw [if_pos hb, if_pos (c := sessL <+: l ∧ idB (l.drop 8) = true) ⟨hs, hb⟩]; rfl
          · rw [if_neg hb, if_neg (c := sessL <+: l ∧ idB (l.drop 8) = true) (fun h => hb h.2)]
            exact tail
        · rw [if_neg hs, if_neg (c := sessL <+: l ∧ idB (l.drop 8) = true) (fun h => hs h.1), Option.bind_some]
          change (if false = true then _ else _) = _
          rw [if_neg (by decide)]
          change (if false = true then _ else _) = _
          rw [if_neg (by decide)]
          exact tail

theorem find_f (l t : List UInt8) (hl : l.length < 35184372088832) (k : Nat) : route_Find.f (k + 1) (bl l) (bl t) = some (findP l t) := by
  unfold route_Find.f findP
  rw [processor_f, Option.bind_some, internal_f l hl, url_f l (by omega)]
  by_cases h1 : procP t = 1
  · rw [if_pos h1, if_pos h1]; rfl
  · rw [if_neg h1, if_neg h1]
    by_cases h2 : procP t = 2
    · rw [if_pos h2, if_pos h2]; rfl
    · rw [if_neg h2, if_neg h2]; rfl
end Go.Proofs.YthoknobkkpefkaaDoor.PAll
