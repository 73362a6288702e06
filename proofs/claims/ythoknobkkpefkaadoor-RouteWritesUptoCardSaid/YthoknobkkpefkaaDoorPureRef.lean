/- The reference's small readers, as plain functions. -/
import Derived.Test.YthoknobkkpefkaaDoorPureFind
import Derived.Test.YthoknobkkpefkaaDoorPAllx5
import Derived.Test.YthoknobkkpefkaaDoorPRefx1
namespace Go.Proofs.YthoknobkkpefkaaDoor.PAll
set_option linter.unusedVariables false
set_option linter.unusedSimpArgs false
open Go.RowKit Go.Proofs.YthoknobkkpefkaaDoorW.PrintWords Base

theorem forall_byte {P : UInt8 → Prop} (h : ∀ v : Fin 256, P (UInt8.ofFin v)) : ∀ c, P c := fun c => h c.toFin

theorem ref_processor_f (t : List UInt8) (k : Nat) : pennantref16_Processor.f (k + 1) (bl t) = some (procP t) := by
  unfold pennantref16_Processor.f procP
  simp only [pennantref16_Processor.j0, bl_toList]
  by_cases h1 : t = []
  · subst h1; rfl
  · rw [if_neg h1]
    by_cases h2 : t = tScxml
    · subst h2; rfl
    · rw [if_neg (show ¬ t = [115, 99, 120, 109, 108] from h2)]
      by_cases h3 : t = tScxmlUrl
      · subst h3; rfl
      · change (if (t == tScxmlUrl) = true then some (1 : Int) else if t = tBasic then some 2 else if t = tBasicUrl then some 2 else some 0) = _
        rw [beq_eq_false_iff_ne.2 h3, if_neg (by decide), if_neg (c := t = [] ∨ t = tScxml ∨ t = tScxmlUrl) (by rintro (h | h | h) <;> contradiction)]
        by_cases h4 : t = tBasic
        · subst h4; rfl
        · rw [if_neg h4]
          by_cases h5 : t = tBasicUrl
          · subst h5; rfl
          · rw [if_neg h5, if_neg (by rintro (h | h) <;> contradiction)]

theorem plain_f : ∀ b : UInt8, pennantref16_plain.f (b.toNat : Int) = some (plainB b) := by
  apply forall_byte
  decide +kernel

theorem ref_host_f (l : List UInt8) (hl : l.length ≤ 9223372036854775800) (k : Nat) (hk : l.length + 2 < k) : pennantref16_Host.f k (bl l) = some (lettersB (okL [45, 46]) l) := by
  unfold pennantref16_Host.f
  have hsz := bl_size l
  have h := scan0 (bl l) (okL [45, 46]) (fun k i => pennantref16_Host.l0 k (bl l) i) false (decide (0 < l.length) && decide (l.length ≤ 64)) 0 ?_ ?_ k (by rw [bl_data]; omega)
  · refine Eq.trans h ?_
    rw [bl_data]
    unfold lettersB
    cases l.all (okL [45, 46]) <;> simp
  · intro k i hi
    have hb := bt_nat (bl l) i hi
    have hil : i < l.length := hi
    simp only [pennantref16_Host.l0]
    rw [hsz, if_pos (by omega), if_pos (by omega), hb, wrap_succ hil (by omega), plain_f, Option.bind_some]
    generalize (bl l).data.toList[i] = c at *
    generalize pennantref16_Host.l0 k (bl l) ((i + 1 : Nat) : Int) = R
    have key : ∀ c : UInt8, okL [45, 46] c = (if plainB c = true then true else if (c.toNat : Int) = 45 then true else if (c.toNat : Int) = 46 then true else false) := by
      apply forall_byte
      decide +kernel
    rw [key c]
    repeat' split
    all_goals first | rfl | (exfalso; contradiction) | simp_all
  · intro k _
    simp only [pennantref16_Host.l0]
    rw [hsz, bl_data, if_neg (by omega)]
    by_cases h0 : (l.length : Int) > 0
    · rw [if_pos h0, decide_eq_true (show 0 < l.length by omega), Bool.true_and]
      congr 1
      rw [Bool.eq_iff_iff, decide_eq_true_eq, decide_eq_true_eq]; omega
    · rw [if_neg h0, decide_eq_false (show ¬ 0 < l.length by omega), Bool.false_and]

theorem ref_begins_f (l p : List UInt8) : pennantref16_begins.f (bl l) (bl p) = some (decide (p <+: l)) := by
  have h := hasPrefix_f (bl l) (bl p)
  simp only [strings_HasPrefix.f] at h
  have h' : stringslite_HasPrefix.f (bl l) (bl p) = pennantref16_begins.f (bl l) (bl p) := rfl
  rw [h'] at h
  cases hx : pennantref16_begins.f (bl l) (bl p) with
  | none => rw [hx] at h; cases h
  | some b => rw [hx, Option.bind_some] at h; exact h
end Go.Proofs.YthoknobkkpefkaaDoor.PAll
