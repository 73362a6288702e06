/- The plain law of RouteIds. -/
import Derived.Test.YthoknobkkpefkaaDoorPureWrite
import Derived.Test.YthoknobkkpefkaaDoorPAllx14
namespace Go.Proofs.YthoknobkkpefkaaDoor.PAll
set_option linter.unusedVariables false
set_option linter.unusedSimpArgs false
open Go.RowKit Go.Proofs.YthoknobkkpefkaaDoorW.PrintWords Base

/-- A scan that goes on to the end, holding what it has seen. -/
theorem scanB {β : Type} (s : ByteArray) (ok : UInt8 → Bool) (L : Nat → Int → Bool → Option β) (fin : Bool → Option β)
    (step : ∀ (k i : Nat) (b : Bool) (h : i < s.data.toList.length), L (k + 1) (i : Int) b = L k ((i + 1 : Nat) : Int) (b && ok (s.data.toList[i]'h)))
    (stop : ∀ k b, L (k + 1) (s.data.toList.length : Int) b = fin b) :
    ∀ (d k i : Nat) (b : Bool), s.data.toList.length - i = d → i ≤ s.data.toList.length → d < k → L k (i : Int) b = fin (b && (s.data.toList.drop i).all ok) := by
  intro d
  induction d with
  | zero =>
    intro k i b hd hi hk
    obtain ⟨k, rfl⟩ : ∃ m, k = m + 1 := ⟨k - 1, by omega⟩
    obtain rfl : i = s.data.toList.length := by omega
    rw [stop k b, List.drop_length, List.all_nil, Bool.and_true]
  | succ d ih =>
    intro k i b hd hi hk
    obtain ⟨k, rfl⟩ : ∃ m, k = m + 1 := ⟨k - 1, by omega⟩
    have hlt : i < s.data.toList.length := by omega
    rw [step k i b hlt, List.drop_eq_getElem_cons hlt, List.all_cons, ih k (i + 1) _ (by omega) (by omega) (by omega), Bool.and_assoc]

theorem forall_u8 {P : UInt8 → Prop} (h : ∀ v : Fin 256, P (UInt8.ofFin v)) : ∀ c, P c := fun c => h c.toFin

def idsEnd (s : ByteArray) (e : Int) (r : Bool) (x0 : Int) (x1 x2 : ByteArray) (x3 : Int) (x4 : ByteArray) : Option Bool :=
  if r = true then (if e = 0 then (some (x0 == 4 && (x1.toList == s.toList && (x2.toList == ([] : List UInt8) && (x3 == 0 && (x4.toList == ([] : List UInt8))))))) else (some false)) else (if e = 0 then (if x0 = 5 then (if 6 + s.size ≤ 9223372036854775807 then (some (x1.toList == ((⟨#[115, 99, 120, 109, 108, 95]⟩ : ByteArray) ++ s).toList)) else (none)) else (some false)) else (some true))

theorem ids_loop (s : ByteArray) (hs : s.size ≤ 9223372036854775807) (e : Int) (x0 : Int) (x1 x2 : ByteArray) (x3 : Int) (x4 : ByteArray) (k : Nat) (hk : s.size < k) (b : Bool) :
    pennantlaw16_RouteIds.l0 k s e b (s.size : Int) 0 x0 x1 x2 x3 x4 = idsEnd s e (b && s.data.toList.all idOk) x0 x1 x2 x3 x4 := by
  have hsz := size_eq s
  rw [show (s.size : Int) = (s.data.toList.length : Int) from by rw [hsz]]
  have h := scanB s idOk (fun k i b => pennantlaw16_RouteIds.l0 k s e b (s.data.toList.length : Int) i x0 x1 x2 x3 x4) (fun r => idsEnd s e r x0 x1 x2 x3 x4) ?_ ?_ s.data.toList.length k 0 b (by omega) (by omega) (by omega)
  · refine Eq.trans h ?_
    rw [List.drop_zero]
  · intro k i b hi
    have hb := bt_nat s i hi
    have hlt := (s.data.toList[i]).toNat_lt
    simp only [pennantlaw16_RouteIds.l0]
    rw [if_pos (by omega), if_pos (by omega), if_pos (by omega), hb, wrap_succ hi (by omega)]
    generalize s.data.toList[i] = c at *
    generalize hR : (fun b => pennantlaw16_RouteIds.l0 k s e b (s.data.toList.length : Int) ((i + 1 : Nat) : Int) x0 x1 x2 x3 x4) = R
    have hRb : ∀ b, pennantlaw16_RouteIds.l0 k s e b (s.data.toList.length : Int) ((i + 1 : Nat) : Int) x0 x1 x2 x3 x4 = R b := fun b => congrFun hR b
    simp only [hRb]
    cases b
    · rw [if_neg (by decide), Bool.false_and]
    · rw [if_pos rfl, Bool.true_and]
      simp only [← apply_ite R]
      congr 1
      clear hRb hR hb R hlt
      revert c
      apply forall_u8
      decide +kernel
  · intro k b
    simp only [pennantlaw16_RouteIds.l0]
    rw [if_neg (by omega)]
    rfl

theorem ids_f (l : List UInt8) (hl : l.length ≤ 1048576) : ∃ k, pennantlaw16_RouteIds.f k (bl l) = some true := by
  refine ⟨l.length + 3, ?_⟩
  unfold pennantlaw16_RouteIds.f
  have es : route_Session.f (bl l) = some (bl (sessL ++ l)) := by
    unfold route_Session.f
    rw [bl_size, if_pos (by omega), show (⟨#[35, 95, 115, 99, 120, 109, 108, 95]⟩ : ByteArray) = bl sessL from rfl, bl_append]
  have e8 : sessL.length = 8 := rfl
  rw [awake_f, Option.bind_some, if_pos rfl, es, Option.bind_some, show (⟨#[115, 99, 120, 109, 108]⟩ : ByteArray) = bl tScxml from rfl, find_f _ _ (by rw [List.length_append]; omega), Option.bind_some]
  rw [show findP (sessL ++ l) tScxml = internalP (sessL ++ l) from rfl]
  have hlp := fun e b x0 x1 x2 x3 x4 => ids_loop (bl l) (by rw [bl_size]; omega) e x0 x1 x2 x3 x4 (l.length + 2) (by rw [bl_size]; omega) b
  rw [bl_data] at hlp
  simp only [pennantlaw16_RouteIds.j0, hlp]
  have hcase : (if ((bl l).size : Int) > 0 then idsEnd (bl l) (internalP (sessL ++ l)).2.2.2.2.2 (decide (((bl l).size : Int) ≤ 64) && l.all idOk) (internalP (sessL ++ l)).1 (internalP (sessL ++ l)).2.1 (internalP (sessL ++ l)).2.2.1 (internalP (sessL ++ l)).2.2.2.1 (internalP (sessL ++ l)).2.2.2.2.1
      else idsEnd (bl l) (internalP (sessL ++ l)).2.2.2.2.2 (false && l.all idOk) (internalP (sessL ++ l)).1 (internalP (sessL ++ l)).2.1 (internalP (sessL ++ l)).2.2.1 (internalP (sessL ++ l)).2.2.2.1 (internalP (sessL ++ l)).2.2.2.2.1) =
      idsEnd (bl l) (internalP (sessL ++ l)).2.2.2.2.2 (idB l) (internalP (sessL ++ l)).1 (internalP (sessL ++ l)).2.1 (internalP (sessL ++ l)).2.2.1 (internalP (sessL ++ l)).2.2.2.1 (internalP (sessL ++ l)).2.2.2.2.1 := by
    rw [bl_size]
    by_cases h0 : (l.length : Int) > 0
    · rw [if_pos h0]
      congr 1
      unfold idB lettersB
      cases l.all idOk
      · simp
      · rw [Bool.eq_iff_iff]; simp; omega
    · rw [if_neg h0]
      congr 1
      unfold idB lettersB
      cases l.all idOk
      · simp
      · rw [Bool.eq_iff_iff]; simp; omega
  refine Eq.trans hcase ?_
  have hd8 : (sessL ++ l).drop 8 = l := rfl
  have hd2 : (sessL ++ l).drop 2 = [115, 99, 120, 109, 108, 95] ++ l := rfl
  have hp8 : sessL <+: sessL ++ l := List.prefix_append _ _
  have hp2 : invL <+: sessL ++ l := ⟨[115, 99, 120, 109, 108, 95] ++ l, rfl⟩
  have hI : internalP (sessL ++ l) = if idB l = true then ans 4 l 0 else if idB ([115, 99, 120, 109, 108, 95] ++ l) = true then ans 5 ([115, 99, 120, 109, 108, 95] ++ l) 0 else ans 0 [] 190 := by
    unfold internalP
    rw [if_neg (by simp [sessL]), if_neg (by simp [sessL, internalL]), if_neg (by simp [sessL, parentL]), hd8, hd2]
    by_cases h : idB l = true
    · rw [if_pos ⟨hp8, h⟩, if_pos h]
    · rw [if_neg (fun x => h x.2), if_neg h]
      by_cases h2 : idB ([115, 99, 120, 109, 108, 95] ++ l) = true
      · rw [if_pos ⟨hp2, h2⟩, if_pos h2]
      · rw [if_neg (fun x => h2 x.2), if_neg h2]
  rw [hI]
  unfold idsEnd
  by_cases h : idB l = true
  · rw [if_pos h, if_pos h]
    simp only [ans, bl_toList]
    simp
  · rw [if_neg h, if_neg h]
    by_cases h2 : idB ([115, 99, 120, 109, 108, 95] ++ l) = true
    · rw [if_pos h2]
      simp only [ans]
      rw [if_pos trivial, if_pos trivial, bl_size, if_pos (by omega), show (⟨#[115, 99, 120, 109, 108, 95]⟩ : ByteArray) = bl [115, 99, 120, 109, 108, 95] from rfl, bl_append]
      simp
    · rw [if_neg h2]
      simp [ans]
end Go.Proofs.YthoknobkkpefkaaDoor.PAll
