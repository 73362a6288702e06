/- What an http target says, over lists of bytes: no program in sight. -/
import Derived.Test.YthoknobkkpefkaaDoorNum
namespace Go.Proofs.YthoknobkkpefkaaDoor.Base
open Go.Lib
set_option linter.unusedSimpArgs false

/-- a text out of its bytes -/
def bl (l : List UInt8) : ByteArray := ⟨l.toArray⟩
@[simp] theorem bl_data (l : List UInt8) : (bl l).data.toList = l := rfl
theorem bl_self (s : ByteArray) : bl s.data.toList = s := by cases s; rfl
theorem bl_size (l : List UInt8) : (bl l).size = l.length := by rw [size_eq]; rfl
theorem bl_toList (l : List UInt8) : (bl l).toList = l := by rw [toList_data]; rfl
theorem bl_extract (l : List UInt8) (a b : Nat) : (bl l).extract a b = bl ((l.drop a).take (b - a)) := by
  rw [← bl_self ((bl l).extract a b), Lib.extract_data]; rfl
theorem bl_append (l r : List UInt8) : bl l ++ bl r = bl (l ++ r) := by
  rw [← bl_self (bl l ++ bl r)]
  congr 1

def httpL : List UInt8 := [104, 116, 116, 112, 58, 47, 47]

/-- what stands behind a host's end: a port, or none -/
def portP (r : List UInt8) : Option Int := if r = [] then some 80 else if portOk r.tail then some (valN r.tail : Int) else none
def neB (c : UInt8) (b : UInt8) : Bool := !(b == c)
/-- host, port and path -/
def tailP (s : List UInt8) : Option (List UInt8 × Int × List UInt8) :=
  let s1 := s.takeWhile (neB 47)
  let q := s.dropWhile (neB 47)
  let path := if q = [] then [47] else q
  match portP (s1.dropWhile (neB 58)) with
  | none => none
  | some n => if lettersB (okL [45, 46]) (s1.takeWhile (neB 58)) && pathB path then some (s1.takeWhile (neB 58), n, path) else none
def urlP (l : List UInt8) : Option (List UInt8 × Int × List UInt8) :=
  if httpL <+: l ∧ l.length ≤ 256 then tailP (l.drop 7) else none
def urlR : Option (List UInt8 × Int × List UInt8) → Int × ByteArray × ByteArray × Int × ByteArray × Int
  | none => (0, bl [], bl [], 0, bl [], 190)
  | some (h, n, q) => (6, bl [], bl h, n, bl q, 0)

/-- strings.IndexByte parts a text. -/
theorem indexByte_part (l : List UInt8) (c : UInt8) :
    (c ∈ l → indexByte l c = ((l.takeWhile (neB c)).length : Int)) ∧ (c ∉ l → indexByte l c = -1) := by
  induction l with
  | nil => simp [indexByte]
  | cons b l ih =>
    unfold indexByte
    by_cases hb : b = c
    · subst hb; simp [neB]
    · have hb' : (b == c) = false := by simpa using hb
      have hn : neB c b = true := by simp [neB, hb]
      rw [hb', List.takeWhile_cons, if_pos hn]
      refine ⟨fun h => ?_, fun h => ?_⟩
      · have hm : c ∈ l := by
          rcases List.mem_cons.1 h with e | e
          · exact absurd e.symm hb
          · exact e
        have e := ih.1 hm
        have hne : (indexByte l c == -1) = false := by rw [beq_eq_false_iff_ne]; omega
        simp only [hne, Bool.false_eq_true, if_false, List.length_cons]
        omega
      · have e := ih.2 (fun hc => h (List.mem_cons_of_mem _ hc))
        simp [e]
theorem take_part (l : List UInt8) (p : UInt8 → Bool) : l.take (l.takeWhile p).length = l.takeWhile p ∧ l.drop (l.takeWhile p).length = l.dropWhile p := by
  have e := List.takeWhile_append_dropWhile (p := p) (l := l)
  have h1 := List.take_left (l₁ := l.takeWhile p) (l₂ := l.dropWhile p)
  have h2 := List.drop_left (l₁ := l.takeWhile p) (l₂ := l.dropWhile p)
  rw [e] at h1 h2
  exact ⟨h1, h2⟩
theorem mem_part (l : List UInt8) (c : UInt8) : c ∈ l ↔ l.dropWhile (neB c) ≠ [] := by
  induction l with
  | nil => simp
  | cons b l ih =>
    by_cases hb : b = c
    · subst hb; simp [neB]
    · have hn : neB c b = true := by simp [neB, hb]
      rw [List.dropWhile_cons, if_pos hn, ← ih, List.mem_cons]
      constructor
      · rintro (e | e)
        · exact absurd e.symm hb
        · exact e
      · exact .inr
theorem part_none (l : List UInt8) (p : UInt8 → Bool) (h : l.dropWhile p = []) : l.takeWhile p = l := by
  have e := List.takeWhile_append_dropWhile (p := p) (l := l)
  rw [h, List.append_nil] at e
  exact e
/-- strings.Cut at one byte -/
theorem cut_part (l : List UInt8) (c : UInt8) : cut l [c] = (l.takeWhile (neB c), (l.dropWhile (neB c)).tail, decide (l.dropWhile (neB c) ≠ [])) := by
  unfold cut
  rw [index_one]
  by_cases hm : c ∈ l
  · rw [(indexByte_part l c).1 hm, if_pos (by omega)]
    simp only [Int.toNat_natCast, List.length_singleton]
    rw [(take_part l _).1, ← List.drop_drop, (take_part l _).2]
    have := (mem_part l c).1 hm
    simp [this]
  · have hd : l.dropWhile (neB c) = [] := by
      by_cases h : l.dropWhile (neB c) = []
      · exact h
      · exact absurd ((mem_part l c).2 h) hm
    rw [(indexByte_part l c).2 hm, if_neg (by omega), hd, part_none l _ hd]
    simp
end Go.Proofs.YthoknobkkpefkaaDoor.Base
