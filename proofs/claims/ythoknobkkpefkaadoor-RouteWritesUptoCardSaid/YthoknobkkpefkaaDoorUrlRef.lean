/- tailP by the reference's reading: host up to '/' or ':', then digits, then a path. No program in sight. -/
import Derived.Test.YthoknobkkpefkaaDoorBackSpec
namespace Go.Proofs.YthoknobkkpefkaaDoor.Base
set_option linter.unusedVariables false
set_option linter.unusedSimpArgs false
open Go.Lib

def clip (acc : Nat) (l : List UInt8) : Nat := l.foldl (fun a c => min (a * 10 + (c.toNat - 48)) 100000) acc
theorem clip_big : ∀ (l : List UInt8) (acc : Nat), 65535 < acc → acc ≤ 100000 → 65535 < clip acc l
  | [], acc, h, _ => h
  | c :: l, acc, h, h2 => by
    have e : clip acc (c :: l) = clip (min (acc * 10 + (c.toNat - 48)) 100000) l := rfl
    rw [e]
    exact clip_big l _ (by omega) (by omega)
theorem clip_val : ∀ (l : List UInt8) (acc : Nat), acc ≤ 100000 → (65535 < clip acc l ↔ 65535 < foldV acc l) ∧ (foldV acc l ≤ 65535 → clip acc l = foldV acc l)
  | [], acc, h => ⟨Iff.rfl, fun _ => rfl⟩
  | c :: l, acc, h => by
    have e : clip acc (c :: l) = clip (min (acc * 10 + (c.toNat - 48)) 100000) l := rfl
    have e2 : foldV acc (c :: l) = foldV (acc * 10 + (c.toNat - 48)) l := rfl
    rw [e, e2]
    by_cases hb : acc * 10 + (c.toNat - 48) ≤ 100000
    · rw [Nat.min_eq_left hb]; exact clip_val l _ hb
    · have h1 := clip_big l (min (acc * 10 + (c.toNat - 48)) 100000) (by omega) (by omega)
      have h2 := foldV_ge l (acc * 10 + (c.toNat - 48))
      exact ⟨⟨fun _ => by omega, fun _ => h1⟩, fun h3 => by omega⟩

def hostB (b : UInt8) : Bool := neB 47 b && neB 58 b
/-- a host and a path, tested -/
def fin2 (h q : List UInt8) (n : Int) : Option (List UInt8 × Int × List UInt8) := if lettersB (okL [45, 46]) h && q.all pathOk then some (h, n, q) else none
/-- what stands behind a port -/
def pathR (h r : List UInt8) (n : Int) : Option (List UInt8 × Int × List UInt8) :=
  match r with
  | [] => fin2 h [47] n
  | c :: r' => if c = 47 then fin2 h (c :: r') n else none
def portR (h r : List UInt8) : Option (List UInt8 × Int × List UInt8) :=
  if r.takeWhile digitB = [] then none else if r.head? = some 48 then none else if 65535 < clip 0 (r.takeWhile digitB) then none else pathR h (r.dropWhile digitB) (clip 0 (r.takeWhile digitB))
def tailR (s : List UInt8) : Option (List UInt8 × Int × List UInt8) :=
  match s.dropWhile hostB with
  | [] => fin2 (s.takeWhile hostB) [47] 80
  | c :: r => if c = 58 then portR (s.takeWhile hostB) r else fin2 (s.takeWhile hostB) (c :: r) 80

theorem tw_all (p : UInt8 → Bool) (l : List UInt8) : ∀ b ∈ l.takeWhile p, p b = true := by
  induction l with
  | nil => simp
  | cons b l ih =>
    rw [List.takeWhile_cons]
    by_cases h : p b = true
    · rw [if_pos h]
      intro x hx
      rcases List.mem_cons.1 hx with rfl | hx
      · exact h
      · exact ih x hx
    · rw [if_neg h]; simp
theorem dw_head (p : UInt8 → Bool) (l : List UInt8) (c : UInt8) (r : List UInt8) (h : l.dropWhile p = c :: r) : p c = false := by
  induction l with
  | nil => cases h
  | cons b l ih =>
    rw [List.dropWhile_cons] at h
    by_cases hb : p b = true
    · rw [if_pos hb] at h; exact ih h
    · rw [if_neg hb] at h
      simp only [List.cons.injEq] at h
      rw [← h.1]; exact Bool.eq_false_iff.mpr hb
theorem fin_path (h r : List UInt8) (n : Int) : (if lettersB (okL [45, 46]) h && pathB (47 :: r) then some (h, n, 47 :: r) else none) = fin2 h (47 :: r) n := by
  unfold fin2 pathB
  simp

theorem tail_eq (s : List UInt8) : tailP s = tailR s := by
  have hs := List.takeWhile_append_dropWhile (p := hostB) (l := s)
  have hall := tw_all hostB s
  have h47 : ∀ b ∈ s.takeWhile hostB, neB 47 b = true := fun b hb => by have := hall b hb; unfold hostB at this; simp only [Bool.and_eq_true] at this; exact this.1
  have h58 : ∀ b ∈ s.takeWhile hostB, neB 58 b = true := fun b hb => by have := hall b hb; unfold hostB at this; simp only [Bool.and_eq_true] at this; exact this.2
  unfold tailR
  cases hr : s.dropWhile hostB with
  | nil =>
    rw [hr, List.append_nil] at hs
    have e1 := tw_app (r := []) h47
    have e2 := tw_app (r := []) h58
    rw [List.append_nil] at e1 e2
    generalize s.takeWhile hostB = h at *
    subst hs
    unfold tailP
    dsimp only
    rw [e1.1, e1.2, List.takeWhile_nil, List.dropWhile_nil, List.append_nil, e2.1, e2.2, List.takeWhile_nil, List.dropWhile_nil, List.append_nil]
    exact fin_path h [] 80
  | cons c r =>
    have hc := dw_head hostB s c r hr
    rw [hr] at hs
    have e1 := tw_app (r := c :: r) h47
    have e2 := fun x => tw_app (r := x) h58
    generalize s.takeWhile hostB = h at *
    subst hs
    dsimp only
    unfold tailP
    dsimp only
    rw [e1.1, e1.2]
    by_cases hc58 : c = 58
    · subst hc58
      rw [if_pos rfl]
      have f1 : (58 :: r).takeWhile (neB 47) = 58 :: r.takeWhile (neB 47) := rfl
      have f2 : (58 :: r).dropWhile (neB 47) = r.dropWhile (neB 47) := rfl
      have f3 : ∀ x : List UInt8, (58 :: x).takeWhile (neB 58) = [] := fun x => rfl
      have f4 : ∀ x : List UInt8, (58 :: x).dropWhile (neB 58) = 58 :: x := fun x => rfl
      rw [f1, f2, (e2 _).1, (e2 _).2, f3, f4, List.append_nil]
      unfold portP
      rw [if_neg (by simp), List.tail_cons]
      unfold portR
      have g := List.takeWhile_append_dropWhile (p := digitB) (l := r)
      have gd := tw_all digitB r
      have gne : ∀ b ∈ r.takeWhile digitB, neB 47 b = true := fun b hb => by
        have := (digitB_iff b).1 (gd b hb)
        unfold neB
        have h47 : b ≠ 47 := fun e => by subst e; have : (47 : UInt8).toNat = 47 := rfl; omega
        simp [h47]
      have g1 := fun x => tw_app (r := x) gne
      cases hd : r.dropWhile digitB with
      | nil =>
        rw [hd, List.append_nil] at g
        have ep : r.takeWhile (neB 47) = r ∧ r.dropWhile (neB 47) = [] := by
          have := g1 []
          rw [List.append_nil, g] at this
          exact ⟨by rw [this.1, List.takeWhile_nil, List.append_nil], by rw [this.2, List.dropWhile_nil]⟩
        rw [ep.1, ep.2, g, if_pos rfl]
        have cv := clip_val r 0 (by omega)
        by_cases hp : portOk r
        · obtain ⟨p1, p2, p3, p4⟩ := hp
          rw [if_pos ⟨p1, p2, p3, p4⟩, if_neg p1, if_neg p3, if_neg (by rw [cv.1]; unfold valN at p4; omega), cv.2 (by unfold valN at p4; exact p4)]
          exact fin_path h [] _
        · rw [if_neg hp]
          by_cases q1 : r = []
          · rw [if_pos q1]
          · rw [if_neg q1]
            by_cases q2 : r.head? = some 48
            · rw [if_pos q2]
            · rw [if_neg q2]
              by_cases q3 : 65535 < clip 0 r
              · rw [if_pos q3]
              · exfalso
                rw [cv.1] at q3
                exact hp ⟨q1, by rw [← g]; exact List.all_eq_true.2 gd, q2, by unfold valN; omega⟩
      | cons c' r' =>
        rw [hd] at g
        have hc' := dw_head digitB r c' r' hd
        have hh : r.takeWhile digitB ≠ [] → r.head? = (r.takeWhile digitB).head? := fun hne => by
          conv => lhs; rw [← g]
          exact head_app hne
        by_cases h47c : c' = 47
        · subst h47c
          have ep : r.takeWhile (neB 47) = r.takeWhile digitB ∧ r.dropWhile (neB 47) = 47 :: r' := by
            have := g1 (47 :: r')
            rw [g] at this
            exact ⟨by rw [this.1]; show _ ++ [] = _; rw [List.append_nil], by rw [this.2]; rfl⟩
          rw [ep.1, ep.2, if_neg (c := (47 :: r' : List UInt8) = []) (by simp)]
          generalize hds : r.takeWhile digitB = ds at *
          have cv := clip_val ds 0 (by omega)
          by_cases hp : portOk ds
          · obtain ⟨p1, p2, p3, p4⟩ := hp
            rw [if_pos ⟨p1, p2, p3, p4⟩, if_neg p1, if_neg (by rw [hh p1]; exact p3), if_neg (by rw [cv.1]; unfold valN at p4; omega), cv.2 (by unfold valN at p4; exact p4)]
            exact fin_path h r' _
          · rw [if_neg hp]
            by_cases q1 : ds = []
            · rw [if_pos q1]
            · rw [if_neg q1]
              by_cases q2 : r.head? = some 48
              · rw [if_pos q2]
              · rw [if_neg q2]
                by_cases q3 : 65535 < clip 0 ds
                · rw [if_pos q3]
                · exfalso
                  rw [cv.1] at q3
                  exact hp ⟨q1, List.all_eq_true.2 gd, by rw [← hh q1]; exact q2, by unfold valN; omega⟩
        · have hnp : ¬ portOk (r.takeWhile (neB 47)) := by
            rintro ⟨_, p2, _, _⟩
            have := g1 (c' :: r')
            rw [g, List.takeWhile_cons, if_pos (by unfold neB; simp [h47c])] at this
            rw [this.1] at p2
            have := List.all_eq_true.1 p2 c' (by simp)
            rw [hc'] at this
            cases this
          rw [if_neg hnp]
          have hpr : ∀ n, pathR h (c' :: r') n = none := fun n => by show (if c' = 47 then fin2 h (c' :: r') n else none) = none; rw [if_neg h47c]
          rw [hpr]
          show none = _
          repeat' split
          all_goals rfl
    · have hc47 : c = 47 := by
        unfold hostB neB at hc
        simp only [Bool.and_eq_false_iff, Bool.not_eq_false', beq_iff_eq] at hc
        rcases hc with h | h
        · exact h
        · exact absurd h hc58
      subst hc47
      rw [if_neg hc58]
      have f1 : (47 :: r).takeWhile (neB 47) = [] := rfl
      have f2 : (47 :: r).dropWhile (neB 47) = 47 :: r := rfl
      rw [f1, f2, List.append_nil, if_neg (by simp)]
      have e3 := e2 []
      rw [List.append_nil] at e3
      rw [e3.1, e3.2, List.takeWhile_nil, List.dropWhile_nil, List.append_nil]
      exact fin_path h r 80
end Go.Proofs.YthoknobkkpefkaaDoor.Base
