/- http.read by its contract, for every outcome. -/
import Derived.Test.YtpikebpjlhccbaaGreatDoorReadE
namespace Go.Proofs.YtpikebpjlhccbaaGreatDoor.PAll
set_option linter.unusedVariables false
set_option linter.unusedSimpArgs false
open Go.RowKit Go.Proofs.YtpikebpjlhccbaaGreatDoorW.PrintWords Go.Proofs.YtpikebpjlhccbaaGreatDoorW.PrintLast Go.Proofs.YtpikebpjlhccbaaGreatDoorW.PrintMore

/-- What read hands back: an error's number, or a message. -/
inductive RdRes
 | bad (n : Int)
 | good (l0 : ByteArray) (xs : List S79) (body : ByteArray) (n : Int)
def tailF (b : ByteArray) (k : Nat) (hosts : Bool) (l0 : ByteArray) (xs : List S79) : Option RdRes :=
 if 1 < (cntF xs nLen 0 (⟨#[]⟩ : ByteArray)).1 then some (.bad 220) else
 if hosts = true ∧ (cntF xs nHost 0 (⟨#[]⟩ : ByteArray)).1 ≠ 1 then some (.bad 220) else
 (sizeF xs).bind fun sz => match sz with
  | none => some (.bad 222)
  | some s => if 0 < (cntF xs nCoded 0 (⟨#[]⟩ : ByteArray)).1 ∨ 4096 < s then some (.bad 222) else
   if b.size < k + 4 + s then some (.bad 3) else some (.good l0 xs (b.extract (k + 4) (k + 4 + s)) ((k + 4 + s : Nat) : Int))
def restF (kk : Nat) (rl : ByteArray → Option Bool) (hosts : Bool) (b : ByteArray) (k : Nat) : List ByteArray → Option RdRes
 | [] => none
 | l0 :: ls => if ls.length ≤ 4096 then (rl l0).bind fun r => if r = false then some (.bad 220) else (headsF kk ls).bind fun hr => match hr with
  | none => some (.bad 220)
  | some xs => tailF b k hosts l0 xs
  else none
def readF (kk : Nat) (rl : ByteArray → Option Bool) (hosts : Bool) (b : ByteArray) : Option RdRes :=
 (strings_Index.f b (⟨#[13, 10, 13, 10]⟩ : ByteArray)).bind fun i => if -1 ≤ i ∧ i ≤ 4611686018427387904 then
  (if (i < 0 ∧ 4096 < (b.size : Int)) ∨ 4096 < i + 4 then some (.bad 2) else if i < 0 then some (.bad 3) else
   if i.toNat + 4 ≤ b.size then (strings_Split.f (b.extract 0 i.toNat) (⟨#[13, 10]⟩ : ByteArray)).bind fun ls => restF kk rl hosts b i.toNat ls else none) else none
def RdPost (w : World) : RdRes → Ending → World → Prop
 | .bad n, e, W => e = badV n ∧ Below w.heap.size w W
 | .good l0 xs body n, e, W => ∃ g A c, e = .returned (.tuple #[.pointer (some ⟨g, 0, none⟩), .nilIface]) ∧ W.heap[g]? = some (.cells #[.string l0, .slice A xs.length c, .string body, .int .i64 n] 61 (0, 0)) ∧ Kd.R k79 79 W g (fun q => q ≠ g) (.slice A xs.length c) xs ∧ xs.length ≤ 4294967296 ∧ Below w.heap.size w W

theorem headsF_len (kk : Nat) : ∀ (ls : List ByteArray) (xs : List S79), headsF kk ls = some (some xs) → xs.length = ls.length := by
 intro ls
 induction ls with
 | nil => intro xs h; simp [headsF] at h; simp [← h]
 | cons l ls ih =>
  intro xs h
  unfold headsF at h
  obtain ⟨hd, h1, h⟩ := Option.bind_eq_some_iff.mp h
  cases hd with
  | none => cases h
  | some hd =>
   obtain ⟨r, h2, h⟩ := Option.bind_eq_some_iff.mp h
   cases r with
   | none => cases h
   | some r =>
    simp only [Option.map_some, Option.some.injEq] at h
    subst h
    rw [List.length_cons, List.length_cons, ih r h2]

theorem tail_ok (b : ByteArray) (k : Nat) (hosts : Bool) (l0 : ByteArray) (xs : List S79) (w : World) (r : RdRes) (hx : xs.length ≤ 4096) (h : tailF b k hosts l0 xs = some r) : TailOk b k hosts l0 xs w (RdPost w r) where
 many := by
  intro h1 W hb
  unfold tailF at h
  rw [if_pos h1] at h
  cases h
  exact ⟨rfl, hb⟩
 host := by
  intro h1 h2 h3 W hb
  unfold tailF at h
  rw [if_neg h1, if_pos ⟨h2, h3⟩] at h
  cases h
  exact ⟨rfl, hb⟩
 rest := by
  intro hf
  unfold tailF at h
  rw [if_neg hf.1, if_neg hf.2] at h
  obtain ⟨sz, hs, h⟩ := Option.bind_eq_some_iff.mp h
  refine ⟨⟨sz, hs⟩, ?_, ?_, ?_, ?_⟩
  ·
   intro h1 W hb
   rw [hs] at h1
   cases h1
   cases h
   exact ⟨rfl, hb⟩
  ·
   intro s h1 h2 W hb
   rw [hs] at h1
   cases h1
   simp only at h
   rw [if_pos h2] at h
   cases h
   exact ⟨rfl, hb⟩
  ·
   intro s h1 h2 h3 h4 W hb
   rw [hs] at h1
   cases h1
   simp only at h
   rw [if_neg (by rintro (h | h) <;> omega), if_pos h4] at h
   cases h
   exact ⟨rfl, hb⟩
  ·
   intro s h1 h2 h3 h4 W g A c hB hO hb
   rw [hs] at h1
   cases h1
   simp only at h
   rw [if_neg (by rintro (h | h) <;> omega), if_neg (by omega)] at h
   cases h
   exact ⟨g, A, c, rfl, hB, hO, by omega, hb⟩

theorem http_read.calls (kk : Nat) (g : FuncId) (eg : ∀ args w, (callFunc g args).run Tryz.prog w = .ok (.enter g args) w) (rl : ByteArray → Option Bool)
  (hrl : ∀ l r W, Aside0 (TabsOk W) → rl l = some r → Calls Tryz.prog g #[.string l] W fun e w' => e = .returned (.bool r) ∧ Below W.heap.size W w')
  (b : ByteArray) (hosts : Bool) (r : RdRes) (w : World) (hT : Aside0 (TabsOk w)) (h : readF kk rl hosts b = some r) :
  Calls Tryz.prog 18 #[.string b, .func (.func g) #[] #[], .bool hosts] w (RdPost w r) := by
 unfold readF at h
 obtain ⟨i, hi, h⟩ := Option.bind_eq_some_iff.mp h
 have hbs : b.size < 4294967281 := by
  unfold strings_Index.f at hi
  by_cases hb : b.size < 4294967281
  ·
   exact hb
  ·
   rw [if_neg hb] at hi; cases hi
 by_cases h0 : -1 ≤ i ∧ i ≤ 4611686018427387904
 rotate_left
 ·
  rw [if_neg h0] at h; cases h
 rw [if_pos h0] at h
 by_cases h1 : (i < 0 ∧ 4096 < (b.size : Int)) ∨ 4096 < i + 4
 ·
  rw [if_pos h1] at h
  cases h
  exact read_long b _ hosts i w hT hi h0 h1
 rw [if_neg h1] at h
 by_cases h2 : i < 0
 ·
  rw [if_pos h2] at h
  cases h
  exact read_none b _ hosts i w hT hi h0.1 ⟨h2, by omega⟩
 rw [if_neg h2] at h
 obtain ⟨k, rfl⟩ := Int.eq_ofNat_of_zero_le (Int.not_lt.mp h2)
 have hk : k + 4 ≤ 4096 := by omega
 clear h0 h1 h2
 rw [Int.toNat_natCast] at h
 by_cases hkb : k + 4 ≤ b.size
 rotate_left
 ·
  rw [if_neg hkb] at h; cases h
 rw [if_pos hkb] at h
 obtain ⟨ls, hs, h⟩ := Option.bind_eq_some_iff.mp h
 cases ls with
 | nil => cases h
 | cons l0 ls =>
  unfold restF at h
  dsimp only at h
  by_cases hls : ls.length ≤ 4096
  rotate_left
  ·
   rw [if_neg hls] at h; cases h
  rw [if_pos hls] at h
  obtain ⟨r0, hr0, h⟩ := Option.bind_eq_some_iff.mp h
  cases r0 with
  | false =>
   rw [if_pos rfl] at h
   cases h
   exact read_first g eg b hosts k l0 ls w hT hi hk (by omega) hs (fun W hW => hrl l0 false W hW hr0)
  | true =>
   rw [if_neg (by simp)] at h
   obtain ⟨hr, hh, h⟩ := Option.bind_eq_some_iff.mp h
   have hR := fun W hW => hrl l0 true W hW hr0
   cases ls with
   | nil =>
    simp only [headsF, Option.some.injEq] at hh
    subst hh
    exact (read_nil g eg b hosts k l0 w hT hi hk hkb hbs hs hR (RdPost w r) (tail_ok b k hosts l0 [] w r (by simp) h)).mono (by rintro e w' ⟨E, rfl, hp⟩; exact hp)
   | cons l1 lt =>
    refine (read_main kk g eg b hosts k l0 (l1 :: lt) w hT hi hk hkb hbs hs hls hR hr hh (RdPost w r) ?_ ?_ l1 lt rfl).mono (by rintro e w' ⟨E, rfl, hp⟩; exact hp)
    ·
     rintro W rfl hb
     cases h
     exact ⟨rfl, hb⟩
    ·
     rintro xs rfl
     exact tail_ok b k hosts l0 xs w r (by rw [headsF_len kk _ _ hh]; exact hls) h
end Go.Proofs.YtpikebpjlhccbaaGreatDoor.PAll
