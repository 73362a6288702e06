/- http.read, whole. -/
import Derived.Test.YtpikebpjlhccbaaGreatDoorShort
import Derived.Test.YtpikebpjlhccbaaGreatDoorReadC
import Derived.Test.YtpikebpjlhccbaaGreatDoorGiveCount
namespace Go.Proofs.YtpikebpjlhccbaaGreatDoor.PAll
set_option linter.unusedVariables false
set_option linter.unusedSimpArgs false
open Go.RowKit Go.Proofs.YtpikebpjlhccbaaGreatDoorW.PrintWords Go.Proofs.YtpikebpjlhccbaaGreatDoorW.PrintLast Go.Proofs.YtpikebpjlhccbaaGreatDoorW.PrintMore

def nLen : ByteArray := ⟨#[99, 111, 110, 116, 101, 110, 116, 45, 108, 101, 110, 103, 116, 104]⟩
def nHost : ByteArray := ⟨#[104, 111, 115, 116]⟩
def nCoded : ByteArray := ⟨#[116, 114, 97, 110, 115, 102, 101, 114, 45, 101, 110, 99, 111, 100, 105, 110, 103]⟩
def fineH (hosts : Bool) (xs : List S79) : Prop := ¬ 1 < (cntF xs nLen 0 (⟨#[]⟩ : ByteArray)).1 ∧ ¬ (hosts = true ∧ (cntF xs nHost 0 (⟨#[]⟩ : ByteArray)).1 ≠ 1)
/-- How long the body is said to be: none: the word is not a right one. -/
def sizeF (xs : List S79) : Option (Option Nat) :=
 if (cntF xs nLen 0 (⟨#[]⟩ : ByteArray)).1 = 1 then
  (if (cntF xs nLen 0 (⟨#[]⟩ : ByteArray)).2.toList = [] then some none else if 9 < (cntF xs nLen 0 (⟨#[]⟩ : ByteArray)).2.size then some none else
   (strings_Trim.f (cntF xs nLen 0 (⟨#[]⟩ : ByteArray)).2 (⟨#[48, 49, 50, 51, 52, 53, 54, 55, 56, 57]⟩ : ByteArray)).bind fun t => if t.toList ≠ [] then some none else (strconv_Atoi.f (cntF xs nLen 0 (⟨#[]⟩ : ByteArray)).2).bind fun s => if 0 ≤ s.1 then some (some s.1.toNat) else none)
 else some (some 0)
/-- What is asked of a postcondition behind the headers' numbers. -/
structure RestOk (b : ByteArray) (k : Nat) (l0 : ByteArray) (xs : List S79) (w : World) (Post : Ending → World → Prop) : Prop where
 def_ : ∃ r, sizeF xs = some r
 size0 : sizeF xs = some none → ∀ W, Below w.heap.size w W → Post (badV 222) W
 big : ∀ s, sizeF xs = some (some s) → (0 < (cntF xs nCoded 0 (⟨#[]⟩ : ByteArray)).1 ∨ 4096 < s) → ∀ W, Below w.heap.size w W → Post (badV 222) W
 short : ∀ s, sizeF xs = some (some s) → ¬ 0 < (cntF xs nCoded 0 (⟨#[]⟩ : ByteArray)).1 → s ≤ 4096 → b.size < k + 4 + s → ∀ W, Below w.heap.size w W → Post (badV 3) W
 good : ∀ s, sizeF xs = some (some s) → ¬ 0 < (cntF xs nCoded 0 (⟨#[]⟩ : ByteArray)).1 → s ≤ 4096 → k + 4 + s ≤ b.size → ∀ W g A c, W.heap[g]? = some (.cells #[.string l0, .slice A xs.length c, .string (b.extract (k + 4) (k + 4 + s)), .int .i64 ((k + 4 + s : Nat) : Int)] 61 (0, 0)) → Kd.R k79 79 W g (fun q => q ≠ g) (.slice A xs.length c) xs → Below w.heap.size w W → Post (.returned (.tuple #[.pointer (some ⟨g, 0, none⟩), .nilIface])) W
/-- What is asked of a postcondition behind the headers. -/
structure TailOk (b : ByteArray) (k : Nat) (hosts : Bool) (l0 : ByteArray) (xs : List S79) (w : World) (Post : Ending → World → Prop) : Prop where
 many : 1 < (cntF xs nLen 0 (⟨#[]⟩ : ByteArray)).1 → ∀ W, Below w.heap.size w W → Post (badV 220) W
 host : ¬ 1 < (cntF xs nLen 0 (⟨#[]⟩ : ByteArray)).1 → hosts = true → (cntF xs nHost 0 (⟨#[]⟩ : ByteArray)).1 ≠ 1 → ∀ W, Below w.heap.size w W → Post (badV 220) W
 rest : fineH hosts xs → RestOk b k l0 xs w Post
def http_read.T33 : Bool × List (List Nat × List Nat) := (true, [([], []), ([], []), ([], []), ([2], [2]), ([3], [3]), ([4], [4]), ([], []), ([6], [6]), ([7], [7]), ([8], [8]), ([], []), ([9, 10], [9, 10]), ([1, 5, 11], [1, 5, 11]), ([0, 0, 1, 2, 3, 4, 5, 6, 7, 8, 9, 10, 11, 12], [0]), ([13, 0, 1, 2, 3, 4, 5, 6, 7, 8, 9, 10, 11, 12], [13]), ([14, 12, 0, 1, 2, 3, 4, 5, 6, 7, 8, 9, 10, 11, 12], [12, 14])])
def http_read.B33 : List Nat := [0, 0, 0, 4, 12, 28, 0, 64, 192, 448, 0, 1984, 4094, 8191, 16383, 32767]
theorem http_read.tab33 : rtab .any (opsOf Tryz.f18 33) = http_read.T33 := by kernel_rfl
theorem http_read.bits33 : waitsOk http_read.T33.2 http_read.B33 = true := by kernel_rfl

set_option maxHeartbeats 8000000 in
set_option maxRecDepth 100000 in
theorem read_main (kk : Nat) (g : FuncId) (eg : ∀ args w, (callFunc g args).run Tryz.prog w = .ok (.enter g args) w) (b : ByteArray) (hosts : Bool) (k : Nat) (l0 : ByteArray) (ls : List ByteArray) (w : World) (hT : Aside0 (TabsOk w))
  (hi : strings_Index.f b (⟨#[13, 10, 13, 10]⟩ : ByteArray) = some (k : Int)) (hk : k + 4 ≤ 4096) (hkb : k + 4 ≤ b.size) (hbs : b.size < 4294967281)
  (hs : strings_Split.f (b.extract 0 k) (⟨#[13, 10]⟩ : ByteArray) = some (l0 :: ls)) (hls : ls.length ≤ 4096)
  (hR : ∀ W, Aside0 (TabsOk W) → Calls Tryz.prog g #[.string l0] W fun e w' => e = .returned (.bool true) ∧ Below W.heap.size W w')
  (hr : Option (List S79)) (hH : headsF kk ls = some hr) (Post : Ending → World → Prop) (hbad : ∀ W, hr = none → Below w.heap.size w W → Post (badV 220) W) (htail : ∀ xs, hr = some xs → TailOk b k hosts l0 xs w Post) (l1 : ByteArray) (lt : List ByteArray) (hne : ls = l1 :: lt) :
  Calls Tryz.prog 18 #[.string b, .func (.func g) #[] #[], .bool hosts] w fun e w' => ∃ E, e = E ∧ Post E w' := by
 have CI := zM (strings_Index.calls b _ k w hT hi)
 subst hne
 have CS := zM (strings_Split.callsAt (b.extract 0 k) _ _ w hT hs)
 have HR := zM hR
 have HH := zM hH
 have HBAD := zM hbad
 have HTAIL := zM htail
 clear hbad htail
 have hw : wrap64 ((k : Int) + 4) = (k : Int) + 4 := by unfold wrap64; omega
 have b1 : decide ((k : Int) < 0) = false := decide_eq_false (by omega)
 have b2 : decide (4096 < (k : Int) + 4) = false := decide_eq_false (by omega)
 have p1 : (0 ≤ (k : Int)) = True := eq_true (by omega)
 have p2 : ((k : Int) ≤ (b.size : Int)) = True := eq_true (by omega)
 have HK := zM (show k + 4 ≤ b.size ∧ k + 4 ≤ 4096 ∧ b.size < 4294967281 ∧ (l1 :: lt).length ≤ 4096 from ⟨hkb, hk, hbs, hls⟩)
 clear hi hs hR hk hkb hH hls
 go_enter Tryz.func18, Tryz.ntmps18
 go_wp2_with (first | (go_at_call 32; refine CI.out.mono ?_; rintro e w' ⟨rfl, rfl⟩) | (go_at_call 33; refine CS.out.mono ?_; rintro e w1 ⟨rfl, ho, hb⟩; obtain ⟨ad1, e1, hx1⟩ := Kd.at_string (Kd.R_reads' ho).2.2 0 (by omega) (by simp; omega); cases e1; rw [show ((0 : Int)).toNat = 0 from rfl, Addr.add_zero', show rdOf ByteArray.empty (l0 :: l1 :: lt) 0 = l0 from rfl] at hx1; have HB1 := zM hb; have HO1 := zM ho; clear hb ho) | (go_at_fn g; refine (HR.out _ ⟨TabsOk.below hT.out (below_alloc HB1.out _)⟩).mono ?_; rintro e w2 ⟨rfl, hb2⟩))
 have HB := zM (below_step (below_alloc (Below.refl w1.heap.size w1) _) hb2 : Below w1.heap.size w1 w2)
 have BK := zM (blk_below (g := w1.heap.size) (o := .cells #[.string l0, .slice none 0 0, .string (⟨#[]⟩ : ByteArray), .int .i64 ((k : Int) + 4)] 61 (0, 0)) (heap_alloc_new w1 _) hb2)
 clear hb2 hx1
 go_loopg [63] ((l1 :: lt).length + 1) (fun kq v63 w' => ∃ (i : Nat) (v : Value) (xs : List S79), v63 = .int .i64 (i : Int) ∧ Aside0 (i ≤ (l1 :: lt).length ∧ kq = (l1 :: lt).length - i + 1 ∧ (∃ r, headsF kk ((l1 :: lt).drop i) = some r ∧ hr = r.map (xs ++ ·)) ∧ xs.length ≤ i) ∧ Aside0 (w'.heap[w1.heap.size]? = some (.cells #[.string l0, v, .string (⟨#[]⟩ : ByteArray), .int .i64 ((k : Int) + 4)] 61 (0, 0))) ∧ Aside0 (Kd.R k79 79 w' w1.heap.size (fun q => q ≠ w1.heap.size) v xs) ∧ Aside0 (Below w1.heap.size w1 w'))
 case atStart => exact ⟨0, .slice none 0 0, [], (by first | rfl | (simp; done)), ⟨Nat.zero_le _, by omega, ⟨hr, HH.out, by cases hr <;> rfl⟩, Nat.zero_le _⟩, BK, ⟨Kd.R_nil _ _ _ _ _⟩, HB⟩
 case round =>
  obtain ⟨i, v, xs, rfl, HA, BK, HO, HB⟩ := hrel
  cases gk with
  | zero => exact absurd HA.out.2.1 (by omega)
  | succ k1 =>
   obtain ⟨hi, hk, ⟨r0, hc, hr0⟩, hxs⟩ := HA.out
   clear HA
   by_cases hlt : i < (l1 :: lt).length
   rotate_left
   ·
    (obtain rfl : i = (l1 :: lt).length := by omega); rw [List.drop_length] at hc; simp only [headsF, Option.some.injEq] at hc; subst hc; (have q1 : decide (((l1 :: lt).length : Int) < (lt.length : Int) + 1) = false := decide_eq_false (by simp)); (have q2 : decide ((lt.length : Int) + 1 < (lt.length : Int) + 1) = false := decide_eq_false (by omega)); clear hi hk hlt; (have hrs : hr = some xs := by rw [hr0]; simp); (obtain ⟨A2, c2, rfl⟩ := Kd.R_slice HO.out); (obtain ⟨n1, v1, e1⟩ : ∃ n v, cntF xs (⟨#[99, 111, 110, 116, 101, 110, 116, 45, 108, 101, 110, 103, 116, 104]⟩ : ByteArray) 0 (⟨#[]⟩ : ByteArray) = (n, v) := ⟨_, _, rfl⟩); (obtain ⟨n2, v2, e2⟩ : ∃ n v, cntF xs (⟨#[104, 111, 115, 116]⟩ : ByteArray) 0 (⟨#[]⟩ : ByteArray) = (n, v) := ⟨_, _, rfl⟩); (obtain ⟨n3, v3, e3⟩ : ∃ n v, cntF xs (⟨#[116, 114, 97, 110, 115, 102, 101, 114, 45, 101, 110, 99, 111, 100, 105, 110, 103]⟩ : ByteArray) 0 (⟨#[]⟩ : ByteArray) = (n, v) := ⟨_, _, rfl⟩); (have hxl : xs.length ≤ 4294967296 := by have := HK.out; omega); (have CNT1 := zM (fun W (hB : W.heap[w1.heap.size]? = some (.cells #[.string l0, .slice A2 xs.length c2, .string (⟨#[]⟩ : ByteArray), .int .i64 ((k : Int) + 4)] 61 (0, 0))) (hO : Kd.R k79 79 W w1.heap.size (fun q => q ≠ w1.heap.size) (.slice A2 xs.length c2) xs) => e1 ▸ http_message_count.calls w1.heap.size A2 c2 l0 (⟨#[]⟩ : ByteArray) ((k : Int) + 4) xs (⟨#[99, 111, 110, 116, 101, 110, 116, 45, 108, 101, 110, 103, 116, 104]⟩ : ByteArray) W hB (Kd.R_reads' hO).2.2 hxl)); (have CNT2 := zM (fun W (hB : W.heap[w1.heap.size]? = some (.cells #[.string l0, .slice A2 xs.length c2, .string (⟨#[]⟩ : ByteArray), .int .i64 ((k : Int) + 4)] 61 (0, 0))) (hO : Kd.R k79 79 W w1.heap.size (fun q => q ≠ w1.heap.size) (.slice A2 xs.length c2) xs) => e2 ▸ http_message_count.calls w1.heap.size A2 c2 l0 (⟨#[]⟩ : ByteArray) ((k : Int) + 4) xs (⟨#[104, 111, 115, 116]⟩ : ByteArray) W hB (Kd.R_reads' hO).2.2 hxl)); (have CNT3 := zM (fun W (hB : W.heap[w1.heap.size]? = some (.cells #[.string l0, .slice A2 xs.length c2, .string (⟨#[]⟩ : ByteArray), .int .i64 ((k : Int) + 4)] 61 (0, 0))) (hO : Kd.R k79 79 W w1.heap.size (fun q => q ≠ w1.heap.size) (.slice A2 xs.length c2) xs) => e3 ▸ http_message_count.calls w1.heap.size A2 c2 l0 (⟨#[]⟩ : ByteArray) ((k : Int) + 4) xs (⟨#[116, 114, 97, 110, 115, 102, 101, 114, 45, 101, 110, 99, 111, 100, 105, 110, 103]⟩ : ByteArray) W hB (Kd.R_reads' hO).2.2 hxl)); (have E123 := zM (And.intro e1 (And.intro e2 e3))); clear e1 e2 e3 hxl hxs hr0; by_cases h1 : 1 < n1
    ·
     (have d1 : decide (1 < n1) = true := decide_eq_true h1); clear h1; (go_wp2_with (first | (go_at_call 22; (with_reducible refine (CNT1.out _ BK.out HO.out).mono ?_); rintro e w5 ⟨rfl, hb5⟩; have n1_ := zM (blk_below BK.out hb5); have n2_ := zM (Kd.R_below HO.out hb5); have n3_ := zM (below_step HB.out hb5); clear BK HO HB; have BK := n1_; have HO := n2_; have HB := n3_; clear n1_ n2_ n3_ hb5) | (go_at_call 22; (with_reducible refine (CNT2.out _ BK.out HO.out).mono ?_); rintro e w5 ⟨rfl, hb5⟩; have n1_ := zM (blk_below BK.out hb5); have n2_ := zM (Kd.R_below HO.out hb5); have n3_ := zM (below_step HB.out hb5); clear BK HO HB; have BK := n1_; have HO := n2_; have HB := n3_; clear n1_ n2_ n3_ hb5) | (go_at_call 22; (with_reducible refine (CNT3.out _ BK.out HO.out).mono ?_); rintro e w5 ⟨rfl, hb5⟩; have n1_ := zM (blk_below BK.out hb5); have n2_ := zM (Kd.R_below HO.out hb5); have n3_ := zM (below_step HB.out hb5); clear BK HO HB; have BK := n1_; have HO := n2_; have HB := n3_; clear n1_ n2_ n3_ hb5; have hcz_3 : w5.cell? ⟨w1.heap.size, 3, none⟩ = some (.int .i64 ((k : Int) + 4)) := (blk_cell BK.out 3).trans rfl; have hfz_3 := blk_frozen BK.out 3; have hfz_2 := blk_frozen BK.out 2; have hcz_2 : w5.cell? ⟨w1.heap.size, 2, none⟩ = some (.string (⟨#[]⟩ : ByteArray)) := (blk_cell BK.out 2).trans rfl))); (go_ret2); exact ⟨badV 220, rfl, (HTAIL.out xs hrs).many (by rw [show cntF xs nLen 0 (⟨#[]⟩ : ByteArray) = (n1, v1) from E123.out.1]; exact of_decide_eq_true d1) _ (below_step HB1.out HB.out)⟩
    ·
     (have d1 : decide (1 < n1) = false := decide_eq_false h1); clear h1; by_cases h2 : hosts = true ∧ n2 ≠ 1
     ·
      (obtain ⟨hh, h2⟩ := h2); subst hh; (have d2 : (n2 == 1) = false := beq_eq_false_iff_ne.mpr h2); (have d3 : (n2 != 1) = true := bne_iff_ne.mpr h2); (go_wp2_with (first | (go_at_call 22; (with_reducible refine (CNT1.out _ BK.out HO.out).mono ?_); rintro e w5 ⟨rfl, hb5⟩; have n1_ := zM (blk_below BK.out hb5); have n2_ := zM (Kd.R_below HO.out hb5); have n3_ := zM (below_step HB.out hb5); clear BK HO HB; have BK := n1_; have HO := n2_; have HB := n3_; clear n1_ n2_ n3_ hb5) | (go_at_call 22; (with_reducible refine (CNT2.out _ BK.out HO.out).mono ?_); rintro e w5 ⟨rfl, hb5⟩; have n1_ := zM (blk_below BK.out hb5); have n2_ := zM (Kd.R_below HO.out hb5); have n3_ := zM (below_step HB.out hb5); clear BK HO HB; have BK := n1_; have HO := n2_; have HB := n3_; clear n1_ n2_ n3_ hb5) | (go_at_call 22; (with_reducible refine (CNT3.out _ BK.out HO.out).mono ?_); rintro e w5 ⟨rfl, hb5⟩; have n1_ := zM (blk_below BK.out hb5); have n2_ := zM (Kd.R_below HO.out hb5); have n3_ := zM (below_step HB.out hb5); clear BK HO HB; have BK := n1_; have HO := n2_; have HB := n3_; clear n1_ n2_ n3_ hb5; have hcz_3 : w5.cell? ⟨w1.heap.size, 3, none⟩ = some (.int .i64 ((k : Int) + 4)) := (blk_cell BK.out 3).trans rfl; have hfz_3 := blk_frozen BK.out 3; have hfz_2 := blk_frozen BK.out 2; have hcz_2 : w5.cell? ⟨w1.heap.size, 2, none⟩ = some (.string (⟨#[]⟩ : ByteArray)) := (blk_cell BK.out 2).trans rfl))); (go_ret2); exact ⟨badV 220, rfl, (HTAIL.out xs hrs).host (by rw [show cntF xs nLen 0 (⟨#[]⟩ : ByteArray) = (n1, v1) from E123.out.1]; exact of_decide_eq_false d1) rfl (by rw [show cntF xs nHost 0 (⟨#[]⟩ : ByteArray) = (n2, v2) from E123.out.2.1]; exact h2) _ (below_step HB1.out HB.out)⟩
     ·
      have hh : hosts = false ∨ (hosts = true ∧ n2 = 1) := by
       cases hosts with
       | false => exact .inl rfl
       | true => exact .inr ⟨rfl, Decidable.not_not.1 (fun h => h2 ⟨rfl, h⟩)⟩
      clear h2
      have RO := zM ((HTAIL.out xs hrs).rest ⟨by rw [show cntF xs nLen 0 (⟨#[]⟩ : ByteArray) = (n1, v1) from E123.out.1]; exact of_decide_eq_false d1, by
       rw [show cntF xs nHost 0 (⟨#[]⟩ : ByteArray) = (n2, v2) from E123.out.2.1]
       rintro ⟨e1, e2⟩
       rcases hh with e | ⟨_, e⟩
       ·
        rw [e] at e1; cases e1
       ·
        exact e2 e⟩)
      obtain ⟨sz, hsz⟩ := RO.out.def_
      have SZ := zM hsz
      unfold sizeF at hsz
      rw [show cntF xs nLen 0 (⟨#[]⟩ : ByteArray) = (n1, v1) from E123.out.1] at hsz
      dsimp only at hsz
      rcases hh with rfl | ⟨rfl, rfl⟩
      all_goals
       by_cases h3 : n1 = 1
       ·
        (have d4 : (n1 == 1) = true := beq_iff_eq.mpr h3); rw [if_pos h3] at hsz; by_cases h4 : v1.toList = []
        ·
         (have d6 : (v1.toList == ([] : List UInt8)) = true := beq_iff_eq.mpr h4); (have d6b : v1.toList.isEmpty = true := List.isEmpty_iff.mpr h4); rw [if_pos h4] at hsz
         cases hsz
         clear h4 h3; (go_wp2_with (first | (go_at_call 22; (with_reducible refine (CNT1.out _ BK.out HO.out).mono ?_); rintro e w5 ⟨rfl, hb5⟩; have n1_ := zM (blk_below BK.out hb5); have n2_ := zM (Kd.R_below HO.out hb5); have n3_ := zM (below_step HB.out hb5); clear BK HO HB; have BK := n1_; have HO := n2_; have HB := n3_; clear n1_ n2_ n3_ hb5) | (go_at_call 22; (with_reducible refine (CNT2.out _ BK.out HO.out).mono ?_); rintro e w5 ⟨rfl, hb5⟩; have n1_ := zM (blk_below BK.out hb5); have n2_ := zM (Kd.R_below HO.out hb5); have n3_ := zM (below_step HB.out hb5); clear BK HO HB; have BK := n1_; have HO := n2_; have HB := n3_; clear n1_ n2_ n3_ hb5) | (go_at_call 22; (with_reducible refine (CNT3.out _ BK.out HO.out).mono ?_); rintro e w5 ⟨rfl, hb5⟩; have n1_ := zM (blk_below BK.out hb5); have n2_ := zM (Kd.R_below HO.out hb5); have n3_ := zM (below_step HB.out hb5); clear BK HO HB; have BK := n1_; have HO := n2_; have HB := n3_; clear n1_ n2_ n3_ hb5; have hcz_3 : w5.cell? ⟨w1.heap.size, 3, none⟩ = some (.int .i64 ((k : Int) + 4)) := (blk_cell BK.out 3).trans rfl; have hfz_3 := blk_frozen BK.out 3; have hfz_2 := blk_frozen BK.out 2; have hcz_2 : w5.cell? ⟨w1.heap.size, 2, none⟩ = some (.string (⟨#[]⟩ : ByteArray)) := (blk_cell BK.out 2).trans rfl))); (go_ret2); exact ⟨badV 222, rfl, RO.out.size0 SZ.out _ (below_step HB1.out HB.out)⟩
        (have d6 : (v1.toList == ([] : List UInt8)) = false := beq_eq_false_iff_ne.mpr h4); (have d6b : v1.toList.isEmpty = false := List.isEmpty_eq_false_iff.mpr h4); rw [if_neg h4] at hsz; clear h4; by_cases h4 : 9 < v1.size
        ·
         (have d9 : decide ((9 : Int) < (v1.size : Int)) = true := decide_eq_true (by omega)); (have d9b : decide (9 < v1.size) = true := decide_eq_true h4); rw [if_pos h4] at hsz
         cases hsz
         clear h4 h3; (go_wp2_with (first | (go_at_call 22; (with_reducible refine (CNT1.out _ BK.out HO.out).mono ?_); rintro e w5 ⟨rfl, hb5⟩; have n1_ := zM (blk_below BK.out hb5); have n2_ := zM (Kd.R_below HO.out hb5); have n3_ := zM (below_step HB.out hb5); clear BK HO HB; have BK := n1_; have HO := n2_; have HB := n3_; clear n1_ n2_ n3_ hb5) | (go_at_call 22; (with_reducible refine (CNT2.out _ BK.out HO.out).mono ?_); rintro e w5 ⟨rfl, hb5⟩; have n1_ := zM (blk_below BK.out hb5); have n2_ := zM (Kd.R_below HO.out hb5); have n3_ := zM (below_step HB.out hb5); clear BK HO HB; have BK := n1_; have HO := n2_; have HB := n3_; clear n1_ n2_ n3_ hb5) | (go_at_call 22; (with_reducible refine (CNT3.out _ BK.out HO.out).mono ?_); rintro e w5 ⟨rfl, hb5⟩; have n1_ := zM (blk_below BK.out hb5); have n2_ := zM (Kd.R_below HO.out hb5); have n3_ := zM (below_step HB.out hb5); clear BK HO HB; have BK := n1_; have HO := n2_; have HB := n3_; clear n1_ n2_ n3_ hb5; have hcz_3 : w5.cell? ⟨w1.heap.size, 3, none⟩ = some (.int .i64 ((k : Int) + 4)) := (blk_cell BK.out 3).trans rfl; have hfz_3 := blk_frozen BK.out 3; have hfz_2 := blk_frozen BK.out 2; have hcz_2 : w5.cell? ⟨w1.heap.size, 2, none⟩ = some (.string (⟨#[]⟩ : ByteArray)) := (blk_cell BK.out 2).trans rfl))); (go_ret2); exact ⟨badV 222, rfl, RO.out.size0 SZ.out _ (below_step HB1.out HB.out)⟩
        (have d9 : decide ((9 : Int) < (v1.size : Int)) = false := decide_eq_false (by omega)); (have d9b : decide (9 < v1.size) = false := decide_eq_false h4); rw [if_neg h4] at hsz; clear h4 h3; (obtain ⟨t, htr, hsz⟩ := Option.bind_eq_some_iff.mp hsz); (have CT := zM (fun W => strings_Trim.calls v1 _ t W htr)); clear htr; by_cases h4 : t.toList ≠ []
        ·
         (have d10 : (t.toList == ([] : List UInt8)) = false := beq_eq_false_iff_ne.mpr h4); (have d10b : t.toList.isEmpty = false := List.isEmpty_eq_false_iff.mpr h4); rw [if_pos h4] at hsz
         cases hsz
         clear h4; (go_wp2_with (first | (go_at_call 22; (with_reducible refine (CNT1.out _ BK.out HO.out).mono ?_); rintro e w5 ⟨rfl, hb5⟩; have n1_ := zM (blk_below BK.out hb5); have n2_ := zM (Kd.R_below HO.out hb5); have n3_ := zM (below_step HB.out hb5); clear BK HO HB; have BK := n1_; have HO := n2_; have HB := n3_; clear n1_ n2_ n3_ hb5) | (go_at_call 22; (with_reducible refine (CNT2.out _ BK.out HO.out).mono ?_); rintro e w5 ⟨rfl, hb5⟩; have n1_ := zM (blk_below BK.out hb5); have n2_ := zM (Kd.R_below HO.out hb5); have n3_ := zM (below_step HB.out hb5); clear BK HO HB; have BK := n1_; have HO := n2_; have HB := n3_; clear n1_ n2_ n3_ hb5) | (go_at_call 22; (with_reducible refine (CNT3.out _ BK.out HO.out).mono ?_); rintro e w5 ⟨rfl, hb5⟩; have n1_ := zM (blk_below BK.out hb5); have n2_ := zM (Kd.R_below HO.out hb5); have n3_ := zM (below_step HB.out hb5); clear BK HO HB; have BK := n1_; have HO := n2_; have HB := n3_; clear n1_ n2_ n3_ hb5; have hcz_3 : w5.cell? ⟨w1.heap.size, 3, none⟩ = some (.int .i64 ((k : Int) + 4)) := (blk_cell BK.out 3).trans rfl; have hfz_3 := blk_frozen BK.out 3; have hfz_2 := blk_frozen BK.out 2; have hcz_2 : w5.cell? ⟨w1.heap.size, 2, none⟩ = some (.string (⟨#[]⟩ : ByteArray)) := (blk_cell BK.out 2).trans rfl) | (go_at_call 35; (with_reducible refine (CT.out _).mono ?_); rintro e w5 ⟨rfl, hb5⟩; have n1_ := zM (blk_below BK.out hb5); have n2_ := zM (Kd.R_below HO.out hb5); have n3_ := zM (below_step HB.out hb5); clear BK HO HB; have BK := n1_; have HO := n2_; have HB := n3_; clear n1_ n2_ n3_ hb5))); (go_ret2); exact ⟨badV 222, rfl, RO.out.size0 SZ.out _ (below_step HB1.out HB.out)⟩
        rw [if_neg h4] at hsz; (have h4' := Decidable.not_not.mp h4); (have d10 : (t.toList == ([] : List UInt8)) = true := beq_iff_eq.mpr h4'); (have d10b : t.toList.isEmpty = true := List.isEmpty_iff.mpr h4'); clear h4 h4'; (obtain ⟨⟨s0, s1⟩, hat, hsz⟩ := Option.bind_eq_some_iff.mp hsz); (by_cases h4 : 0 ≤ s0); rotate_left
        ·
         (dsimp only at hsz); rw [if_neg h4] at hsz
         cases hsz
        (obtain ⟨s, rfl⟩ := Int.eq_ofNat_of_zero_le h4); (dsimp only at hsz); rw [if_pos h4] at hsz
        cases hsz
        (replace SZ := zM (show sizeF xs = some (some s) from SZ.out)); (have CA := zM (fun W hT' => strconv_Atoi.calls v1 _ _ W hT' hat)); clear hat h4; by_cases h5 : 0 < n3
        ·
         (have d5 : decide (0 < n3) = true := decide_eq_true h5); (go_wp2_with (first | (go_at_call 22; (with_reducible refine (CNT1.out _ BK.out HO.out).mono ?_); rintro e w5 ⟨rfl, hb5⟩; have n1_ := zM (blk_below BK.out hb5); have n2_ := zM (Kd.R_below HO.out hb5); have n3_ := zM (below_step HB.out hb5); clear BK HO HB; have BK := n1_; have HO := n2_; have HB := n3_; clear n1_ n2_ n3_ hb5) | (go_at_call 22; (with_reducible refine (CNT2.out _ BK.out HO.out).mono ?_); rintro e w5 ⟨rfl, hb5⟩; have n1_ := zM (blk_below BK.out hb5); have n2_ := zM (Kd.R_below HO.out hb5); have n3_ := zM (below_step HB.out hb5); clear BK HO HB; have BK := n1_; have HO := n2_; have HB := n3_; clear n1_ n2_ n3_ hb5) | (go_at_call 22; (with_reducible refine (CNT3.out _ BK.out HO.out).mono ?_); rintro e w5 ⟨rfl, hb5⟩; have n1_ := zM (blk_below BK.out hb5); have n2_ := zM (Kd.R_below HO.out hb5); have n3_ := zM (below_step HB.out hb5); clear BK HO HB; have BK := n1_; have HO := n2_; have HB := n3_; clear n1_ n2_ n3_ hb5; have hcz_3 : w5.cell? ⟨w1.heap.size, 3, none⟩ = some (.int .i64 ((k : Int) + 4)) := (blk_cell BK.out 3).trans rfl; have hfz_3 := blk_frozen BK.out 3; have hfz_2 := blk_frozen BK.out 2; have hcz_2 : w5.cell? ⟨w1.heap.size, 2, none⟩ = some (.string (⟨#[]⟩ : ByteArray)) := (blk_cell BK.out 2).trans rfl) | (go_at_call 35; (with_reducible refine (CT.out _).mono ?_); rintro e w5 ⟨rfl, hb5⟩; have n1_ := zM (blk_below BK.out hb5); have n2_ := zM (Kd.R_below HO.out hb5); have n3_ := zM (below_step HB.out hb5); clear BK HO HB; have BK := n1_; have HO := n2_; have HB := n3_; clear n1_ n2_ n3_ hb5) | (go_at_call 39; (with_reducible refine (CA.out _ ⟨TabsOk.below hT.out (below_step HB1.out HB.out)⟩).mono ?_); rintro e w5 ⟨rfl, hb5⟩; have n1_ := zM (blk_below BK.out hb5); have n2_ := zM (Kd.R_below HO.out hb5); have n3_ := zM (below_step HB.out hb5); clear BK HO HB; have BK := n1_; have HO := n2_; have HB := n3_; clear n1_ n2_ n3_ hb5))); (go_ret2); exact ⟨badV 222, rfl, RO.out.big _ SZ.out (.inl (by rw [show cntF xs nCoded 0 (⟨#[]⟩ : ByteArray) = (n3, v3) from E123.out.2.2]; exact h5)) _ (below_step HB1.out HB.out)⟩
        (have d5 : decide (0 < n3) = false := decide_eq_false h5); (have H5 := zM h5); clear h5; by_cases h6 : 4096 < s
        ·
         (have d7 : decide ((4096 : Int) < (s : Int)) = true := decide_eq_true (by omega)); (have d7b : decide (4096 < s) = true := decide_eq_true h6); (go_wp2_with (first | (go_at_call 22; (with_reducible refine (CNT1.out _ BK.out HO.out).mono ?_); rintro e w5 ⟨rfl, hb5⟩; have n1_ := zM (blk_below BK.out hb5); have n2_ := zM (Kd.R_below HO.out hb5); have n3_ := zM (below_step HB.out hb5); clear BK HO HB; have BK := n1_; have HO := n2_; have HB := n3_; clear n1_ n2_ n3_ hb5) | (go_at_call 22; (with_reducible refine (CNT2.out _ BK.out HO.out).mono ?_); rintro e w5 ⟨rfl, hb5⟩; have n1_ := zM (blk_below BK.out hb5); have n2_ := zM (Kd.R_below HO.out hb5); have n3_ := zM (below_step HB.out hb5); clear BK HO HB; have BK := n1_; have HO := n2_; have HB := n3_; clear n1_ n2_ n3_ hb5) | (go_at_call 22; (with_reducible refine (CNT3.out _ BK.out HO.out).mono ?_); rintro e w5 ⟨rfl, hb5⟩; have n1_ := zM (blk_below BK.out hb5); have n2_ := zM (Kd.R_below HO.out hb5); have n3_ := zM (below_step HB.out hb5); clear BK HO HB; have BK := n1_; have HO := n2_; have HB := n3_; clear n1_ n2_ n3_ hb5; have hcz_3 : w5.cell? ⟨w1.heap.size, 3, none⟩ = some (.int .i64 ((k : Int) + 4)) := (blk_cell BK.out 3).trans rfl; have hfz_3 := blk_frozen BK.out 3; have hfz_2 := blk_frozen BK.out 2; have hcz_2 : w5.cell? ⟨w1.heap.size, 2, none⟩ = some (.string (⟨#[]⟩ : ByteArray)) := (blk_cell BK.out 2).trans rfl) | (go_at_call 35; (with_reducible refine (CT.out _).mono ?_); rintro e w5 ⟨rfl, hb5⟩; have n1_ := zM (blk_below BK.out hb5); have n2_ := zM (Kd.R_below HO.out hb5); have n3_ := zM (below_step HB.out hb5); clear BK HO HB; have BK := n1_; have HO := n2_; have HB := n3_; clear n1_ n2_ n3_ hb5) | (go_at_call 39; (with_reducible refine (CA.out _ ⟨TabsOk.below hT.out (below_step HB1.out HB.out)⟩).mono ?_); rintro e w5 ⟨rfl, hb5⟩; have n1_ := zM (blk_below BK.out hb5); have n2_ := zM (Kd.R_below HO.out hb5); have n3_ := zM (below_step HB.out hb5); clear BK HO HB; have BK := n1_; have HO := n2_; have HB := n3_; clear n1_ n2_ n3_ hb5))); (go_ret2); exact ⟨badV 222, rfl, RO.out.big _ SZ.out (.inr (of_decide_eq_true d7b)) _ (below_step HB1.out HB.out)⟩
        (have d7 : decide ((4096 : Int) < (s : Int)) = false := decide_eq_false (by omega)); (have d7b : decide (4096 < s) = false := decide_eq_false h6); (have H6 := zM h6); clear h6; (obtain ⟨hk1, hk2, hk3, hk4⟩ := HK.out); (have q4 : wrap64 ((b.size : Int) - ((k : Int) + 4)) = (b.size : Int) - ((k : Int) + 4) := by unfold wrap64; omega); (have q5 : wrap64 ((k : Int) + 4 + (s : Int)) = (k : Int) + 4 + (s : Int) := by have := H6.out; unfold wrap64; omega); by_cases h7 : b.size < k + 4 + s
        ·
         (have d8 : decide ((b.size : Int) - ((k : Int) + 4) < (s : Int)) = true := decide_eq_true (by omega)); (have H7 := zM h7); clear h7 hk1 hk2 hk3 hk4; (go_wp2_with (first | (go_at_call 22; (with_reducible refine (CNT1.out _ BK.out HO.out).mono ?_); rintro e w5 ⟨rfl, hb5⟩; have n1_ := zM (blk_below BK.out hb5); have n2_ := zM (Kd.R_below HO.out hb5); have n3_ := zM (below_step HB.out hb5); clear BK HO HB; have BK := n1_; have HO := n2_; have HB := n3_; clear n1_ n2_ n3_ hb5) | (go_at_call 22; (with_reducible refine (CNT2.out _ BK.out HO.out).mono ?_); rintro e w5 ⟨rfl, hb5⟩; have n1_ := zM (blk_below BK.out hb5); have n2_ := zM (Kd.R_below HO.out hb5); have n3_ := zM (below_step HB.out hb5); clear BK HO HB; have BK := n1_; have HO := n2_; have HB := n3_; clear n1_ n2_ n3_ hb5) | (go_at_call 22; (with_reducible refine (CNT3.out _ BK.out HO.out).mono ?_); rintro e w5 ⟨rfl, hb5⟩; have n1_ := zM (blk_below BK.out hb5); have n2_ := zM (Kd.R_below HO.out hb5); have n3_ := zM (below_step HB.out hb5); clear BK HO HB; have BK := n1_; have HO := n2_; have HB := n3_; clear n1_ n2_ n3_ hb5; have hcz_3 : w5.cell? ⟨w1.heap.size, 3, none⟩ = some (.int .i64 ((k : Int) + 4)) := (blk_cell BK.out 3).trans rfl; have hfz_3 := blk_frozen BK.out 3; have hfz_2 := blk_frozen BK.out 2; have hcz_2 : w5.cell? ⟨w1.heap.size, 2, none⟩ = some (.string (⟨#[]⟩ : ByteArray)) := (blk_cell BK.out 2).trans rfl) | (go_at_call 35; (with_reducible refine (CT.out _).mono ?_); rintro e w5 ⟨rfl, hb5⟩; have n1_ := zM (blk_below BK.out hb5); have n2_ := zM (Kd.R_below HO.out hb5); have n3_ := zM (below_step HB.out hb5); clear BK HO HB; have BK := n1_; have HO := n2_; have HB := n3_; clear n1_ n2_ n3_ hb5) | (go_at_call 39; (with_reducible refine (CA.out _ ⟨TabsOk.below hT.out (below_step HB1.out HB.out)⟩).mono ?_); rintro e w5 ⟨rfl, hb5⟩; have n1_ := zM (blk_below BK.out hb5); have n2_ := zM (Kd.R_below HO.out hb5); have n3_ := zM (below_step HB.out hb5); clear BK HO HB; have BK := n1_; have HO := n2_; have HB := n3_; clear n1_ n2_ n3_ hb5))); (go_ret2); exact ⟨badV 3, rfl, RO.out.short _ SZ.out (by rw [show cntF xs nCoded 0 (⟨#[]⟩ : ByteArray) = (n3, v3) from E123.out.2.2]; exact (by have := H5.out; omega)) (Nat.le_of_not_lt H6.out) H7.out _ (below_step HB1.out HB.out)⟩
        (have d8 : decide ((b.size : Int) - ((k : Int) + 4) < (s : Int)) = false := decide_eq_false (by omega)); (have H7 := zM (show k + 4 + s ≤ b.size by omega)); (have r1 : (0 ≤ (k : Int) + 4) = True := eq_true (by omega)); (have r2 : ((k : Int) + 4 ≤ (k : Int) + 4 + (s : Int)) = True := eq_true (by omega)); (have r3 : ((k : Int) + 4 + (s : Int) ≤ (b.size : Int)) = True := eq_true (by omega)); clear h7 hk1 hk2 hk3 hk4; (go_wp2_with (first | (go_at_call 22; (with_reducible refine (CNT1.out _ BK.out HO.out).mono ?_); rintro e w5 ⟨rfl, hb5⟩; have n1_ := zM (blk_below BK.out hb5); have n2_ := zM (Kd.R_below HO.out hb5); have n3_ := zM (below_step HB.out hb5); clear BK HO HB; have BK := n1_; have HO := n2_; have HB := n3_; clear n1_ n2_ n3_ hb5) | (go_at_call 22; (with_reducible refine (CNT2.out _ BK.out HO.out).mono ?_); rintro e w5 ⟨rfl, hb5⟩; have n1_ := zM (blk_below BK.out hb5); have n2_ := zM (Kd.R_below HO.out hb5); have n3_ := zM (below_step HB.out hb5); clear BK HO HB; have BK := n1_; have HO := n2_; have HB := n3_; clear n1_ n2_ n3_ hb5) | (go_at_call 22; (with_reducible refine (CNT3.out _ BK.out HO.out).mono ?_); rintro e w5 ⟨rfl, hb5⟩; have n1_ := zM (blk_below BK.out hb5); have n2_ := zM (Kd.R_below HO.out hb5); have n3_ := zM (below_step HB.out hb5); clear BK HO HB; have BK := n1_; have HO := n2_; have HB := n3_; clear n1_ n2_ n3_ hb5; have hcz_3 : w5.cell? ⟨w1.heap.size, 3, none⟩ = some (.int .i64 ((k : Int) + 4)) := (blk_cell BK.out 3).trans rfl; have hfz_3 := blk_frozen BK.out 3; have hfz_2 := blk_frozen BK.out 2; have hcz_2 : w5.cell? ⟨w1.heap.size, 2, none⟩ = some (.string (⟨#[]⟩ : ByteArray)) := (blk_cell BK.out 2).trans rfl) | (go_at_call 35; (with_reducible refine (CT.out _).mono ?_); rintro e w5 ⟨rfl, hb5⟩; have n1_ := zM (blk_below BK.out hb5); have n2_ := zM (Kd.R_below HO.out hb5); have n3_ := zM (below_step HB.out hb5); clear BK HO HB; have BK := n1_; have HO := n2_; have HB := n3_; clear n1_ n2_ n3_ hb5) | (go_at_call 39; (with_reducible refine (CA.out _ ⟨TabsOk.below hT.out (below_step HB1.out HB.out)⟩).mono ?_); rintro e w5 ⟨rfl, hb5⟩; have n1_ := zM (blk_below BK.out hb5); have n2_ := zM (Kd.R_below HO.out hb5); have n3_ := zM (below_step HB.out hb5); clear BK HO HB; have BK := n1_; have HO := n2_; have HB := n3_; clear n1_ n2_ n3_ hb5))); (replace BK := zM (blk_drew BK.out)); (replace HO := zM (Kd.R_drew HO.out)); (replace HB := zM (below_drew HB.out)); (refine start_ (n := 16) (S := fun w' => w'.cell? ⟨w1.heap.size, 3, none⟩ = some (.int .i64 ((k : Int) + 4))) (ds := [15]) #[false, false, false, false, false, false, false, false, false, false, false, false, false, false, false, false] (by kernel_rfl) rfl rfl ((blk_cell BK.out 3).trans rfl) (fun hHeld => ?_)); (refine with_tabW http_read.tab33 http_read.bits33 (fun HT_ HW_ => ?_)); (generalize w5.drew = W8 at HO BK HB hHeld ⊢); (refine pure_ (i := 0) (N := some 164) (v := ?_) (a' := ?_) #[true, false, false, false, false, false, false, false, false, false, false, false, false, false, false, false] rfl rfl (any_of HT_.out (by kernel_rfl)) (fun _ _ _ h => h) (Or.inl ⟨by rfl, ?_⟩) ?_ ?_); rotate_left
        ·
         intro w'; go_simp; with_reducible rfl
        rotate_left
        ·
         simp only [Act.put, zS, zI]; rfl
        (refine pure_ (i := 1) (N := some 165) (v := ?_) (a' := ?_) #[true, true, false, false, false, false, false, false, false, false, false, false, false, false, false, false] rfl rfl (any_of HT_.out (by kernel_rfl)) (fun _ _ _ h => h) (Or.inl ⟨by rfl, ?_⟩) ?_ ?_); rotate_left
        ·
         intro w'; go_simp; with_reducible rfl
        rotate_left
        ·
         simp only [Act.put, zS, zI]; rfl
        (refine pure_ (i := 2) (N := some 166) (v := ?_) (a' := ?_) #[true, true, true, false, false, false, false, false, false, false, false, false, false, false, false, false] rfl rfl (any_of HT_.out (by kernel_rfl)) (fun _ _ _ h => h) (Or.inl ⟨by rfl, ?_⟩) ?_ ?_); rotate_left
        ·
         intro w'; go_simp; with_reducible rfl
        rotate_left
        ·
         simp only [Act.put, zS, zI]; rfl
        (refine pure_ (i := 3) (N := some 167) (v := ?_) (a' := ?_) #[true, true, true, true, false, false, false, false, false, false, false, false, false, false, false, false] rfl rfl (any_of HT_.out (by kernel_rfl)) (fun _ _ _ h => h) (Or.inl ⟨by rfl, ?_⟩) ?_ ?_); rotate_left
        ·
         intro w'; go_simp; with_reducible rfl
        rotate_left
        ·
         simp only [Act.put, zS, zI]; rfl
        (refine pure_ (i := 4) (N := some 168) (v := ?_) (a' := ?_) #[true, true, true, true, true, false, false, false, false, false, false, false, false, false, false, false] rfl rfl (any_of HT_.out (by kernel_rfl)) (fun _ _ _ h => h) (Or.inl ⟨by rfl, ?_⟩) ?_ ?_); rotate_left
        ·
         intro w'; go_simp; with_reducible rfl
        rotate_left
        ·
         simp only [Act.put, zS, zI]; rfl
        (refine pure_ (i := 6) (N := some 170) (v := ?_) (a' := ?_) #[true, true, true, true, true, false, true, false, false, false, false, false, false, false, false, false] rfl rfl (any_of HT_.out (by kernel_rfl)) (fun _ _ _ h => h) (Or.inl ⟨by rfl, ?_⟩) ?_ ?_); rotate_left
        ·
         intro w'; go_simp; with_reducible rfl
        rotate_left
        ·
         simp only [Act.put, zS, zI]; rfl
        (refine pure_ (i := 7) (N := some 171) (v := ?_) (a' := ?_) #[true, true, true, true, true, false, true, true, false, false, false, false, false, false, false, false] rfl rfl (any_of HT_.out (by kernel_rfl)) (fun _ _ _ h => h) (Or.inl ⟨by rfl, ?_⟩) ?_ ?_); rotate_left
        ·
         intro w'; go_simp; with_reducible rfl
        rotate_left
        ·
         simp only [Act.put, zS, zI]; rfl
        (refine pure_ (i := 8) (N := some 172) (v := ?_) (a' := ?_) #[true, true, true, true, true, false, true, true, true, false, false, false, false, false, false, false] rfl rfl (any_of HT_.out (by kernel_rfl)) (fun _ _ _ h => h) (Or.inl ⟨by rfl, ?_⟩) ?_ ?_); rotate_left
        ·
         intro w'; go_simp; with_reducible rfl
        rotate_left
        ·
         simp only [Act.put, zS, zI]; rfl
        (refine pure_ (i := 10) (N := some 174) (v := ?_) (a' := ?_) #[true, true, true, true, true, false, true, true, true, false, true, false, false, false, false, false] rfl rfl (any_of HT_.out (by kernel_rfl)) (fun _ _ _ h => h) (Or.inl ⟨by rfl, ?_⟩) ?_ ?_); rotate_left
        ·
         intro w'; go_simp; with_reducible rfl
        rotate_left
        ·
         simp only [Act.put, zS, zI]; rfl
        (refine take_ (i := 5) (N := some 169) (v := ?_) (a' := ?_) #[true, true, true, true, true, true, true, true, true, false, true, false, false, false, false, false] rfl rfl (take_ofW HT_.out HW_.out (by kernel_rfl)) (fun _ _ _ h => h) (Or.inl ⟨by rfl, ?_⟩) hHeld ?_ ?_); rotate_left
        ·
         intro w' s1; go_simp; with_reducible rfl
        rotate_left
        ·
         simp only [Act.put, zS, zI]; rfl
        (refine take_ (i := 9) (N := some 173) (v := ?_) (a' := ?_) #[true, true, true, true, true, true, true, true, true, true, true, false, false, false, false, false] rfl rfl (take_ofW HT_.out HW_.out (by kernel_rfl)) (fun _ _ _ h => h) (Or.inl ⟨by rfl, ?_⟩) hHeld ?_ ?_); rotate_left
        ·
         intro w' s1; go_simp; with_reducible rfl
        rotate_left
        ·
         simp only [Act.put, zS, zI]; rfl
        (refine pure_ (i := 11) (N := some 175) (v := ?_) (a' := ?_) #[true, true, true, true, true, true, true, true, true, true, true, true, false, false, false, false] rfl rfl (any_of HT_.out (by kernel_rfl)) (fun _ _ _ h => h) (Or.inl ⟨by rfl, ?_⟩) ?_ ?_); rotate_left
        ·
         intro w'; go_simp; with_reducible rfl
        rotate_left
        ·
         simp only [Act.put, zS, zI]; rfl
        (refine pure_ (i := 12) (N := some 176) (v := ?_) (a' := ?_) #[true, true, true, true, true, true, true, true, true, true, true, true, true, false, false, false] rfl rfl (any_of HT_.out (by kernel_rfl)) (fun _ _ _ h => h) (Or.inl ⟨by rfl, ?_⟩) ?_ ?_); rotate_left
        ·
         intro w'; go_simp; with_reducible rfl
        rotate_left
        ·
         simp only [Act.put, zS, zI]; rfl
        (refine pure_ (i := 13) (N := some 177) (v := ?_) (a' := ?_) #[true, true, true, true, true, true, true, true, true, true, true, true, true, true, false, false] rfl rfl (any_of HT_.out (by kernel_rfl)) (fun _ _ _ h => h) (Or.inl ⟨by rfl, ?_⟩) ?_ ?_); rotate_left
        ·
         intro w'; go_simp; with_reducible rfl
        rotate_left
        ·
         simp only [Act.put, zS, zI]; rfl
        (refine pure_ (i := 14) (N := some 178) (v := ?_) (a' := ?_) #[true, true, true, true, true, true, true, true, true, true, true, true, true, true, true, false] rfl rfl (any_of HT_.out (by kernel_rfl)) (fun _ _ _ h => h) (Or.inl ⟨by rfl, ?_⟩) ?_ ?_); rotate_left
        ·
         intro w'; go_simp; with_reducible rfl
        rotate_left
        ·
         simp only [Act.put, zS, zI]; rfl
        (refine last_ (i := 15) (N := none) #[true, true, true, true, true, true, true, true, true, true, true, true, true, true, true, true] rfl rfl (one_of HT_.out (by kernel_rfl)) (by decide) (fun K hK => ?_)); (have hs1 : W8.cell? ⟨w1.heap.size, 2, none⟩ = some (.string (⟨#[]⟩ : ByteArray)) := (blk_cell BK.out 2).trans rfl); (have hf1 := blk_frozen BK.out 2); (refine skip_ (w1 := ?_) (by rfl) rfl ?_ ?_); rotate_left
        ·
         go_simp; rfl
        (refine hK.out _ _ ?_); clear hK K; (refine done_ (done_of HT_.out (by kernel_rfl)) ?_); (rw [show ((k : Int) + 4).toNat = k + 4 from by omega, show ((k : Int) + 4 + (s : Int)).toNat = k + 4 + s from by omega]); (replace BK := zM (show (W8.setCell ⟨w1.heap.size, 2, none⟩ (.string (b.extract (k + 4) (k + 4 + s)))).heap[w1.heap.size]? = some (.cells #[.string l0, .slice A2 xs.length c2, .string (b.extract (k + 4) (k + 4 + s)), .int .i64 ((k : Int) + 4)] 61 (0, 0)) from blk_put BK.out 2 _ rfl)); (replace HO := zM (Kd.R_far (p := ⟨w1.heap.size, 2, none⟩) HO.out (fun q hq => hq) (.string (b.extract (k + 4) (k + 4 + s))))); (replace HB := zM (show Below w1.heap.size w1 (W8.setCell ⟨w1.heap.size, 2, none⟩ (.string (b.extract (k + 4) (k + 4 + s)))) from below_set HB.out (Nat.le_refl _))); (generalize W8.setCell ⟨w1.heap.size, 2, none⟩ (.string (b.extract (k + 4) (k + 4 + s))) = W9 at BK HO HB ⊢); (have hcy_3 : W9.cell? ⟨w1.heap.size, 3, none⟩ = some (.int .i64 ((k : Int) + 4)) := (blk_cell BK.out 3).trans rfl); (have hfy_3 := blk_frozen BK.out 3); (go_wp2); (go_ret2); (refine ⟨_, rfl, RO.out.good s SZ.out (by rw [show cntF xs nCoded 0 (⟨#[]⟩ : ByteArray) = (n3, v3) from E123.out.2.2]; exact (by have := H5.out; omega)) (Nat.le_of_not_lt H6.out) H7.out _ w1.heap.size A2 c2 ?_ (Kd.R_far (p := ⟨w1.heap.size, 3, none⟩) HO.out (fun q hq => hq) _) (below_step HB1.out (below_set HB.out (Nat.le_refl _)))⟩); exact (blk_put BK.out 3 _ rfl).trans (by simp)
       ·
        (have d4 : (n1 == 1) = false := beq_eq_false_iff_ne.mpr h3); rw [if_neg h3] at hsz
        cases hsz
        clear h3; by_cases h5 : 0 < n3
        ·
         (have d5 : decide (0 < n3) = true := decide_eq_true h5); (go_wp2_with (first | (go_at_call 22; (with_reducible refine (CNT1.out _ BK.out HO.out).mono ?_); rintro e w5 ⟨rfl, hb5⟩; have n1_ := zM (blk_below BK.out hb5); have n2_ := zM (Kd.R_below HO.out hb5); have n3_ := zM (below_step HB.out hb5); clear BK HO HB; have BK := n1_; have HO := n2_; have HB := n3_; clear n1_ n2_ n3_ hb5) | (go_at_call 22; (with_reducible refine (CNT2.out _ BK.out HO.out).mono ?_); rintro e w5 ⟨rfl, hb5⟩; have n1_ := zM (blk_below BK.out hb5); have n2_ := zM (Kd.R_below HO.out hb5); have n3_ := zM (below_step HB.out hb5); clear BK HO HB; have BK := n1_; have HO := n2_; have HB := n3_; clear n1_ n2_ n3_ hb5) | (go_at_call 22; (with_reducible refine (CNT3.out _ BK.out HO.out).mono ?_); rintro e w5 ⟨rfl, hb5⟩; have n1_ := zM (blk_below BK.out hb5); have n2_ := zM (Kd.R_below HO.out hb5); have n3_ := zM (below_step HB.out hb5); clear BK HO HB; have BK := n1_; have HO := n2_; have HB := n3_; clear n1_ n2_ n3_ hb5; have hcz_3 : w5.cell? ⟨w1.heap.size, 3, none⟩ = some (.int .i64 ((k : Int) + 4)) := (blk_cell BK.out 3).trans rfl; have hfz_3 := blk_frozen BK.out 3; have hfz_2 := blk_frozen BK.out 2; have hcz_2 : w5.cell? ⟨w1.heap.size, 2, none⟩ = some (.string (⟨#[]⟩ : ByteArray)) := (blk_cell BK.out 2).trans rfl))); (go_ret2); exact ⟨badV 222, rfl, RO.out.big _ SZ.out (.inl (by rw [show cntF xs nCoded 0 (⟨#[]⟩ : ByteArray) = (n3, v3) from E123.out.2.2]; exact h5)) _ (below_step HB1.out HB.out)⟩
        (have d5 : decide (0 < n3) = false := decide_eq_false h5); (have H5 := zM h5); clear h5; (obtain ⟨hk1, hk2, hk3, hk4⟩ := HK.out); (have q4 : wrap64 ((b.size : Int) - ((k : Int) + 4)) = (b.size : Int) - ((k : Int) + 4) := by unfold wrap64; omega); (have q5 : wrap64 ((k : Int) + 4 + 0) = (k : Int) + 4 := by unfold wrap64; omega); (have d8 : decide ((b.size : Int) - ((k : Int) + 4) < 0) = false := decide_eq_false (by omega)); (have H6 := zM (show ¬ 4096 < 0 by omega)); (have H7 := zM (show k + 4 + 0 ≤ b.size by omega)); (have r1 : (0 ≤ (k : Int) + 4) = True := eq_true (by omega)); (have r2 : ((k : Int) + 4 ≤ (k : Int) + 4) = True := eq_true (by omega)); (have r3 : ((k : Int) + 4 ≤ (b.size : Int)) = True := eq_true (by omega)); clear hk1 hk2 hk3 hk4; (go_wp2_with (first | (go_at_call 22; (with_reducible refine (CNT1.out _ BK.out HO.out).mono ?_); rintro e w5 ⟨rfl, hb5⟩; have n1_ := zM (blk_below BK.out hb5); have n2_ := zM (Kd.R_below HO.out hb5); have n3_ := zM (below_step HB.out hb5); clear BK HO HB; have BK := n1_; have HO := n2_; have HB := n3_; clear n1_ n2_ n3_ hb5) | (go_at_call 22; (with_reducible refine (CNT2.out _ BK.out HO.out).mono ?_); rintro e w5 ⟨rfl, hb5⟩; have n1_ := zM (blk_below BK.out hb5); have n2_ := zM (Kd.R_below HO.out hb5); have n3_ := zM (below_step HB.out hb5); clear BK HO HB; have BK := n1_; have HO := n2_; have HB := n3_; clear n1_ n2_ n3_ hb5) | (go_at_call 22; (with_reducible refine (CNT3.out _ BK.out HO.out).mono ?_); rintro e w5 ⟨rfl, hb5⟩; have n1_ := zM (blk_below BK.out hb5); have n2_ := zM (Kd.R_below HO.out hb5); have n3_ := zM (below_step HB.out hb5); clear BK HO HB; have BK := n1_; have HO := n2_; have HB := n3_; clear n1_ n2_ n3_ hb5; have hcz_3 : w5.cell? ⟨w1.heap.size, 3, none⟩ = some (.int .i64 ((k : Int) + 4)) := (blk_cell BK.out 3).trans rfl; have hfz_3 := blk_frozen BK.out 3; have hfz_2 := blk_frozen BK.out 2; have hcz_2 : w5.cell? ⟨w1.heap.size, 2, none⟩ = some (.string (⟨#[]⟩ : ByteArray)) := (blk_cell BK.out 2).trans rfl))); (replace BK := zM (blk_drew BK.out)); (replace HO := zM (Kd.R_drew HO.out)); (replace HB := zM (below_drew HB.out)); (refine start_ (n := 16) (S := fun w' => w'.cell? ⟨w1.heap.size, 3, none⟩ = some (.int .i64 ((k : Int) + 4))) (ds := [15]) #[false, false, false, false, false, false, false, false, false, false, false, false, false, false, false, false] (by kernel_rfl) rfl rfl ((blk_cell BK.out 3).trans rfl) (fun hHeld => ?_)); (refine with_tabW http_read.tab33 http_read.bits33 (fun HT_ HW_ => ?_)); (generalize w5.drew = W8 at HO BK HB hHeld ⊢); (refine pure_ (i := 0) (N := some 164) (v := ?_) (a' := ?_) #[true, false, false, false, false, false, false, false, false, false, false, false, false, false, false, false] rfl rfl (any_of HT_.out (by kernel_rfl)) (fun _ _ _ h => h) (Or.inl ⟨by rfl, ?_⟩) ?_ ?_); rotate_left
        ·
         intro w'; go_simp; with_reducible rfl
        rotate_left
        ·
         simp only [Act.put, zS, zI]; rfl
        (refine pure_ (i := 1) (N := some 165) (v := ?_) (a' := ?_) #[true, true, false, false, false, false, false, false, false, false, false, false, false, false, false, false] rfl rfl (any_of HT_.out (by kernel_rfl)) (fun _ _ _ h => h) (Or.inl ⟨by rfl, ?_⟩) ?_ ?_); rotate_left
        ·
         intro w'; go_simp; with_reducible rfl
        rotate_left
        ·
         simp only [Act.put, zS, zI]; rfl
        (refine pure_ (i := 2) (N := some 166) (v := ?_) (a' := ?_) #[true, true, true, false, false, false, false, false, false, false, false, false, false, false, false, false] rfl rfl (any_of HT_.out (by kernel_rfl)) (fun _ _ _ h => h) (Or.inl ⟨by rfl, ?_⟩) ?_ ?_); rotate_left
        ·
         intro w'; go_simp; with_reducible rfl
        rotate_left
        ·
         simp only [Act.put, zS, zI]; rfl
        (refine pure_ (i := 3) (N := some 167) (v := ?_) (a' := ?_) #[true, true, true, true, false, false, false, false, false, false, false, false, false, false, false, false] rfl rfl (any_of HT_.out (by kernel_rfl)) (fun _ _ _ h => h) (Or.inl ⟨by rfl, ?_⟩) ?_ ?_); rotate_left
        ·
         intro w'; go_simp; with_reducible rfl
        rotate_left
        ·
         simp only [Act.put, zS, zI]; rfl
        (refine pure_ (i := 4) (N := some 168) (v := ?_) (a' := ?_) #[true, true, true, true, true, false, false, false, false, false, false, false, false, false, false, false] rfl rfl (any_of HT_.out (by kernel_rfl)) (fun _ _ _ h => h) (Or.inl ⟨by rfl, ?_⟩) ?_ ?_); rotate_left
        ·
         intro w'; go_simp; with_reducible rfl
        rotate_left
        ·
         simp only [Act.put, zS, zI]; rfl
        (refine pure_ (i := 6) (N := some 170) (v := ?_) (a' := ?_) #[true, true, true, true, true, false, true, false, false, false, false, false, false, false, false, false] rfl rfl (any_of HT_.out (by kernel_rfl)) (fun _ _ _ h => h) (Or.inl ⟨by rfl, ?_⟩) ?_ ?_); rotate_left
        ·
         intro w'; go_simp; with_reducible rfl
        rotate_left
        ·
         simp only [Act.put, zS, zI]; rfl
        (refine pure_ (i := 7) (N := some 171) (v := ?_) (a' := ?_) #[true, true, true, true, true, false, true, true, false, false, false, false, false, false, false, false] rfl rfl (any_of HT_.out (by kernel_rfl)) (fun _ _ _ h => h) (Or.inl ⟨by rfl, ?_⟩) ?_ ?_); rotate_left
        ·
         intro w'; go_simp; with_reducible rfl
        rotate_left
        ·
         simp only [Act.put, zS, zI]; rfl
        (refine pure_ (i := 8) (N := some 172) (v := ?_) (a' := ?_) #[true, true, true, true, true, false, true, true, true, false, false, false, false, false, false, false] rfl rfl (any_of HT_.out (by kernel_rfl)) (fun _ _ _ h => h) (Or.inl ⟨by rfl, ?_⟩) ?_ ?_); rotate_left
        ·
         intro w'; go_simp; with_reducible rfl
        rotate_left
        ·
         simp only [Act.put, zS, zI]; rfl
        (refine pure_ (i := 10) (N := some 174) (v := ?_) (a' := ?_) #[true, true, true, true, true, false, true, true, true, false, true, false, false, false, false, false] rfl rfl (any_of HT_.out (by kernel_rfl)) (fun _ _ _ h => h) (Or.inl ⟨by rfl, ?_⟩) ?_ ?_); rotate_left
        ·
         intro w'; go_simp; with_reducible rfl
        rotate_left
        ·
         simp only [Act.put, zS, zI]; rfl
        (refine take_ (i := 5) (N := some 169) (v := ?_) (a' := ?_) #[true, true, true, true, true, true, true, true, true, false, true, false, false, false, false, false] rfl rfl (take_ofW HT_.out HW_.out (by kernel_rfl)) (fun _ _ _ h => h) (Or.inl ⟨by rfl, ?_⟩) hHeld ?_ ?_); rotate_left
        ·
         intro w' s1; go_simp; with_reducible rfl
        rotate_left
        ·
         simp only [Act.put, zS, zI]; rfl
        (refine take_ (i := 9) (N := some 173) (v := ?_) (a' := ?_) #[true, true, true, true, true, true, true, true, true, true, true, false, false, false, false, false] rfl rfl (take_ofW HT_.out HW_.out (by kernel_rfl)) (fun _ _ _ h => h) (Or.inl ⟨by rfl, ?_⟩) hHeld ?_ ?_); rotate_left
        ·
         intro w' s1; go_simp; with_reducible rfl
        rotate_left
        ·
         simp only [Act.put, zS, zI]; rfl
        (refine pure_ (i := 11) (N := some 175) (v := ?_) (a' := ?_) #[true, true, true, true, true, true, true, true, true, true, true, true, false, false, false, false] rfl rfl (any_of HT_.out (by kernel_rfl)) (fun _ _ _ h => h) (Or.inl ⟨by rfl, ?_⟩) ?_ ?_); rotate_left
        ·
         intro w'; go_simp; with_reducible rfl
        rotate_left
        ·
         simp only [Act.put, zS, zI]; rfl
        (refine pure_ (i := 12) (N := some 176) (v := ?_) (a' := ?_) #[true, true, true, true, true, true, true, true, true, true, true, true, true, false, false, false] rfl rfl (any_of HT_.out (by kernel_rfl)) (fun _ _ _ h => h) (Or.inl ⟨by rfl, ?_⟩) ?_ ?_); rotate_left
        ·
         intro w'; go_simp; with_reducible rfl
        rotate_left
        ·
         simp only [Act.put, zS, zI]; rfl
        (refine pure_ (i := 13) (N := some 177) (v := ?_) (a' := ?_) #[true, true, true, true, true, true, true, true, true, true, true, true, true, true, false, false] rfl rfl (any_of HT_.out (by kernel_rfl)) (fun _ _ _ h => h) (Or.inl ⟨by rfl, ?_⟩) ?_ ?_); rotate_left
        ·
         intro w'; go_simp; with_reducible rfl
        rotate_left
        ·
         simp only [Act.put, zS, zI]; rfl
        (refine pure_ (i := 14) (N := some 178) (v := ?_) (a' := ?_) #[true, true, true, true, true, true, true, true, true, true, true, true, true, true, true, false] rfl rfl (any_of HT_.out (by kernel_rfl)) (fun _ _ _ h => h) (Or.inl ⟨by rfl, ?_⟩) ?_ ?_); rotate_left
        ·
         intro w'; go_simp; with_reducible rfl
        rotate_left
        ·
         simp only [Act.put, zS, zI]; rfl
        (refine last_ (i := 15) (N := none) #[true, true, true, true, true, true, true, true, true, true, true, true, true, true, true, true] rfl rfl (one_of HT_.out (by kernel_rfl)) (by decide) (fun K hK => ?_)); (have hs1 : W8.cell? ⟨w1.heap.size, 2, none⟩ = some (.string (⟨#[]⟩ : ByteArray)) := (blk_cell BK.out 2).trans rfl); (have hf1 := blk_frozen BK.out 2); (refine skip_ (w1 := ?_) (by rfl) rfl ?_ ?_); rotate_left
        ·
         go_simp; rfl
        (refine hK.out _ _ ?_); clear hK K; (refine done_ (done_of HT_.out (by kernel_rfl)) ?_); (replace BK := zM (show (W8.setCell ⟨w1.heap.size, 2, none⟩ (.string ByteArray.empty)).heap[w1.heap.size]? = some (.cells #[.string l0, .slice A2 xs.length c2, .string ByteArray.empty, .int .i64 ((k : Int) + 4)] 61 (0, 0)) from blk_put BK.out 2 _ rfl)); (replace HO := zM (Kd.R_far (p := ⟨w1.heap.size, 2, none⟩) HO.out (fun q hq => hq) (.string ByteArray.empty))); (replace HB := zM (show Below w1.heap.size w1 (W8.setCell ⟨w1.heap.size, 2, none⟩ (.string ByteArray.empty)) from below_set HB.out (Nat.le_refl _))); (generalize W8.setCell ⟨w1.heap.size, 2, none⟩ (.string ByteArray.empty) = W9 at BK HO HB ⊢); (have hcy_3 : W9.cell? ⟨w1.heap.size, 3, none⟩ = some (.int .i64 ((k : Int) + 4)) := (blk_cell BK.out 3).trans rfl); (have hfy_3 := blk_frozen BK.out 3); (go_wp2); (go_ret2); (refine ⟨_, rfl, RO.out.good 0 SZ.out (by rw [show cntF xs nCoded 0 (⟨#[]⟩ : ByteArray) = (n3, v3) from E123.out.2.2]; exact (by have := H5.out; omega)) (Nat.le_of_not_lt H6.out) H7.out _ w1.heap.size A2 c2 ?_ (Kd.R_far (p := ⟨w1.heap.size, 3, none⟩) HO.out (fun q hq => hq) _) (below_step HB1.out (below_set HB.out (Nat.le_refl _)))⟩); (rw [show b.extract (k + 4) (k + 4 + 0) = ByteArray.empty by simp]); exact (blk_put BK.out 3 _ rfl).trans (by simp)
   rw [List.drop_eq_getElem_cons hlt] at hc
   obtain ⟨ad, ea, hxl⟩ := Kd.at_string (Kd.R_reads' HO1.out).2.2 ((i : Int) + 1) (by omega) (by simp at hlt ⊢; omega)
   cases ea
   have el : rdOf ByteArray.empty (l0 :: l1 :: lt) ((i : Int) + 1) = (l1 :: lt)[i] := by
    (unfold rdOf); (rw [show ((i : Int) + 1).toNat = i + 1 from by omega]); rw [List.getD_cons_succ]; simp only [List.getD, List.getElem?_eq_getElem hlt, Option.getD_some]
   rw [el, show ((i : Int) + 1).toNat = i + 1 from by omega, show (⟨w'.heap.size, 0, none⟩ : Addr).add (i + 1) = ⟨w'.heap.size, 1 + i, none⟩ from by simp [Addr.add, Nat.add_comm]] at hxl
   generalize (l1 :: lt)[i] = l at hc hxl
   replace hxl := pw_cell_below HB.out hxl
   have q1 : decide ((i : Int) < (lt.length : Int) + 1) = true := decide_eq_true (by simp at hlt; omega)
   have HN := zM (show i < (l1 :: lt).length ∧ k1 + 1 = (l1 :: lt).length - i + 1 ∧ xs.length ≤ i from ⟨hlt, hk, hxs⟩)
   have p0 : (0 ≤ (i : Int)) = True := eq_true (by omega)
   have p3 : ((i : Int) < (lt.length : Int) + 1) = True := eq_true (by simp at hlt; omega)
   unfold headsF at hc
   cases hC : strings_Cut.f l (⟨#[58]⟩ : ByteArray) with
   | none => simp [headF, hC] at hc
   | some c =>
   obtain ⟨name, val, ok⟩ := c
   cases hV : strings_Trim.f val (⟨#[32, 9]⟩ : ByteArray) with
   | none => simp [headF, hC, hV] at hc
   | some tv =>
   have CC := zM (fun W hT' => strings_Cut.calls l _ name val ok W hT' hC)
   have CV := zM (fun W => strings_Trim.calls val _ tv W hV)
   clear hlt hi hk hxs el
   cases ok with
   | false =>
    (have hrn : hr = none := by simp [headF, hC, hV] at hc; rw [hr0, ← hc]; rfl); clear hc hC hV; (go_wp2_with (first | (go_at_call 34; refine (CC.out _ ⟨TabsOk.below hT.out (below_step HB1.out HB.out)⟩).mono ?_; rintro e w5 ⟨rfl, hb5⟩) | (go_at_call 35; refine (CV.out _).mono ?_; rintro e w6 ⟨rfl, hb6⟩))); (go_ret2); exact ⟨badV 220, rfl, HBAD.out _ hrn (below_step (below_step (below_step HB1.out HB.out) hb5) hb6)⟩
   | true =>
    cases hK : http_token.f kk name with
    | none => simp [headF, hC, hV, hK] at hc
    | some t =>
    have CK := zM (fun W => http_token.calls kk name t W hK)
    cases t with
    | false =>
     (have hrn : hr = none := by simp [headF, hC, hV, hK] at hc; rw [hr0, ← hc]; rfl); clear hc hC hV hK; (go_wp2_with (first | (go_at_call 34; refine (CC.out _ ⟨TabsOk.below hT.out (below_step HB1.out HB.out)⟩).mono ?_; rintro e w5 ⟨rfl, hb5⟩) | (go_at_call 35; refine (CV.out _).mono ?_; rintro e w6 ⟨rfl, hb6⟩) | (go_at_call 36; refine (CK.out _).mono ?_; rintro e w7 ⟨rfl, ⟨nd7, rfl⟩⟩))); (go_ret2); exact ⟨badV 220, rfl, HBAD.out _ hrn (pw_below_drewN (below_step (below_step (below_step HB1.out HB.out) hb5) hb6) _)⟩
    | true =>
     cases hX : http_text.f kk tv with
     | none => simp [headF, hC, hV, hK, hX] at hc
     | some x =>
     have CX := zM (fun W => http_text.calls kk tv x W hX)
     cases x with
     | false =>
      (have hrn : hr = none := by simp [headF, hC, hV, hK, hX] at hc; rw [hr0, ← hc]; rfl); clear hc hC hV hK hX; (go_wp2_with (first | (go_at_call 34; refine (CC.out _ ⟨TabsOk.below hT.out (below_step HB1.out HB.out)⟩).mono ?_; rintro e w5 ⟨rfl, hb5⟩) | (go_at_call 35; refine (CV.out _).mono ?_; rintro e w6 ⟨rfl, hb6⟩) | (go_at_call 36; refine (CK.out _).mono ?_; rintro e w7 ⟨rfl, ⟨nd7, rfl⟩⟩) | (go_at_call 37; refine (CX.out _).mono ?_; rintro e w8 ⟨rfl, ⟨nd8, rfl⟩⟩))); (go_ret2); exact ⟨badV 220, rfl, HBAD.out _ hrn (pw_below_drewN (below_step (below_step (below_step HB1.out HB.out) hb5) hb6) _)⟩
     | true =>
      cases hS : http_small.f name with
      | none => simp [headF, hC, hV, hK, hX, hS] at hc
      | some sm =>
      (have CM := zM (fun W hT' => http_small.calls name sm W hT' hS)); simp only [headF, hC, hV, hK, hX, hS, Option.bind_some, Bool.true_eq_false, if_false] at hc; clear hC hV hK hX hS; (go_upto_region 17 with (first | (go_at_call 34; refine (CC.out _ ⟨TabsOk.below hT.out (below_step HB1.out HB.out)⟩).mono ?_; rintro e w5 ⟨rfl, hb5⟩) | (go_at_call 35; refine (CV.out _).mono ?_; rintro e w6 ⟨rfl, hb6⟩) | (go_at_call 36; refine (CK.out _).mono ?_; rintro e w7 ⟨rfl, ⟨nd7, rfl⟩⟩) | (go_at_call 37; refine (CX.out _).mono ?_; rintro e w8 ⟨rfl, ⟨nd8, rfl⟩⟩))); (replace BK := zM (blk_drewN (blk_below (blk_below BK.out hb5) hb6) (nd7 + nd8))); (replace HO := zM (Kd.R_drewN (Kd.R_below (Kd.R_below HO.out hb5) hb6) (nd7 + nd8))); (replace HB := zM (pw_below_drewN (below_step (below_step HB.out hb5) hb6) (nd7 + nd8))); (generalize w6.drewN (nd7 + nd8) = W7 at BK HO HB ⊢); clear hb5 hb6 hxl; (replace BK := zM (blk_drew BK.out)); (replace HO := zM (Kd.R_drew HO.out)); (replace HB := zM (below_drew HB.out)); (refine start_ (n := 14) (S := fun w' => w'.cell? ⟨w1.heap.size, 1, none⟩ = some v) (ds := [10, 13]) #[false, false, false, false, false, false, false, false, false, false, false, false, false, false] (by kernel_rfl) rfl rfl ((blk_cell BK.out 1).trans rfl) (fun hHeld => ?_)); (refine with_tabW http_read.tab17 http_read.bits17 (fun HT_ HW_ => ?_)); (generalize W7.drew = W8 at HO BK HB hHeld ⊢); (refine pure_ (i := 0) (N := some 88) (v := ?_) (a' := ?_) #[true, false, false, false, false, false, false, false, false, false, false, false, false, false] rfl rfl (any_of HT_.out (by kernel_rfl)) (fun _ _ _ h => h) (Or.inl ⟨by rfl, ?_⟩) ?_ ?_); rotate_left
      ·
       intro w'; go_simp; with_reducible rfl
      rotate_left
      ·
       simp only [Act.put, zS, zI]; rfl
      (refine pure_ (i := 1) (N := some 89) (v := ?_) (a' := ?_) #[true, true, false, false, false, false, false, false, false, false, false, false, false, false] rfl rfl (any_of HT_.out (by kernel_rfl)) (fun _ _ _ h => h) (Or.inl ⟨by rfl, ?_⟩) ?_ ?_); rotate_left
      ·
       intro w'; go_simp; with_reducible rfl
      rotate_left
      ·
       simp only [Act.put, zS, zI]; rfl
      (refine pure_ (i := 5) (N := some 93) (v := ?_) (a' := ?_) #[true, true, false, false, false, true, false, false, false, false, false, false, false, false] rfl rfl (any_of HT_.out (by kernel_rfl)) (fun _ _ _ h => h) (Or.inl ⟨by rfl, ?_⟩) ?_ ?_); rotate_left
      ·
       intro w'; go_simp; with_reducible rfl
      rotate_left
      ·
       simp only [Act.put, zS, zI]; rfl
      (refine pure_ (i := 7) (N := some 95) (v := ?_) (a' := ?_) #[true, true, false, false, false, true, false, true, false, false, false, false, false, false] rfl rfl (any_of HT_.out (by kernel_rfl)) (fun _ _ _ h => h) (Or.inl ⟨by rfl, ?_⟩) ?_ ?_); rotate_left
      ·
       intro w'; go_simp; with_reducible rfl
      rotate_left
      ·
       simp only [Act.put, zS, zI]; rfl
      (refine pure_ (i := 2) (N := some 90) (v := ?_) (a' := ?_) #[true, true, true, false, false, true, false, true, false, false, false, false, false, false] rfl rfl (any_of HT_.out (by kernel_rfl)) (fun _ _ _ h => h) (Or.inl ⟨by rfl, ?_⟩) ?_ ?_); rotate_left
      ·
       intro w'; go_simp; with_reducible rfl
      rotate_left
      ·
       simp only [Act.put, zS, zI]; rfl
      (refine pure_ (i := 3) (N := some 91) (v := ?_) (a' := ?_) #[true, true, true, true, false, true, false, true, false, false, false, false, false, false] rfl rfl (any_of HT_.out (by kernel_rfl)) (fun _ _ _ h => h) (Or.inl ⟨by rfl, ?_⟩) ?_ ?_); rotate_left
      ·
       intro w'; go_simp; with_reducible rfl
      rotate_left
      ·
       simp only [Act.put, zS, zI]; rfl
      (refine take_ (i := 4) (N := some 92) (v := ?_) (a' := ?_) #[true, true, true, true, true, true, false, true, false, false, false, false, false, false] rfl rfl (take_ofW HT_.out HW_.out (by kernel_rfl)) (fun _ _ _ h => h) (Or.inl ⟨by rfl, ?_⟩) hHeld ?_ ?_); rotate_left
      ·
       intro w' s1; go_simp; with_reducible rfl
      rotate_left
      ·
       simp only [Act.put, zS, zI]; rfl
      (refine one_ (i := 6) (N := some 94) #[true, true, true, true, true, true, true, true, false, false, false, false, false, false] rfl rfl (one_of HT_.out (by kernel_rfl)) (by decide) (fun K hK => ?_)); (refine goes_ Tryz.func38 (by kernel_rfl) rfl #[.string name] (by rfl) rfl rfl (by (try simp only [List.map_toArray, List.map_cons, List.map_nil]); first | done | rfl) ?_); (refine (CM.out _ ⟨TabsOk.below hT.out (below_step HB1.out HB.out)⟩).mono ?_); rintro e W9 ⟨rfl, hb9⟩; (refine ⟨_, rfl, ?_⟩); (replace BK := zM (blk_below BK.out hb9)); (replace HO := zM (Kd.R_below HO.out hb9)); (replace HB := zM (below_step HB.out hb9)); (refine hK.out _ _ ((blk_cell BK.out 1).trans rfl) (fun hHeld => ?_)); clear hK K; (refine norm_ (a' := ?_) ?_ ?_); rotate_left
      ·
       (show Act.put _ (some 94) _ = _); simp only [Act.put, zS, zI]; rfl
      (refine pure_ (i := 8) (N := some 96) (v := ?_) (a' := ?_) #[true, true, true, true, true, true, true, true, true, false, false, false, false, false] rfl rfl (any_of HT_.out (by kernel_rfl)) (fun _ _ _ h => h) (Or.inl ⟨by rfl, ?_⟩) ?_ ?_); rotate_left
      ·
       intro w'; go_simp; with_reducible rfl
      rotate_left
      ·
       simp only [Act.put, zS, zI]; rfl
      (refine one_ (i := 9) (N := some 97) #[true, true, true, true, true, true, true, true, true, true, false, false, false, false] rfl rfl (one_of HT_.out (by kernel_rfl)) (by decide) (fun K hK => ?_)); (refine value_ (w1 := ?_) (v := ?_) (by rfl) rfl ?_ ?_); rotate_left; rotate_left
      ·
       go_simp
       constructor
       ·
        rfl
       ·
        rfl
      (refine hK.out _ _ ((blk_cell (blk_alloc BK.out _) 1).trans rfl) (fun hHeld => ?_)); clear hK K; (refine norm_ (a' := ?_) ?_ ?_); rotate_left
      ·
       (show Act.put _ (some 97) _ = _); simp only [Act.put, zS, zI]; rfl
      (refine last_ (i := 10) (N := some 98) #[true, true, true, true, true, true, true, true, true, true, true, false, false, false] rfl rfl (one_of HT_.out (by kernel_rfl)) (by decide) (fun K hK => ?_)); (refine Kd.R_append_step k79 (w0 := w1) w1.heap.size (by rfl) (.tmp 92) (.tmp 97) 59 79 (.agg #[(.string ⟨#[]⟩), (.string ⟨#[]⟩)]) 32 rfl Tryz.underlying59 info79 rfl (by decide) (by omega) v xs (⟨sm, tv⟩ : S79) [.string sm, .string tv] (fun q => q ≠ w1.heap.size) (fun _ => False) rfl rfl ?aP (fun _ hk => hk.elim) ?aF ?aO ?aB ?aS ?aL ?_); (case aP => exact k79_mkM _ _ _ (⟨sm, tv⟩ : S79)); (case aB => exact HB.out); (case aF => exact (fun q hq => by have := blk_lt BK.out; omega)); (case aO => exact HO.out); (case aS => exact below_size HB.out); (case aL => have := HN.out; have := HK.out; simp at *; omega); intro v10 W10 ho hb hg hat; (have hne : some w1.heap.size ≠ v.ownBlock := Kd.R_ne HO.out BK.out (by decide)); (replace BK := zM (blk_grown BK.out hg hne)); (replace HB := zM hb); (replace HO := zM ho); clear ho hb hg hat hne; (obtain ⟨A10, c10, e10⟩ := Kd.R_slice HO.out); subst e10; (refine hK.out _ _ ?_); clear hK K; (refine norm_ (a' := ?_) ?_ ?_); rotate_left
      ·
       (show Act.put _ (some 98) _ = _); simp only [Act.put, zS, zI]; rfl
      (refine pure_ (i := 11) (N := some 99) (v := ?_) (a' := ?_) #[true, true, true, true, true, true, true, true, true, true, true, true, false, false] rfl rfl (any_of HT_.out (by kernel_rfl)) (fun _ _ _ h => h) (Or.inl ⟨by rfl, ?_⟩) ?_ ?_); rotate_left
      ·
       intro w'; go_simp; with_reducible rfl
      rotate_left
      ·
       simp only [Act.put, zS, zI]; rfl
      (refine pure_ (i := 12) (N := some 100) (v := ?_) (a' := ?_) #[true, true, true, true, true, true, true, true, true, true, true, true, true, false] rfl rfl (any_of HT_.out (by kernel_rfl)) (fun _ _ _ h => h) (Or.inl ⟨by rfl, ?_⟩) ?_ ?_); rotate_left
      ·
       intro w'; go_simp; with_reducible rfl
      rotate_left
      ·
       simp only [Act.put, zS, zI]; rfl
      (refine last_ (i := 13) (N := none) #[true, true, true, true, true, true, true, true, true, true, true, true, true, true] rfl rfl (one_of HT_.out (by kernel_rfl)) (by decide) (fun K hK => ?_)); (have hs1 : W10.cell? ⟨w1.heap.size, 1, none⟩ = some v := (blk_cell BK.out 1).trans rfl); (have hf1 := blk_frozen BK.out 1); (refine skip_ (w1 := ?_) (by rfl) rfl ?_ ?_); rotate_left
      ·
       go_simp; rfl
      (refine hK.out _ _ ?_); clear hK K; (refine done_ (done_of HT_.out (by kernel_rfl)) ?_); (have wi : wrap64 ((i : Int) + 1) = ((i + 1 : Nat) : Int) := by have := HN.out; have := HK.out; unfold wrap64; simp at *; omega); (go_wp2); go_roundg k1
      case measure => have := HN.out; omega
      case rel => exact ⟨i + 1, .slice A10 (xs.length + 1) c10, xs ++ [(⟨sm, tv⟩ : S79)], (by first | rfl | rw [wi]), ⟨by have := HN.out; exact ⟨by omega, by omega, by
        revert hc; cases headsF kk (List.drop (i + 1) (l1 :: lt)) with
        | none => intro hc; cases hc
        | some r => intro hc; simp at hc; exact ⟨r, rfl, by rw [hr0, ← hc]; cases r <;> simp⟩, by simp; omega⟩⟩, ⟨blk_put BK.out 1 _ rfl⟩, ⟨by have h_ := Kd.R_far (p := ⟨w1.heap.size, 1, none⟩) HO.out (fun q hq => hq) (.slice A10 (xs.length + 1) c10); rw [List.length_append] at h_; exact h_⟩, ⟨below_set HB.out (Nat.le_refl _)⟩⟩
end Go.Proofs.YtpikebpjlhccbaaGreatDoor.PAll
