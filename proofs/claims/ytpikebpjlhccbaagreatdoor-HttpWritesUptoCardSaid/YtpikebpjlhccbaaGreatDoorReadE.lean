/- http.read: a message without headers. -/
import Derived.Test.YtpikebpjlhccbaaGreatDoorShort
import Derived.Test.YtpikebpjlhccbaaGreatDoorReadD
namespace Go.Proofs.YtpikebpjlhccbaaGreatDoor.PAll
set_option linter.unusedVariables false
set_option linter.unusedSimpArgs false
open Go.RowKit Go.Proofs.YtpikebpjlhccbaaGreatDoorW.PrintWords Go.Proofs.YtpikebpjlhccbaaGreatDoorW.PrintLast Go.Proofs.YtpikebpjlhccbaaGreatDoorW.PrintMore

set_option maxHeartbeats 8000000 in
set_option maxRecDepth 100000 in
theorem read_nil (g : FuncId) (eg : ∀ args w, (callFunc g args).run Tryz.prog w = .ok (.enter g args) w) (b : ByteArray) (hosts : Bool) (k : Nat) (l0 : ByteArray) (w : World) (hT : Aside0 (TabsOk w))
  (hi : strings_Index.f b (⟨#[13, 10, 13, 10]⟩ : ByteArray) = some (k : Int)) (hk : k + 4 ≤ 4096) (hkb : k + 4 ≤ b.size) (hbs : b.size < 4294967281)
  (hs : strings_Split.f (b.extract 0 k) (⟨#[13, 10]⟩ : ByteArray) = some [l0])
  (hR : ∀ W, Aside0 (TabsOk W) → Calls Tryz.prog g #[.string l0] W fun e w' => e = .returned (.bool true) ∧ Below W.heap.size W w')
  (Post : Ending → World → Prop) (htail : TailOk b k hosts l0 [] w Post) :
  Calls Tryz.prog 18 #[.string b, .func (.func g) #[] #[], .bool hosts] w fun e w' => ∃ E, e = E ∧ Post E w' := by
 have CI := zM (strings_Index.calls b _ k w hT hi)
 have CS := zM (strings_Split.callsAt (b.extract 0 k) _ _ w hT hs)
 have HR := zM hR
 have HTAIL := zM htail
 clear htail
 have hw : wrap64 ((k : Int) + 4) = (k : Int) + 4 := by unfold wrap64; omega
 have b1 : decide ((k : Int) < 0) = false := decide_eq_false (by omega)
 have b2 : decide (4096 < (k : Int) + 4) = false := decide_eq_false (by omega)
 have p1 : (0 ≤ (k : Int)) = True := eq_true (by omega)
 have p2 : ((k : Int) ≤ (b.size : Int)) = True := eq_true (by omega)
 have HK := zM (show k + 4 ≤ b.size ∧ k + 4 ≤ 4096 ∧ b.size < 4294967281 ∧ True from ⟨hkb, hk, hbs, trivial⟩)
 clear hi hs hR hk hkb
 go_enter Tryz.func18, Tryz.ntmps18
 go_wp2_with (first | (go_at_call 32; refine CI.out.mono ?_; rintro e w' ⟨rfl, rfl⟩) | (go_at_call 33; refine CS.out.mono ?_; rintro e w1 ⟨rfl, ho, hb⟩; obtain ⟨ad1, e1, hx1⟩ := Kd.at_string (Kd.R_reads' ho).2.2 0 (by omega) (by simp); cases e1; rw [show ((0 : Int)).toNat = 0 from rfl, Addr.add_zero', show rdOf ByteArray.empty [l0] 0 = l0 from rfl] at hx1; have HB1 := zM hb; have HO1 := zM ho; clear hb ho) | (go_at_fn g; refine (HR.out _ ⟨TabsOk.below hT.out (below_alloc HB1.out _)⟩).mono ?_; rintro e w2 ⟨rfl, hb2⟩))
 have HB := zM (below_step (below_alloc (Below.refl w1.heap.size w1) _) hb2 : Below w1.heap.size w1 w2)
 have BK := zM (blk_below (g := w1.heap.size) (o := .cells #[.string l0, .slice none 0 0, .string (⟨#[]⟩ : ByteArray), .int .i64 ((k : Int) + 4)] 61 (0, 0)) (heap_alloc_new w1 _) hb2)
 clear hb2 hx1
 go_loopg [63] 1 (fun kq v63 w' => ∃ (v : Value) (xs : List S79), v63 = .int .i64 0 ∧ Aside0 (xs = [] ∧ kq = 1) ∧ Aside0 (w'.heap[w1.heap.size]? = some (.cells #[.string l0, v, .string (⟨#[]⟩ : ByteArray), .int .i64 ((k : Int) + 4)] 61 (0, 0))) ∧ Aside0 (Kd.R k79 79 w' w1.heap.size (fun q => q ≠ w1.heap.size) v xs) ∧ Aside0 (Below w1.heap.size w1 w'))
 case atStart => exact ⟨.slice none 0 0, [], (by first | rfl | (simp; done)), ⟨rfl, rfl⟩, BK, ⟨Kd.R_nil _ _ _ _ _⟩, HB⟩
 case round =>
  obtain ⟨v, xs, rfl, HA, BK, HO, HB⟩ := hrel
  cases gk with
  | zero => exact absurd HA.out.2 (by omega)
  | succ k1 =>
   ·
    (have HX0 := zM HA.out.1); (have hxl0 : xs.length ≤ 4294967296 := by have := HA.out.1; subst this; simp); clear HA; (replace HTAIL := zM (show TailOk b k hosts l0 xs _ Post from HX0.out ▸ HTAIL.out)); (obtain ⟨A2, c2, rfl⟩ := Kd.R_slice HO.out); (obtain ⟨n1, v1, e1⟩ : ∃ n v, cntF xs (⟨#[99, 111, 110, 116, 101, 110, 116, 45, 108, 101, 110, 103, 116, 104]⟩ : ByteArray) 0 (⟨#[]⟩ : ByteArray) = (n, v) := ⟨_, _, rfl⟩); (obtain ⟨n2, v2, e2⟩ : ∃ n v, cntF xs (⟨#[104, 111, 115, 116]⟩ : ByteArray) 0 (⟨#[]⟩ : ByteArray) = (n, v) := ⟨_, _, rfl⟩); (obtain ⟨n3, v3, e3⟩ : ∃ n v, cntF xs (⟨#[116, 114, 97, 110, 115, 102, 101, 114, 45, 101, 110, 99, 111, 100, 105, 110, 103]⟩ : ByteArray) 0 (⟨#[]⟩ : ByteArray) = (n, v) := ⟨_, _, rfl⟩); (have hxl := hxl0); clear hxl0; (have CNT1 := zM (fun W (hB : W.heap[w1.heap.size]? = some (.cells #[.string l0, .slice A2 xs.length c2, .string (⟨#[]⟩ : ByteArray), .int .i64 ((k : Int) + 4)] 61 (0, 0))) (hO : Kd.R k79 79 W w1.heap.size (fun q => q ≠ w1.heap.size) (.slice A2 xs.length c2) xs) => e1 ▸ http_message_count.calls w1.heap.size A2 c2 l0 (⟨#[]⟩ : ByteArray) ((k : Int) + 4) xs (⟨#[99, 111, 110, 116, 101, 110, 116, 45, 108, 101, 110, 103, 116, 104]⟩ : ByteArray) W hB (Kd.R_reads' hO).2.2 hxl)); (have CNT2 := zM (fun W (hB : W.heap[w1.heap.size]? = some (.cells #[.string l0, .slice A2 xs.length c2, .string (⟨#[]⟩ : ByteArray), .int .i64 ((k : Int) + 4)] 61 (0, 0))) (hO : Kd.R k79 79 W w1.heap.size (fun q => q ≠ w1.heap.size) (.slice A2 xs.length c2) xs) => e2 ▸ http_message_count.calls w1.heap.size A2 c2 l0 (⟨#[]⟩ : ByteArray) ((k : Int) + 4) xs (⟨#[104, 111, 115, 116]⟩ : ByteArray) W hB (Kd.R_reads' hO).2.2 hxl)); (have CNT3 := zM (fun W (hB : W.heap[w1.heap.size]? = some (.cells #[.string l0, .slice A2 xs.length c2, .string (⟨#[]⟩ : ByteArray), .int .i64 ((k : Int) + 4)] 61 (0, 0))) (hO : Kd.R k79 79 W w1.heap.size (fun q => q ≠ w1.heap.size) (.slice A2 xs.length c2) xs) => e3 ▸ http_message_count.calls w1.heap.size A2 c2 l0 (⟨#[]⟩ : ByteArray) ((k : Int) + 4) xs (⟨#[116, 114, 97, 110, 115, 102, 101, 114, 45, 101, 110, 99, 111, 100, 105, 110, 103]⟩ : ByteArray) W hB (Kd.R_reads' hO).2.2 hxl)); (have E123 := zM (And.intro e1 (And.intro e2 e3))); clear e1 e2 e3 hxl; by_cases h1 : 1 < n1
    ·
     (have d1 : decide (1 < n1) = true := decide_eq_true h1); clear h1; (go_wp2_with (first | (go_at_call 22; (with_reducible refine (CNT1.out _ BK.out HO.out).mono ?_); rintro e w5 ⟨rfl, hb5⟩; have n1_ := zM (blk_below BK.out hb5); have n2_ := zM (Kd.R_below HO.out hb5); have n3_ := zM (below_step HB.out hb5); clear BK HO HB; have BK := n1_; have HO := n2_; have HB := n3_; clear n1_ n2_ n3_ hb5) | (go_at_call 22; (with_reducible refine (CNT2.out _ BK.out HO.out).mono ?_); rintro e w5 ⟨rfl, hb5⟩; have n1_ := zM (blk_below BK.out hb5); have n2_ := zM (Kd.R_below HO.out hb5); have n3_ := zM (below_step HB.out hb5); clear BK HO HB; have BK := n1_; have HO := n2_; have HB := n3_; clear n1_ n2_ n3_ hb5) | (go_at_call 22; (with_reducible refine (CNT3.out _ BK.out HO.out).mono ?_); rintro e w5 ⟨rfl, hb5⟩; have n1_ := zM (blk_below BK.out hb5); have n2_ := zM (Kd.R_below HO.out hb5); have n3_ := zM (below_step HB.out hb5); clear BK HO HB; have BK := n1_; have HO := n2_; have HB := n3_; clear n1_ n2_ n3_ hb5; have hcz_3 : w5.cell? ⟨w1.heap.size, 3, none⟩ = some (.int .i64 ((k : Int) + 4)) := (blk_cell BK.out 3).trans rfl; have hfz_3 := blk_frozen BK.out 3; have hfz_2 := blk_frozen BK.out 2; have hcz_2 : w5.cell? ⟨w1.heap.size, 2, none⟩ = some (.string (⟨#[]⟩ : ByteArray)) := (blk_cell BK.out 2).trans rfl))); (go_ret2); exact ⟨badV 220, rfl, (HTAIL.out).many (by rw [show cntF xs nLen 0 (⟨#[]⟩ : ByteArray) = (n1, v1) from E123.out.1]; exact of_decide_eq_true d1) _ (below_step HB1.out HB.out)⟩
    ·
     (have d1 : decide (1 < n1) = false := decide_eq_false h1); clear h1; by_cases h2 : hosts = true ∧ n2 ≠ 1
     ·
      (obtain ⟨hh, h2⟩ := h2); subst hh; (have d2 : (n2 == 1) = false := beq_eq_false_iff_ne.mpr h2); (have d3 : (n2 != 1) = true := bne_iff_ne.mpr h2); (go_wp2_with (first | (go_at_call 22; (with_reducible refine (CNT1.out _ BK.out HO.out).mono ?_); rintro e w5 ⟨rfl, hb5⟩; have n1_ := zM (blk_below BK.out hb5); have n2_ := zM (Kd.R_below HO.out hb5); have n3_ := zM (below_step HB.out hb5); clear BK HO HB; have BK := n1_; have HO := n2_; have HB := n3_; clear n1_ n2_ n3_ hb5) | (go_at_call 22; (with_reducible refine (CNT2.out _ BK.out HO.out).mono ?_); rintro e w5 ⟨rfl, hb5⟩; have n1_ := zM (blk_below BK.out hb5); have n2_ := zM (Kd.R_below HO.out hb5); have n3_ := zM (below_step HB.out hb5); clear BK HO HB; have BK := n1_; have HO := n2_; have HB := n3_; clear n1_ n2_ n3_ hb5) | (go_at_call 22; (with_reducible refine (CNT3.out _ BK.out HO.out).mono ?_); rintro e w5 ⟨rfl, hb5⟩; have n1_ := zM (blk_below BK.out hb5); have n2_ := zM (Kd.R_below HO.out hb5); have n3_ := zM (below_step HB.out hb5); clear BK HO HB; have BK := n1_; have HO := n2_; have HB := n3_; clear n1_ n2_ n3_ hb5; have hcz_3 : w5.cell? ⟨w1.heap.size, 3, none⟩ = some (.int .i64 ((k : Int) + 4)) := (blk_cell BK.out 3).trans rfl; have hfz_3 := blk_frozen BK.out 3; have hfz_2 := blk_frozen BK.out 2; have hcz_2 : w5.cell? ⟨w1.heap.size, 2, none⟩ = some (.string (⟨#[]⟩ : ByteArray)) := (blk_cell BK.out 2).trans rfl))); (go_ret2); exact ⟨badV 220, rfl, (HTAIL.out).host (by rw [show cntF xs nLen 0 (⟨#[]⟩ : ByteArray) = (n1, v1) from E123.out.1]; exact of_decide_eq_false d1) rfl (by rw [show cntF xs nHost 0 (⟨#[]⟩ : ByteArray) = (n2, v2) from E123.out.2.1]; exact h2) _ (below_step HB1.out HB.out)⟩
     ·
      have hh : hosts = false ∨ (hosts = true ∧ n2 = 1) := by
       cases hosts with
       | false => exact .inl rfl
       | true => exact .inr ⟨rfl, Decidable.not_not.1 (fun h => h2 ⟨rfl, h⟩)⟩
      clear h2
      have RO := zM ((HTAIL.out).rest ⟨by rw [show cntF xs nLen 0 (⟨#[]⟩ : ByteArray) = (n1, v1) from E123.out.1]; exact of_decide_eq_false d1, by
       rw [show cntF xs nHost 0 (⟨#[]⟩ : ByteArray) = (n2, v2) from E123.out.2.1]
       rintro ⟨e1, e2⟩
       rcases hh with e | ⟨_, e⟩
       ·
        rw [e] at e1; cases e1
       ·
        exact e2 e⟩)
      obtain ⟨sz, hsz⟩ := RO.out.def_
      have SZ := zM hsz
      unfold sizeF at hsz
      rw [show cntF xs nLen 0 (⟨#[]⟩ : ByteArray) = (n1, v1) from E123.out.1] at hsz
      dsimp only at hsz
      rcases hh with rfl | ⟨rfl, rfl⟩
      all_goals
       by_cases h3 : n1 = 1
       ·
        (have d4 : (n1 == 1) = true := beq_iff_eq.mpr h3); rw [if_pos h3] at hsz; by_cases h4 : v1.toList = []
        ·
         (have d6 : (v1.toList == ([] : List UInt8)) = true := beq_iff_eq.mpr h4); (have d6b : v1.toList.isEmpty = true := List.isEmpty_iff.mpr h4); rw [if_pos h4] at hsz
         cases hsz
         clear h4 h3; (go_wp2_with (first | (go_at_call 22; (with_reducible refine (CNT1.out _ BK.out HO.out).mono ?_); rintro e w5 ⟨rfl, hb5⟩; have n1_ := zM (blk_below BK.out hb5); have n2_ := zM (Kd.R_below HO.out hb5); have n3_ := zM (below_step HB.out hb5); clear BK HO HB; have BK := n1_; have HO := n2_; have HB := n3_; clear n1_ n2_ n3_ hb5) | (go_at_call 22; (with_reducible refine (CNT2.out _ BK.out HO.out).mono ?_); rintro e w5 ⟨rfl, hb5⟩; have n1_ := zM (blk_below BK.out hb5); have n2_ := zM (Kd.R_below HO.out hb5); have n3_ := zM (below_step HB.out hb5); clear BK HO HB; have BK := n1_; have HO := n2_; have HB := n3_; clear n1_ n2_ n3_ hb5) | (go_at_call 22; (with_reducible refine (CNT3.out _ BK.out HO.out).mono ?_); rintro e w5 ⟨rfl, hb5⟩; have n1_ := zM (blk_below BK.out hb5); have n2_ := zM (Kd.R_below HO.out hb5); have n3_ := zM (below_step HB.out hb5); clear BK HO HB; have BK := n1_; have HO := n2_; have HB := n3_; clear n1_ n2_ n3_ hb5; have hcz_3 : w5.cell? ⟨w1.heap.size, 3, none⟩ = some (.int .i64 ((k : Int) + 4)) := (blk_cell BK.out 3).trans rfl; have hfz_3 := blk_frozen BK.out 3; have hfz_2 := blk_frozen BK.out 2; have hcz_2 : w5.cell? ⟨w1.heap.size, 2, none⟩ = some (.string (⟨#[]⟩ : ByteArray)) := (blk_cell BK.out 2).trans rfl))); (go_ret2); exact ⟨badV 222, rfl, RO.out.size0 SZ.out _ (below_step HB1.out HB.out)⟩
        (have d6 : (v1.toList == ([] : List UInt8)) = false := beq_eq_false_iff_ne.mpr h4); (have d6b : v1.toList.isEmpty = false := List.isEmpty_eq_false_iff.mpr h4); rw [if_neg h4] at hsz; clear h4; by_cases h4 : 9 < v1.size
        ·
         (have d9 : decide ((9 : Int) < (v1.size : Int)) = true := decide_eq_true (by omega)); (have d9b : decide (9 < v1.size) = true := decide_eq_true h4); rw [if_pos h4] at hsz
         cases hsz
         clear h4 h3; (go_wp2_with (first | (go_at_call 22; (with_reducible refine (CNT1.out _ BK.out HO.out).mono ?_); rintro e w5 ⟨rfl, hb5⟩; have n1_ := zM (blk_below BK.out hb5); have n2_ := zM (Kd.R_below HO.out hb5); have n3_ := zM (below_step HB.out hb5); clear BK HO HB; have BK := n1_; have HO := n2_; have HB := n3_; clear n1_ n2_ n3_ hb5) | (go_at_call 22; (with_reducible refine (CNT2.out _ BK.out HO.out).mono ?_); rintro e w5 ⟨rfl, hb5⟩; have n1_ := zM (blk_below BK.out hb5); have n2_ := zM (Kd.R_below HO.out hb5); have n3_ := zM (below_step HB.out hb5); clear BK HO HB; have BK := n1_; have HO := n2_; have HB := n3_; clear n1_ n2_ n3_ hb5) | (go_at_call 22; (with_reducible refine (CNT3.out _ BK.out HO.out).mono ?_); rintro e w5 ⟨rfl, hb5⟩; have n1_ := zM (blk_below BK.out hb5); have n2_ := zM (Kd.R_below HO.out hb5); have n3_ := zM (below_step HB.out hb5); clear BK HO HB; have BK := n1_; have HO := n2_; have HB := n3_; clear n1_ n2_ n3_ hb5; have hcz_3 : w5.cell? ⟨w1.heap.size, 3, none⟩ = some (.int .i64 ((k : Int) + 4)) := (blk_cell BK.out 3).trans rfl; have hfz_3 := blk_frozen BK.out 3; have hfz_2 := blk_frozen BK.out 2; have hcz_2 : w5.cell? ⟨w1.heap.size, 2, none⟩ = some (.string (⟨#[]⟩ : ByteArray)) := (blk_cell BK.out 2).trans rfl))); (go_ret2); exact ⟨badV 222, rfl, RO.out.size0 SZ.out _ (below_step HB1.out HB.out)⟩
        (have d9 : decide ((9 : Int) < (v1.size : Int)) = false := decide_eq_false (by omega)); (have d9b : decide (9 < v1.size) = false := decide_eq_false h4); rw [if_neg h4] at hsz; clear h4 h3; (obtain ⟨t, htr, hsz⟩ := Option.bind_eq_some_iff.mp hsz); (have CT := zM (fun W => strings_Trim.calls v1 _ t W htr)); clear htr; by_cases h4 : t.toList ≠ []
        ·
         (have d10 : (t.toList == ([] : List UInt8)) = false := beq_eq_false_iff_ne.mpr h4); (have d10b : t.toList.isEmpty = false := List.isEmpty_eq_false_iff.mpr h4); rw [if_pos h4] at hsz
         cases hsz
         clear h4; (go_wp2_with (first | (go_at_call 22; (with_reducible refine (CNT1.out _ BK.out HO.out).mono ?_); rintro e w5 ⟨rfl, hb5⟩; have n1_ := zM (blk_below BK.out hb5); have n2_ := zM (Kd.R_below HO.out hb5); have n3_ := zM (below_step HB.out hb5); clear BK HO HB; have BK := n1_; have HO := n2_; have HB := n3_; clear n1_ n2_ n3_ hb5) | (go_at_call 22; (with_reducible refine (CNT2.out _ BK.out HO.out).mono ?_); rintro e w5 ⟨rfl, hb5⟩; have n1_ := zM (blk_below BK.out hb5); have n2_ := zM (Kd.R_below HO.out hb5); have n3_ := zM (below_step HB.out hb5); clear BK HO HB; have BK := n1_; have HO := n2_; have HB := n3_; clear n1_ n2_ n3_ hb5) | (go_at_call 22; (with_reducible refine (CNT3.out _ BK.out HO.out).mono ?_); rintro e w5 ⟨rfl, hb5⟩; have n1_ := zM (blk_below BK.out hb5); have n2_ := zM (Kd.R_below HO.out hb5); have n3_ := zM (below_step HB.out hb5); clear BK HO HB; have BK := n1_; have HO := n2_; have HB := n3_; clear n1_ n2_ n3_ hb5; have hcz_3 : w5.cell? ⟨w1.heap.size, 3, none⟩ = some (.int .i64 ((k : Int) + 4)) := (blk_cell BK.out 3).trans rfl; have hfz_3 := blk_frozen BK.out 3; have hfz_2 := blk_frozen BK.out 2; have hcz_2 : w5.cell? ⟨w1.heap.size, 2, none⟩ = some (.string (⟨#[]⟩ : ByteArray)) := (blk_cell BK.out 2).trans rfl) | (go_at_call 35; (with_reducible refine (CT.out _).mono ?_); rintro e w5 ⟨rfl, hb5⟩; have n1_ := zM (blk_below BK.out hb5); have n2_ := zM (Kd.R_below HO.out hb5); have n3_ := zM (below_step HB.out hb5); clear BK HO HB; have BK := n1_; have HO := n2_; have HB := n3_; clear n1_ n2_ n3_ hb5))); (go_ret2); exact ⟨badV 222, rfl, RO.out.size0 SZ.out _ (below_step HB1.out HB.out)⟩
        rw [if_neg h4] at hsz; (have h4' := Decidable.not_not.mp h4); (have d10 : (t.toList == ([] : List UInt8)) = true := beq_iff_eq.mpr h4'); (have d10b : t.toList.isEmpty = true := List.isEmpty_iff.mpr h4'); clear h4 h4'; (obtain ⟨⟨s0, s1⟩, hat, hsz⟩ := Option.bind_eq_some_iff.mp hsz); (by_cases h4 : 0 ≤ s0); rotate_left
        ·
         (dsimp only at hsz); rw [if_neg h4] at hsz
         cases hsz
        (obtain ⟨s, rfl⟩ := Int.eq_ofNat_of_zero_le h4); (dsimp only at hsz); rw [if_pos h4] at hsz
        cases hsz
        (replace SZ := zM (show sizeF xs = some (some s) from SZ.out)); (have CA := zM (fun W hT' => strconv_Atoi.calls v1 _ _ W hT' hat)); clear hat h4; by_cases h5 : 0 < n3
        ·
         (have d5 : decide (0 < n3) = true := decide_eq_true h5); (go_wp2_with (first | (go_at_call 22; (with_reducible refine (CNT1.out _ BK.out HO.out).mono ?_); rintro e w5 ⟨rfl, hb5⟩; have n1_ := zM (blk_below BK.out hb5); have n2_ := zM (Kd.R_below HO.out hb5); have n3_ := zM (below_step HB.out hb5); clear BK HO HB; have BK := n1_; have HO := n2_; have HB := n3_; clear n1_ n2_ n3_ hb5) | (go_at_call 22; (with_reducible refine (CNT2.out _ BK.out HO.out).mono ?_); rintro e w5 ⟨rfl, hb5⟩; have n1_ := zM (blk_below BK.out hb5); have n2_ := zM (Kd.R_below HO.out hb5); have n3_ := zM (below_step HB.out hb5); clear BK HO HB; have BK := n1_; have HO := n2_; have HB := n3_; clear n1_ n2_ n3_ hb5) | (go_at_call 22; (with_reducible refine (CNT3.out _ BK.out HO.out).mono ?_); rintro e w5 ⟨rfl, hb5⟩; have n1_ := zM (blk_below BK.out hb5); have n2_ := zM (Kd.R_below HO.out hb5); have n3_ := zM (below_step HB.out hb5); clear BK HO HB; have BK := n1_; have HO := n2_; have HB := n3_; clear n1_ n2_ n3_ hb5; have hcz_3 : w5.cell? ⟨w1.heap.size, 3, none⟩ = some (.int .i64 ((k : Int) + 4)) := (blk_cell BK.out 3).trans rfl; have hfz_3 := blk_frozen BK.out 3; have hfz_2 := blk_frozen BK.out 2; have hcz_2 : w5.cell? ⟨w1.heap.size, 2, none⟩ = some (.string (⟨#[]⟩ : ByteArray)) := (blk_cell BK.out 2).trans rfl) | (go_at_call 35; (with_reducible refine (CT.out _).mono ?_); rintro e w5 ⟨rfl, hb5⟩; have n1_ := zM (blk_below BK.out hb5); have n2_ := zM (Kd.R_below HO.out hb5); have n3_ := zM (below_step HB.out hb5); clear BK HO HB; have BK := n1_; have HO := n2_; have HB := n3_; clear n1_ n2_ n3_ hb5) | (go_at_call 39; (with_reducible refine (CA.out _ ⟨TabsOk.below hT.out (below_step HB1.out HB.out)⟩).mono ?_); rintro e w5 ⟨rfl, hb5⟩; have n1_ := zM (blk_below BK.out hb5); have n2_ := zM (Kd.R_below HO.out hb5); have n3_ := zM (below_step HB.out hb5); clear BK HO HB; have BK := n1_; have HO := n2_; have HB := n3_; clear n1_ n2_ n3_ hb5))); (go_ret2); exact ⟨badV 222, rfl, RO.out.big _ SZ.out (.inl (by rw [show cntF xs nCoded 0 (⟨#[]⟩ : ByteArray) = (n3, v3) from E123.out.2.2]; exact h5)) _ (below_step HB1.out HB.out)⟩
        (have d5 : decide (0 < n3) = false := decide_eq_false h5); (have H5 := zM h5); clear h5; by_cases h6 : 4096 < s
        ·
         (have d7 : decide ((4096 : Int) < (s : Int)) = true := decide_eq_true (by omega)); (have d7b : decide (4096 < s) = true := decide_eq_true h6); (go_wp2_with (first | (go_at_call 22; (with_reducible refine (CNT1.out _ BK.out HO.out).mono ?_); rintro e w5 ⟨rfl, hb5⟩; have n1_ := zM (blk_below BK.out hb5); have n2_ := zM (Kd.R_below HO.out hb5); have n3_ := zM (below_step HB.out hb5); clear BK HO HB; have BK := n1_; have HO := n2_; have HB := n3_; clear n1_ n2_ n3_ hb5) | (go_at_call 22; (with_reducible refine (CNT2.out _ BK.out HO.out).mono ?_); rintro e w5 ⟨rfl, hb5⟩; have n1_ := zM (blk_below BK.out hb5); have n2_ := zM (Kd.R_below HO.out hb5); have n3_ := zM (below_step HB.out hb5); clear BK HO HB; have BK := n1_; have HO := n2_; have HB := n3_; clear n1_ n2_ n3_ hb5) | (go_at_call 22; (with_reducible refine (CNT3.out _ BK.out HO.out).mono ?_); rintro e w5 ⟨rfl, hb5⟩; have n1_ := zM (blk_below BK.out hb5); have n2_ := zM (Kd.R_below HO.out hb5); have n3_ := zM (below_step HB.out hb5); clear BK HO HB; have BK := n1_; have HO := n2_; have HB := n3_; clear n1_ n2_ n3_ hb5; have hcz_3 : w5.cell? ⟨w1.heap.size, 3, none⟩ = some (.int .i64 ((k : Int) + 4)) := (blk_cell BK.out 3).trans rfl; have hfz_3 := blk_frozen BK.out 3; have hfz_2 := blk_frozen BK.out 2; have hcz_2 : w5.cell? ⟨w1.heap.size, 2, none⟩ = some (.string (⟨#[]⟩ : ByteArray)) := (blk_cell BK.out 2).trans rfl) | (go_at_call 35; (with_reducible refine (CT.out _).mono ?_); rintro e w5 ⟨rfl, hb5⟩; have n1_ := zM (blk_below BK.out hb5); have n2_ := zM (Kd.R_below HO.out hb5); have n3_ := zM (below_step HB.out hb5); clear BK HO HB; have BK := n1_; have HO := n2_; have HB := n3_; clear n1_ n2_ n3_ hb5) | (go_at_call 39; (with_reducible refine (CA.out _ ⟨TabsOk.below hT.out (below_step HB1.out HB.out)⟩).mono ?_); rintro e w5 ⟨rfl, hb5⟩; have n1_ := zM (blk_below BK.out hb5); have n2_ := zM (Kd.R_below HO.out hb5); have n3_ := zM (below_step HB.out hb5); clear BK HO HB; have BK := n1_; have HO := n2_; have HB := n3_; clear n1_ n2_ n3_ hb5))); (go_ret2); exact ⟨badV 222, rfl, RO.out.big _ SZ.out (.inr (of_decide_eq_true d7b)) _ (below_step HB1.out HB.out)⟩
        (have d7 : decide ((4096 : Int) < (s : Int)) = false := decide_eq_false (by omega)); (have d7b : decide (4096 < s) = false := decide_eq_false h6); (have H6 := zM h6); clear h6; (obtain ⟨hk1, hk2, hk3, hk4⟩ := HK.out); (have q4 : wrap64 ((b.size : Int) - ((k : Int) + 4)) = (b.size : Int) - ((k : Int) + 4) := by unfold wrap64; omega); (have q5 : wrap64 ((k : Int) + 4 + (s : Int)) = (k : Int) + 4 + (s : Int) := by have := H6.out; unfold wrap64; omega); by_cases h7 : b.size < k + 4 + s
        ·
         (have d8 : decide ((b.size : Int) - ((k : Int) + 4) < (s : Int)) = true := decide_eq_true (by omega)); (have H7 := zM h7); clear h7 hk1 hk2 hk3 hk4; (go_wp2_with (first | (go_at_call 22; (with_reducible refine (CNT1.out _ BK.out HO.out).mono ?_); rintro e w5 ⟨rfl, hb5⟩; have n1_ := zM (blk_below BK.out hb5); have n2_ := zM (Kd.R_below HO.out hb5); have n3_ := zM (below_step HB.out hb5); clear BK HO HB; have BK := n1_; have HO := n2_; have HB := n3_; clear n1_ n2_ n3_ hb5) | (go_at_call 22; (with_reducible refine (CNT2.out _ BK.out HO.out).mono ?_); rintro e w5 ⟨rfl, hb5⟩; have n1_ := zM (blk_below BK.out hb5); have n2_ := zM (Kd.R_below HO.out hb5); have n3_ := zM (below_step HB.out hb5); clear BK HO HB; have BK := n1_; have HO := n2_; have HB := n3_; clear n1_ n2_ n3_ hb5) | (go_at_call 22; (with_reducible refine (CNT3.out _ BK.out HO.out).mono ?_); rintro e w5 ⟨rfl, hb5⟩; have n1_ := zM (blk_below BK.out hb5); have n2_ := zM (Kd.R_below HO.out hb5); have n3_ := zM (below_step HB.out hb5); clear BK HO HB; have BK := n1_; have HO := n2_; have HB := n3_; clear n1_ n2_ n3_ hb5; have hcz_3 : w5.cell? ⟨w1.heap.size, 3, none⟩ = some (.int .i64 ((k : Int) + 4)) := (blk_cell BK.out 3).trans rfl; have hfz_3 := blk_frozen BK.out 3; have hfz_2 := blk_frozen BK.out 2; have hcz_2 : w5.cell? ⟨w1.heap.size, 2, none⟩ = some (.string (⟨#[]⟩ : ByteArray)) := (blk_cell BK.out 2).trans rfl) | (go_at_call 35; (with_reducible refine (CT.out _).mono ?_); rintro e w5 ⟨rfl, hb5⟩; have n1_ := zM (blk_below BK.out hb5); have n2_ := zM (Kd.R_below HO.out hb5); have n3_ := zM (below_step HB.out hb5); clear BK HO HB; have BK := n1_; have HO := n2_; have HB := n3_; clear n1_ n2_ n3_ hb5) | (go_at_call 39; (with_reducible refine (CA.out _ ⟨TabsOk.below hT.out (below_step HB1.out HB.out)⟩).mono ?_); rintro e w5 ⟨rfl, hb5⟩; have n1_ := zM (blk_below BK.out hb5); have n2_ := zM (Kd.R_below HO.out hb5); have n3_ := zM (below_step HB.out hb5); clear BK HO HB; have BK := n1_; have HO := n2_; have HB := n3_; clear n1_ n2_ n3_ hb5))); (go_ret2); exact ⟨badV 3, rfl, RO.out.short _ SZ.out (by rw [show cntF xs nCoded 0 (⟨#[]⟩ : ByteArray) = (n3, v3) from E123.out.2.2]; exact (by have := H5.out; omega)) (Nat.le_of_not_lt H6.out) H7.out _ (below_step HB1.out HB.out)⟩
        (have d8 : decide ((b.size : Int) - ((k : Int) + 4) < (s : Int)) = false := decide_eq_false (by omega)); (have H7 := zM (show k + 4 + s ≤ b.size by omega)); (have r1 : (0 ≤ (k : Int) + 4) = True := eq_true (by omega)); (have r2 : ((k : Int) + 4 ≤ (k : Int) + 4 + (s : Int)) = True := eq_true (by omega)); (have r3 : ((k : Int) + 4 + (s : Int) ≤ (b.size : Int)) = True := eq_true (by omega)); clear h7 hk1 hk2 hk3 hk4; (go_wp2_with (first | (go_at_call 22; (with_reducible refine (CNT1.out _ BK.out HO.out).mono ?_); rintro e w5 ⟨rfl, hb5⟩; have n1_ := zM (blk_below BK.out hb5); have n2_ := zM (Kd.R_below HO.out hb5); have n3_ := zM (below_step HB.out hb5); clear BK HO HB; have BK := n1_; have HO := n2_; have HB := n3_; clear n1_ n2_ n3_ hb5) | (go_at_call 22; (with_reducible refine (CNT2.out _ BK.out HO.out).mono ?_); rintro e w5 ⟨rfl, hb5⟩; have n1_ := zM (blk_below BK.out hb5); have n2_ := zM (Kd.R_below HO.out hb5); have n3_ := zM (below_step HB.out hb5); clear BK HO HB; have BK := n1_; have HO := n2_; have HB := n3_; clear n1_ n2_ n3_ hb5) | (go_at_call 22; (with_reducible refine (CNT3.out _ BK.out HO.out).mono ?_); rintro e w5 ⟨rfl, hb5⟩; have n1_ := zM (blk_below BK.out hb5); have n2_ := zM (Kd.R_below HO.out hb5); have n3_ := zM (below_step HB.out hb5); clear BK HO HB; have BK := n1_; have HO := n2_; have HB := n3_; clear n1_ n2_ n3_ hb5; have hcz_3 : w5.cell? ⟨w1.heap.size, 3, none⟩ = some (.int .i64 ((k : Int) + 4)) := (blk_cell BK.out 3).trans rfl; have hfz_3 := blk_frozen BK.out 3; have hfz_2 := blk_frozen BK.out 2; have hcz_2 : w5.cell? ⟨w1.heap.size, 2, none⟩ = some (.string (⟨#[]⟩ : ByteArray)) := (blk_cell BK.out 2).trans rfl) | (go_at_call 35; (with_reducible refine (CT.out _).mono ?_); rintro e w5 ⟨rfl, hb5⟩; have n1_ := zM (blk_below BK.out hb5); have n2_ := zM (Kd.R_below HO.out hb5); have n3_ := zM (below_step HB.out hb5); clear BK HO HB; have BK := n1_; have HO := n2_; have HB := n3_; clear n1_ n2_ n3_ hb5) | (go_at_call 39; (with_reducible refine (CA.out _ ⟨TabsOk.below hT.out (below_step HB1.out HB.out)⟩).mono ?_); rintro e w5 ⟨rfl, hb5⟩; have n1_ := zM (blk_below BK.out hb5); have n2_ := zM (Kd.R_below HO.out hb5); have n3_ := zM (below_step HB.out hb5); clear BK HO HB; have BK := n1_; have HO := n2_; have HB := n3_; clear n1_ n2_ n3_ hb5))); (replace BK := zM (blk_drew BK.out)); (replace HO := zM (Kd.R_drew HO.out)); (replace HB := zM (below_drew HB.out)); (refine start_ (n := 16) (S := fun w' => w'.cell? ⟨w1.heap.size, 3, none⟩ = some (.int .i64 ((k : Int) + 4))) (ds := [15]) #[false, false, false, false, false, false, false, false, false, false, false, false, false, false, false, false] (by kernel_rfl) rfl rfl ((blk_cell BK.out 3).trans rfl) (fun hHeld => ?_)); (refine with_tabW http_read.tab33 http_read.bits33 (fun HT_ HW_ => ?_)); (generalize w5.drew = W8 at HO BK HB hHeld ⊢); (refine pure_ (i := 0) (N := some 164) (v := ?_) (a' := ?_) #[true, false, false, false, false, false, false, false, false, false, false, false, false, false, false, false] rfl rfl (any_of HT_.out (by kernel_rfl)) (fun _ _ _ h => h) (Or.inl ⟨by rfl, ?_⟩) ?_ ?_); rotate_left
        ·
         intro w'; go_simp; with_reducible rfl
        rotate_left
        ·
         simp only [Act.put, zS, zI]; rfl
        (refine pure_ (i := 1) (N := some 165) (v := ?_) (a' := ?_) #[true, true, false, false, false, false, false, false, false, false, false, false, false, false, false, false] rfl rfl (any_of HT_.out (by kernel_rfl)) (fun _ _ _ h => h) (Or.inl ⟨by rfl, ?_⟩) ?_ ?_); rotate_left
        ·
         intro w'; go_simp; with_reducible rfl
        rotate_left
        ·
         simp only [Act.put, zS, zI]; rfl
        (refine pure_ (i := 2) (N := some 166) (v := ?_) (a' := ?_) #[true, true, true, false, false, false, false, false, false, false, false, false, false, false, false, false] rfl rfl (any_of HT_.out (by kernel_rfl)) (fun _ _ _ h => h) (Or.inl ⟨by rfl, ?_⟩) ?_ ?_); rotate_left
        ·
         intro w'; go_simp; with_reducible rfl
        rotate_left
        ·
         simp only [Act.put, zS, zI]; rfl
        (refine pure_ (i := 3) (N := some 167) (v := ?_) (a' := ?_) #[true, true, true, true, false, false, false, false, false, false, false, false, false, false, false, false] rfl rfl (any_of HT_.out (by kernel_rfl)) (fun _ _ _ h => h) (Or.inl ⟨by rfl, ?_⟩) ?_ ?_); rotate_left
        ·
         intro w'; go_simp; with_reducible rfl
        rotate_left
        ·
         simp only [Act.put, zS, zI]; rfl
        (refine pure_ (i := 4) (N := some 168) (v := ?_) (a' := ?_) #[true, true, true, true, true, false, false, false, false, false, false, false, false, false, false, false] rfl rfl (any_of HT_.out (by kernel_rfl)) (fun _ _ _ h => h) (Or.inl ⟨by rfl, ?_⟩) ?_ ?_); rotate_left
        ·
         intro w'; go_simp; with_reducible rfl
        rotate_left
        ·
         simp only [Act.put, zS, zI]; rfl
        (refine pure_ (i := 6) (N := some 170) (v := ?_) (a' := ?_) #[true, true, true, true, true, false, true, false, false, false, false, false, false, false, false, false] rfl rfl (any_of HT_.out (by kernel_rfl)) (fun _ _ _ h => h) (Or.inl ⟨by rfl, ?_⟩) ?_ ?_); rotate_left
        ·
         intro w'; go_simp; with_reducible rfl
        rotate_left
        ·
         simp only [Act.put, zS, zI]; rfl
        (refine pure_ (i := 7) (N := some 171) (v := ?_) (a' := ?_) #[true, true, true, true, true, false, true, true, false, false, false, false, false, false, false, false] rfl rfl (any_of HT_.out (by kernel_rfl)) (fun _ _ _ h => h) (Or.inl ⟨by rfl, ?_⟩) ?_ ?_); rotate_left
        ·
         intro w'; go_simp; with_reducible rfl
        rotate_left
        ·
         simp only [Act.put, zS, zI]; rfl
        (refine pure_ (i := 8) (N := some 172) (v := ?_) (a' := ?_) #[true, true, true, true, true, false, true, true, true, false, false, false, false, false, false, false] rfl rfl (any_of HT_.out (by kernel_rfl)) (fun _ _ _ h => h) (Or.inl ⟨by rfl, ?_⟩) ?_ ?_); rotate_left
        ·
         intro w'; go_simp; with_reducible rfl
        rotate_left
        ·
         simp only [Act.put, zS, zI]; rfl
        (refine pure_ (i := 10) (N := some 174) (v := ?_) (a' := ?_) #[true, true, true, true, true, false, true, true, true, false, true, false, false, false, false, false] rfl rfl (any_of HT_.out (by kernel_rfl)) (fun _ _ _ h => h) (Or.inl ⟨by rfl, ?_⟩) ?_ ?_); rotate_left
        ·
         intro w'; go_simp; with_reducible rfl
        rotate_left
        ·
         simp only [Act.put, zS, zI]; rfl
        (refine take_ (i := 5) (N := some 169) (v := ?_) (a' := ?_) #[true, true, true, true, true, true, true, true, true, false, true, false, false, false, false, false] rfl rfl (take_ofW HT_.out HW_.out (by kernel_rfl)) (fun _ _ _ h => h) (Or.inl ⟨by rfl, ?_⟩) hHeld ?_ ?_); rotate_left
        ·
         intro w' s1; go_simp; with_reducible rfl
        rotate_left
        ·
         simp only [Act.put, zS, zI]; rfl
        (refine take_ (i := 9) (N := some 173) (v := ?_) (a' := ?_) #[true, true, true, true, true, true, true, true, true, true, true, false, false, false, false, false] rfl rfl (take_ofW HT_.out HW_.out (by kernel_rfl)) (fun _ _ _ h => h) (Or.inl ⟨by rfl, ?_⟩) hHeld ?_ ?_); rotate_left
        ·
         intro w' s1; go_simp; with_reducible rfl
        rotate_left
        ·
         simp only [Act.put, zS, zI]; rfl
        (refine pure_ (i := 11) (N := some 175) (v := ?_) (a' := ?_) #[true, true, true, true, true, true, true, true, true, true, true, true, false, false, false, false] rfl rfl (any_of HT_.out (by kernel_rfl)) (fun _ _ _ h => h) (Or.inl ⟨by rfl, ?_⟩) ?_ ?_); rotate_left
        ·
         intro w'; go_simp; with_reducible rfl
        rotate_left
        ·
         simp only [Act.put, zS, zI]; rfl
        (refine pure_ (i := 12) (N := some 176) (v := ?_) (a' := ?_) #[true, true, true, true, true, true, true, true, true, true, true, true, true, false, false, false] rfl rfl (any_of HT_.out (by kernel_rfl)) (fun _ _ _ h => h) (Or.inl ⟨by rfl, ?_⟩) ?_ ?_); rotate_left
        ·
         intro w'; go_simp; with_reducible rfl
        rotate_left
        ·
         simp only [Act.put, zS, zI]; rfl
        (refine pure_ (i := 13) (N := some 177) (v := ?_) (a' := ?_) #[true, true, true, true, true, true, true, true, true, true, true, true, true, true, false, false] rfl rfl (any_of HT_.out (by kernel_rfl)) (fun _ _ _ h => h) (Or.inl ⟨by rfl, ?_⟩) ?_ ?_); rotate_left
        ·
         intro w'; go_simp; with_reducible rfl
        rotate_left
        ·
         simp only [Act.put, zS, zI]; rfl
        (refine pure_ (i := 14) (N := some 178) (v := ?_) (a' := ?_) #[true, true, true, true, true, true, true, true, true, true, true, true, true, true, true, false] rfl rfl (any_of HT_.out (by kernel_rfl)) (fun _ _ _ h => h) (Or.inl ⟨by rfl, ?_⟩) ?_ ?_); rotate_left
        ·
         intro w'; go_simp; with_reducible rfl
        rotate_left
        ·
         simp only [Act.put, zS, zI]; rfl
        (refine last_ (i := 15) (N := none) #[true, true, true, true, true, true, true, true, true, true, true, true, true, true, true, true] rfl rfl (one_of HT_.out (by kernel_rfl)) (by decide) (fun K hK => ?_)); (have hs1 : W8.cell? ⟨w1.heap.size, 2, none⟩ = some (.string (⟨#[]⟩ : ByteArray)) := (blk_cell BK.out 2).trans rfl); (have hf1 := blk_frozen BK.out 2); (refine skip_ (w1 := ?_) (by rfl) rfl ?_ ?_); rotate_left
        ·
         go_simp; rfl
        (refine hK.out _ _ ?_); clear hK K; (refine done_ (done_of HT_.out (by kernel_rfl)) ?_); (rw [show ((k : Int) + 4).toNat = k + 4 from by omega, show ((k : Int) + 4 + (s : Int)).toNat = k + 4 + s from by omega]); (replace BK := zM (show (W8.setCell ⟨w1.heap.size, 2, none⟩ (.string (b.extract (k + 4) (k + 4 + s)))).heap[w1.heap.size]? = some (.cells #[.string l0, .slice A2 xs.length c2, .string (b.extract (k + 4) (k + 4 + s)), .int .i64 ((k : Int) + 4)] 61 (0, 0)) from blk_put BK.out 2 _ rfl)); (replace HO := zM (Kd.R_far (p := ⟨w1.heap.size, 2, none⟩) HO.out (fun q hq => hq) (.string (b.extract (k + 4) (k + 4 + s))))); (replace HB := zM (show Below w1.heap.size w1 (W8.setCell ⟨w1.heap.size, 2, none⟩ (.string (b.extract (k + 4) (k + 4 + s)))) from below_set HB.out (Nat.le_refl _))); (generalize W8.setCell ⟨w1.heap.size, 2, none⟩ (.string (b.extract (k + 4) (k + 4 + s))) = W9 at BK HO HB ⊢); (have hcy_3 : W9.cell? ⟨w1.heap.size, 3, none⟩ = some (.int .i64 ((k : Int) + 4)) := (blk_cell BK.out 3).trans rfl); (have hfy_3 := blk_frozen BK.out 3); (go_wp2); (go_ret2); (refine ⟨_, rfl, RO.out.good s SZ.out (by rw [show cntF xs nCoded 0 (⟨#[]⟩ : ByteArray) = (n3, v3) from E123.out.2.2]; exact (by have := H5.out; omega)) (Nat.le_of_not_lt H6.out) H7.out _ w1.heap.size A2 c2 ?_ (Kd.R_far (p := ⟨w1.heap.size, 3, none⟩) HO.out (fun q hq => hq) _) (below_step HB1.out (below_set HB.out (Nat.le_refl _)))⟩); exact (blk_put BK.out 3 _ rfl).trans (by simp)
       ·
        (have d4 : (n1 == 1) = false := beq_eq_false_iff_ne.mpr h3); rw [if_neg h3] at hsz
        cases hsz
        clear h3; by_cases h5 : 0 < n3
        ·
         (have d5 : decide (0 < n3) = true := decide_eq_true h5); (go_wp2_with (first | (go_at_call 22; (with_reducible refine (CNT1.out _ BK.out HO.out).mono ?_); rintro e w5 ⟨rfl, hb5⟩; have n1_ := zM (blk_below BK.out hb5); have n2_ := zM (Kd.R_below HO.out hb5); have n3_ := zM (below_step HB.out hb5); clear BK HO HB; have BK := n1_; have HO := n2_; have HB := n3_; clear n1_ n2_ n3_ hb5) | (go_at_call 22; (with_reducible refine (CNT2.out _ BK.out HO.out).mono ?_); rintro e w5 ⟨rfl, hb5⟩; have n1_ := zM (blk_below BK.out hb5); have n2_ := zM (Kd.R_below HO.out hb5); have n3_ := zM (below_step HB.out hb5); clear BK HO HB; have BK := n1_; have HO := n2_; have HB := n3_; clear n1_ n2_ n3_ hb5) | (go_at_call 22; (with_reducible refine (CNT3.out _ BK.out HO.out).mono ?_); rintro e w5 ⟨rfl, hb5⟩; have n1_ := zM (blk_below BK.out hb5); have n2_ := zM (Kd.R_below HO.out hb5); have n3_ := zM (below_step HB.out hb5); clear BK HO HB; have BK := n1_; have HO := n2_; have HB := n3_; clear n1_ n2_ n3_ hb5; have hcz_3 : w5.cell? ⟨w1.heap.size, 3, none⟩ = some (.int .i64 ((k : Int) + 4)) := (blk_cell BK.out 3).trans rfl; have hfz_3 := blk_frozen BK.out 3; have hfz_2 := blk_frozen BK.out 2; have hcz_2 : w5.cell? ⟨w1.heap.size, 2, none⟩ = some (.string (⟨#[]⟩ : ByteArray)) := (blk_cell BK.out 2).trans rfl))); (go_ret2); exact ⟨badV 222, rfl, RO.out.big _ SZ.out (.inl (by rw [show cntF xs nCoded 0 (⟨#[]⟩ : ByteArray) = (n3, v3) from E123.out.2.2]; exact h5)) _ (below_step HB1.out HB.out)⟩
        (have d5 : decide (0 < n3) = false := decide_eq_false h5); (have H5 := zM h5); clear h5; (obtain ⟨hk1, hk2, hk3, hk4⟩ := HK.out); (have q4 : wrap64 ((b.size : Int) - ((k : Int) + 4)) = (b.size : Int) - ((k : Int) + 4) := by unfold wrap64; omega); (have q5 : wrap64 ((k : Int) + 4 + 0) = (k : Int) + 4 := by unfold wrap64; omega); (have d8 : decide ((b.size : Int) - ((k : Int) + 4) < 0) = false := decide_eq_false (by omega)); (have H6 := zM (show ¬ 4096 < 0 by omega)); (have H7 := zM (show k + 4 + 0 ≤ b.size by omega)); (have r1 : (0 ≤ (k : Int) + 4) = True := eq_true (by omega)); (have r2 : ((k : Int) + 4 ≤ (k : Int) + 4) = True := eq_true (by omega)); (have r3 : ((k : Int) + 4 ≤ (b.size : Int)) = True := eq_true (by omega)); clear hk1 hk2 hk3 hk4; (go_wp2_with (first | (go_at_call 22; (with_reducible refine (CNT1.out _ BK.out HO.out).mono ?_); rintro e w5 ⟨rfl, hb5⟩; have n1_ := zM (blk_below BK.out hb5); have n2_ := zM (Kd.R_below HO.out hb5); have n3_ := zM (below_step HB.out hb5); clear BK HO HB; have BK := n1_; have HO := n2_; have HB := n3_; clear n1_ n2_ n3_ hb5) | (go_at_call 22; (with_reducible refine (CNT2.out _ BK.out HO.out).mono ?_); rintro e w5 ⟨rfl, hb5⟩; have n1_ := zM (blk_below BK.out hb5); have n2_ := zM (Kd.R_below HO.out hb5); have n3_ := zM (below_step HB.out hb5); clear BK HO HB; have BK := n1_; have HO := n2_; have HB := n3_; clear n1_ n2_ n3_ hb5) | (go_at_call 22; (with_reducible refine (CNT3.out _ BK.out HO.out).mono ?_); rintro e w5 ⟨rfl, hb5⟩; have n1_ := zM (blk_below BK.out hb5); have n2_ := zM (Kd.R_below HO.out hb5); have n3_ := zM (below_step HB.out hb5); clear BK HO HB; have BK := n1_; have HO := n2_; have HB := n3_; clear n1_ n2_ n3_ hb5; have hcz_3 : w5.cell? ⟨w1.heap.size, 3, none⟩ = some (.int .i64 ((k : Int) + 4)) := (blk_cell BK.out 3).trans rfl; have hfz_3 := blk_frozen BK.out 3; have hfz_2 := blk_frozen BK.out 2; have hcz_2 : w5.cell? ⟨w1.heap.size, 2, none⟩ = some (.string (⟨#[]⟩ : ByteArray)) := (blk_cell BK.out 2).trans rfl))); (replace BK := zM (blk_drew BK.out)); (replace HO := zM (Kd.R_drew HO.out)); (replace HB := zM (below_drew HB.out)); (refine start_ (n := 16) (S := fun w' => w'.cell? ⟨w1.heap.size, 3, none⟩ = some (.int .i64 ((k : Int) + 4))) (ds := [15]) #[false, false, false, false, false, false, false, false, false, false, false, false, false, false, false, false] (by kernel_rfl) rfl rfl ((blk_cell BK.out 3).trans rfl) (fun hHeld => ?_)); (refine with_tabW http_read.tab33 http_read.bits33 (fun HT_ HW_ => ?_)); (generalize w5.drew = W8 at HO BK HB hHeld ⊢); (refine pure_ (i := 0) (N := some 164) (v := ?_) (a' := ?_) #[true, false, false, false, false, false, false, false, false, false, false, false, false, false, false, false] rfl rfl (any_of HT_.out (by kernel_rfl)) (fun _ _ _ h => h) (Or.inl ⟨by rfl, ?_⟩) ?_ ?_); rotate_left
        ·
         intro w'; go_simp; with_reducible rfl
        rotate_left
        ·
         simp only [Act.put, zS, zI]; rfl
        (refine pure_ (i := 1) (N := some 165) (v := ?_) (a' := ?_) #[true, true, false, false, false, false, false, false, false, false, false, false, false, false, false, false] rfl rfl (any_of HT_.out (by kernel_rfl)) (fun _ _ _ h => h) (Or.inl ⟨by rfl, ?_⟩) ?_ ?_); rotate_left
        ·
         intro w'; go_simp; with_reducible rfl
        rotate_left
        ·
         simp only [Act.put, zS, zI]; rfl
        (refine pure_ (i := 2) (N := some 166) (v := ?_) (a' := ?_) #[true, true, true, false, false, false, false, false, false, false, false, false, false, false, false, false] rfl rfl (any_of HT_.out (by kernel_rfl)) (fun _ _ _ h => h) (Or.inl ⟨by rfl, ?_⟩) ?_ ?_); rotate_left
        ·
         intro w'; go_simp; with_reducible rfl
        rotate_left
        ·
         simp only [Act.put, zS, zI]; rfl
        (refine pure_ (i := 3) (N := some 167) (v := ?_) (a' := ?_) #[true, true, true, true, false, false, false, false, false, false, false, false, false, false, false, false] rfl rfl (any_of HT_.out (by kernel_rfl)) (fun _ _ _ h => h) (Or.inl ⟨by rfl, ?_⟩) ?_ ?_); rotate_left
        ·
         intro w'; go_simp; with_reducible rfl
        rotate_left
        ·
         simp only [Act.put, zS, zI]; rfl
        (refine pure_ (i := 4) (N := some 168) (v := ?_) (a' := ?_) #[true, true, true, true, true, false, false, false, false, false, false, false, false, false, false, false] rfl rfl (any_of HT_.out (by kernel_rfl)) (fun _ _ _ h => h) (Or.inl ⟨by rfl, ?_⟩) ?_ ?_); rotate_left
        ·
         intro w'; go_simp; with_reducible rfl
        rotate_left
        ·
         simp only [Act.put, zS, zI]; rfl
        (refine pure_ (i := 6) (N := some 170) (v := ?_) (a' := ?_) #[true, true, true, true, true, false, true, false, false, false, false, false, false, false, false, false] rfl rfl (any_of HT_.out (by kernel_rfl)) (fun _ _ _ h => h) (Or.inl ⟨by rfl, ?_⟩) ?_ ?_); rotate_left
        ·
         intro w'; go_simp; with_reducible rfl
        rotate_left
        ·
         simp only [Act.put, zS, zI]; rfl
        (refine pure_ (i := 7) (N := some 171) (v := ?_) (a' := ?_) #[true, true, true, true, true, false, true, true, false, false, false, false, false, false, false, false] rfl rfl (any_of HT_.out (by kernel_rfl)) (fun _ _ _ h => h) (Or.inl ⟨by rfl, ?_⟩) ?_ ?_); rotate_left
        ·
         intro w'; go_simp; with_reducible rfl
        rotate_left
        ·
         simp only [Act.put, zS, zI]; rfl
        (refine pure_ (i := 8) (N := some 172) (v := ?_) (a' := ?_) #[true, true, true, true, true, false, true, true, true, false, false, false, false, false, false, false] rfl rfl (any_of HT_.out (by kernel_rfl)) (fun _ _ _ h => h) (Or.inl ⟨by rfl, ?_⟩) ?_ ?_); rotate_left
        ·
         intro w'; go_simp; with_reducible rfl
        rotate_left
        ·
         simp only [Act.put, zS, zI]; rfl
        (refine pure_ (i := 10) (N := some 174) (v := ?_) (a' := ?_) #[true, true, true, true, true, false, true, true, true, false, true, false, false, false, false, false] rfl rfl (any_of HT_.out (by kernel_rfl)) (fun _ _ _ h => h) (Or.inl ⟨by rfl, ?_⟩) ?_ ?_); rotate_left
        ·
         intro w'; go_simp; with_reducible rfl
        rotate_left
        ·
         simp only [Act.put, zS, zI]; rfl
        (refine take_ (i := 5) (N := some 169) (v := ?_) (a' := ?_) #[true, true, true, true, true, true, true, true, true, false, true, false, false, false, false, false] rfl rfl (take_ofW HT_.out HW_.out (by kernel_rfl)) (fun _ _ _ h => h) (Or.inl ⟨by rfl, ?_⟩) hHeld ?_ ?_); rotate_left
        ·
         intro w' s1; go_simp; with_reducible rfl
        rotate_left
        ·
         simp only [Act.put, zS, zI]; rfl
        (refine take_ (i := 9) (N := some 173) (v := ?_) (a' := ?_) #[true, true, true, true, true, true, true, true, true, true, true, false, false, false, false, false] rfl rfl (take_ofW HT_.out HW_.out (by kernel_rfl)) (fun _ _ _ h => h) (Or.inl ⟨by rfl, ?_⟩) hHeld ?_ ?_); rotate_left
        ·
         intro w' s1; go_simp; with_reducible rfl
        rotate_left
        ·
         simp only [Act.put, zS, zI]; rfl
        (refine pure_ (i := 11) (N := some 175) (v := ?_) (a' := ?_) #[true, true, true, true, true, true, true, true, true, true, true, true, false, false, false, false] rfl rfl (any_of HT_.out (by kernel_rfl)) (fun _ _ _ h => h) (Or.inl ⟨by rfl, ?_⟩) ?_ ?_); rotate_left
        ·
         intro w'; go_simp; with_reducible rfl
        rotate_left
        ·
         simp only [Act.put, zS, zI]; rfl
        (refine pure_ (i := 12) (N := some 176) (v := ?_) (a' := ?_) #[true, true, true, true, true, true, true, true, true, true, true, true, true, false, false, false] rfl rfl (any_of HT_.out (by kernel_rfl)) (fun _ _ _ h => h) (Or.inl ⟨by rfl, ?_⟩) ?_ ?_); rotate_left
        ·
         intro w'; go_simp; with_reducible rfl
        rotate_left
        ·
         simp only [Act.put, zS, zI]; rfl
        (refine pure_ (i := 13) (N := some 177) (v := ?_) (a' := ?_) #[true, true, true, true, true, true, true, true, true, true, true, true, true, true, false, false] rfl rfl (any_of HT_.out (by kernel_rfl)) (fun _ _ _ h => h) (Or.inl ⟨by rfl, ?_⟩) ?_ ?_); rotate_left
        ·
         intro w'; go_simp; with_reducible rfl
        rotate_left
        ·
         simp only [Act.put, zS, zI]; rfl
        (refine pure_ (i := 14) (N := some 178) (v := ?_) (a' := ?_) #[true, true, true, true, true, true, true, true, true, true, true, true, true, true, true, false] rfl rfl (any_of HT_.out (by kernel_rfl)) (fun _ _ _ h => h) (Or.inl ⟨by rfl, ?_⟩) ?_ ?_); rotate_left
        ·
         intro w'; go_simp; with_reducible rfl
        rotate_left
        ·
         simp only [Act.put, zS, zI]; rfl
        (refine last_ (i := 15) (N := none) #[true, true, true, true, true, true, true, true, true, true, true, true, true, true, true, true] rfl rfl (one_of HT_.out (by kernel_rfl)) (by decide) (fun K hK => ?_)); (have hs1 : W8.cell? ⟨w1.heap.size, 2, none⟩ = some (.string (⟨#[]⟩ : ByteArray)) := (blk_cell BK.out 2).trans rfl); (have hf1 := blk_frozen BK.out 2); (refine skip_ (w1 := ?_) (by rfl) rfl ?_ ?_); rotate_left
        ·
         go_simp; rfl
        (refine hK.out _ _ ?_); clear hK K; (refine done_ (done_of HT_.out (by kernel_rfl)) ?_); (replace BK := zM (show (W8.setCell ⟨w1.heap.size, 2, none⟩ (.string ByteArray.empty)).heap[w1.heap.size]? = some (.cells #[.string l0, .slice A2 xs.length c2, .string ByteArray.empty, .int .i64 ((k : Int) + 4)] 61 (0, 0)) from blk_put BK.out 2 _ rfl)); (replace HO := zM (Kd.R_far (p := ⟨w1.heap.size, 2, none⟩) HO.out (fun q hq => hq) (.string ByteArray.empty))); (replace HB := zM (show Below w1.heap.size w1 (W8.setCell ⟨w1.heap.size, 2, none⟩ (.string ByteArray.empty)) from below_set HB.out (Nat.le_refl _))); (generalize W8.setCell ⟨w1.heap.size, 2, none⟩ (.string ByteArray.empty) = W9 at BK HO HB ⊢); (have hcy_3 : W9.cell? ⟨w1.heap.size, 3, none⟩ = some (.int .i64 ((k : Int) + 4)) := (blk_cell BK.out 3).trans rfl); (have hfy_3 := blk_frozen BK.out 3); (go_wp2); (go_ret2); (refine ⟨_, rfl, RO.out.good 0 SZ.out (by rw [show cntF xs nCoded 0 (⟨#[]⟩ : ByteArray) = (n3, v3) from E123.out.2.2]; exact (by have := H5.out; omega)) (Nat.le_of_not_lt H6.out) H7.out _ w1.heap.size A2 c2 ?_ (Kd.R_far (p := ⟨w1.heap.size, 3, none⟩) HO.out (fun q hq => hq) _) (below_step HB1.out (below_set HB.out (Nat.le_refl _)))⟩); (rw [show b.extract (k + 4) (k + 4 + 0) = ByteArray.empty by simp]); exact (blk_put BK.out 3 _ rfl).trans (by simp)
end Go.Proofs.YtpikebpjlhccbaaGreatDoor.PAll
