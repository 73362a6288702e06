/- http.read: the headers. -/
import Derived.Test.YtpikebpjlhccbaaGreatDoorShort
import Derived.Test.YtpikebpjlhccbaaGreatDoorReadB
import Derived.Test.YtpikebpjlhccbaaGreatDoorPAllx3
import Derived.Test.YtpikebpjlhccbaaGreatDoorGiveSmall
import Derived.Deep.RegionWith
namespace Go.Proofs.YtpikebpjlhccbaaGreatDoor.PAll
set_option linter.unusedVariables false
set_option linter.unusedSimpArgs false
open Go.RowKit Go.Proofs.YtpikebpjlhccbaaGreatDoorW.PrintWords Go.Proofs.YtpikebpjlhccbaaGreatDoorW.PrintLast Go.Proofs.YtpikebpjlhccbaaGreatDoorW.PrintMore

/-- One header's line: none: it is not right. -/
def headF (k : Nat) (l : ByteArray) : Option (Option S79) :=
 (strings_Cut.f l (⟨#[58]⟩ : ByteArray)).bind fun c => (strings_Trim.f c.2.1 (⟨#[32, 9]⟩ : ByteArray)).bind fun v =>
  if c.2.2 = false then some none else (http_token.f k c.1).bind fun t => if t = false then some none else (http_text.f k v).bind fun x => if x = false then some none else (http_small.f c.1).bind fun n => some (some ⟨n, v⟩)
def headsF (k : Nat) : List ByteArray → Option (Option (List S79))
 | [] => some (some [])
 | l :: ls => (headF k l).bind fun h => match h with
  | none => some none
  | some h => (headsF k ls).bind fun r => some (r.map (h :: ·))

def http_read.T17 : Bool × List (List Nat × List Nat) := (true, [([], []), ([], []), ([1], [1]), ([2], [2]), ([3], [3]), ([], []), ([5], [5]), ([], []), ([6, 7], [6, 7]), ([8], [8]), ([4, 9, 6], [4, 9]), ([0, 0, 1, 2, 3, 4, 5, 6, 7, 8, 9, 10], [0]), ([11, 0, 1, 2, 3, 4, 5, 6, 7, 8, 9, 10], [11]), ([12, 10, 10, 0, 1, 2, 3, 4, 5, 6, 7, 8, 9, 10], [10, 12])])
def http_read.B17 : List Nat := [0, 0, 2, 6, 14, 0, 32, 0, 224, 480, 1022, 2047, 4095, 8191]
theorem http_read.tab17 : rtab .any (opsOf Tryz.f18 17) = http_read.T17 := by kernel_rfl
theorem http_read.bits17 : waitsOk http_read.T17.2 http_read.B17 = true := by kernel_rfl

set_option maxHeartbeats 8000000 in
set_option maxRecDepth 100000 in
theorem read_heads (kk : Nat) (g : FuncId) (eg : ∀ args w, (callFunc g args).run Tryz.prog w = .ok (.enter g args) w) (b : ByteArray) (hosts : Bool) (k : Nat) (l0 : ByteArray) (ls : List ByteArray) (w : World) (hT : Aside0 (TabsOk w))
  (hi : strings_Index.f b (⟨#[13, 10, 13, 10]⟩ : ByteArray) = some (k : Int)) (hk : k + 4 ≤ 4096) (hkb : k ≤ b.size)
  (hs : strings_Split.f (b.extract 0 k) (⟨#[13, 10]⟩ : ByteArray) = some (l0 :: ls)) (hls : ls.length ≤ 4096)
  (hR : ∀ W, Aside0 (TabsOk W) → Calls Tryz.prog g #[.string l0] W fun e w' => e = .returned (.bool true) ∧ Below W.heap.size W w')
  (hH : headsF kk ls = some none) (l1 : ByteArray) (lt : List ByteArray) (hne : ls = l1 :: lt) :
  Calls Tryz.prog 18 #[.string b, .func (.func g) #[] #[], .bool hosts] w fun e w' => e = badV 220 ∧ Below w.heap.size w w' := by
 have CI := zM (strings_Index.calls b _ k w hT hi)
 subst hne
 have CS := zM (strings_Split.callsAt (b.extract 0 k) _ _ w hT hs)
 have HR := zM hR
 have HH := zM hH
 have hw : wrap64 ((k : Int) + 4) = (k : Int) + 4 := by unfold wrap64; omega
 have b1 : decide ((k : Int) < 0) = false := decide_eq_false (by omega)
 have b2 : decide (4096 < (k : Int) + 4) = false := decide_eq_false (by omega)
 have p1 : (0 ≤ (k : Int)) = True := eq_true (by omega)
 have p2 : ((k : Int) ≤ (b.size : Int)) = True := eq_true (by omega)
 have HK := zM (show k ≤ b.size ∧ (l1 :: lt).length ≤ 4096 from ⟨hkb, hls⟩)
 clear hi hs hR hk hkb hH hls
 go_enter Tryz.func18, Tryz.ntmps18
 go_wp2_with (first | (go_at_call 32; refine CI.out.mono ?_; rintro e w' ⟨rfl, rfl⟩) | (go_at_call 33; refine CS.out.mono ?_; rintro e w1 ⟨rfl, ho, hb⟩; obtain ⟨ad1, e1, hx1⟩ := Kd.at_string (Kd.R_reads' ho).2.2 0 (by omega) (by simp; omega); cases e1; rw [show ((0 : Int)).toNat = 0 from rfl, Addr.add_zero', show rdOf ByteArray.empty (l0 :: l1 :: lt) 0 = l0 from rfl] at hx1; have HB1 := zM hb; have HO1 := zM ho; clear hb ho) | (go_at_fn g; refine (HR.out _ ⟨TabsOk.below hT.out (below_alloc HB1.out _)⟩).mono ?_; rintro e w2 ⟨rfl, hb2⟩))
 have HB := zM (below_step (below_alloc (Below.refl w1.heap.size w1) _) hb2 : Below w1.heap.size w1 w2)
 have BK := zM (blk_below (g := w1.heap.size) (o := .cells #[.string l0, .slice none 0 0, .string (⟨#[]⟩ : ByteArray), .int .i64 ((k : Int) + 4)] 61 (0, 0)) (heap_alloc_new w1 _) hb2)
 clear hb2 hx1
 go_loopg [63] ((l1 :: lt).length + 1) (fun kq v63 w' => ∃ (i : Nat) (v : Value) (xs : List S79), v63 = .int .i64 (i : Int) ∧ Aside0 (i ≤ (l1 :: lt).length ∧ kq = (l1 :: lt).length - i + 1 ∧ headsF kk ((l1 :: lt).drop i) = some none ∧ xs.length ≤ i) ∧ Aside0 (w'.heap[w1.heap.size]? = some (.cells #[.string l0, v, .string (⟨#[]⟩ : ByteArray), .int .i64 ((k : Int) + 4)] 61 (0, 0))) ∧ Aside0 (Kd.R k79 79 w' w1.heap.size (fun q => q ≠ w1.heap.size) v xs) ∧ Aside0 (Below w1.heap.size w1 w'))
 case atStart => exact ⟨0, .slice none 0 0, [], (by first | rfl | (simp; done)), ⟨Nat.zero_le _, by omega, HH.out, Nat.zero_le _⟩, BK, ⟨Kd.R_nil _ _ _ _ _⟩, HB⟩
 case round =>
  obtain ⟨i, v, xs, rfl, HA, BK, HO, HB⟩ := hrel
  cases gk with
  | zero => exact absurd HA.out.2.1 (by omega)
  | succ k1 =>
   obtain ⟨hi, hk, hc, hxs⟩ := HA.out
   clear HA
   have hlt : i < (l1 :: lt).length := by
    rcases Nat.lt_or_ge i (l1 :: lt).length with h | h
    ·
     exact h
    ·
     rw [List.drop_of_length_le h] at hc; simp [headsF] at hc
   rw [List.drop_eq_getElem_cons hlt] at hc
   obtain ⟨ad, ea, hxl⟩ := Kd.at_string (Kd.R_reads' HO1.out).2.2 ((i : Int) + 1) (by omega) (by simp at hlt ⊢; omega)
   cases ea
   have el : rdOf ByteArray.empty (l0 :: l1 :: lt) ((i : Int) + 1) = (l1 :: lt)[i] := by
    (unfold rdOf); (rw [show ((i : Int) + 1).toNat = i + 1 from by omega]); rw [List.getD_cons_succ]; simp only [List.getD, List.getElem?_eq_getElem hlt, Option.getD_some]
   rw [el, show ((i : Int) + 1).toNat = i + 1 from by omega, show (⟨w'.heap.size, 0, none⟩ : Addr).add (i + 1) = ⟨w'.heap.size, 1 + i, none⟩ from by simp [Addr.add, Nat.add_comm]] at hxl
   generalize (l1 :: lt)[i] = l at hc hxl
   replace hxl := pw_cell_below HB.out hxl
   have q1 : decide ((i : Int) < (lt.length : Int) + 1) = true := decide_eq_true (by simp at hlt; omega)
   have HN := zM (show i < (l1 :: lt).length ∧ k1 + 1 = (l1 :: lt).length - i + 1 ∧ xs.length ≤ i from ⟨hlt, hk, hxs⟩)
   have p0 : (0 ≤ (i : Int)) = True := eq_true (by omega)
   have p3 : ((i : Int) < (lt.length : Int) + 1) = True := eq_true (by simp at hlt; omega)
   unfold headsF at hc
   cases hC : strings_Cut.f l (⟨#[58]⟩ : ByteArray) with
   | none => simp [headF, hC] at hc
   | some c =>
   obtain ⟨name, val, ok⟩ := c
   cases hV : strings_Trim.f val (⟨#[32, 9]⟩ : ByteArray) with
   | none => simp [headF, hC, hV] at hc
   | some tv =>
   have CC := zM (fun W hT' => strings_Cut.calls l _ name val ok W hT' hC)
   have CV := zM (fun W => strings_Trim.calls val _ tv W hV)
   clear hlt hi hk hxs el
   cases ok with
   | false =>
    (have HC := zM hc); clear hc hC hV; (go_wp2_with (first | (go_at_call 34; refine (CC.out _ ⟨TabsOk.below hT.out (below_step HB1.out HB.out)⟩).mono ?_; rintro e w5 ⟨rfl, hb5⟩) | (go_at_call 35; refine (CV.out _).mono ?_; rintro e w6 ⟨rfl, hb6⟩))); (go_ret2); exact ⟨rfl, below_step (below_step (below_step HB1.out HB.out) hb5) hb6⟩
   | true =>
    cases hK : http_token.f kk name with
    | none => simp [headF, hC, hV, hK] at hc
    | some t =>
    have CK := zM (fun W => http_token.calls kk name t W hK)
    cases t with
    | false =>
     clear hc hC hV hK; (go_wp2_with (first | (go_at_call 34; refine (CC.out _ ⟨TabsOk.below hT.out (below_step HB1.out HB.out)⟩).mono ?_; rintro e w5 ⟨rfl, hb5⟩) | (go_at_call 35; refine (CV.out _).mono ?_; rintro e w6 ⟨rfl, hb6⟩) | (go_at_call 36; refine (CK.out _).mono ?_; rintro e w7 ⟨rfl, ⟨nd7, rfl⟩⟩))); (go_ret2); exact ⟨rfl, pw_below_drewN (below_step (below_step (below_step HB1.out HB.out) hb5) hb6) _⟩
    | true =>
     cases hX : http_text.f kk tv with
     | none => simp [headF, hC, hV, hK, hX] at hc
     | some x =>
     have CX := zM (fun W => http_text.calls kk tv x W hX)
     cases x with
     | false =>
      clear hc hC hV hK hX; (go_wp2_with (first | (go_at_call 34; refine (CC.out _ ⟨TabsOk.below hT.out (below_step HB1.out HB.out)⟩).mono ?_; rintro e w5 ⟨rfl, hb5⟩) | (go_at_call 35; refine (CV.out _).mono ?_; rintro e w6 ⟨rfl, hb6⟩) | (go_at_call 36; refine (CK.out _).mono ?_; rintro e w7 ⟨rfl, ⟨nd7, rfl⟩⟩) | (go_at_call 37; refine (CX.out _).mono ?_; rintro e w8 ⟨rfl, ⟨nd8, rfl⟩⟩))); (go_ret2); exact ⟨rfl, pw_below_drewN (below_step (below_step (below_step HB1.out HB.out) hb5) hb6) _⟩
     | true =>
      cases hS : http_small.f name with
      | none => simp [headF, hC, hV, hK, hX, hS] at hc
      | some sm =>
      (have CM := zM (fun W hT' => http_small.calls name sm W hT' hS)); simp only [headF, hC, hV, hK, hX, hS, Option.bind_some, Bool.true_eq_false, if_false] at hc; clear hC hV hK hX hS; (go_upto_region 17 with (first | (go_at_call 34; refine (CC.out _ ⟨TabsOk.below hT.out (below_step HB1.out HB.out)⟩).mono ?_; rintro e w5 ⟨rfl, hb5⟩) | (go_at_call 35; refine (CV.out _).mono ?_; rintro e w6 ⟨rfl, hb6⟩) | (go_at_call 36; refine (CK.out _).mono ?_; rintro e w7 ⟨rfl, ⟨nd7, rfl⟩⟩) | (go_at_call 37; refine (CX.out _).mono ?_; rintro e w8 ⟨rfl, ⟨nd8, rfl⟩⟩))); (replace BK := zM (blk_drewN (blk_below (blk_below BK.out hb5) hb6) (nd7 + nd8))); (replace HO := zM (Kd.R_drewN (Kd.R_below (Kd.R_below HO.out hb5) hb6) (nd7 + nd8))); (replace HB := zM (pw_below_drewN (below_step (below_step HB.out hb5) hb6) (nd7 + nd8))); (generalize w6.drewN (nd7 + nd8) = W7 at BK HO HB ⊢); clear hb5 hb6 hxl; (replace BK := zM (blk_drew BK.out)); (replace HO := zM (Kd.R_drew HO.out)); (replace HB := zM (below_drew HB.out)); (refine start_ (n := 14) (S := fun w' => w'.cell? ⟨w1.heap.size, 1, none⟩ = some v) (ds := [10, 13]) #[false, false, false, false, false, false, false, false, false, false, false, false, false, false] (by kernel_rfl) rfl rfl ((blk_cell BK.out 1).trans rfl) (fun hHeld => ?_)); (refine with_tabW http_read.tab17 http_read.bits17 (fun HT_ HW_ => ?_)); (generalize W7.drew = W8 at HO BK HB hHeld ⊢); (refine pure_ (i := 0) (N := some 88) (v := ?_) (a' := ?_) #[true, false, false, false, false, false, false, false, false, false, false, false, false, false] rfl rfl (any_of HT_.out (by kernel_rfl)) (fun _ _ _ h => h) (Or.inl ⟨by rfl, ?_⟩) ?_ ?_); rotate_left
      ·
       intro w'; go_simp; with_reducible rfl
      rotate_left
      ·
       simp only [Act.put, zS, zI]; rfl
      (refine pure_ (i := 1) (N := some 89) (v := ?_) (a' := ?_) #[true, true, false, false, false, false, false, false, false, false, false, false, false, false] rfl rfl (any_of HT_.out (by kernel_rfl)) (fun _ _ _ h => h) (Or.inl ⟨by rfl, ?_⟩) ?_ ?_); rotate_left
      ·
       intro w'; go_simp; with_reducible rfl
      rotate_left
      ·
       simp only [Act.put, zS, zI]; rfl
      (refine pure_ (i := 5) (N := some 93) (v := ?_) (a' := ?_) #[true, true, false, false, false, true, false, false, false, false, false, false, false, false] rfl rfl (any_of HT_.out (by kernel_rfl)) (fun _ _ _ h => h) (Or.inl ⟨by rfl, ?_⟩) ?_ ?_); rotate_left
      ·
       intro w'; go_simp; with_reducible rfl
      rotate_left
      ·
       simp only [Act.put, zS, zI]; rfl
      (refine pure_ (i := 7) (N := some 95) (v := ?_) (a' := ?_) #[true, true, false, false, false, true, false, true, false, false, false, false, false, false] rfl rfl (any_of HT_.out (by kernel_rfl)) (fun _ _ _ h => h) (Or.inl ⟨by rfl, ?_⟩) ?_ ?_); rotate_left
      ·
       intro w'; go_simp; with_reducible rfl
      rotate_left
      ·
       simp only [Act.put, zS, zI]; rfl
      (refine pure_ (i := 2) (N := some 90) (v := ?_) (a' := ?_) #[true, true, true, false, false, true, false, true, false, false, false, false, false, false] rfl rfl (any_of HT_.out (by kernel_rfl)) (fun _ _ _ h => h) (Or.inl ⟨by rfl, ?_⟩) ?_ ?_); rotate_left
      ·
       intro w'; go_simp; with_reducible rfl
      rotate_left
      ·
       simp only [Act.put, zS, zI]; rfl
      (refine pure_ (i := 3) (N := some 91) (v := ?_) (a' := ?_) #[true, true, true, true, false, true, false, true, false, false, false, false, false, false] rfl rfl (any_of HT_.out (by kernel_rfl)) (fun _ _ _ h => h) (Or.inl ⟨by rfl, ?_⟩) ?_ ?_); rotate_left
      ·
       intro w'; go_simp; with_reducible rfl
      rotate_left
      ·
       simp only [Act.put, zS, zI]; rfl
      (refine take_ (i := 4) (N := some 92) (v := ?_) (a' := ?_) #[true, true, true, true, true, true, false, true, false, false, false, false, false, false] rfl rfl (take_ofW HT_.out HW_.out (by kernel_rfl)) (fun _ _ _ h => h) (Or.inl ⟨by rfl, ?_⟩) hHeld ?_ ?_); rotate_left
      ·
       intro w' s1; go_simp; with_reducible rfl
      rotate_left
      ·
       simp only [Act.put, zS, zI]; rfl
      (refine one_ (i := 6) (N := some 94) #[true, true, true, true, true, true, true, true, false, false, false, false, false, false] rfl rfl (one_of HT_.out (by kernel_rfl)) (by decide) (fun K hK => ?_)); (refine goes_ Tryz.func38 (by kernel_rfl) rfl #[.string name] (by rfl) rfl rfl (by (try simp only [List.map_toArray, List.map_cons, List.map_nil]); first | done | rfl) ?_); (refine (CM.out _ ⟨TabsOk.below hT.out (below_step HB1.out HB.out)⟩).mono ?_); rintro e W9 ⟨rfl, hb9⟩; (refine ⟨_, rfl, ?_⟩); (replace BK := zM (blk_below BK.out hb9)); (replace HO := zM (Kd.R_below HO.out hb9)); (replace HB := zM (below_step HB.out hb9)); (refine hK.out _ _ ((blk_cell BK.out 1).trans rfl) (fun hHeld => ?_)); clear hK K; (refine norm_ (a' := ?_) ?_ ?_); rotate_left
      ·
       (show Act.put _ (some 94) _ = _); simp only [Act.put, zS, zI]; rfl
      (refine pure_ (i := 8) (N := some 96) (v := ?_) (a' := ?_) #[true, true, true, true, true, true, true, true, true, false, false, false, false, false] rfl rfl (any_of HT_.out (by kernel_rfl)) (fun _ _ _ h => h) (Or.inl ⟨by rfl, ?_⟩) ?_ ?_); rotate_left
      ·
       intro w'; go_simp; with_reducible rfl
      rotate_left
      ·
       simp only [Act.put, zS, zI]; rfl
      (refine one_ (i := 9) (N := some 97) #[true, true, true, true, true, true, true, true, true, true, false, false, false, false] rfl rfl (one_of HT_.out (by kernel_rfl)) (by decide) (fun K hK => ?_)); (refine value_ (w1 := ?_) (v := ?_) (by rfl) rfl ?_ ?_); rotate_left; rotate_left
      ·
       go_simp
       constructor
       ·
        rfl
       ·
        rfl
      (refine hK.out _ _ ((blk_cell (blk_alloc BK.out _) 1).trans rfl) (fun hHeld => ?_)); clear hK K; (refine norm_ (a' := ?_) ?_ ?_); rotate_left
      ·
       (show Act.put _ (some 97) _ = _); simp only [Act.put, zS, zI]; rfl
      (refine last_ (i := 10) (N := some 98) #[true, true, true, true, true, true, true, true, true, true, true, false, false, false] rfl rfl (one_of HT_.out (by kernel_rfl)) (by decide) (fun K hK => ?_)); (refine Kd.R_append_step k79 (w0 := w1) w1.heap.size (by rfl) (.tmp 92) (.tmp 97) 59 79 (.agg #[(.string ⟨#[]⟩), (.string ⟨#[]⟩)]) 32 rfl Tryz.underlying59 info79 rfl (by decide) (by omega) v xs (⟨sm, tv⟩ : S79) [.string sm, .string tv] (fun q => q ≠ w1.heap.size) (fun _ => False) rfl rfl ?aP (fun _ hk => hk.elim) ?aF ?aO ?aB ?aS ?aL ?_); (case aP => exact k79_mkM _ _ _ (⟨sm, tv⟩ : S79)); (case aB => exact HB.out); (case aF => exact (fun q hq => by have := blk_lt BK.out; omega)); (case aO => exact HO.out); (case aS => exact below_size HB.out); (case aL => have := HN.out; have := HK.out; simp at *; omega); intro v10 W10 ho hb hg hat; (have hne : some w1.heap.size ≠ v.ownBlock := Kd.R_ne HO.out BK.out (by decide)); (replace BK := zM (blk_grown BK.out hg hne)); (replace HB := zM hb); (replace HO := zM ho); clear ho hb hg hat hne; (obtain ⟨A10, c10, e10⟩ := Kd.R_slice HO.out); subst e10; (refine hK.out _ _ ?_); clear hK K; (refine norm_ (a' := ?_) ?_ ?_); rotate_left
      ·
       (show Act.put _ (some 98) _ = _); simp only [Act.put, zS, zI]; rfl
      (refine pure_ (i := 11) (N := some 99) (v := ?_) (a' := ?_) #[true, true, true, true, true, true, true, true, true, true, true, true, false, false] rfl rfl (any_of HT_.out (by kernel_rfl)) (fun _ _ _ h => h) (Or.inl ⟨by rfl, ?_⟩) ?_ ?_); rotate_left
      ·
       intro w'; go_simp; with_reducible rfl
      rotate_left
      ·
       simp only [Act.put, zS, zI]; rfl
      (refine pure_ (i := 12) (N := some 100) (v := ?_) (a' := ?_) #[true, true, true, true, true, true, true, true, true, true, true, true, true, false] rfl rfl (any_of HT_.out (by kernel_rfl)) (fun _ _ _ h => h) (Or.inl ⟨by rfl, ?_⟩) ?_ ?_); rotate_left
      ·
       intro w'; go_simp; with_reducible rfl
      rotate_left
      ·
       simp only [Act.put, zS, zI]; rfl
      (refine last_ (i := 13) (N := none) #[true, true, true, true, true, true, true, true, true, true, true, true, true, true] rfl rfl (one_of HT_.out (by kernel_rfl)) (by decide) (fun K hK => ?_)); (have hs1 : W10.cell? ⟨w1.heap.size, 1, none⟩ = some v := (blk_cell BK.out 1).trans rfl); (have hf1 := blk_frozen BK.out 1); (refine skip_ (w1 := ?_) (by rfl) rfl ?_ ?_); rotate_left
      ·
       go_simp; rfl
      (refine hK.out _ _ ?_); clear hK K; (refine done_ (done_of HT_.out (by kernel_rfl)) ?_); (have wi : wrap64 ((i : Int) + 1) = ((i + 1 : Nat) : Int) := by have := HN.out; have := HK.out; unfold wrap64; simp at *; omega); (go_wp2); go_roundg k1
      case measure => have := HN.out; omega
      case rel => exact ⟨i + 1, .slice A10 (xs.length + 1) c10, xs ++ [(⟨sm, tv⟩ : S79)], (by first | rfl | rw [wi]), ⟨by have := HN.out; exact ⟨by omega, by omega, by
        revert hc; cases headsF kk (List.drop (i + 1) (l1 :: lt)) with
        | none => intro hc; cases hc
        | some r => cases r with
         | none => intro _; rfl
         | some r => intro hc; simp at hc, by simp; omega⟩⟩, ⟨blk_put BK.out 1 _ rfl⟩, ⟨by have h_ := Kd.R_far (p := ⟨w1.heap.size, 1, none⟩) HO.out (fun q hq => hq) (.slice A10 (xs.length + 1) c10); rw [List.length_append] at h_; exact h_⟩, ⟨below_set HB.out (Nat.le_refl _)⟩⟩
end Go.Proofs.YtpikebpjlhccbaaGreatDoor.PAll
