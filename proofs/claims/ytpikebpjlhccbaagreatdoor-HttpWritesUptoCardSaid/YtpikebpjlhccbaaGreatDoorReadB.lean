/- http.read: a first line that is not right. -/
import Derived.Test.YtpikebpjlhccbaaGreatDoorReadA
import Derived.Test.YtpikebpjlhccbaaGreatDoorPAllx0
namespace Go.Proofs.YtpikebpjlhccbaaGreatDoor.PAll
set_option linter.unusedVariables false
set_option linter.unusedSimpArgs false
open Go.RowKit Go.Proofs.YtpikebpjlhccbaaGreatDoorW.PrintWords Go.Proofs.YtpikebpjlhccbaaGreatDoorW.PrintLast Go.Proofs.YtpikebpjlhccbaaGreatDoorW.PrintMore

set_option maxHeartbeats 8000000 in
set_option maxRecDepth 100000 in
theorem read_first (g : FuncId) (eg : ∀ args w, (callFunc g args).run Tryz.prog w = .ok (.enter g args) w) (b : ByteArray) (hosts : Bool) (k : Nat) (l0 : ByteArray) (ls : List ByteArray) (w : World) (hT : Aside0 (TabsOk w))
  (hi : strings_Index.f b (⟨#[13, 10, 13, 10]⟩ : ByteArray) = some (k : Int)) (hk : k + 4 ≤ 4096) (hkb : k ≤ b.size)
  (hs : strings_Split.f (b.extract 0 k) (⟨#[13, 10]⟩ : ByteArray) = some (l0 :: ls))
  (hR : ∀ W, Aside0 (TabsOk W) → Calls Tryz.prog g #[.string l0] W fun e w' => e = .returned (.bool false) ∧ Below W.heap.size W w') :
  Calls Tryz.prog 18 #[.string b, .func (.func g) #[] #[], .bool hosts] w fun e w' => e = badV 220 ∧ Below w.heap.size w w' := by
 have CI := Aside0.mk (strings_Index.calls b _ k w hT hi)
 have CS := Aside0.mk (strings_Split.calls (b.extract 0 k) _ _ w hT hs)
 have HR := Aside0.mk hR
 have hw : wrap64 ((k : Int) + 4) = (k : Int) + 4 := by unfold wrap64; omega
 have b1 : decide ((k : Int) < 0) = false := decide_eq_false (by omega)
 have b2 : decide (4096 < (k : Int) + 4) = false := decide_eq_false (by omega)
 have p1 : (0 ≤ (k : Int)) = True := eq_true (by omega)
 have p2 : ((k : Int) ≤ (b.size : Int)) = True := eq_true (by omega)
 have HK := Aside0.mk (show k ≤ b.size from hkb)
 clear hi hs hR hk hkb
 go_enter Tryz.func18, Tryz.ntmps18
 go_wp2_with (first | (go_at_call 32; refine CI.out.mono ?_; rintro e w' ⟨rfl, rfl⟩) | (go_at_call 33; refine CS.out.mono ?_; rintro e w1 ⟨v1, rfl, ho, hb⟩; obtain ⟨A1, c1, rfl⟩ := Kd.R_slice ho; obtain ⟨ad1, e1, hx1⟩ := Kd.at_string (Kd.R_reads' ho).2.2 0 (by omega) (by simp); cases e1; rw [show ((0 : Int)).toNat = 0 from rfl, Addr.add_zero'] at hx1; have HB1 := Aside0.mk hb; clear hb ho) | (go_at_fn g; refine (HR.out _ ⟨TabsOk.below hT.out (below_alloc HB1.out _)⟩).mono ?_; rintro e w2 ⟨rfl, hb2⟩))
 go_ret2
 exact ⟨rfl, below_step (below_alloc HB1.out _) hb2⟩
end Go.Proofs.YtpikebpjlhccbaaGreatDoor.PAll
