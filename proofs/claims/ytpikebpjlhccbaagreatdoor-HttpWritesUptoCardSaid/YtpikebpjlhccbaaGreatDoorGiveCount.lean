/- count by its own contract: a walk by hand. The row of headers may be younger than the message's block. -/
import Derived.Test.YtpikebpjlhccbaaGreatDoorPAllx0
namespace Go.Proofs.YtpikebpjlhccbaaGreatDoor.PAll
set_option linter.unusedVariables false
set_option linter.unusedSimpArgs false
open Go.RowKit Go.Proofs.YtpikebpjlhccbaaGreatDoorW.PrintWords Go.Proofs.YtpikebpjlhccbaaGreatDoorW.PrintLast Go.Proofs.YtpikebpjlhccbaaGreatDoorW.PrintMore

/-- How often a header stands, and its first value. -/
def cntF : List S79 → ByteArray → Int → ByteArray → Int × ByteArray
 | [], _, n, v => (n, v)
 | x :: xs, a, n, v => if x.f0.toList = a.toList then cntF xs a (n + 1) (if n = 0 then x.f1 else v) else cntF xs a n v

theorem rd_T79_nat (xs : List S79) (i : Nat) (h : i < xs.length) : rd_T79 xs (i : Int) = xs[i] := by
 unfold rd_T79
 rw [Int.toNat_natCast]
 simp [List.getD, h]
theorem wrap_n {n : Int} (h0 : 0 ≤ n) (h1 : n ≤ 4294967296) : wrap64 (n + 1) = n + 1 := by unfold wrap64; omega

set_option maxHeartbeats 8000000 in
set_option maxRecDepth 100000 in
theorem http_message_count.calls (g : Nat) (A : Option Addr) (c : Nat) (s0 s2 : ByteArray) (s3 : Int) (xs : List S79) (a1 : ByteArray) (w : World)
  (hg : w.heap[g]? = some (.cells #[.string s0, .slice A xs.length c, .string s2, .int .i64 s3] 61 (0, 0))) (hx : Kd.C k79 w A xs.length xs) (hl : xs.length ≤ 4294967296) :
  Calls Tryz.prog 22 #[.pointer (some ⟨g, 0, none⟩), .string a1] w fun e w' => e = .returned (.tuple #[.int .i64 (cntF xs a1 0 (⟨#[]⟩ : ByteArray)).1, .string (cntF xs a1 0 (⟨#[]⟩ : ByteArray)).2]) ∧ Below w.heap.size w w' := by
 have hu79 := Tryz.underlying79
 have HB := Aside0.mk (Below.refl w.heap.size w)
 have HX := Aside0.mk hx
 have HL := Aside0.mk hl
 clear hx hl
 have hcz3_0 : w.cell? ⟨g, 0, none⟩ = some (.string s0) := (blk_cell hg 0).trans rfl
 have hcz3_1 : w.cell? ⟨g, 1, none⟩ = some (.slice A xs.length c) := (blk_cell hg 1).trans rfl
 have hfz3_0 := blk_frozen hg 0
 clear hg
 generalize hR : cntF xs a1 0 (⟨#[]⟩ : ByteArray) = R
 have HR := Aside0.mk hR
 clear hR
 go_enter Tryz.func22, Tryz.ntmps22
 go_wp2
 go_loopg [6, 7, 15] (xs.length + 1) (fun kq v6 v7 v15 w' => ∃ (n : Int) (v : ByteArray) (i : Nat), v6 = .int .i64 n ∧ v7 = .string v ∧ v15 = .int .i64 (i : Int) ∧ Aside0 (i ≤ xs.length ∧ 0 ≤ n ∧ n ≤ i ∧ kq = xs.length - i + 1 ∧ cntF (xs.drop i) a1 n v = R) ∧ Aside0 (Below w.heap.size w w'))
 case atStart => exact ⟨0, (⟨#[]⟩ : ByteArray), 0, (by first | rfl | (simp; done) | (simp [*]; done)), (by first | rfl | (simp; done) | (simp [*]; done)), (by first | rfl | (simp; done) | (simp [*]; done)), ⟨Nat.zero_le _, by omega, by omega, by omega, HR.out⟩, HB⟩
 case round =>
  try clear hcz3_0
  try clear hcz3_1
  try clear hfz3_0
  obtain ⟨n, v, i, rfl, rfl, rfl, HA, HB⟩ := hrel
  cases gk with
  | zero => exact absurd HA.out.2.2.2.1 (by omega)
  | succ k1 =>
   obtain ⟨hi, hn0, hni, hk, hc⟩ := HA.out
   clear HA
   have hl := HL.out
   by_cases c4 : i < xs.length
   ·
    have c4b0 : decide ((i : Int) < (xs.length : Int)) = true := decide_eq_true (by omega)
    have p107 : 0 ≤ (i : Int) := by omega
    have q107 : (i : Int) < (xs.length : Int) := by omega
    obtain ⟨ad107, e107, hx107_0, hx107_1⟩ := at_T79 HX.out i p107 q107
    rw [rd_T79_nat xs i c4] at hx107_0 hx107_1
    rw [Int.toNat_natCast] at hx107_0 hx107_1
    rw [List.drop_eq_getElem_cons c4] at hc
    generalize xs[i] = x at hc hx107_0 hx107_1
    have wn := wrap_n hn0 (by omega)
    have wi : wrap64 ((i : Int) + 1) = ((i + 1 : Nat) : Int) := by unfold wrap64; omega
    cases e107
    replace hx107_0 := pw_cell_below HB.out hx107_0
    replace hx107_1 := pw_cell_below HB.out hx107_1
    have HN := Aside0.mk (show i + 1 ≤ xs.length ∧ 0 ≤ n ∧ n ≤ i ∧ k1 + 1 = xs.length - i + 1 from ⟨c4, hn0, hni, hk⟩)
    clear hi hn0 hni hk hl c4
    replace p107 := eq_true p107
    replace q107 := eq_true q107
    unfold cntF at hc
    by_cases c7 : x.f0.toList = a1.toList
    ·
     rw [if_pos c7] at hc
     have c7b0 : (x.f0.toList == a1.toList) = true := beq_iff_eq.mpr c7
     have c7b1 : (x.f0.toList != a1.toList) = false := bne_eq_false_iff_eq.mpr c7
     clear c7
     by_cases c8 : n = 0
     ·
      rw [if_pos c8] at hc
      have c8b0 : (n == 0) = true := beq_iff_eq.mpr c8
      have c8b1 : (n != 0) = false := bne_eq_false_iff_eq.mpr c8
      have HC := Aside0.mk hc
      clear hc c8
      go_wp2_with (first | ((with_reducible refine gate_dst (N := 9) rfl ?_); refine box_event ?hg (N := 9) ?hd (cs := #[.string (⟨#[]⟩ : ByteArray), .string (⟨#[]⟩ : ByteArray)]) (t := 79) ?hr ?_; (case hd => rfl); (case hg => rfl); (case hr => first | (go_simp; done) | (go_simp; rfl)); intro gb108 hg w10 hbox hb; have n2_ := Aside0.mk (below_step (by repeat (first | (with_reducible first | exact HB.out | apply below_alloc | apply pw_below_drewN | apply below_drew1) | exact HB.out)) hb); have n3_ := Aside0.mk (hbox); have n4_ := Aside0.mk ((by rw [hg]; exact (below_size (by repeat (first | (with_reducible first | exact HB.out | apply below_alloc | apply pw_below_drewN | apply below_drew1) | exact HB.out))) : w.heap.size ≤ gb108)); clear HB; have HB := n2_; have BK108 := n3_; have GE108 := n4_; clear n2_ n3_ n4_; clear hb hbox hg; have hcz12_0 : w10.cell? ⟨gb108, 0, none⟩ = some (.string (⟨#[]⟩ : ByteArray)) := (blk_cell BK108.out 0).trans rfl; have hcz12_1 : w10.cell? ⟨gb108, 1, none⟩ = some (.string (⟨#[]⟩ : ByteArray)) := (blk_cell BK108.out 1).trans rfl; have hfz12_0 := blk_frozen BK108.out 0; have hfz12_1 := blk_frozen BK108.out 1))
      go_roundg k1
      case measure => omega
      case rel => exact ⟨wrap64 (n + 1), x.f1, i + 1, (by first | rfl | (simp; done) | (simp [*]; done)), (by first | rfl | (simp; done) | (simp [*]; done)), (by rw [wi]), ⟨by have := HN.out; exact ⟨this.1, by rw [wn]; omega, by rw [wn]; omega, by omega, by rw [wn]; exact HC.out⟩⟩, ⟨by repeat (first | (with_reducible first | exact HB.out | apply below_alloc | apply pw_below_drewN | apply below_drew1 | refine below_set ?_ GE108.out) | exact HB.out)⟩⟩
     ·
      rw [if_neg c8] at hc
      have c8b0 : (n == 0) = false := beq_eq_false_iff_ne.mpr c8
      have c8b1 : (n != 0) = true := bne_iff_ne.mpr c8
      have HC := Aside0.mk hc
      clear hc c8
      go_wp2_with (first | ((with_reducible refine gate_dst (N := 9) rfl ?_); refine box_event ?hg (N := 9) ?hd (cs := #[.string (⟨#[]⟩ : ByteArray), .string (⟨#[]⟩ : ByteArray)]) (t := 79) ?hr ?_; (case hd => rfl); (case hg => rfl); (case hr => first | (go_simp; done) | (go_simp; rfl)); intro gb108 hg w10 hbox hb; have n2_ := Aside0.mk (below_step (by repeat (first | (with_reducible first | exact HB.out | apply below_alloc | apply pw_below_drewN | apply below_drew1) | exact HB.out)) hb); have n3_ := Aside0.mk (hbox); have n4_ := Aside0.mk ((by rw [hg]; exact (below_size (by repeat (first | (with_reducible first | exact HB.out | apply below_alloc | apply pw_below_drewN | apply below_drew1) | exact HB.out))) : w.heap.size ≤ gb108)); clear HB; have HB := n2_; have BK108 := n3_; have GE108 := n4_; clear n2_ n3_ n4_; clear hb hbox hg; have hcz12_0 : w10.cell? ⟨gb108, 0, none⟩ = some (.string (⟨#[]⟩ : ByteArray)) := (blk_cell BK108.out 0).trans rfl; have hcz12_1 : w10.cell? ⟨gb108, 1, none⟩ = some (.string (⟨#[]⟩ : ByteArray)) := (blk_cell BK108.out 1).trans rfl; have hfz12_0 := blk_frozen BK108.out 0; have hfz12_1 := blk_frozen BK108.out 1))
      go_roundg k1
      case measure => omega
      case rel => exact ⟨wrap64 (n + 1), v, i + 1, (by first | rfl | (simp; done) | (simp [*]; done)), (by first | rfl | (simp; done) | (simp [*]; done)), (by rw [wi]), ⟨by have := HN.out; exact ⟨this.1, by rw [wn]; omega, by rw [wn]; omega, by omega, by rw [wn]; exact HC.out⟩⟩, ⟨by repeat (first | (with_reducible first | exact HB.out | apply below_alloc | apply pw_below_drewN | apply below_drew1 | refine below_set ?_ GE108.out) | exact HB.out)⟩⟩
    ·
     rw [if_neg c7] at hc
     have c7b0 : (x.f0.toList == a1.toList) = false := beq_eq_false_iff_ne.mpr c7
     have c7b1 : (x.f0.toList != a1.toList) = true := bne_iff_ne.mpr c7
     clear c7
     have HC := Aside0.mk hc
     clear hc
     go_wp2_with (first | ((with_reducible refine gate_dst (N := 9) rfl ?_); refine box_event ?hg (N := 9) ?hd (cs := #[.string (⟨#[]⟩ : ByteArray), .string (⟨#[]⟩ : ByteArray)]) (t := 79) ?hr ?_; (case hd => rfl); (case hg => rfl); (case hr => first | (go_simp; done) | (go_simp; rfl)); intro gb108 hg w10 hbox hb; have n2_ := Aside0.mk (below_step (by repeat (first | (with_reducible first | exact HB.out | apply below_alloc | apply pw_below_drewN | apply below_drew1) | exact HB.out)) hb); have n3_ := Aside0.mk (hbox); have n4_ := Aside0.mk ((by rw [hg]; exact (below_size (by repeat (first | (with_reducible first | exact HB.out | apply below_alloc | apply pw_below_drewN | apply below_drew1) | exact HB.out))) : w.heap.size ≤ gb108)); clear HB; have HB := n2_; have BK108 := n3_; have GE108 := n4_; clear n2_ n3_ n4_; clear hb hbox hg; have hcz12_0 : w10.cell? ⟨gb108, 0, none⟩ = some (.string (⟨#[]⟩ : ByteArray)) := (blk_cell BK108.out 0).trans rfl; have hcz12_1 : w10.cell? ⟨gb108, 1, none⟩ = some (.string (⟨#[]⟩ : ByteArray)) := (blk_cell BK108.out 1).trans rfl; have hfz12_0 := blk_frozen BK108.out 0; have hfz12_1 := blk_frozen BK108.out 1))
     go_roundg k1
     case measure => omega
     case rel => exact ⟨n, v, i + 1, (by first | rfl | (simp; done) | (simp [*]; done)), (by first | rfl | (simp; done) | (simp [*]; done)), (by rw [wi]), ⟨by have := HN.out; exact ⟨this.1, by omega, by omega, by omega, HC.out⟩⟩, ⟨by repeat (first | (with_reducible first | exact HB.out | apply below_alloc | apply pw_below_drewN | apply below_drew1 | refine below_set ?_ GE108.out) | exact HB.out)⟩⟩
   ·
    have c4b0 : decide ((i : Int) < (xs.length : Int)) = false := decide_eq_false (by omega)
    obtain rfl : i = xs.length := by omega
    rw [List.drop_length] at hc
    unfold cntF at hc
    subst hc
    go_wp2
    go_ret2
    exact ⟨rfl, HB.out⟩
end Go.Proofs.YtpikebpjlhccbaaGreatDoor.PAll
