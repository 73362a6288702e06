/- http.ReadRequest and http.ReadResponse by their contracts. Laid by wip/pp/mk-readreq.py. -/
import Derived.Test.YtpikebpjlhccbaaGreatDoorShort
import Derived.Test.YtpikebpjlhccbaaGreatDoorReadF
import Derived.Test.YtpikebpjlhccbaaGreatDoorPAllx5
import Derived.Test.YtpikebpjlhccbaaGreatDoorPAllx6
import Derived.Test.YtpikebpjlhccbaaGreatDoorGiveNumber
namespace Go.Proofs.YtpikebpjlhccbaaGreatDoor.PAll
set_option linter.unusedVariables false
set_option linter.unusedSimpArgs false
open Go.RowKit Go.Proofs.YtpikebpjlhccbaaGreatDoorW.PrintWords Go.Proofs.YtpikebpjlhccbaaGreatDoorW.PrintLast Go.Proofs.YtpikebpjlhccbaaGreatDoorW.PrintMore

theorem headF.mono (k : Nat) (l : ByteArray) : LeO (headF k l) (headF (k + 1) l) := by
 unfold headF
 refine LeO.bind (LeO.refl _) (fun c => LeO.bind (LeO.refl _) (fun v => LeO.ite (LeO.refl _) (LeO.bind (http_token.mono _ _) (fun t => LeO.ite (LeO.refl _) (LeO.bind (http_text.mono _ _) (fun x => LeO.refl _))))))
theorem headsF.mono (k : Nat) : ∀ ls, LeO (headsF k ls) (headsF (k + 1) ls)
 | [] => LeO.refl _
 | l :: ls => by
  unfold headsF
  refine LeO.bind (headF.mono k l) (fun h => ?_)
  cases h with
  | none => exact LeO.refl _
  | some h => exact LeO.bind (headsF.mono k ls) (fun r => LeO.refl _)
theorem readF.mono (k : Nat) (rl rl' : ByteArray → Option Bool) (hl : ∀ x, LeO (rl x) (rl' x)) (hosts : Bool) (b : ByteArray) : LeO (readF k rl hosts b) (readF (k + 1) rl' hosts b) := by
 unfold readF
 refine LeO.bind (LeO.refl _) (fun i => LeO.ite (LeO.ite (LeO.refl _) (LeO.ite (LeO.refl _) (LeO.ite (LeO.bind (LeO.refl _) (fun ls => ?_)) (LeO.refl _)))) (LeO.refl _))
 cases ls with
 | nil => exact LeO.refl _
 | cons l0 ls =>
  show LeO (if ls.length ≤ 4096 then _ else _) (if ls.length ≤ 4096 then _ else _)
  refine LeO.ite (LeO.bind (hl l0) (fun r => LeO.ite (LeO.refl _) (LeO.bind (headsF.mono k ls) (fun hr => LeO.refl _)))) (LeO.refl _)

def nType : ByteArray := ⟨#[99, 111, 110, 116, 101, 110, 116, 45, 116, 121, 112, 101]⟩
theorem enters19 : ∀ args w, (callFunc 19 args).run Tryz.prog w = .ok (.enter 19 args) w := enters_of Tryz.func19 (by kernel_rfl) rfl
theorem enters26 : ∀ args w, (callFunc 26 args).run Tryz.prog w = .ok (.enter 26 args) w := enters_of Tryz.func26 (by kernel_rfl) rfl
/-- http.ReadRequest -/
def http_ReadRequest.f (k : Nat) (a0 : ByteArray) : Option (ByteArray × ByteArray × ByteArray × ByteArray × ByteArray × Int × Int) :=
 (readF k (http_ReadRequest_1.f k) true a0).bind fun r => match r with
  | .bad n => some ((⟨#[]⟩ : ByteArray), (⟨#[]⟩ : ByteArray), (⟨#[]⟩ : ByteArray), (⟨#[]⟩ : ByteArray), (⟨#[]⟩ : ByteArray), 0, n)
  | .good l0 xs body n => (http_requestLine.f k l0).bind fun q => some (q.1, q.2.1, (cntF xs nHost 0 (⟨#[]⟩ : ByteArray)).2, (cntF xs nType 0 (⟨#[]⟩ : ByteArray)).2, body, n, 0)
theorem http_ReadRequest.mono : ∀ a0 k, LeO (http_ReadRequest.f k a0) (http_ReadRequest.f (k + 1) a0) := by
 intro a0 k
 unfold http_ReadRequest.f
 refine LeO.bind (readF.mono _ _ _ (fun x => http_ReadRequest_1.mono x k) _ _) (fun r => ?_)
 cases r with
 | bad n => exact LeO.refl _
 | good l0 xs body n => exact LeO.bind (http_requestLine.mono _ _) (fun q => LeO.refl _)
/-- http.ReadResponse -/
def http_ReadResponse.f (k : Nat) (a0 : ByteArray) : Option (Int × ByteArray × Int × Int) :=
 (readF k (http_ReadResponse_1.f k) false a0).bind fun r => match r with
  | .bad n => some (0, (⟨#[]⟩ : ByteArray), 0, n)
  | .good l0 xs body n => (http_statusLine.f k l0).bind fun q => some (q.1, body, n, 0)
theorem http_ReadResponse.mono : ∀ a0 k, LeO (http_ReadResponse.f k a0) (http_ReadResponse.f (k + 1) a0) := by
 intro a0 k
 unfold http_ReadResponse.f
 refine LeO.bind (readF.mono _ _ _ (fun x => http_ReadResponse_1.mono x k) _ _) (fun r => ?_)
 cases r with
 | bad n => exact LeO.refl _
 | good l0 xs body n => exact LeO.bind (http_statusLine.mono _ _) (fun q => LeO.refl _)
def http_ReadRequest.T8 : Bool × List (List Nat × List Nat) := (true, [([], []), ([], []), ([1], [1]), ([2], [2]), ([3], [3]), ([0, 0], [0]), ([4, 5, 0, 1, 2, 3, 4, 5], [4]), ([6, 0, 1, 2, 3, 4, 5, 6], [])])
def http_ReadRequest.B8 : List Nat := [0, 0, 2, 6, 14, 1, 63, 127]
theorem http_ReadRequest.tab8 : rtab .any (opsOf Tryz.f10 8) = http_ReadRequest.T8 := by kernel_rfl
theorem http_ReadRequest.bits8 : waitsOk http_ReadRequest.T8.2 http_ReadRequest.B8 = true := by kernel_rfl
def http_ReadResponse.T5 : Bool × List (List Nat × List Nat) := (true, [([], []), ([], []), ([1], [1]), ([2], [2]), ([3], [3]), ([0, 4], [0, 4]), ([], []), ([6], [6]), ([7], [7]), ([8], [8]), ([5, 0, 1, 2, 3, 4, 5], [5]), ([9, 10, 0, 1, 2, 3, 4, 5, 6, 7, 8, 9, 10], [9]), ([11, 0, 1, 2, 3, 4, 5, 6, 7, 8, 9, 10, 11], [])])
def http_ReadResponse.B5 : List Nat := [0, 0, 2, 6, 14, 31, 0, 64, 192, 448, 63, 2047, 4095]
theorem http_ReadResponse.tab5 : rtab .any (opsOf Tryz.f12 5) = http_ReadResponse.T5 := by kernel_rfl
theorem http_ReadResponse.bits5 : waitsOk http_ReadResponse.T5.2 http_ReadResponse.B5 = true := by kernel_rfl
set_option maxHeartbeats 8000000 in
set_option maxRecDepth 100000 in
theorem http_ReadRequest.calls (k : Nat) (a0 : ByteArray) (r1 r2 r3 r4 r5 : ByteArray) (r6 r7 : Int) (w : World) (hT : Aside0 (TabsOk w)) (h : http_ReadRequest.f k a0 = some (r1, r2, r3, r4, r5, r6, r7)) :
  Calls Tryz.prog 10 #[.string a0] w fun e w' => e = .returned (.tuple #[.agg #[.string r1, .string r2, .string r3, .string r4, .string r5], .int .i64 r6, .int .i64 r7]) ∧ Below w.heap.size w w' := by
 have hu24 := Tryz.underlying24
 have hu61 := Tryz.underlying61
 have HB := zM (Below.refl w.heap.size w)
 unfold http_ReadRequest.f at h
 obtain ⟨rd, hrd, h⟩ := Option.bind_eq_some_iff.mp h
 have RD0 := fun W hT' => http_read.calls k 19 enters19 (http_ReadRequest_1.f k) (fun l r W hW hl => http_ReadRequest_1.calls k l r W hW hl) a0 true rd W hT' hrd
 clear hrd
 cases rd with
 | bad n =>
  simp only [Option.some.injEq, Prod.mk.injEq] at h
  obtain ⟨rfl, rfl, rfl, rfl, rfl, rfl, rfl⟩ := h
  have RD : Aside0 (∀ W, Aside0 (TabsOk W) → Calls Tryz.prog 18 #[.string a0, .func (.func 19) #[] #[], .bool true] W fun e w' => e = .returned (.tuple #[.pointer none, .iface 25 (.int .i64 n)]) ∧ Below W.heap.size W w') := ⟨RD0⟩
  clear RD0
  go_enter Tryz.func10, Tryz.ntmps10
  go_wp2_with (first | ((with_reducible refine gate_dst (N := 2) rfl ?_); refine box_event ?hg (N := 2) ?hd (cs := #[.string (⟨#[]⟩ : ByteArray), .string (⟨#[]⟩ : ByteArray), .string (⟨#[]⟩ : ByteArray), .string (⟨#[]⟩ : ByteArray), .string (⟨#[]⟩ : ByteArray)]) (t := 24) ?hr ?_; (case hd => rfl); (case hg => rfl); (case hr => first | (go_simp; done) | (go_simp; rfl)); intro g2 hg w3 hbox hb; have n2_ := zM ((by rw [hg]; exact below_size HB.out : w.heap.size ≤ g2)); have n1_ := zM (below_step HB.out hb); have BK2 := zM hbox; clear HB; have HB := n1_; have GE2 := n2_; clear n1_ n2_ hb hbox hg) | (go_at_call 18; refine (RD.out _ ⟨TabsOk.below hT.out HB.out⟩).mono ?_; rintro e w5 ⟨rfl, hb⟩; have n_ := zM (blk_below BK2.out hb); clear BK2; have BK2 := n_; clear n_; have n_ := zM (below_step HB.out hb); clear HB; have HB := n_; clear n_ hb) | (go_at_call 21; (with_reducible refine (http_number.calls n _ ⟨TabsOk.below hT.out HB.out⟩).mono ?_); rintro e w6 ⟨rfl, hb⟩; have n_ := zM (blk_below BK2.out hb); clear BK2; have BK2 := n_; clear n_; have n_ := zM (below_step HB.out hb); clear HB; have HB := n_; clear n_ hb; have hcz2_0 : w6.cell? ⟨g2, 0, none⟩ = some (.string (⟨#[]⟩ : ByteArray)) := (blk_cell BK2.out 0).trans rfl; have hfz2_0 := blk_frozen BK2.out 0; have hcz2_1 : w6.cell? ⟨g2, 1, none⟩ = some (.string (⟨#[]⟩ : ByteArray)) := (blk_cell BK2.out 1).trans rfl; have hfz2_1 := blk_frozen BK2.out 1; have hcz2_2 : w6.cell? ⟨g2, 2, none⟩ = some (.string (⟨#[]⟩ : ByteArray)) := (blk_cell BK2.out 2).trans rfl; have hfz2_2 := blk_frozen BK2.out 2; have hcz2_3 : w6.cell? ⟨g2, 3, none⟩ = some (.string (⟨#[]⟩ : ByteArray)) := (blk_cell BK2.out 3).trans rfl; have hfz2_3 := blk_frozen BK2.out 3; have hcz2_4 : w6.cell? ⟨g2, 4, none⟩ = some (.string (⟨#[]⟩ : ByteArray)) := (blk_cell BK2.out 4).trans rfl; have hfz2_4 := blk_frozen BK2.out 4))
  refine bodyPost_ret (results_ctt rfl _ _ g2 24 #[.string (⟨#[]⟩ : ByteArray), .string (⟨#[]⟩ : ByteArray), .string (⟨#[]⟩ : ByteArray), .string (⟨#[]⟩ : ByteArray), .string (⟨#[]⟩ : ByteArray)] (0, 0) _ rfl (blk_put (cs := #[.string (⟨#[]⟩ : ByteArray), .string (⟨#[]⟩ : ByteArray), .string (⟨#[]⟩ : ByteArray), .string (⟨#[]⟩ : ByteArray), .string (⟨#[]⟩ : ByteArray)]) (blk_put (cs := #[.string (⟨#[]⟩ : ByteArray), .string (⟨#[]⟩ : ByteArray), .string (⟨#[]⟩ : ByteArray), .string (⟨#[]⟩ : ByteArray), .string (⟨#[]⟩ : ByteArray)]) (blk_put (cs := #[.string (⟨#[]⟩ : ByteArray), .string (⟨#[]⟩ : ByteArray), .string (⟨#[]⟩ : ByteArray), .string (⟨#[]⟩ : ByteArray), .string (⟨#[]⟩ : ByteArray)]) (blk_put (cs := #[.string (⟨#[]⟩ : ByteArray), .string (⟨#[]⟩ : ByteArray), .string (⟨#[]⟩ : ByteArray), .string (⟨#[]⟩ : ByteArray), .string (⟨#[]⟩ : ByteArray)]) (blk_put (cs := #[.string (⟨#[]⟩ : ByteArray), .string (⟨#[]⟩ : ByteArray), .string (⟨#[]⟩ : ByteArray), .string (⟨#[]⟩ : ByteArray), .string (⟨#[]⟩ : ByteArray)]) (BK2.out) 0 _ rfl) 1 _ rfl) 2 _ rfl) 3 _ rfl) 4 _ rfl) Tryz.underlying24 rfl (by kernel_rfl)) rfl ?_
  exact ⟨rfl, by repeat (first | exact HB.out | refine below_set ?_ GE2.out | apply below_alloc | apply below_drew)⟩
 | good l0 xs body n =>
  have RD : Aside0 (∀ W, Aside0 (TabsOk W) → Calls Tryz.prog 18 #[.string a0, .func (.func 19) #[] #[], .bool true] W fun e w' => ∃ g A c, e = .returned (.tuple #[.pointer (some ⟨g, 0, none⟩), .nilIface]) ∧ w'.heap[g]? = some (.cells #[.string l0, .slice A xs.length c, .string body, .int .i64 n] 61 (0, 0)) ∧ Kd.R k79 79 w' g (fun q => q ≠ g) (.slice A xs.length c) xs ∧ xs.length ≤ 4294967296 ∧ Below W.heap.size W w') := ⟨RD0⟩
  clear RD0
  obtain ⟨⟨t1, t2, t3⟩, hq, h⟩ := Option.bind_eq_some_iff.mp h
  have RQ := zM (fun W hT' => http_requestLine.calls k l0 t1 t2 t3 W hT' hq)
  clear hq
  simp only [Option.some.injEq, Prod.mk.injEq] at h
  obtain ⟨rfl, rfl, rfl, rfl, rfl, rfl, rfl⟩ := h
  obtain ⟨n1, v1, e1⟩ : ∃ n v, cntF xs (⟨#[104, 111, 115, 116]⟩ : ByteArray) 0 (⟨#[]⟩ : ByteArray) = (n, v) := ⟨_, _, rfl⟩
  obtain ⟨n2, v2, e2⟩ : ∃ n v, cntF xs (⟨#[99, 111, 110, 116, 101, 110, 116, 45, 116, 121, 112, 101]⟩ : ByteArray) 0 (⟨#[]⟩ : ByteArray) = (n, v) := ⟨_, _, rfl⟩
  rw [show cntF xs nHost 0 (⟨#[]⟩ : ByteArray) = (n1, v1) from e1, show cntF xs nType 0 (⟨#[]⟩ : ByteArray) = (n2, v2) from e2]
  have E12 := zM (And.intro e1 e2)
  clear e1 e2
  go_enter Tryz.func10, Tryz.ntmps10
  go_upto_region 5 with (first | ((with_reducible refine gate_dst (N := 2) rfl ?_); refine box_event ?hg (N := 2) ?hd (cs := #[.string (⟨#[]⟩ : ByteArray), .string (⟨#[]⟩ : ByteArray), .string (⟨#[]⟩ : ByteArray), .string (⟨#[]⟩ : ByteArray), .string (⟨#[]⟩ : ByteArray)]) (t := 24) ?hr ?_; (case hd => rfl); (case hg => rfl); (case hr => first | (go_simp; done) | (go_simp; rfl)); intro g2 hg w3 hbox hb; have n2_ := zM ((by rw [hg]; exact below_size HB.out : w.heap.size ≤ g2)); have n1_ := zM (below_step HB.out hb); have BK2 := zM hbox; clear HB; have HB := n1_; have GE2 := n2_; clear n1_ n2_ hb hbox hg) | (go_at_call 18; refine (RD.out _ ⟨TabsOk.below hT.out HB.out⟩).mono ?_; rintro e w5 ⟨g, A, c, rfl, hm, ho, hx, hb⟩; have HX := zM hx; have MB := zM hm; have HO := zM ho; have n_ := zM (blk_below BK2.out hb); clear BK2; have BK2 := n_; clear n_; have n_ := zM (below_step HB.out hb); clear HB; have HB := n_; clear n_ hb; have NE2g := zM (show g2 ≠ g by rintro rfl; have := BK2.out.symm.trans MB.out; simp at this); clear hx hm ho; have hczm_0 : w5.cell? ⟨g, 0, none⟩ = some (.string l0) := (blk_cell MB.out 0).trans rfl; have hfzm_0 := blk_frozen MB.out 0; have hczm_1 : w5.cell? ⟨g, 1, none⟩ = some (.slice A xs.length c) := (blk_cell MB.out 1).trans rfl; have hfzm_1 := blk_frozen MB.out 1; have hczm_2 : w5.cell? ⟨g, 2, none⟩ = some (.string body) := (blk_cell MB.out 2).trans rfl; have hfzm_2 := blk_frozen MB.out 2; have hczm_3 : w5.cell? ⟨g, 3, none⟩ = some (.int .i64 n) := (blk_cell MB.out 3).trans rfl; have hfzm_3 := blk_frozen MB.out 3) | ((with_reducible refine gate_dst (N := 7) rfl ?_); refine box_event ?hg (N := 7) ?hd (cs := #[.string (⟨#[]⟩ : ByteArray), .string (⟨#[]⟩ : ByteArray), .string (⟨#[]⟩ : ByteArray), .string (⟨#[]⟩ : ByteArray), .string (⟨#[]⟩ : ByteArray)]) (t := 24) ?hr ?_; (case hd => rfl); (case hg => rfl); (case hr => first | (go_simp; done) | (go_simp; rfl)); intro g7 hg w7 hbox hb; have n2_ := zM ((by rw [hg]; exact below_size HB.out : w.heap.size ≤ g7)); have n3_ := zM (show g2 ≠ g7 by rw [hg]; exact Nat.ne_of_lt (blk_lt BK2.out)); have n4_ := zM (show g ≠ g7 by rw [hg]; exact Nat.ne_of_lt (blk_lt MB.out)); have n5_ := zM (blk_below BK2.out hb); have n6_ := zM (blk_below MB.out hb); have n7_ := zM (Kd.R_below HO.out hb); clear BK2 MB HO; have BK2 := n5_; have MB := n6_; have HO := n7_; have NE27 := n3_; have NEg7 := n4_; clear n3_ n4_ n5_ n6_ n7_; have n1_ := zM (below_step HB.out hb); have BK7 := zM hbox; clear HB; have HB := n1_; have GE7 := n2_; clear n1_ n2_ hb hbox hg; have hcz7_0 : w7.cell? ⟨g7, 0, none⟩ = some (.string (⟨#[]⟩ : ByteArray)) := (blk_cell BK7.out 0).trans rfl; have hfz7_0 := blk_frozen BK7.out 0; have hcz7_1 : w7.cell? ⟨g7, 1, none⟩ = some (.string (⟨#[]⟩ : ByteArray)) := (blk_cell BK7.out 1).trans rfl; have hfz7_1 := blk_frozen BK7.out 1; have hcz7_2 : w7.cell? ⟨g7, 2, none⟩ = some (.string (⟨#[]⟩ : ByteArray)) := (blk_cell BK7.out 2).trans rfl; have hfz7_2 := blk_frozen BK7.out 2; have hcz7_3 : w7.cell? ⟨g7, 3, none⟩ = some (.string (⟨#[]⟩ : ByteArray)) := (blk_cell BK7.out 3).trans rfl; have hfz7_3 := blk_frozen BK7.out 3; have hcz7_4 : w7.cell? ⟨g7, 4, none⟩ = some (.string (⟨#[]⟩ : ByteArray)) := (blk_cell BK7.out 4).trans rfl; have hfz7_4 := blk_frozen BK7.out 4; have hczm_0 : w7.cell? ⟨g, 0, none⟩ = some (.string l0) := (blk_cell MB.out 0).trans rfl; have hfzm_0 := blk_frozen MB.out 0; have hczm_1 : w7.cell? ⟨g, 1, none⟩ = some (.slice A xs.length c) := (blk_cell MB.out 1).trans rfl; have hfzm_1 := blk_frozen MB.out 1; have hczm_2 : w7.cell? ⟨g, 2, none⟩ = some (.string body) := (blk_cell MB.out 2).trans rfl; have hfzm_2 := blk_frozen MB.out 2; have hczm_3 : w7.cell? ⟨g, 3, none⟩ = some (.int .i64 n) := (blk_cell MB.out 3).trans rfl; have hfzm_3 := blk_frozen MB.out 3; have hn1 := NEg7.out; have hn2 := NEg7.out.symm))
  have n1_ : Aside0 (((((((w7.setCell ⟨g7, 0, none⟩ (.string (⟨#[]⟩ : ByteArray))).setCell ⟨g7, 1, none⟩ (.string (⟨#[]⟩ : ByteArray))).setCell ⟨g7, 2, none⟩ (.string (⟨#[]⟩ : ByteArray))).setCell ⟨g7, 3, none⟩ (.string (⟨#[]⟩ : ByteArray))).setCell ⟨g7, 4, none⟩ (.string body))).heap[g7]? = some (.cells #[.string (⟨#[]⟩ : ByteArray), .string (⟨#[]⟩ : ByteArray), .string (⟨#[]⟩ : ByteArray), .string (⟨#[]⟩ : ByteArray), .string body] 24 (0, 0))) := ⟨blk_put (cs := #[.string (⟨#[]⟩ : ByteArray), .string (⟨#[]⟩ : ByteArray), .string (⟨#[]⟩ : ByteArray), .string (⟨#[]⟩ : ByteArray), .string (⟨#[]⟩ : ByteArray)]) (blk_put (cs := #[.string (⟨#[]⟩ : ByteArray), .string (⟨#[]⟩ : ByteArray), .string (⟨#[]⟩ : ByteArray), .string (⟨#[]⟩ : ByteArray), .string (⟨#[]⟩ : ByteArray)]) (blk_put (cs := #[.string (⟨#[]⟩ : ByteArray), .string (⟨#[]⟩ : ByteArray), .string (⟨#[]⟩ : ByteArray), .string (⟨#[]⟩ : ByteArray), .string (⟨#[]⟩ : ByteArray)]) (blk_put (cs := #[.string (⟨#[]⟩ : ByteArray), .string (⟨#[]⟩ : ByteArray), .string (⟨#[]⟩ : ByteArray), .string (⟨#[]⟩ : ByteArray), .string (⟨#[]⟩ : ByteArray)]) (blk_put (cs := #[.string (⟨#[]⟩ : ByteArray), .string (⟨#[]⟩ : ByteArray), .string (⟨#[]⟩ : ByteArray), .string (⟨#[]⟩ : ByteArray), .string (⟨#[]⟩ : ByteArray)]) (BK7.out) 0 _ rfl) 1 _ rfl) 2 _ rfl) 3 _ rfl) 4 _ rfl⟩
  have n2_ : Aside0 (((((((w7.setCell ⟨g7, 0, none⟩ (.string (⟨#[]⟩ : ByteArray))).setCell ⟨g7, 1, none⟩ (.string (⟨#[]⟩ : ByteArray))).setCell ⟨g7, 2, none⟩ (.string (⟨#[]⟩ : ByteArray))).setCell ⟨g7, 3, none⟩ (.string (⟨#[]⟩ : ByteArray))).setCell ⟨g7, 4, none⟩ (.string body))).heap[g2]? = some (.cells #[.string (⟨#[]⟩ : ByteArray), .string (⟨#[]⟩ : ByteArray), .string (⟨#[]⟩ : ByteArray), .string (⟨#[]⟩ : ByteArray), .string (⟨#[]⟩ : ByteArray)] 24 (0, 0))) := ⟨blk_far (blk_far (blk_far (blk_far (blk_far (BK2.out) NE27.out _) NE27.out _) NE27.out _) NE27.out _) NE27.out _⟩
  have n3_ : Aside0 (((((((w7.setCell ⟨g7, 0, none⟩ (.string (⟨#[]⟩ : ByteArray))).setCell ⟨g7, 1, none⟩ (.string (⟨#[]⟩ : ByteArray))).setCell ⟨g7, 2, none⟩ (.string (⟨#[]⟩ : ByteArray))).setCell ⟨g7, 3, none⟩ (.string (⟨#[]⟩ : ByteArray))).setCell ⟨g7, 4, none⟩ (.string body))).heap[g]? = some (.cells #[.string l0, .slice A xs.length c, .string body, .int .i64 n] 61 (0, 0))) := ⟨blk_far (blk_far (blk_far (blk_far (blk_far (MB.out) NEg7.out _) NEg7.out _) NEg7.out _) NEg7.out _) NEg7.out _⟩
  have n4_ : Aside0 (Kd.R k79 79 (((((w7.setCell ⟨g7, 0, none⟩ (.string (⟨#[]⟩ : ByteArray))).setCell ⟨g7, 1, none⟩ (.string (⟨#[]⟩ : ByteArray))).setCell ⟨g7, 2, none⟩ (.string (⟨#[]⟩ : ByteArray))).setCell ⟨g7, 3, none⟩ (.string (⟨#[]⟩ : ByteArray))).setCell ⟨g7, 4, none⟩ (.string body)) g (fun q => q ≠ g) (.slice A xs.length c) xs) := ⟨Kd.R_mono (Kd.R_far (p := ⟨g7, 4, none⟩) (Kd.R_far (p := ⟨g7, 3, none⟩) (Kd.R_far (p := ⟨g7, 2, none⟩) (Kd.R_far (p := ⟨g7, 1, none⟩) (Kd.R_far (p := ⟨g7, 0, none⟩) (Kd.R_types HO.out BK7.out (by decide)) (fun k hk => hk.2) _) (fun k hk => hk.2) _) (fun k hk => hk.2) _) (fun k hk => hk.2) _) (fun k hk => hk.2) _) (fun _ hk => hk.1)⟩
  have n5_ : Aside0 (Below w.heap.size w (((((w7.setCell ⟨g7, 0, none⟩ (.string (⟨#[]⟩ : ByteArray))).setCell ⟨g7, 1, none⟩ (.string (⟨#[]⟩ : ByteArray))).setCell ⟨g7, 2, none⟩ (.string (⟨#[]⟩ : ByteArray))).setCell ⟨g7, 3, none⟩ (.string (⟨#[]⟩ : ByteArray))).setCell ⟨g7, 4, none⟩ (.string body))) := ⟨below_set (below_set (below_set (below_set (below_set (HB.out) GE7.out) GE7.out) GE7.out) GE7.out) GE7.out⟩
  clear BK7 BK2 MB HO HB
  generalize (((((w7.setCell ⟨g7, 0, none⟩ (.string (⟨#[]⟩ : ByteArray))).setCell ⟨g7, 1, none⟩ (.string (⟨#[]⟩ : ByteArray))).setCell ⟨g7, 2, none⟩ (.string (⟨#[]⟩ : ByteArray))).setCell ⟨g7, 3, none⟩ (.string (⟨#[]⟩ : ByteArray))).setCell ⟨g7, 4, none⟩ (.string body)) = W4 at n1_ n2_ n3_ n4_ n5_ ⊢
  have BK7 := n1_
  have BK2 := n2_
  have MB := n3_
  have HO := n4_
  have HB := n5_
  clear n1_ n2_ n3_ n4_ n5_
  have hcz8_0 : W4.cell? ⟨g7, 0, none⟩ = some (.string (⟨#[]⟩ : ByteArray)) := (blk_cell BK7.out 0).trans rfl
  have hfz8_0 := blk_frozen BK7.out 0
  have hcz8_1 : W4.cell? ⟨g7, 1, none⟩ = some (.string (⟨#[]⟩ : ByteArray)) := (blk_cell BK7.out 1).trans rfl
  have hfz8_1 := blk_frozen BK7.out 1
  have hcz8_2 : W4.cell? ⟨g7, 2, none⟩ = some (.string (⟨#[]⟩ : ByteArray)) := (blk_cell BK7.out 2).trans rfl
  have hfz8_2 := blk_frozen BK7.out 2
  have hcz8_3 : W4.cell? ⟨g7, 3, none⟩ = some (.string (⟨#[]⟩ : ByteArray)) := (blk_cell BK7.out 3).trans rfl
  have hfz8_3 := blk_frozen BK7.out 3
  have hcz8_4 : W4.cell? ⟨g7, 4, none⟩ = some (.string body) := (blk_cell BK7.out 4).trans rfl
  have hfz8_4 := blk_frozen BK7.out 4
  have hczn_0 : W4.cell? ⟨g, 0, none⟩ = some (.string l0) := (blk_cell MB.out 0).trans rfl
  have hfzn_0 := blk_frozen MB.out 0
  have hczn_1 : W4.cell? ⟨g, 1, none⟩ = some (.slice A xs.length c) := (blk_cell MB.out 1).trans rfl
  have hfzn_1 := blk_frozen MB.out 1
  have hczn_2 : W4.cell? ⟨g, 2, none⟩ = some (.string body) := (blk_cell MB.out 2).trans rfl
  have hfzn_2 := blk_frozen MB.out 2
  have hczn_3 : W4.cell? ⟨g, 3, none⟩ = some (.int .i64 n) := (blk_cell MB.out 3).trans rfl
  have hfzn_3 := blk_frozen MB.out 3
  go_upto_region 6 with (first | (go_at_call 20; (with_reducible refine (RQ.out _ ⟨TabsOk.below hT.out HB.out⟩).mono ?_); rintro e w8 ⟨rfl, hb⟩; have n_ := zM (blk_below BK7.out hb); clear BK7; have BK7 := n_; clear n_; have n_ := zM (blk_below BK2.out hb); clear BK2; have BK2 := n_; clear n_; have n_ := zM (blk_below MB.out hb); clear MB; have MB := n_; clear n_; have n_ := zM (Kd.R_below HO.out hb); clear HO; have HO := n_; clear n_; have n_ := zM (below_step HB.out hb); clear HB; have HB := n_; clear n_ hb; have hcz9_0 : w8.cell? ⟨g7, 0, none⟩ = some (.string (⟨#[]⟩ : ByteArray)) := (blk_cell BK7.out 0).trans rfl; have hfz9_0 := blk_frozen BK7.out 0; have hcz9_1 : w8.cell? ⟨g7, 1, none⟩ = some (.string (⟨#[]⟩ : ByteArray)) := (blk_cell BK7.out 1).trans rfl; have hfz9_1 := blk_frozen BK7.out 1; have hcz9_2 : w8.cell? ⟨g7, 2, none⟩ = some (.string (⟨#[]⟩ : ByteArray)) := (blk_cell BK7.out 2).trans rfl; have hfz9_2 := blk_frozen BK7.out 2; have hcz9_3 : w8.cell? ⟨g7, 3, none⟩ = some (.string (⟨#[]⟩ : ByteArray)) := (blk_cell BK7.out 3).trans rfl; have hfz9_3 := blk_frozen BK7.out 3; have hcz9_4 : w8.cell? ⟨g7, 4, none⟩ = some (.string body) := (blk_cell BK7.out 4).trans rfl; have hfz9_4 := blk_frozen BK7.out 4))
  have n1_ : Aside0 ((((w8.setCell ⟨g7, 0, none⟩ (.string t1)).setCell ⟨g7, 1, none⟩ (.string t2))).heap[g7]? = some (.cells #[.string t1, .string t2, .string (⟨#[]⟩ : ByteArray), .string (⟨#[]⟩ : ByteArray), .string body] 24 (0, 0))) := ⟨blk_put (cs := #[.string t1, .string (⟨#[]⟩ : ByteArray), .string (⟨#[]⟩ : ByteArray), .string (⟨#[]⟩ : ByteArray), .string body]) (blk_put (cs := #[.string (⟨#[]⟩ : ByteArray), .string (⟨#[]⟩ : ByteArray), .string (⟨#[]⟩ : ByteArray), .string (⟨#[]⟩ : ByteArray), .string body]) (BK7.out) 0 _ rfl) 1 _ rfl⟩
  have n2_ : Aside0 ((((w8.setCell ⟨g7, 0, none⟩ (.string t1)).setCell ⟨g7, 1, none⟩ (.string t2))).heap[g2]? = some (.cells #[.string (⟨#[]⟩ : ByteArray), .string (⟨#[]⟩ : ByteArray), .string (⟨#[]⟩ : ByteArray), .string (⟨#[]⟩ : ByteArray), .string (⟨#[]⟩ : ByteArray)] 24 (0, 0))) := ⟨blk_far (blk_far (BK2.out) NE27.out _) NE27.out _⟩
  have n3_ : Aside0 ((((w8.setCell ⟨g7, 0, none⟩ (.string t1)).setCell ⟨g7, 1, none⟩ (.string t2))).heap[g]? = some (.cells #[.string l0, .slice A xs.length c, .string body, .int .i64 n] 61 (0, 0))) := ⟨blk_far (blk_far (MB.out) NEg7.out _) NEg7.out _⟩
  have n4_ : Aside0 (Kd.R k79 79 ((w8.setCell ⟨g7, 0, none⟩ (.string t1)).setCell ⟨g7, 1, none⟩ (.string t2)) g (fun q => q ≠ g) (.slice A xs.length c) xs) := ⟨Kd.R_mono (Kd.R_far (p := ⟨g7, 1, none⟩) (Kd.R_far (p := ⟨g7, 0, none⟩) (Kd.R_types HO.out BK7.out (by decide)) (fun k hk => hk.2) _) (fun k hk => hk.2) _) (fun _ hk => hk.1)⟩
  have n5_ : Aside0 (Below w.heap.size w ((w8.setCell ⟨g7, 0, none⟩ (.string t1)).setCell ⟨g7, 1, none⟩ (.string t2))) := ⟨below_set (below_set (HB.out) GE7.out) GE7.out⟩
  clear BK7 BK2 MB HO HB
  generalize ((w8.setCell ⟨g7, 0, none⟩ (.string t1)).setCell ⟨g7, 1, none⟩ (.string t2)) = W5 at n1_ n2_ n3_ n4_ n5_ ⊢
  have BK7 := n1_
  have BK2 := n2_
  have MB := n3_
  have HO := n4_
  have HB := n5_
  clear n1_ n2_ n3_ n4_ n5_
  have CN1 := zM (fun W hB hO => E12.out.1 ▸ http_message_count.calls g A c l0 body n xs (⟨#[104, 111, 115, 116]⟩ : ByteArray) W hB hO HX.out)
  have CN2 := zM (fun W hB hO => E12.out.2 ▸ http_message_count.calls g A c l0 body n xs (⟨#[99, 111, 110, 116, 101, 110, 116, 45, 116, 121, 112, 101]⟩ : ByteArray) W hB hO HX.out)
  go_upto_region 7 with (first | (go_at_call 22; (with_reducible refine (CN1.out _ MB.out (Kd.R_reads' HO.out).2.2).mono ?_); rintro e w10 ⟨rfl, hb⟩; have n_ := zM (blk_below BK7.out hb); clear BK7; have BK7 := n_; clear n_; have n_ := zM (blk_below BK2.out hb); clear BK2; have BK2 := n_; clear n_; have n_ := zM (blk_below MB.out hb); clear MB; have MB := n_; clear n_; have n_ := zM (Kd.R_below HO.out hb); clear HO; have HO := n_; clear n_; have n_ := zM (below_step HB.out hb); clear HB; have HB := n_; clear n_ hb; have hczc1_0 : w10.cell? ⟨g7, 0, none⟩ = some (.string t1) := (blk_cell BK7.out 0).trans rfl; have hfzc1_0 := blk_frozen BK7.out 0; have hczc1_1 : w10.cell? ⟨g7, 1, none⟩ = some (.string t2) := (blk_cell BK7.out 1).trans rfl; have hfzc1_1 := blk_frozen BK7.out 1; have hczc1_2 : w10.cell? ⟨g7, 2, none⟩ = some (.string (⟨#[]⟩ : ByteArray)) := (blk_cell BK7.out 2).trans rfl; have hfzc1_2 := blk_frozen BK7.out 2; have hczc1_3 : w10.cell? ⟨g7, 3, none⟩ = some (.string (⟨#[]⟩ : ByteArray)) := (blk_cell BK7.out 3).trans rfl; have hfzc1_3 := blk_frozen BK7.out 3; have hczc1_4 : w10.cell? ⟨g7, 4, none⟩ = some (.string body) := (blk_cell BK7.out 4).trans rfl; have hfzc1_4 := blk_frozen BK7.out 4))
  have n1_ : Aside0 (((w10.setCell ⟨g7, 2, none⟩ (.string v1))).heap[g7]? = some (.cells #[.string t1, .string t2, .string v1, .string (⟨#[]⟩ : ByteArray), .string body] 24 (0, 0))) := ⟨blk_put (cs := #[.string t1, .string t2, .string (⟨#[]⟩ : ByteArray), .string (⟨#[]⟩ : ByteArray), .string body]) (BK7.out) 2 _ rfl⟩
  have n2_ : Aside0 (((w10.setCell ⟨g7, 2, none⟩ (.string v1))).heap[g2]? = some (.cells #[.string (⟨#[]⟩ : ByteArray), .string (⟨#[]⟩ : ByteArray), .string (⟨#[]⟩ : ByteArray), .string (⟨#[]⟩ : ByteArray), .string (⟨#[]⟩ : ByteArray)] 24 (0, 0))) := ⟨blk_far (BK2.out) NE27.out _⟩
  have n3_ : Aside0 (((w10.setCell ⟨g7, 2, none⟩ (.string v1))).heap[g]? = some (.cells #[.string l0, .slice A xs.length c, .string body, .int .i64 n] 61 (0, 0))) := ⟨blk_far (MB.out) NEg7.out _⟩
  have n4_ : Aside0 (Kd.R k79 79 (w10.setCell ⟨g7, 2, none⟩ (.string v1)) g (fun q => q ≠ g) (.slice A xs.length c) xs) := ⟨Kd.R_mono (Kd.R_far (p := ⟨g7, 2, none⟩) (Kd.R_types HO.out BK7.out (by decide)) (fun k hk => hk.2) _) (fun _ hk => hk.1)⟩
  have n5_ : Aside0 (Below w.heap.size w (w10.setCell ⟨g7, 2, none⟩ (.string v1))) := ⟨below_set (HB.out) GE7.out⟩
  clear BK7 BK2 MB HO HB
  generalize (w10.setCell ⟨g7, 2, none⟩ (.string v1)) = W6 at n1_ n2_ n3_ n4_ n5_ ⊢
  have BK7 := n1_
  have BK2 := n2_
  have MB := n3_
  have HO := n4_
  have HB := n5_
  clear n1_ n2_ n3_ n4_ n5_
  go_upto_region 8 with (first | (go_at_call 22; (with_reducible refine (CN2.out _ MB.out (Kd.R_reads' HO.out).2.2).mono ?_); rintro e w11 ⟨rfl, hb⟩; have n_ := zM (blk_below BK7.out hb); clear BK7; have BK7 := n_; clear n_; have n_ := zM (blk_below BK2.out hb); clear BK2; have BK2 := n_; clear n_; have n_ := zM (blk_below MB.out hb); clear MB; have MB := n_; clear n_; have n_ := zM (Kd.R_below HO.out hb); clear HO; have HO := n_; clear n_; have n_ := zM (below_step HB.out hb); clear HB; have HB := n_; clear n_ hb; have hczc2_0 : w11.cell? ⟨g7, 0, none⟩ = some (.string t1) := (blk_cell BK7.out 0).trans rfl; have hfzc2_0 := blk_frozen BK7.out 0; have hczc2_1 : w11.cell? ⟨g7, 1, none⟩ = some (.string t2) := (blk_cell BK7.out 1).trans rfl; have hfzc2_1 := blk_frozen BK7.out 1; have hczc2_2 : w11.cell? ⟨g7, 2, none⟩ = some (.string v1) := (blk_cell BK7.out 2).trans rfl; have hfzc2_2 := blk_frozen BK7.out 2; have hczc2_3 : w11.cell? ⟨g7, 3, none⟩ = some (.string (⟨#[]⟩ : ByteArray)) := (blk_cell BK7.out 3).trans rfl; have hfzc2_3 := blk_frozen BK7.out 3; have hczc2_4 : w11.cell? ⟨g7, 4, none⟩ = some (.string body) := (blk_cell BK7.out 4).trans rfl; have hfzc2_4 := blk_frozen BK7.out 4))
  have n1_ : Aside0 (((w11.setCell ⟨g7, 3, none⟩ (.string v2))).heap[g7]? = some (.cells #[.string t1, .string t2, .string v1, .string v2, .string body] 24 (0, 0))) := ⟨blk_put (cs := #[.string t1, .string t2, .string v1, .string (⟨#[]⟩ : ByteArray), .string body]) (BK7.out) 3 _ rfl⟩
  have n2_ : Aside0 (((w11.setCell ⟨g7, 3, none⟩ (.string v2))).heap[g2]? = some (.cells #[.string (⟨#[]⟩ : ByteArray), .string (⟨#[]⟩ : ByteArray), .string (⟨#[]⟩ : ByteArray), .string (⟨#[]⟩ : ByteArray), .string (⟨#[]⟩ : ByteArray)] 24 (0, 0))) := ⟨blk_far (BK2.out) NE27.out _⟩
  have n3_ : Aside0 (((w11.setCell ⟨g7, 3, none⟩ (.string v2))).heap[g]? = some (.cells #[.string l0, .slice A xs.length c, .string body, .int .i64 n] 61 (0, 0))) := ⟨blk_far (MB.out) NEg7.out _⟩
  have n4_ : Aside0 (Kd.R k79 79 (w11.setCell ⟨g7, 3, none⟩ (.string v2)) g (fun q => q ≠ g) (.slice A xs.length c) xs) := ⟨Kd.R_mono (Kd.R_far (p := ⟨g7, 3, none⟩) (Kd.R_types HO.out BK7.out (by decide)) (fun k hk => hk.2) _) (fun _ hk => hk.1)⟩
  have n5_ : Aside0 (Below w.heap.size w (w11.setCell ⟨g7, 3, none⟩ (.string v2))) := ⟨below_set (HB.out) GE7.out⟩
  clear BK7 BK2 MB HO HB
  generalize (w11.setCell ⟨g7, 3, none⟩ (.string v2)) = W7 at n1_ n2_ n3_ n4_ n5_ ⊢
  have BK7 := n1_
  have BK2 := n2_
  have MB := n3_
  have HO := n4_
  have HB := n5_
  clear n1_ n2_ n3_ n4_ n5_
  replace BK7 := zM (blk_drew BK7.out)
  replace BK2 := zM (blk_drew BK2.out)
  replace MB := zM (blk_drew MB.out)
  replace HB := zM (below_drew HB.out)
  clear HO
  refine start_ (n := 8) (S := fun w' => w'.cell? ⟨g7, 0, none⟩ = some (.string t1) ∧ w'.cell? ⟨g7, 1, none⟩ = some (.string t2) ∧ w'.cell? ⟨g7, 2, none⟩ = some (.string v1) ∧ w'.cell? ⟨g7, 3, none⟩ = some (.string v2) ∧ w'.cell? ⟨g7, 4, none⟩ = some (.string body) ∧ w'.cell? ⟨g, 3, none⟩ = some (.int .i64 n)) (ds := []) #[false, false, false, false, false, false, false, false] (by kernel_rfl) rfl rfl ⟨(blk_cell BK7.out 0).trans rfl, (blk_cell BK7.out 1).trans rfl, (blk_cell BK7.out 2).trans rfl, (blk_cell BK7.out 3).trans rfl, (blk_cell BK7.out 4).trans rfl, (blk_cell MB.out 3).trans rfl⟩ (fun hHeld => ?_)
  refine with_tabW http_ReadRequest.tab8 http_ReadRequest.bits8 (fun HT_ HW_ => ?_)
  generalize W7.drew = W8 at BK7 BK2 MB HB hHeld ⊢
  refine pure_ (i := 1) (N := some 47) (v := ?_) (a' := ?_) #[false, true, false, false, false, false, false, false] rfl rfl (any_of HT_.out (by kernel_rfl)) (fun _ _ _ h => h) (Or.inl ⟨by rfl, ?_⟩) ?_ ?_
  rotate_left
  ·
   intro w'
   go_simp
   with_reducible rfl
  rotate_left
  ·
   simp only [Act.put, zS, zI]
   rfl
  refine pure_ (i := 2) (N := some 48) (v := ?_) (a' := ?_) #[false, true, true, false, false, false, false, false] rfl rfl (any_of HT_.out (by kernel_rfl)) (fun _ _ _ h => h) (Or.inl ⟨by rfl, ?_⟩) ?_ ?_
  rotate_left
  ·
   intro w'
   go_simp
   with_reducible rfl
  rotate_left
  ·
   simp only [Act.put, zS, zI]
   rfl
  refine pure_ (i := 3) (N := some 49) (v := ?_) (a' := ?_) #[false, true, true, true, false, false, false, false] rfl rfl (any_of HT_.out (by kernel_rfl)) (fun _ _ _ h => h) (Or.inl ⟨by rfl, ?_⟩) ?_ ?_
  rotate_left
  ·
   intro w'
   go_simp
   with_reducible rfl
  rotate_left
  ·
   simp only [Act.put, zS, zI]
   rfl
  refine take_ (i := 0) (N := some 46) (v := ?_) (a' := ?_) #[true, true, true, true, false, false, false, false] rfl rfl (take_ofW HT_.out HW_.out (by kernel_rfl)) (fun _ _ _ h => h) (Or.inl ⟨by rfl, ?_⟩) hHeld ?_ ?_
  rotate_left
  ·
   rintro w' ⟨s0, s1, s2, s3, s4, s5⟩
   go_simp
   with_reducible rfl
  rotate_left
  ·
   simp only [Act.put, zS, zI]
   rfl
  refine take_ (i := 4) (N := some 50) (v := ?_) (a' := ?_) #[true, true, true, true, true, false, false, false] rfl rfl (take_ofW HT_.out HW_.out (by kernel_rfl)) (fun _ _ _ h => h) (Or.inl ⟨by rfl, ?_⟩) hHeld ?_ ?_
  rotate_left
  ·
   rintro w' ⟨s0, s1, s2, s3, s4, s5⟩
   go_simp
   with_reducible rfl
  rotate_left
  ·
   simp only [Act.put, zS, zI]
   rfl
  refine one_ (i := 5) (N := none) #[true, true, true, true, true, true, false, false] rfl rfl (one_of HT_.out (by kernel_rfl)) (by decide) (fun K hK => ?_)
  have hs0 : W8.cell? ⟨g2, 0, none⟩ = some (.string (⟨#[]⟩ : ByteArray)) := (blk_cell BK2.out 0).trans rfl
  have hfs0 := blk_frozen BK2.out 0
  have hs1 : W8.cell? ⟨g2, 1, none⟩ = some (.string (⟨#[]⟩ : ByteArray)) := (blk_cell BK2.out 1).trans rfl
  have hfs1 := blk_frozen BK2.out 1
  have hs2 : W8.cell? ⟨g2, 2, none⟩ = some (.string (⟨#[]⟩ : ByteArray)) := (blk_cell BK2.out 2).trans rfl
  have hfs2 := blk_frozen BK2.out 2
  have hs3 : W8.cell? ⟨g2, 3, none⟩ = some (.string (⟨#[]⟩ : ByteArray)) := (blk_cell BK2.out 3).trans rfl
  have hfs3 := blk_frozen BK2.out 3
  have hs4 : W8.cell? ⟨g2, 4, none⟩ = some (.string (⟨#[]⟩ : ByteArray)) := (blk_cell BK2.out 4).trans rfl
  have hfs4 := blk_frozen BK2.out 4
  refine skip_ (w1 := ?_) (by rfl) rfl ?_ ?_
  rotate_left
  ·
   go_simp
   rfl
  refine hK.out _ _ ⟨(cell_far (p := ⟨g2, _, none⟩) NE27.out.symm _).trans ((cell_far (p := ⟨g2, _, none⟩) NE27.out.symm _).trans ((cell_far (p := ⟨g2, _, none⟩) NE27.out.symm _).trans ((cell_far (p := ⟨g2, _, none⟩) NE27.out.symm _).trans ((cell_far (p := ⟨g2, _, none⟩) NE27.out.symm _).trans (hHeld.1))))), (cell_far (p := ⟨g2, _, none⟩) NE27.out.symm _).trans ((cell_far (p := ⟨g2, _, none⟩) NE27.out.symm _).trans ((cell_far (p := ⟨g2, _, none⟩) NE27.out.symm _).trans ((cell_far (p := ⟨g2, _, none⟩) NE27.out.symm _).trans ((cell_far (p := ⟨g2, _, none⟩) NE27.out.symm _).trans (hHeld.2.1))))), (cell_far (p := ⟨g2, _, none⟩) NE27.out.symm _).trans ((cell_far (p := ⟨g2, _, none⟩) NE27.out.symm _).trans ((cell_far (p := ⟨g2, _, none⟩) NE27.out.symm _).trans ((cell_far (p := ⟨g2, _, none⟩) NE27.out.symm _).trans ((cell_far (p := ⟨g2, _, none⟩) NE27.out.symm _).trans (hHeld.2.2.1))))), (cell_far (p := ⟨g2, _, none⟩) NE27.out.symm _).trans ((cell_far (p := ⟨g2, _, none⟩) NE27.out.symm _).trans ((cell_far (p := ⟨g2, _, none⟩) NE27.out.symm _).trans ((cell_far (p := ⟨g2, _, none⟩) NE27.out.symm _).trans ((cell_far (p := ⟨g2, _, none⟩) NE27.out.symm _).trans (hHeld.2.2.2.1))))), (cell_far (p := ⟨g2, _, none⟩) NE27.out.symm _).trans ((cell_far (p := ⟨g2, _, none⟩) NE27.out.symm _).trans ((cell_far (p := ⟨g2, _, none⟩) NE27.out.symm _).trans ((cell_far (p := ⟨g2, _, none⟩) NE27.out.symm _).trans ((cell_far (p := ⟨g2, _, none⟩) NE27.out.symm _).trans (hHeld.2.2.2.2.1))))), (cell_far (p := ⟨g2, _, none⟩) NE2g.out.symm _).trans ((cell_far (p := ⟨g2, _, none⟩) NE2g.out.symm _).trans ((cell_far (p := ⟨g2, _, none⟩) NE2g.out.symm _).trans ((cell_far (p := ⟨g2, _, none⟩) NE2g.out.symm _).trans ((cell_far (p := ⟨g2, _, none⟩) NE2g.out.symm _).trans (hHeld.2.2.2.2.2)))))⟩ (fun hHeld => ?_)
  clear hK K
  refine pure_ (i := 6) (N := some 3) (v := ?_) (a' := ?_) #[true, true, true, true, true, true, true, false] rfl rfl (any_of HT_.out (by kernel_rfl)) (fun _ _ _ h => h) (Or.inl ⟨by rfl, ?_⟩) ?_ ?_
  rotate_left
  ·
   intro w'
   go_simp
   with_reducible rfl
  rotate_left
  ·
   simp only [Act.put, zS, zI]
   rfl
  refine pure_ (i := 7) (N := some 4) (v := ?_) (a' := ?_) #[true, true, true, true, true, true, true, true] rfl rfl (any_of HT_.out (by kernel_rfl)) (fun _ _ _ h => h) (Or.inl ⟨by rfl, ?_⟩) ?_ ?_
  rotate_left
  ·
   intro w'
   go_simp
   with_reducible rfl
  rotate_left
  ·
   simp only [Act.put, zS, zI]
   rfl
  refine done_ (done_of HT_.out (by kernel_rfl)) ?_
  try go_wp2
  refine bodyPost_ret (results_ctt rfl _ _ g2 24 #[.string t1, .string t2, .string v1, .string v2, .string body] (0, 0) _ rfl (blk_put (cs := #[.string t1, .string t2, .string v1, .string v2, .string (⟨#[]⟩ : ByteArray)]) (blk_put (cs := #[.string t1, .string t2, .string v1, .string (⟨#[]⟩ : ByteArray), .string (⟨#[]⟩ : ByteArray)]) (blk_put (cs := #[.string t1, .string t2, .string (⟨#[]⟩ : ByteArray), .string (⟨#[]⟩ : ByteArray), .string (⟨#[]⟩ : ByteArray)]) (blk_put (cs := #[.string t1, .string (⟨#[]⟩ : ByteArray), .string (⟨#[]⟩ : ByteArray), .string (⟨#[]⟩ : ByteArray), .string (⟨#[]⟩ : ByteArray)]) (blk_put (cs := #[.string (⟨#[]⟩ : ByteArray), .string (⟨#[]⟩ : ByteArray), .string (⟨#[]⟩ : ByteArray), .string (⟨#[]⟩ : ByteArray), .string (⟨#[]⟩ : ByteArray)]) (BK2.out) 0 _ rfl) 1 _ rfl) 2 _ rfl) 3 _ rfl) 4 _ rfl) Tryz.underlying24 rfl (by kernel_rfl)) rfl ?_
  exact ⟨rfl, by repeat (first | exact HB.out | refine below_set ?_ GE2.out | refine below_set ?_ GE7.out | apply below_alloc | apply below_drew)⟩
set_option maxHeartbeats 8000000 in
set_option maxRecDepth 100000 in
theorem http_ReadResponse.calls (k : Nat) (a0 : ByteArray) (r1 : Int) (r2 : ByteArray) (r3 r4 : Int) (w : World) (hT : Aside0 (TabsOk w)) (h : http_ReadResponse.f k a0 = some (r1, r2, r3, r4)) :
  Calls Tryz.prog 12 #[.string a0] w fun e w' => e = .returned (.tuple #[.agg #[.int .i64 r1, .string r2], .int .i64 r3, .int .i64 r4]) ∧ Below w.heap.size w w' := by
 have hu31 := Tryz.underlying31
 have hu61 := Tryz.underlying61
 have HB := zM (Below.refl w.heap.size w)
 unfold http_ReadResponse.f at h
 obtain ⟨rd, hrd, h⟩ := Option.bind_eq_some_iff.mp h
 have RD0 := fun W hT' => http_read.calls k 26 enters26 (http_ReadResponse_1.f k) (fun l r W hW hl => http_ReadResponse_1.calls k l r W hW hl) a0 false rd W hT' hrd
 clear hrd
 cases rd with
 | bad n =>
  simp only [Option.some.injEq, Prod.mk.injEq] at h
  obtain ⟨rfl, rfl, rfl, rfl⟩ := h
  have RD : Aside0 (∀ W, Aside0 (TabsOk W) → Calls Tryz.prog 18 #[.string a0, .func (.func 26) #[] #[], .bool false] W fun e w' => e = .returned (.tuple #[.pointer none, .iface 25 (.int .i64 n)]) ∧ Below W.heap.size W w') := ⟨RD0⟩
  clear RD0
  go_enter Tryz.func12, Tryz.ntmps12
  go_wp2_with (first | ((with_reducible refine gate_dst (N := 2) rfl ?_); refine box_event ?hg (N := 2) ?hd (cs := #[.int .i64 0, .string (⟨#[]⟩ : ByteArray)]) (t := 31) ?hr ?_; (case hd => rfl); (case hg => rfl); (case hr => first | (go_simp; done) | (go_simp; rfl)); intro g2 hg w3 hbox hb; have n2_ := zM ((by rw [hg]; exact below_size HB.out : w.heap.size ≤ g2)); have n1_ := zM (below_step HB.out hb); have BK2 := zM hbox; clear HB; have HB := n1_; have GE2 := n2_; clear n1_ n2_ hb hbox hg) | (go_at_call 18; refine (RD.out _ ⟨TabsOk.below hT.out HB.out⟩).mono ?_; rintro e w5 ⟨rfl, hb⟩; have n_ := zM (blk_below BK2.out hb); clear BK2; have BK2 := n_; clear n_; have n_ := zM (below_step HB.out hb); clear HB; have HB := n_; clear n_ hb) | (go_at_call 21; (with_reducible refine (http_number.calls n _ ⟨TabsOk.below hT.out HB.out⟩).mono ?_); rintro e w6 ⟨rfl, hb⟩; have n_ := zM (blk_below BK2.out hb); clear BK2; have BK2 := n_; clear n_; have n_ := zM (below_step HB.out hb); clear HB; have HB := n_; clear n_ hb; have hcz2_0 : w6.cell? ⟨g2, 0, none⟩ = some (.int .i64 0) := (blk_cell BK2.out 0).trans rfl; have hfz2_0 := blk_frozen BK2.out 0; have hcz2_1 : w6.cell? ⟨g2, 1, none⟩ = some (.string (⟨#[]⟩ : ByteArray)) := (blk_cell BK2.out 1).trans rfl; have hfz2_1 := blk_frozen BK2.out 1))
  refine bodyPost_ret (results_ctt rfl _ _ g2 31 #[.int .i64 0, .string (⟨#[]⟩ : ByteArray)] (0, 0) _ rfl (blk_put (cs := #[.int .i64 0, .string (⟨#[]⟩ : ByteArray)]) (blk_put (cs := #[.int .i64 0, .string (⟨#[]⟩ : ByteArray)]) (BK2.out) 0 _ rfl) 1 _ rfl) Tryz.underlying31 rfl (by kernel_rfl)) rfl ?_
  exact ⟨rfl, by repeat (first | exact HB.out | refine below_set ?_ GE2.out | apply below_alloc | apply below_drew)⟩
 | good l0 xs body n =>
  have RD : Aside0 (∀ W, Aside0 (TabsOk W) → Calls Tryz.prog 18 #[.string a0, .func (.func 26) #[] #[], .bool false] W fun e w' => ∃ g A c, e = .returned (.tuple #[.pointer (some ⟨g, 0, none⟩), .nilIface]) ∧ w'.heap[g]? = some (.cells #[.string l0, .slice A xs.length c, .string body, .int .i64 n] 61 (0, 0)) ∧ Kd.R k79 79 w' g (fun q => q ≠ g) (.slice A xs.length c) xs ∧ xs.length ≤ 4294967296 ∧ Below W.heap.size W w') := ⟨RD0⟩
  clear RD0
  obtain ⟨⟨t1, t2⟩, hq, h⟩ := Option.bind_eq_some_iff.mp h
  have RQ := zM (fun W hT' => http_statusLine.calls k l0 t1 t2 W hT' hq)
  clear hq
  simp only [Option.some.injEq, Prod.mk.injEq] at h
  obtain ⟨rfl, rfl, rfl, rfl⟩ := h
  go_enter Tryz.func12, Tryz.ntmps12
  go_upto_region 5 with (first | ((with_reducible refine gate_dst (N := 2) rfl ?_); refine box_event ?hg (N := 2) ?hd (cs := #[.int .i64 0, .string (⟨#[]⟩ : ByteArray)]) (t := 31) ?hr ?_; (case hd => rfl); (case hg => rfl); (case hr => first | (go_simp; done) | (go_simp; rfl)); intro g2 hg w3 hbox hb; have n2_ := zM ((by rw [hg]; exact below_size HB.out : w.heap.size ≤ g2)); have n1_ := zM (below_step HB.out hb); have BK2 := zM hbox; clear HB; have HB := n1_; have GE2 := n2_; clear n1_ n2_ hb hbox hg) | (go_at_call 18; refine (RD.out _ ⟨TabsOk.below hT.out HB.out⟩).mono ?_; rintro e w5 ⟨g, A, c, rfl, hm, ho, hx, hb⟩; have HX := zM hx; have MB := zM hm; have HO := zM ho; have n_ := zM (blk_below BK2.out hb); clear BK2; have BK2 := n_; clear n_; have n_ := zM (below_step HB.out hb); clear HB; have HB := n_; clear n_ hb; have NE2g := zM (show g2 ≠ g by rintro rfl; have := BK2.out.symm.trans MB.out; simp at this); clear hx hm ho; have hczm_0 : w5.cell? ⟨g, 0, none⟩ = some (.string l0) := (blk_cell MB.out 0).trans rfl; have hfzm_0 := blk_frozen MB.out 0; have hczm_1 : w5.cell? ⟨g, 1, none⟩ = some (.slice A xs.length c) := (blk_cell MB.out 1).trans rfl; have hfzm_1 := blk_frozen MB.out 1; have hczm_2 : w5.cell? ⟨g, 2, none⟩ = some (.string body) := (blk_cell MB.out 2).trans rfl; have hfzm_2 := blk_frozen MB.out 2; have hczm_3 : w5.cell? ⟨g, 3, none⟩ = some (.int .i64 n) := (blk_cell MB.out 3).trans rfl; have hfzm_3 := blk_frozen MB.out 3) | (go_at_call 27; (with_reducible refine (RQ.out _ ⟨TabsOk.below hT.out HB.out⟩).mono ?_); rintro e w8 ⟨rfl, hb⟩; have n_ := zM (blk_below BK2.out hb); clear BK2; have BK2 := n_; clear n_; have n_ := zM (blk_below MB.out hb); clear MB; have MB := n_; clear n_; have n_ := zM (below_step HB.out hb); clear HB; have HB := n_; clear n_ hb))
  replace BK2 := zM (blk_drew BK2.out)
  replace MB := zM (blk_drew MB.out)
  replace HB := zM (below_drew HB.out)
  refine start_ (n := 13) (S := fun w' => w'.cell? ⟨g, 2, none⟩ = some (.string body) ∧ w'.cell? ⟨g, 3, none⟩ = some (.int .i64 n)) (ds := []) #[false, false, false, false, false, false, false, false, false, false, false, false, false] (by kernel_rfl) rfl rfl ⟨(blk_cell MB.out 2).trans rfl, (blk_cell MB.out 3).trans rfl⟩ (fun hHeld => ?_)
  refine with_tabW http_ReadResponse.tab5 http_ReadResponse.bits5 (fun HT_ HW_ => ?_)
  generalize w8.drew = W8 at BK2 MB HB hHeld ⊢
  refine pure_ (i := 0) (N := some 27) (v := ?_) (a' := ?_) #[true, false, false, false, false, false, false, false, false, false, false, false, false] rfl rfl (any_of HT_.out (by kernel_rfl)) (fun _ _ _ h => h) (Or.inl ⟨by rfl, ?_⟩) ?_ ?_
  rotate_left
  ·
   intro w'
   go_simp
   with_reducible rfl
  rotate_left
  ·
   simp only [Act.put, zS, zI]
   rfl
  refine pure_ (i := 1) (N := some 28) (v := ?_) (a' := ?_) #[true, true, false, false, false, false, false, false, false, false, false, false, false] rfl rfl (any_of HT_.out (by kernel_rfl)) (fun _ _ _ h => h) (Or.inl ⟨by rfl, ?_⟩) ?_ ?_
  rotate_left
  ·
   intro w'
   go_simp
   with_reducible rfl
  rotate_left
  ·
   simp only [Act.put, zS, zI]
   rfl
  refine pure_ (i := 2) (N := some 29) (v := ?_) (a' := ?_) #[true, true, true, false, false, false, false, false, false, false, false, false, false] rfl rfl (any_of HT_.out (by kernel_rfl)) (fun _ _ _ h => h) (Or.inl ⟨by rfl, ?_⟩) ?_ ?_
  rotate_left
  ·
   intro w'
   go_simp
   with_reducible rfl
  rotate_left
  ·
   simp only [Act.put, zS, zI]
   rfl
  refine pure_ (i := 3) (N := some 30) (v := ?_) (a' := ?_) #[true, true, true, true, false, false, false, false, false, false, false, false, false] rfl rfl (any_of HT_.out (by kernel_rfl)) (fun _ _ _ h => h) (Or.inl ⟨by rfl, ?_⟩) ?_ ?_
  rotate_left
  ·
   intro w'
   go_simp
   with_reducible rfl
  rotate_left
  ·
   simp only [Act.put, zS, zI]
   rfl
  refine pure_ (i := 6) (N := some 33) (v := ?_) (a' := ?_) #[true, true, true, true, false, false, true, false, false, false, false, false, false] rfl rfl (any_of HT_.out (by kernel_rfl)) (fun _ _ _ h => h) (Or.inl ⟨by rfl, ?_⟩) ?_ ?_
  rotate_left
  ·
   intro w'
   go_simp
   with_reducible rfl
  rotate_left
  ·
   simp only [Act.put, zS, zI]
   rfl
  refine pure_ (i := 7) (N := some 34) (v := ?_) (a' := ?_) #[true, true, true, true, false, false, true, true, false, false, false, false, false] rfl rfl (any_of HT_.out (by kernel_rfl)) (fun _ _ _ h => h) (Or.inl ⟨by rfl, ?_⟩) ?_ ?_
  rotate_left
  ·
   intro w'
   go_simp
   with_reducible rfl
  rotate_left
  ·
   simp only [Act.put, zS, zI]
   rfl
  refine pure_ (i := 8) (N := some 35) (v := ?_) (a' := ?_) #[true, true, true, true, false, false, true, true, true, false, false, false, false] rfl rfl (any_of HT_.out (by kernel_rfl)) (fun _ _ _ h => h) (Or.inl ⟨by rfl, ?_⟩) ?_ ?_
  rotate_left
  ·
   intro w'
   go_simp
   with_reducible rfl
  rotate_left
  ·
   simp only [Act.put, zS, zI]
   rfl
  refine take_ (i := 4) (N := some 31) (v := ?_) (a' := ?_) #[true, true, true, true, true, false, true, true, true, false, false, false, false] rfl rfl (take_ofW HT_.out HW_.out (by kernel_rfl)) (fun _ _ _ h => h) (Or.inl ⟨by rfl, ?_⟩) hHeld ?_ ?_
  rotate_left
  ·
   rintro w' ⟨s0, s1⟩
   go_simp
   with_reducible rfl
  rotate_left
  ·
   simp only [Act.put, zS, zI]
   rfl
  refine take_ (i := 9) (N := some 36) (v := ?_) (a' := ?_) #[true, true, true, true, true, false, true, true, true, true, false, false, false] rfl rfl (take_ofW HT_.out HW_.out (by kernel_rfl)) (fun _ _ _ h => h) (Or.inl ⟨by rfl, ?_⟩) hHeld ?_ ?_
  rotate_left
  ·
   rintro w' ⟨s0, s1⟩
   go_simp
   with_reducible rfl
  rotate_left
  ·
   simp only [Act.put, zS, zI]
   rfl
  refine pure_ (i := 5) (N := some 32) (v := ?_) (a' := ?_) #[true, true, true, true, true, true, true, true, true, true, false, false, false] rfl rfl (any_of HT_.out (by kernel_rfl)) (fun _ _ _ h => h) (Or.inl ⟨by rfl, ?_⟩) ?_ ?_
  rotate_left
  ·
   intro w'
   go_simp
   with_reducible rfl
  rotate_left
  ·
   simp only [Act.put, zS, zI]
   rfl
  refine one_ (i := 10) (N := none) #[true, true, true, true, true, true, true, true, true, true, true, false, false] rfl rfl (one_of HT_.out (by kernel_rfl)) (by decide) (fun K hK => ?_)
  have hs0 : W8.cell? ⟨g2, 0, none⟩ = some (.int .i64 0) := (blk_cell BK2.out 0).trans rfl
  have hfs0 := blk_frozen BK2.out 0
  have hs1 : W8.cell? ⟨g2, 1, none⟩ = some (.string (⟨#[]⟩ : ByteArray)) := (blk_cell BK2.out 1).trans rfl
  have hfs1 := blk_frozen BK2.out 1
  refine skip_ (w1 := ?_) (by rfl) rfl ?_ ?_
  rotate_left
  ·
   go_simp
   rfl
  refine hK.out _ _ ⟨(cell_far (p := ⟨g2, _, none⟩) NE2g.out.symm _).trans ((cell_far (p := ⟨g2, _, none⟩) NE2g.out.symm _).trans (hHeld.1)), (cell_far (p := ⟨g2, _, none⟩) NE2g.out.symm _).trans ((cell_far (p := ⟨g2, _, none⟩) NE2g.out.symm _).trans (hHeld.2))⟩ (fun hHeld => ?_)
  clear hK K
  refine pure_ (i := 11) (N := some 3) (v := ?_) (a' := ?_) #[true, true, true, true, true, true, true, true, true, true, true, true, false] rfl rfl (any_of HT_.out (by kernel_rfl)) (fun _ _ _ h => h) (Or.inl ⟨by rfl, ?_⟩) ?_ ?_
  rotate_left
  ·
   intro w'
   go_simp
   with_reducible rfl
  rotate_left
  ·
   simp only [Act.put, zS, zI]
   rfl
  refine pure_ (i := 12) (N := some 4) (v := ?_) (a' := ?_) #[true, true, true, true, true, true, true, true, true, true, true, true, true] rfl rfl (any_of HT_.out (by kernel_rfl)) (fun _ _ _ h => h) (Or.inl ⟨by rfl, ?_⟩) ?_ ?_
  rotate_left
  ·
   intro w'
   go_simp
   with_reducible rfl
  rotate_left
  ·
   simp only [Act.put, zS, zI]
   rfl
  refine done_ (done_of HT_.out (by kernel_rfl)) ?_
  try go_wp2
  refine bodyPost_ret (results_ctt rfl _ _ g2 31 #[.int .i64 t1, .string body] (0, 0) _ rfl (blk_put (cs := #[.int .i64 t1, .string (⟨#[]⟩ : ByteArray)]) (blk_put (cs := #[.int .i64 0, .string (⟨#[]⟩ : ByteArray)]) (BK2.out) 0 _ rfl) 1 _ rfl) Tryz.underlying31 rfl (by kernel_rfl)) rfl ?_
  exact ⟨rfl, by repeat (first | exact HB.out | refine below_set ?_ GE2.out | apply below_alloc | apply below_drew)⟩
end Go.Proofs.YtpikebpjlhccbaaGreatDoor.PAll
