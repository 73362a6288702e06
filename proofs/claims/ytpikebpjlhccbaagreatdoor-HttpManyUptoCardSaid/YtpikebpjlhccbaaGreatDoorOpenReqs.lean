/- A row of requests among the arguments, opened: its cells, and that its bulk bounds each request's. -/
import Derived.Test.YtpikebpjlhccbaaGreatDoorRows
import Derived.Test.YtpikebpjlhccbaaGreatDoorHLawMany
import Derived.Deep.Slices
import Derived.DataReads
namespace Go.Proofs.YtpikebpjlhccbaaGreatDoor.PAll
set_option linter.unusedVariables false
set_option linter.unusedSimpArgs false
open Go.ChangeShapes Go.WideShapes Go.RowKit Go.Deep Go.Proofs.YtpikebpjlhccbaaGreatDoorW.PrintWords

theorem bulk_mem {H : Type} : ∀ (L : List (DataW H)) (x : DataW H), x ∈ L → Rows.uptoBulk x ≤ Rows.uptoBulkAll L
  | [], _, h => by cases h
  | y :: L, x, h => by
    rw [Rows.uptoBulkAll]
    rcases List.mem_cons.1 h with rfl | h
    · omega
    · have := bulk_mem L x h; omega
set_option maxRecDepth 100000 in
theorem open_reqs {H : Type} {enc : TypeId × Value → H} {W : World} {base : Nat} {v : Value} {d : DataW H} {p : List MemPlace} (hv : Value.okWide Tryz.prog W .any base 47 v) (h : DataW.Trod enc Tryz.prog W 0 (fun _ => true) true 47 v d p) :
    ∃ (A : Option Addr) (c : Nat) (l : List S24), v = .slice A l.length c ∧ Kd.C k24 W A l.length l ∧ l.length ≤ c ∧ ∀ r ∈ l, sz24 r ≤ Rows.uptoBulk d := by
  obtain ⟨a0, n0, c0, rfl⟩ := okWide_slice Tryz.underlying47 hv
  obtain ⟨fuel, hf⟩ := h
  rcases open_slice Tryz.underlying47 hf with ⟨h1, h2⟩ | ⟨a, len, cap, m, n, D, Pl, h1, hb, hl, hm, hmm, h2, hx⟩
  · obtain ⟨rfl, rfl, rfl⟩ : a0 = none ∧ n0 = 0 ∧ c0 = 0 := by simpa [Value.cells] using h1
    exact ⟨none, 0, [], rfl, ⟨rfl, Nat.zero_le _, fun h => absurd h (Nat.lt_irrefl _)⟩, Nat.le_refl _, fun r hr => by cases hr⟩
  obtain ⟨rfl, rfl, rfl⟩ : a0 = some a ∧ n0 = len ∧ c0 = cap := by simpa [Value.cells] using h1
  have hlm : n0 ≤ m := by rw [hmm]; split <;> omega
  have ce : Tryz.prog.cellsOf 24 = 5 := by kernel_rfl
  have cs9 : Tryz.prog.cellsOf 9 = 1 := by kernel_rfl
  have each : ∀ i, i < n0 → ∃ q : S24, (∀ j u, ([.string q.f0, .string q.f1, .string q.f2, .string q.f3, .string q.f4] : List Value)[j]? = some u → W.cell? (a.add (i * 5 + j)) = some u) ∧
      D i = .agg [.lit (.string q.f0.data.toList), .lit (.string q.f1.data.toList), .lit (.string q.f2.data.toList), .lit (.string q.f3.data.toList), .lit (.string q.f4.data.toList)] := by
    intro i hi
    obtain ⟨cs', h3, h4⟩ := hx i (by omega)
    rw [ce] at h3
    obtain ⟨_, hlen, hcell⟩ := World.cells?_some h3
    obtain ⟨xs, k, hk, hxy, _, hxl, hff⟩ := DataW.trod_struct Tryz.underlying24 h4
    match xs, hxl, cs', hlen with
    | [y0, y1, y2, y3, y4], _, [v0, v1, v2, v3, v4], _ =>
      have g0 := hff 0 _ rfl
      have g1 := hff 1 _ rfl
      have g2 := hff 2 _ rfl
      have g3 := hff 3 _ rfl
      have g4 := hff 4 _ rfl
      simp [cs9] at g0 g1 g2 g3 g4
      obtain ⟨s0, e0, rfl, _⟩ := DataW.trod_string Tryz.underlying9 g0
      obtain ⟨s1, e1, rfl, _⟩ := DataW.trod_string Tryz.underlying9 g1
      obtain ⟨s2, e2, rfl, _⟩ := DataW.trod_string Tryz.underlying9 g2
      obtain ⟨s3, e3, rfl, _⟩ := DataW.trod_string Tryz.underlying9 g3
      obtain ⟨s4, e4, rfl, _⟩ := DataW.trod_string Tryz.underlying9 g4
      simp only [List.cons.injEq, and_true] at e0 e1 e2 e3 e4
      subst e0 e1 e2 e3 e4
      simp only [Prod.mk.injEq] at hxy
      refine ⟨⟨s0, s1, s2, s3, s4⟩, ?_, by simpa using hxy.1⟩
      intro j u hu
      have hj : j < 5 := by
        rcases Nat.lt_or_ge j 5 with h | h
        · exact h
        · rw [List.getElem?_eq_none (by simpa using h)] at hu; cases hu
      have := hcell j hj
      rw [Deep.add_add] at this
      rw [this]
      exact hu
  obtain ⟨q, hq⟩ : ∃ q : Nat → S24, ∀ i, i < n0 → _ := by
    haveI : Inhabited S24 := ⟨z24⟩
    exact choose_lt each
  refine ⟨some a, c0, (List.range n0).map q, by simp, ?_, by simpa using hl, ?_⟩
  · refine ⟨rfl, by simp; unfold maxLen at hm; omega, fun _ => ⟨a, rfl, ?_⟩⟩
    intro j r hj
    have hjl : j < n0 := by
      rcases Nat.lt_or_ge j n0 with h | h
      · exact h
      · rw [List.getElem?_eq_none (by simpa using h)] at hj; cases hj
    obtain rfl : q j = r := by simpa [hjl] using hj
    exact ⟨[.string (q j).f0, .string (q j).f1, .string (q j).f2, .string (q j).f3, .string (q j).f4], rfl, k24_mk W (q j), (hq j hjl).1⟩
  · intro r hr
    obtain ⟨i, hi, rfl⟩ := List.mem_map.1 hr
    have hi' : i < n0 := by simpa using hi
    obtain ⟨rfl, _⟩ := Prod.mk.inj h2
    have hD := bulk_mem ((List.range n0).map D) (D i) (List.mem_map.2 ⟨i, by simpa using hi', rfl⟩)
    have hbk : Rows.uptoBulk (D i) = (q i).f0.size + 1 + ((q i).f1.size + 1 + ((q i).f2.size + 1 + ((q i).f3.size + 1 + ((q i).f4.size + 1 + 0)))) + 1 := by
      rw [(hq i hi').2]
      simp only [Rows.uptoBulk, Rows.uptoBulkAll, Base.size_eq]
    rw [Rows.uptoBulk]
    unfold sz24
    omega
end Go.Proofs.YtpikebpjlhccbaaGreatDoor.PAll
