/- Arguments opened: atoms with their ranges. -/
import Derived.Test.YtekhblomdlehhaaGreatDoorOpenB
set_option linter.unusedVariables false
set_option maxRecDepth 100000
set_option linter.unusedSimpArgs false
namespace Go.Proofs.YtekhblomdlehhaaGreatDoor
open Go.ChangeShapes Go.WideShapes Go.ChangeAt Go.RowKit Go.Deep

variable {H : Type} {enc : TypeId × Value → H} {W : World} {base : Nat} {t e : TypeId} {v : Value} {d : DataW H} {ps : List MemPlace}

/-- an atom that came in: its numbers in range -/
structure okAt (x : Atom) : Prop where
  k0 : 0 ≤ x.kind
  k1 : x.kind ≤ 255
  r0 : -9223372036854775808 ≤ x.rho
  r1 : x.rho ≤ 9223372036854775807
  s1 : x.exn.size ≤ 9223372036854775807

theorem open_atomsR (ht : Tryz.prog.underlying t = some (.slice 70))
    (hv : Value.okWide Tryz.prog W .any base t v) (h : DataW.Trod enc Tryz.prog W 0 (fun _ => true) true t v d ps) :
    ∃ p n cap, ∃ l : List Atom, v = .slice p n cap ∧ l.length = n ∧ n ≤ 9223372036854775807 ∧ RowA W p l ∧ ∀ x ∈ l, okAt x := by
  obtain ⟨p, n, cap, rfl⟩ := okWide_slice ht hv
  obtain ⟨fuel, hf⟩ := h
  rcases open_slice ht hf with ⟨hcs, _⟩ | ⟨a, len, c, m, fu, D, Pl, hcs, _, hl, hm, hmm, _, hx⟩
  · simp [Value.cells] at hcs
    obtain ⟨rfl, rfl, rfl⟩ := hcs
    exact ⟨_, _, _, [], rfl, rfl, by omega, .inl rfl, fun x hx => by cases hx⟩
  · simp [Value.cells] at hcs
    obtain ⟨rfl, rfl, rfl⟩ := hcs
    unfold maxLen at hm
    have hmc : m = cap := by simpa using hmm
    have he : Tryz.prog.underlying 70 = some (.struct (Tryz.prog.fieldsOf 70)) := by kernel_rfl
    have ce : Tryz.prog.cellsOf 70 = 3 := by kernel_rfl
    have F0 : ((Tryz.prog.fieldsOf 70)[0]?).map (fun f => (f.type, f.offset)) = some (5, 0) := by kernel_rfl
    have F1 : ((Tryz.prog.fieldsOf 70)[1]?).map (fun f => (f.type, f.offset)) = some (3, 1) := by kernel_rfl
    have F2 : ((Tryz.prog.fieldsOf 70)[2]?).map (fun f => (f.type, f.offset)) = some (9, 2) := by kernel_rfl
    have C0 : Tryz.prog.cellsOf 5 = 1 := by kernel_rfl
    have C1 : Tryz.prog.cellsOf 3 = 1 := by kernel_rfl
    have C2 : Tryz.prog.cellsOf 9 = 1 := by kernel_rfl
    have each : ∀ i, i < n → ∃ y : Atom, okAt y ∧ W.cell? ((a.add (i * 3)).add 0) = some (.int .u8 y.kind) ∧ W.cell? ((a.add (i * 3)).add 1) = some (.int .i64 y.rho) ∧ W.cell? ((a.add (i * 3)).add 2) = some (.string y.exn) := by
      intro i hi
      obtain ⟨cs', h1, h2⟩ := hx i (by omega)
      rw [ce] at h1
      obtain ⟨_, hlen, hcell⟩ := World.cells?_some h1
      obtain ⟨xs, k, hk, hxy, _, hxl, hf'⟩ := DataW.trod_struct he h2
      obtain ⟨f0, e0, p0⟩ := Option.map_eq_some_iff.1 F0
      obtain ⟨f1, e1, p1⟩ := Option.map_eq_some_iff.1 F1
      obtain ⟨f2, e2, p2⟩ := Option.map_eq_some_iff.1 F2
      simp only [Prod.mk.injEq] at p0 p1 p2
      have g0 := hf' 0 f0 e0
      have g1 := hf' 1 f1 e1
      have g2 := hf' 2 f2 e2
      rw [p0.1, p0.2, C0] at g0
      rw [p1.1, p1.2, C1] at g1
      rw [p2.1, p2.2, C2] at g2
      have b0 := (Array.getElem?_eq_some_iff.1 e0).1
      have b1 := (Array.getElem?_eq_some_iff.1 e1).1
      have b2 := (Array.getElem?_eq_some_iff.1 e2).1
      match cs', hlen with
      | [v0, v1, v2], _ =>
        rw [List.getElem?_eq_getElem (show 0 < xs.length by omega)] at g0
        rw [List.getElem?_eq_getElem (show 1 < xs.length by omega)] at g1
        rw [List.getElem?_eq_getElem (show 2 < xs.length by omega)] at g2
        obtain ⟨z0, q0, _, b0'⟩ := DataW.trod_int Tryz.underlying5 g0
        obtain ⟨z1, q1, _, b1'⟩ := DataW.trod_int Tryz.underlying3 g1
        obtain ⟨z2, q2, _, b2'⟩ := DataW.trod_string Tryz.underlying9 g2
        simp at q0 q1 q2
        have c0 := hcell 0 (by omega)
        have c1 := hcell 1 (by omega)
        have c2 := hcell 2 (by omega)
        refine ⟨⟨z0, z1, z2⟩, ?_, ?_, ?_, ?_⟩
        · have h0 : 0 ≤ z0 ∧ z0 ≤ 255 := by simpa [Lit.wf, IntKind.min, IntKind.max, IntKind.signed, IntKind.bits] using b0'
          have h1 : -9223372036854775808 ≤ z1 ∧ z1 ≤ 9223372036854775807 := by simpa [Lit.wf, IntKind.min, IntKind.max, IntKind.signed, IntKind.bits] using b1'
          unfold maxLen at b2'
          exact ⟨h0.1, h0.2, h1.1, h1.2, by omega⟩
        · simpa [q0] using c0
        · simpa [q1] using c1
        · simpa [q2] using c2
    by_cases hn0 : n = 0
    · subst hn0
      exact ⟨_, _, _, [], rfl, rfl, by omega, .inl rfl, fun x hx => by cases hx⟩
    · obtain ⟨q, hq⟩ := choose_lt each
      obtain ⟨b, off, spot⟩ := a
      have hspot : spot = none := by simpa [Addr.add] using World.cell?_spot (hq 0 (by omega)).2.1
      subst hspot
      have hbl : b < W.heap.size := by simpa [Addr.add] using cell_block (hq 0 (by omega)).2.1
      refine ⟨_, _, _, (List.range n).map q, rfl, by simp, by omega, row_of_gets W b off hbl n q (fun j hj i u hu => ?_), fun x hx => by
        obtain ⟨j, hj, rfl⟩ := List.mem_map.1 hx
        exact (hq j (List.mem_range.1 hj)).1⟩
      obtain ⟨_, c0, c1, c2⟩ := hq j hj
      rw [add_lit'] at c0 c1 c2
      rw [add_lit'] at c0 c1 c2
      match i, hu with
      | 0, hu => simp [encA] at hu; subst hu; simpa using c0
      | 1, hu => simp [encA] at hu; subst hu; simpa using c1
      | 2, hu => simp [encA] at hu; subst hu; simpa using c2
      | i + 3, hu => simp [encA] at hu

theorem open_rowR (ht : Tryz.prog.underlying t = some (.slice 70))
    (hv : Value.okWide Tryz.prog W .any base t v) (h : DataW.Trod enc Tryz.prog W 0 (fun _ => true) true t v d ps) :
    ∃ p n cap, ∃ l : List Atom, v = .slice p n cap ∧ IsRow encA 3 W p n cap l ∧ ∀ x ∈ l, okAt x := by
  obtain ⟨p, n, cap, l, rfl, h1, h2, h3, h6⟩ := open_atomsR ht hv h
  obtain ⟨h4, h5⟩ := slice_shape ht h
  exact ⟨p, n, cap, l, rfl, ⟨h1, h2, h4, h5, h3⟩, h6⟩
end Go.Proofs.YtekhblomdlehhaaGreatDoor
