/- Arguments opened: rows of atoms, of ints, of strings that came in. -/
import Derived.Test.YtekhblomdlehhaaGreatDoorEff3
import Derived.ProofKit
import Derived.OpenShut
import Derived.Deep.Slices
import Derived.Deep.SlicePairs
import Derived.Lib.SmallJoins
import Derived.ChangeOld
set_option linter.unusedVariables false
set_option maxRecDepth 100000
set_option linter.unusedSimpArgs false
namespace Go.Proofs.YtekhblomdlehhaaGreatDoor
open Go.ChangeShapes Go.WideShapes Go.ChangeAt Go.RowKit Go.Deep

variable {H : Type} {enc : TypeId × Value → H} {W : World} {base : Nat} {t e : TypeId} {v : Value} {d : DataW H} {ps : List MemPlace}

theorem row_of_gets {α : Type} {encE : α → List Value} {k : Nat} (w : World) (b o : Nat) (hb : b < w.heap.size) (n : Nat) (q : Nat → α) (h : ∀ j, j < n → ∀ i u, (encE (q j))[i]? = some u → w.cell? ⟨b, o + j * k + i, none⟩ = some u) :
    RowE encE k w (some ⟨b, o, none⟩) ((List.range n).map q) := by
  refine .inr ⟨b, o, rfl, hb, fun j x hx i u hu => ?_⟩
  rw [List.getElem?_map] at hx
  have hj : j < n := by
    have := (Option.map_eq_some_iff.1 hx).choose_spec.1
    have := (List.getElem?_eq_some_iff.1 this).1
    simpa using this
  rw [List.getElem?_range hj] at hx
  cases hx
  exact h j hj i u hu

theorem open_nums (ht : Tryz.prog.underlying t = some (.slice e)) (he : Tryz.prog.underlying e = some (.int .i64)) (hc : Tryz.prog.cellsOf e = 1)
    (hv : Value.okWide Tryz.prog W .any base t v) (h : DataW.Trod enc Tryz.prog W 0 (fun _ => true) true t v d ps) :
    ∃ p n cap, ∃ l : List Int, v = .slice p n cap ∧ l.length = n ∧ n ≤ 9223372036854775807 ∧ RowE encN 1 W p l := by
  obtain ⟨p, n, cap, rfl⟩ := okWide_slice ht hv
  obtain ⟨fuel, hf⟩ := h
  rcases open_ints ht he hc hf with ⟨hcs, _⟩ | ⟨x, l, c, zs, hcs, _, hl, hm, hz, _, hcell, hwz⟩
  · simp [Value.cells] at hcs
    obtain ⟨rfl, rfl, rfl⟩ := hcs
    exact ⟨_, _, _, [], rfl, rfl, by omega, .inl rfl⟩
  · simp [Value.cells] at hcs
    obtain ⟨rfl, rfl, rfl⟩ := hcs
    unfold maxLen at hm
    have hz : zs.length = cap := by simpa using hz
    by_cases hn0 : n = 0
    · subst hn0
      exact ⟨_, _, _, [], rfl, rfl, by omega, .inl rfl⟩
    · obtain ⟨b, off, spot⟩ := x
      have hspot : spot = none := by simpa [Addr.add] using World.cell?_spot (hcell 0 (by omega))
      subst hspot
      have hbl : b < W.heap.size := by simpa [Addr.add] using cell_block (hcell 0 (by omega))
      refine ⟨_, _, _, (List.range n).map (fun j => zs.getD j 0), rfl, by simp, by omega, row_of_gets W b off hbl n _ (fun j hj i u hu => ?_)⟩
      have c0 := hcell j (by omega)
      rw [add_lit'] at c0
      match i, hu with
      | 0, hu => simp [encN] at hu; subst hu; simpa [List.getD] using c0
      | i + 1, hu => simp [encN] at hu

theorem open_atoms (ht : Tryz.prog.underlying t = some (.slice 70))
    (hv : Value.okWide Tryz.prog W .any base t v) (h : DataW.Trod enc Tryz.prog W 0 (fun _ => true) true t v d ps) :
    ∃ p n cap, ∃ l : List Atom, v = .slice p n cap ∧ l.length = n ∧ n ≤ 9223372036854775807 ∧ RowA W p l := by
  obtain ⟨p, n, cap, rfl⟩ := okWide_slice ht hv
  obtain ⟨fuel, hf⟩ := h
  rcases open_slice ht hf with ⟨hcs, _⟩ | ⟨a, len, c, m, fu, D, Pl, hcs, _, hl, hm, hmm, _, hx⟩
  · simp [Value.cells] at hcs
    obtain ⟨rfl, rfl, rfl⟩ := hcs
    exact ⟨_, _, _, [], rfl, rfl, by omega, .inl rfl⟩
  · simp [Value.cells] at hcs
    obtain ⟨rfl, rfl, rfl⟩ := hcs
    unfold maxLen at hm
    have hmc : m = cap := by simpa using hmm
    have he : Tryz.prog.underlying 70 = some (.struct (Tryz.prog.fieldsOf 70)) := by kernel_rfl
    have ce : Tryz.prog.cellsOf 70 = 3 := by kernel_rfl
    have F0 : ((Tryz.prog.fieldsOf 70)[0]?).map (fun f => (f.type, f.offset)) = some (5, 0) := by kernel_rfl
    have F1 : ((Tryz.prog.fieldsOf 70)[1]?).map (fun f => (f.type, f.offset)) = some (3, 1) := by kernel_rfl
    have F2 : ((Tryz.prog.fieldsOf 70)[2]?).map (fun f => (f.type, f.offset)) = some (9, 2) := by kernel_rfl
    have C0 : Tryz.prog.cellsOf 5 = 1 := by kernel_rfl
    have C1 : Tryz.prog.cellsOf 3 = 1 := by kernel_rfl
    have C2 : Tryz.prog.cellsOf 9 = 1 := by kernel_rfl
    have each : ∀ i, i < n → ∃ y : Atom, W.cell? ((a.add (i * 3)).add 0) = some (.int .u8 y.kind) ∧ W.cell? ((a.add (i * 3)).add 1) = some (.int .i64 y.rho) ∧ W.cell? ((a.add (i * 3)).add 2) = some (.string y.exn) := by
      intro i hi
      obtain ⟨cs', h1, h2⟩ := hx i (by omega)
      rw [ce] at h1
      obtain ⟨_, hlen, hcell⟩ := World.cells?_some h1
      obtain ⟨xs, k, hk, hxy, _, hxl, hf'⟩ := DataW.trod_struct he h2
      obtain ⟨f0, e0, p0⟩ := Option.map_eq_some_iff.1 F0
      obtain ⟨f1, e1, p1⟩ := Option.map_eq_some_iff.1 F1
      obtain ⟨f2, e2, p2⟩ := Option.map_eq_some_iff.1 F2
      simp only [Prod.mk.injEq] at p0 p1 p2
      have g0 := hf' 0 f0 e0
      have g1 := hf' 1 f1 e1
      have g2 := hf' 2 f2 e2
      rw [p0.1, p0.2, C0] at g0
      rw [p1.1, p1.2, C1] at g1
      rw [p2.1, p2.2, C2] at g2
      have b0 := (Array.getElem?_eq_some_iff.1 e0).1
      have b1 := (Array.getElem?_eq_some_iff.1 e1).1
      have b2 := (Array.getElem?_eq_some_iff.1 e2).1
      match cs', hlen with
      | [v0, v1, v2], _ =>
        rw [List.getElem?_eq_getElem (show 0 < xs.length by omega)] at g0
        rw [List.getElem?_eq_getElem (show 1 < xs.length by omega)] at g1
        rw [List.getElem?_eq_getElem (show 2 < xs.length by omega)] at g2
        obtain ⟨z0, q0, _⟩ := DataW.trod_int Tryz.underlying5 g0
        obtain ⟨z1, q1, _⟩ := DataW.trod_int Tryz.underlying3 g1
        obtain ⟨z2, q2, _⟩ := DataW.trod_string Tryz.underlying9 g2
        simp at q0 q1 q2
        have c0 := hcell 0 (by omega)
        have c1 := hcell 1 (by omega)
        have c2 := hcell 2 (by omega)
        refine ⟨⟨z0, z1, z2⟩, ?_, ?_, ?_⟩
        · simpa [q0] using c0
        · simpa [q1] using c1
        · simpa [q2] using c2
    by_cases hn0 : n = 0
    · subst hn0
      exact ⟨_, _, _, [], rfl, rfl, by omega, .inl rfl⟩
    · obtain ⟨q, hq⟩ := choose_lt each
      obtain ⟨b, off, spot⟩ := a
      have hspot : spot = none := by simpa [Addr.add] using World.cell?_spot (hq 0 (by omega)).1
      subst hspot
      have hbl : b < W.heap.size := by simpa [Addr.add] using cell_block (hq 0 (by omega)).1
      refine ⟨_, _, _, (List.range n).map q, rfl, by simp, by omega, row_of_gets W b off hbl n q (fun j hj i u hu => ?_)⟩
      obtain ⟨c0, c1, c2⟩ := hq j hj
      rw [add_lit'] at c0 c1 c2
      rw [add_lit'] at c0 c1 c2
      match i, hu with
      | 0, hu => simp [encA] at hu; subst hu; simpa using c0
      | 1, hu => simp [encA] at hu; subst hu; simpa using c1
      | 2, hu => simp [encA] at hu; subst hu; simpa using c2
      | i + 3, hu => simp [encA] at hu
end Go.Proofs.YtekhblomdlehhaaGreatDoor
