/- Part 14 of the texts: Eff22, OpenA, OpenB, OpenC. -/
import Derived.Test.YtdlbjngpohkglaaGreatDoorG13
import Derived.Test.YtdlbjngpohkglaaGreatDoorG04
import Derived.ProofKit
import Derived.OpenShut
import Derived.Deep.Slices
import Derived.Deep.SlicePairs
import Derived.Lib.SmallJoins
import Derived.ChangeOld
import Derived.Test.YtdlbjngpohkglaaGreatDoorG10
section
set_option linter.unusedVariables false
set_option maxRecDepth 100000
set_option linter.unusedSimpArgs false
namespace Go.Proofs.YtdlbjngpohkglaaGreatDoor
open Go.RowKit Go.Sort Go.Lib

/-- does an atom name a region? -/
def hasR (x : Atom) : Bool := atomB x && decide (x.kind ≠ 3)
/-- the regions of an effect -/
def rhosOf (l : List Atom) : List Int := sortI ((l.filter hasR).map (·.rho))
def rhosF (l : List Atom) : List Int := (l.filter hasR).foldl (fun e a => putI a.rho e) []
theorem rhosF_snoc (l : List Atom) (x : Atom) : rhosF (l ++ [x]) = if hasR x then putI x.rho (rhosF l) else rhosF l := by
  unfold rhosF
  rw [List.filter_append, List.foldl_append]
  cases h : hasR x <;> simp [h]
theorem foldI : ∀ (l : List Int) (e : List Int), Rising ltI e → Rising ltI (l.foldl (fun e a => putI a e) e) ∧ ∀ x, x ∈ l.foldl (fun e a => putI a e) e ↔ x ∈ e ∨ x ∈ l
  | [], e, h => ⟨h, fun x => by simp⟩
  | a :: l, e, h => by
    obtain ⟨h1, h2⟩ := foldI l (putI a e) (rising_putI a e h)
    refine ⟨h1, fun x => ?_⟩
    rw [List.foldl_cons, h2, mem_putI, List.mem_cons]
    constructor
    · rintro ((rfl | h) | h)
      · exact .inr (.inl rfl)
      · exact .inl h
      · exact .inr (.inr h)
    · rintro (h | rfl | h)
      · exact .inl (.inr h)
      · exact .inl (.inl rfl)
      · exact .inr h
theorem rhosF_eq (l : List Atom) : rhosF l = rhosOf l := by
  have e : rhosF l = ((l.filter hasR).map (·.rho)).foldl (fun e a => putI a e) [] := by unfold rhosF; rw [List.foldl_map]
  obtain ⟨h1, h2⟩ := foldI ((l.filter hasR).map (·.rho)) [] (by simp [Rising])
  rw [e]
  exact eq_sortI h1 (fun x => by rw [h2]; simp)
theorem insertR_length {α : Type} (lt : α → α → Bool) (a : α) : ∀ l : List α, (insertR lt a l).length ≤ l.length + 1
  | [] => by simp [insertR]
  | b :: l => by
    unfold insertR
    split
    · simp
    · split
      · have := insertR_length lt a l; simp; omega
      · simp
theorem sortR_length {α : Type} (lt : α → α → Bool) : ∀ l : List α, (sortR lt l).length ≤ l.length
  | [] => by simp [sortR]
  | a :: l => by
    have h1 := insertR_length lt a (sortR lt l)
    have h2 := sortR_length lt l
    simp only [sortR, List.length_cons]; omega
theorem rhosOf_length (l : List Atom) : (rhosOf l).length ≤ l.length := by
  have h1 := sortR_length ltI ((l.filter hasR).map (·.rho))
  have h2 := List.length_filter_le hasR l
  rw [List.length_map] at h1
  exact Nat.le_trans h1 h2
theorem mem_rhosOf (l : List Atom) (r : Int) : r ∈ rhosOf l ↔ ∃ x ∈ l, atomB x = true ∧ x.kind ≠ 3 ∧ x.rho = r := by
  unfold rhosOf
  rw [mem_sortI, List.mem_map]
  constructor
  · rintro ⟨x, hx, rfl⟩
    rw [List.mem_filter] at hx
    have h := hx.2
    unfold hasR at h
    rw [Bool.and_eq_true] at h
    exact ⟨x, hx.1, h.1, of_decide_eq_true h.2, rfl⟩
  · rintro ⟨x, hx, h1, h2, rfl⟩
    exact ⟨x, List.mem_filter.2 ⟨hx, by unfold hasR; rw [h1, decide_eq_true h2]; rfl⟩, rfl⟩
theorem rhosOf_congr {l m : List Atom} (h : ∀ x, atomB x = true → (x ∈ l ↔ x ∈ m)) : rhosOf l = rhosOf m := by
  refine sortI_congr (fun r => ?_)
  have h1 := mem_rhosOf l r
  have h2 := mem_rhosOf m r
  unfold rhosOf at h1 h2
  rw [mem_sortI] at h1 h2
  rw [h1, h2]
  constructor
  · rintro ⟨x, hx, ha, hk, hr⟩; exact ⟨x, (h x ha).1 hx, ha, hk, hr⟩
  · rintro ⟨x, hx, ha, hk, hr⟩; exact ⟨x, (h x ha).2 hx, ha, hk, hr⟩
theorem rhosOf_effL (l : List Atom) : rhosOf (effL l) = rhosOf l := rhosOf_congr (fun x hx => by rw [mem_sortA, List.mem_filter]; simp [hx])

end Go.Proofs.YtdlbjngpohkglaaGreatDoor
end
section
set_option linter.unusedVariables false
set_option maxRecDepth 100000
set_option linter.unusedSimpArgs false
namespace Go.Proofs.YtdlbjngpohkglaaGreatDoor
open Go.ChangeShapes Go.WideShapes Go.ChangeAt Go.RowKit Go.Deep

variable {H : Type} {enc : TypeId × Value → H} {W : World} {base : Nat} {t e : TypeId} {v : Value} {d : DataW H} {ps : List MemPlace}

theorem row_of_gets {α : Type} {encE : α → List Value} {k : Nat} (w : World) (b o : Nat) (hb : b < w.heap.size) (n : Nat) (q : Nat → α) (h : ∀ j, j < n → ∀ i u, (encE (q j))[i]? = some u → w.cell? ⟨b, o + j * k + i, none⟩ = some u) :
    RowE encE k w (some ⟨b, o, none⟩) ((List.range n).map q) := by
  refine .inr ⟨b, o, rfl, hb, fun j x hx i u hu => ?_⟩
  rw [List.getElem?_map] at hx
  have hj : j < n := by
    have := (Option.map_eq_some_iff.1 hx).choose_spec.1
    have := (List.getElem?_eq_some_iff.1 this).1
    simpa using this
  rw [List.getElem?_range hj] at hx
  cases hx
  exact h j hj i u hu

theorem open_nums (ht : Tryz.prog.underlying t = some (.slice e)) (he : Tryz.prog.underlying e = some (.int .i64)) (hc : Tryz.prog.cellsOf e = 1)
    (hv : Value.okWide Tryz.prog W .any base t v) (h : DataW.Trod enc Tryz.prog W 0 (fun _ => true) true t v d ps) :
    ∃ p n cap, ∃ l : List Int, v = .slice p n cap ∧ l.length = n ∧ n ≤ 9223372036854775807 ∧ RowE encN 1 W p l := by
  obtain ⟨p, n, cap, rfl⟩ := okWide_slice ht hv
  obtain ⟨fuel, hf⟩ := h
  rcases open_ints ht he hc hf with ⟨hcs, _⟩ | ⟨x, l, c, zs, hcs, _, hl, hm, hz, _, hcell, hwz⟩
  · simp [Value.cells] at hcs
    obtain ⟨rfl, rfl, rfl⟩ := hcs
    exact ⟨_, _, _, [], rfl, rfl, by omega, .inl rfl⟩
  · simp [Value.cells] at hcs
    obtain ⟨rfl, rfl, rfl⟩ := hcs
    unfold maxLen at hm
    have hz : zs.length = cap := by simpa using hz
    by_cases hn0 : n = 0
    · subst hn0
      exact ⟨_, _, _, [], rfl, rfl, by omega, .inl rfl⟩
    · obtain ⟨b, off, spot⟩ := x
      have hspot : spot = none := by simpa [Addr.add] using World.cell?_spot (hcell 0 (by omega))
      subst hspot
      have hbl : b < W.heap.size := by simpa [Addr.add] using cell_block (hcell 0 (by omega))
      refine ⟨_, _, _, (List.range n).map (fun j => zs.getD j 0), rfl, by simp, by omega, row_of_gets W b off hbl n _ (fun j hj i u hu => ?_)⟩
      have c0 := hcell j (by omega)
      rw [add_lit'] at c0
      match i, hu with
      | 0, hu => simp [encN] at hu; subst hu; simpa [List.getD] using c0
      | i + 1, hu => simp [encN] at hu

theorem open_atoms (ht : Tryz.prog.underlying t = some (.slice 78))
    (hv : Value.okWide Tryz.prog W .any base t v) (h : DataW.Trod enc Tryz.prog W 0 (fun _ => true) true t v d ps) :
    ∃ p n cap, ∃ l : List Atom, v = .slice p n cap ∧ l.length = n ∧ n ≤ 9223372036854775807 ∧ RowA W p l := by
  obtain ⟨p, n, cap, rfl⟩ := okWide_slice ht hv
  obtain ⟨fuel, hf⟩ := h
  rcases open_slice ht hf with ⟨hcs, _⟩ | ⟨a, len, c, m, fu, D, Pl, hcs, _, hl, hm, hmm, _, hx⟩
  · simp [Value.cells] at hcs
    obtain ⟨rfl, rfl, rfl⟩ := hcs
    exact ⟨_, _, _, [], rfl, rfl, by omega, .inl rfl⟩
  · simp [Value.cells] at hcs
    obtain ⟨rfl, rfl, rfl⟩ := hcs
    unfold maxLen at hm
    have hmc : m = cap := by simpa using hmm
    have he : Tryz.prog.underlying 78 = some (.struct (Tryz.prog.fieldsOf 78)) := by kernel_rfl
    have ce : Tryz.prog.cellsOf 78 = 3 := by kernel_rfl
    have F0 : ((Tryz.prog.fieldsOf 78)[0]?).map (fun f => (f.type, f.offset)) = some (5, 0) := by kernel_rfl
    have F1 : ((Tryz.prog.fieldsOf 78)[1]?).map (fun f => (f.type, f.offset)) = some (3, 1) := by kernel_rfl
    have F2 : ((Tryz.prog.fieldsOf 78)[2]?).map (fun f => (f.type, f.offset)) = some (9, 2) := by kernel_rfl
    have C0 : Tryz.prog.cellsOf 5 = 1 := by kernel_rfl
    have C1 : Tryz.prog.cellsOf 3 = 1 := by kernel_rfl
    have C2 : Tryz.prog.cellsOf 9 = 1 := by kernel_rfl
    have each : ∀ i, i < n → ∃ y : Atom, W.cell? ((a.add (i * 3)).add 0) = some (.int .u8 y.kind) ∧ W.cell? ((a.add (i * 3)).add 1) = some (.int .i64 y.rho) ∧ W.cell? ((a.add (i * 3)).add 2) = some (.string y.exn) := by
      intro i hi
      obtain ⟨cs', h1, h2⟩ := hx i (by omega)
      rw [ce] at h1
      obtain ⟨_, hlen, hcell⟩ := World.cells?_some h1
      obtain ⟨xs, k, hk, hxy, _, hxl, hf'⟩ := DataW.trod_struct he h2
      obtain ⟨f0, e0, p0⟩ := Option.map_eq_some_iff.1 F0
      obtain ⟨f1, e1, p1⟩ := Option.map_eq_some_iff.1 F1
      obtain ⟨f2, e2, p2⟩ := Option.map_eq_some_iff.1 F2
      simp only [Prod.mk.injEq] at p0 p1 p2
      have g0 := hf' 0 f0 e0
      have g1 := hf' 1 f1 e1
      have g2 := hf' 2 f2 e2
      rw [p0.1, p0.2, C0] at g0
      rw [p1.1, p1.2, C1] at g1
      rw [p2.1, p2.2, C2] at g2
      have b0 := (Array.getElem?_eq_some_iff.1 e0).1
      have b1 := (Array.getElem?_eq_some_iff.1 e1).1
      have b2 := (Array.getElem?_eq_some_iff.1 e2).1
      match cs', hlen with
      | [v0, v1, v2], _ =>
        rw [List.getElem?_eq_getElem (show 0 < xs.length by omega)] at g0
        rw [List.getElem?_eq_getElem (show 1 < xs.length by omega)] at g1
        rw [List.getElem?_eq_getElem (show 2 < xs.length by omega)] at g2
        obtain ⟨z0, q0, _⟩ := DataW.trod_int Tryz.underlying5 g0
        obtain ⟨z1, q1, _⟩ := DataW.trod_int Tryz.underlying3 g1
        obtain ⟨z2, q2, _⟩ := DataW.trod_string Tryz.underlying9 g2
        simp at q0 q1 q2
        have c0 := hcell 0 (by omega)
        have c1 := hcell 1 (by omega)
        have c2 := hcell 2 (by omega)
        refine ⟨⟨z0, z1, z2⟩, ?_, ?_, ?_⟩
        · simpa [q0] using c0
        · simpa [q1] using c1
        · simpa [q2] using c2
    by_cases hn0 : n = 0
    · subst hn0
      exact ⟨_, _, _, [], rfl, rfl, by omega, .inl rfl⟩
    · obtain ⟨q, hq⟩ := choose_lt each
      obtain ⟨b, off, spot⟩ := a
      have hspot : spot = none := by simpa [Addr.add] using World.cell?_spot (hq 0 (by omega)).1
      subst hspot
      have hbl : b < W.heap.size := by simpa [Addr.add] using cell_block (hq 0 (by omega)).1
      refine ⟨_, _, _, (List.range n).map q, rfl, by simp, by omega, row_of_gets W b off hbl n q (fun j hj i u hu => ?_)⟩
      obtain ⟨c0, c1, c2⟩ := hq j hj
      rw [add_lit'] at c0 c1 c2
      rw [add_lit'] at c0 c1 c2
      match i, hu with
      | 0, hu => simp [encA] at hu; subst hu; simpa using c0
      | 1, hu => simp [encA] at hu; subst hu; simpa using c1
      | 2, hu => simp [encA] at hu; subst hu; simpa using c2
      | i + 3, hu => simp [encA] at hu
end Go.Proofs.YtdlbjngpohkglaaGreatDoor
end
section
set_option linter.unusedVariables false
set_option maxRecDepth 100000
set_option linter.unusedSimpArgs false
namespace Go.Proofs.YtdlbjngpohkglaaGreatDoor
open Go.ChangeShapes Go.WideShapes Go.ChangeAt Go.RowKit Go.Deep

section
variable {H : Type} {enc : TypeId × Value → H} {W : World} {base : Nat} {t e : TypeId} {v : Value} {d : DataW H} {ps : List MemPlace}

theorem slice_shape {p : Option Addr} {n cap : Nat} (ht : Tryz.prog.underlying t = some (.slice e)) (h : DataW.Trod enc Tryz.prog W 0 (fun _ => true) true t (.slice p n cap) d ps) : n ≤ cap ∧ (p = none → cap = 0) := by
  obtain ⟨fuel, hf⟩ := h
  rcases open_slice ht hf with ⟨hcs, _⟩ | ⟨a, len, c, m, fu, D, Pl, hcs, _, hl, hm, hmm, _, hx⟩
  · simp [Value.cells] at hcs
    obtain ⟨rfl, rfl, rfl⟩ := hcs
    exact ⟨Nat.le_refl _, fun _ => rfl⟩
  · simp [Value.cells] at hcs
    obtain ⟨rfl, rfl, rfl⟩ := hcs
    exact ⟨hl, fun h => by cases h⟩

theorem open_rowA (ht : Tryz.prog.underlying t = some (.slice 78))
    (hv : Value.okWide Tryz.prog W .any base t v) (h : DataW.Trod enc Tryz.prog W 0 (fun _ => true) true t v d ps) :
    ∃ p n cap, ∃ l : List Atom, v = .slice p n cap ∧ IsRow encA 3 W p n cap l := by
  obtain ⟨p, n, cap, l, rfl, h1, h2, h3⟩ := open_atoms ht hv h
  obtain ⟨h4, h5⟩ := slice_shape ht h
  exact ⟨p, n, cap, l, rfl, h1, h2, h4, h5, h3⟩
theorem open_rowN (ht : Tryz.prog.underlying t = some (.slice 3))
    (hv : Value.okWide Tryz.prog W .any base t v) (h : DataW.Trod enc Tryz.prog W 0 (fun _ => true) true t v d ps) :
    ∃ p n cap, ∃ l : List Int, v = .slice p n cap ∧ IsRow encN 1 W p n cap l := by
  obtain ⟨p, n, cap, l, rfl, h1, h2, h3⟩ := open_nums ht Tryz.underlying3 (by kernel_rfl) hv h
  obtain ⟨h4, h5⟩ := slice_shape ht h
  exact ⟨p, n, cap, l, rfl, h1, h2, h4, h5, h3⟩
end
end Go.Proofs.YtdlbjngpohkglaaGreatDoor
end
section
set_option linter.unusedVariables false
set_option maxRecDepth 100000
set_option linter.unusedSimpArgs false
namespace Go.Proofs.YtdlbjngpohkglaaGreatDoor
open Go.ChangeShapes Go.WideShapes Go.ChangeAt Go.RowKit Go.Deep

variable {H : Type} {enc : TypeId × Value → H} {W : World} {base : Nat} {t e : TypeId} {v : Value} {d : DataW H} {ps : List MemPlace}

/-- an atom that came in: its numbers in range -/
structure okAt (x : Atom) : Prop where
  k0 : 0 ≤ x.kind
  k1 : x.kind ≤ 255
  r0 : -9223372036854775808 ≤ x.rho
  r1 : x.rho ≤ 9223372036854775807
  s1 : x.exn.size ≤ 9223372036854775807

theorem open_atomsR (ht : Tryz.prog.underlying t = some (.slice 78))
    (hv : Value.okWide Tryz.prog W .any base t v) (h : DataW.Trod enc Tryz.prog W 0 (fun _ => true) true t v d ps) :
    ∃ p n cap, ∃ l : List Atom, v = .slice p n cap ∧ l.length = n ∧ n ≤ 9223372036854775807 ∧ RowA W p l ∧ ∀ x ∈ l, okAt x := by
  obtain ⟨p, n, cap, rfl⟩ := okWide_slice ht hv
  obtain ⟨fuel, hf⟩ := h
  rcases open_slice ht hf with ⟨hcs, _⟩ | ⟨a, len, c, m, fu, D, Pl, hcs, _, hl, hm, hmm, _, hx⟩
  · simp [Value.cells] at hcs
    obtain ⟨rfl, rfl, rfl⟩ := hcs
    exact ⟨_, _, _, [], rfl, rfl, by omega, .inl rfl, fun x hx => by cases hx⟩
  · simp [Value.cells] at hcs
    obtain ⟨rfl, rfl, rfl⟩ := hcs
    unfold maxLen at hm
    have hmc : m = cap := by simpa using hmm
    have he : Tryz.prog.underlying 78 = some (.struct (Tryz.prog.fieldsOf 78)) := by kernel_rfl
    have ce : Tryz.prog.cellsOf 78 = 3 := by kernel_rfl
    have F0 : ((Tryz.prog.fieldsOf 78)[0]?).map (fun f => (f.type, f.offset)) = some (5, 0) := by kernel_rfl
    have F1 : ((Tryz.prog.fieldsOf 78)[1]?).map (fun f => (f.type, f.offset)) = some (3, 1) := by kernel_rfl
    have F2 : ((Tryz.prog.fieldsOf 78)[2]?).map (fun f => (f.type, f.offset)) = some (9, 2) := by kernel_rfl
    have C0 : Tryz.prog.cellsOf 5 = 1 := by kernel_rfl
    have C1 : Tryz.prog.cellsOf 3 = 1 := by kernel_rfl
    have C2 : Tryz.prog.cellsOf 9 = 1 := by kernel_rfl
    have each : ∀ i, i < n → ∃ y : Atom, okAt y ∧ W.cell? ((a.add (i * 3)).add 0) = some (.int .u8 y.kind) ∧ W.cell? ((a.add (i * 3)).add 1) = some (.int .i64 y.rho) ∧ W.cell? ((a.add (i * 3)).add 2) = some (.string y.exn) := by
      intro i hi
      obtain ⟨cs', h1, h2⟩ := hx i (by omega)
      rw [ce] at h1
      obtain ⟨_, hlen, hcell⟩ := World.cells?_some h1
      obtain ⟨xs, k, hk, hxy, _, hxl, hf'⟩ := DataW.trod_struct he h2
      obtain ⟨f0, e0, p0⟩ := Option.map_eq_some_iff.1 F0
      obtain ⟨f1, e1, p1⟩ := Option.map_eq_some_iff.1 F1
      obtain ⟨f2, e2, p2⟩ := Option.map_eq_some_iff.1 F2
      simp only [Prod.mk.injEq] at p0 p1 p2
      have g0 := hf' 0 f0 e0
      have g1 := hf' 1 f1 e1
      have g2 := hf' 2 f2 e2
      rw [p0.1, p0.2, C0] at g0
      rw [p1.1, p1.2, C1] at g1
      rw [p2.1, p2.2, C2] at g2
      have b0 := (Array.getElem?_eq_some_iff.1 e0).1
      have b1 := (Array.getElem?_eq_some_iff.1 e1).1
      have b2 := (Array.getElem?_eq_some_iff.1 e2).1
      match cs', hlen with
      | [v0, v1, v2], _ =>
        rw [List.getElem?_eq_getElem (show 0 < xs.length by omega)] at g0
        rw [List.getElem?_eq_getElem (show 1 < xs.length by omega)] at g1
        rw [List.getElem?_eq_getElem (show 2 < xs.length by omega)] at g2
        obtain ⟨z0, q0, _, b0'⟩ := DataW.trod_int Tryz.underlying5 g0
        obtain ⟨z1, q1, _, b1'⟩ := DataW.trod_int Tryz.underlying3 g1
        obtain ⟨z2, q2, _, b2'⟩ := DataW.trod_string Tryz.underlying9 g2
        simp at q0 q1 q2
        have c0 := hcell 0 (by omega)
        have c1 := hcell 1 (by omega)
        have c2 := hcell 2 (by omega)
        refine ⟨⟨z0, z1, z2⟩, ?_, ?_, ?_, ?_⟩
        · have h0 : 0 ≤ z0 ∧ z0 ≤ 255 := by simpa [Lit.wf, IntKind.min, IntKind.max, IntKind.signed, IntKind.bits] using b0'
          have h1 : -9223372036854775808 ≤ z1 ∧ z1 ≤ 9223372036854775807 := by simpa [Lit.wf, IntKind.min, IntKind.max, IntKind.signed, IntKind.bits] using b1'
          unfold maxLen at b2'
          exact ⟨h0.1, h0.2, h1.1, h1.2, by omega⟩
        · simpa [q0] using c0
        · simpa [q1] using c1
        · simpa [q2] using c2
    by_cases hn0 : n = 0
    · subst hn0
      exact ⟨_, _, _, [], rfl, rfl, by omega, .inl rfl, fun x hx => by cases hx⟩
    · obtain ⟨q, hq⟩ := choose_lt each
      obtain ⟨b, off, spot⟩ := a
      have hspot : spot = none := by simpa [Addr.add] using World.cell?_spot (hq 0 (by omega)).2.1
      subst hspot
      have hbl : b < W.heap.size := by simpa [Addr.add] using cell_block (hq 0 (by omega)).2.1
      refine ⟨_, _, _, (List.range n).map q, rfl, by simp, by omega, row_of_gets W b off hbl n q (fun j hj i u hu => ?_), fun x hx => by
        obtain ⟨j, hj, rfl⟩ := List.mem_map.1 hx
        exact (hq j (List.mem_range.1 hj)).1⟩
      obtain ⟨_, c0, c1, c2⟩ := hq j hj
      rw [add_lit'] at c0 c1 c2
      rw [add_lit'] at c0 c1 c2
      match i, hu with
      | 0, hu => simp [encA] at hu; subst hu; simpa using c0
      | 1, hu => simp [encA] at hu; subst hu; simpa using c1
      | 2, hu => simp [encA] at hu; subst hu; simpa using c2
      | i + 3, hu => simp [encA] at hu

theorem open_rowR (ht : Tryz.prog.underlying t = some (.slice 78))
    (hv : Value.okWide Tryz.prog W .any base t v) (h : DataW.Trod enc Tryz.prog W 0 (fun _ => true) true t v d ps) :
    ∃ p n cap, ∃ l : List Atom, v = .slice p n cap ∧ IsRow encA 3 W p n cap l ∧ ∀ x ∈ l, okAt x := by
  obtain ⟨p, n, cap, l, rfl, h1, h2, h3, h6⟩ := open_atomsR ht hv h
  obtain ⟨h4, h5⟩ := slice_shape ht h
  exact ⟨p, n, cap, l, rfl, ⟨h1, h2, h4, h5, h3⟩, h6⟩
end Go.Proofs.YtdlbjngpohkglaaGreatDoor
end
