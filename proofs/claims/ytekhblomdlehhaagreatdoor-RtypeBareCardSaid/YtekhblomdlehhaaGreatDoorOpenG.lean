/- Slices that came in, whatever their elements. -/
import Derived.Test.YtekhblomdlehhaaGreatDoorOpenC
import Derived.Test.YtekhblomdlehhaaGreatDoorConcat
set_option linter.unusedVariables false
set_option maxRecDepth 100000
set_option linter.unusedSimpArgs false
namespace Go.Proofs.YtekhblomdlehhaaGreatDoor
open Go.ChangeShapes Go.WideShapes Go.ChangeAt Go.RowKit Go.Deep

section
variable {H : Type} {enc : TypeId × Value → H} {W : World} {base : Nat} {t e : TypeId} {v : Value} {d : DataW H} {ps : List MemPlace}

/-- The cells cs' of type e, read with fuel n, are an element. -/
def Elem (enc : TypeId × Value → H) (W : World) (e : TypeId) (n : Nat) {α : Type} (enc1 : α → List Value) (Q : α → Prop) : Prop :=
  ∀ cs' x, DataW.trod enc Tryz.prog W 0 (fun _ => true) true n e cs' = some x → cs'.length = Tryz.prog.cellsOf e → ∃ y : α, cs' = enc1 y ∧ Q y

theorem open_row_at {α : Type} {k fuel : Nat} {cs : List Value} {x : DataW H × List MemPlace} (enc1 : α → List Value) (Q : α → Prop) (ht : Tryz.prog.underlying t = some (.slice e)) (hc : Tryz.prog.cellsOf e = k) (hk0 : 0 < k) (henc : ∀ y, (enc1 y).length = k)
    (hf : DataW.trod enc Tryz.prog W 0 (fun _ => true) true fuel t cs = some x) (he : ∀ n, n < fuel → Elem enc W e n enc1 Q) :
    ∃ p n cap, ∃ l : List α, cs = [.slice p n cap] ∧ IsRow enc1 k W p n cap l ∧ ∀ y ∈ l, Q y := by
  rcases DataW.trod_slice ht hf with ⟨hcs, _⟩ | ⟨a, len, cap, elems, rest, n, hfu, hcs, _, _, hl, hm, hlen, hel, _, _⟩
  · exact ⟨none, 0, 0, [], hcs, IsRow.none _ _ _, fun y hy => by cases hy⟩
  · unfold maxLen at hm
    have each : ∀ i, i < len → ∃ y : α, Q y ∧ ∀ j u, (enc1 y)[j]? = some u → W.cell? ((a.add (i * k)).add j) = some u := by
      intro i hi
      have h := hel i hi
      rw [List.getElem?_eq_getElem (by omega)] at h
      obtain ⟨cs', h1, h2⟩ := Option.bind_eq_some_iff.1 h
      rw [hc] at h1
      obtain ⟨_, hlen', hcell⟩ := World.cells?_some h1
      obtain ⟨y, rfl, hq⟩ := he n (by omega) cs' _ h2 (by rw [hc]; exact hlen')
      refine ⟨y, hq, fun j u hu => ?_⟩
      have hj : j < k := by rw [← henc y]; exact get_lt hu
      rw [hcell j hj]; exact hu
    by_cases hn0 : len = 0
    · subst hn0
      exact ⟨_, 0, cap, [], hcs, ⟨rfl, by omega, hl, (fun h => by cases h), .inl rfl⟩, fun y hy => by cases hy⟩
    · obtain ⟨y0, _⟩ := each 0 (by omega)
      haveI : Inhabited α := ⟨y0⟩
      obtain ⟨q, hq⟩ := choose_lt each
      obtain ⟨b, off, spot⟩ := a
      obtain ⟨u0, hu0⟩ : ∃ u, (enc1 (q 0))[0]? = some u := get_of_lt (by rw [henc]; omega)
      have c0 := (hq 0 (by omega)).2 0 u0 hu0
      have hspot : spot = none := by simpa [Addr.add] using World.cell?_spot c0
      subst hspot
      have hbl : b < W.heap.size := by simpa [Addr.add] using cell_block c0
      refine ⟨_, len, cap, (List.range len).map q, hcs, ⟨by simp, by omega, hl, (fun h => by cases h), row_of_gets W b off hbl len q (fun j hj i u hu => ?_)⟩, fun y hy => ?_⟩
      · have := (hq j hj).2 i u hu
        rw [add_lit', add_lit'] at this
        exact this
      · obtain ⟨j, hj, rfl⟩ := List.mem_map.1 hy
        exact (hq j (List.mem_range.1 hj)).1

theorem open_row_of {α : Type} {k : Nat} (enc1 : α → List Value) (Q : α → Prop) (ht : Tryz.prog.underlying t = some (.slice e)) (hc : Tryz.prog.cellsOf e = k) (hk0 : 0 < k) (henc : ∀ y, (enc1 y).length = k)
    (hv : Value.okWide Tryz.prog W .any base t v) (h : DataW.Trod enc Tryz.prog W 0 (fun _ => true) true t v d ps) (he : ∀ n, Elem enc W e n enc1 Q) :
    ∃ p n cap, ∃ l : List α, v = .slice p n cap ∧ IsRow enc1 k W p n cap l ∧ ∀ y ∈ l, Q y := by
  obtain ⟨p, n, cap, rfl⟩ := okWide_slice ht hv
  obtain ⟨fuel, hf⟩ := h
  obtain ⟨p', n', cap', l, hcs, hr⟩ := open_row_at enc1 Q ht hc hk0 henc hf (fun n _ => he n)
  simp [Value.cells] at hcs
  obtain ⟨rfl, rfl, rfl⟩ := hcs
  exact ⟨_, _, _, l, rfl, hr⟩

/-- strings -/
theorem elem_str (n : Nat) : Elem enc W 9 n encS (fun s : ByteArray => s.size ≤ 9223372036854775807) := by
  intro cs' x h _
  obtain ⟨s, rfl, _, hs⟩ := DataW.trod_string Tryz.underlying9 h
  unfold maxLen at hs
  exact ⟨s, rfl, by omega⟩
theorem elem_num (n : Nat) : Elem enc W 3 n encN (fun z : Int => -9223372036854775808 ≤ z ∧ z ≤ 9223372036854775807) := by
  intro cs' x h _
  obtain ⟨z, rfl, _, hz⟩ := DataW.trod_int Tryz.underlying3 h
  exact ⟨z, rfl, by simpa [Lit.wf, IntKind.min, IntKind.max, IntKind.signed, IntKind.bits] using hz⟩
theorem elem_atom (n : Nat) : Elem enc W 70 n encA okAt := by
  intro cs' x h hlen
  have he : Tryz.prog.underlying 70 = some (.struct (Tryz.prog.fieldsOf 70)) := by kernel_rfl
  have ce : Tryz.prog.cellsOf 70 = 3 := by kernel_rfl
  have F0 : ((Tryz.prog.fieldsOf 70)[0]?).map (fun f => (f.type, f.offset)) = some (5, 0) := by kernel_rfl
  have F1 : ((Tryz.prog.fieldsOf 70)[1]?).map (fun f => (f.type, f.offset)) = some (3, 1) := by kernel_rfl
  have F2 : ((Tryz.prog.fieldsOf 70)[2]?).map (fun f => (f.type, f.offset)) = some (9, 2) := by kernel_rfl
  have C0 : Tryz.prog.cellsOf 5 = 1 := by kernel_rfl
  have C1 : Tryz.prog.cellsOf 3 = 1 := by kernel_rfl
  have C2 : Tryz.prog.cellsOf 9 = 1 := by kernel_rfl
  rw [ce] at hlen
  obtain ⟨xs, k, hk, hxy, _, hxl, hf'⟩ := DataW.trod_struct he h
  obtain ⟨f0, e0, p0⟩ := Option.map_eq_some_iff.1 F0
  obtain ⟨f1, e1, p1⟩ := Option.map_eq_some_iff.1 F1
  obtain ⟨f2, e2, p2⟩ := Option.map_eq_some_iff.1 F2
  simp only [Prod.mk.injEq] at p0 p1 p2
  have g0 := hf' 0 f0 e0
  have g1 := hf' 1 f1 e1
  have g2 := hf' 2 f2 e2
  rw [p0.1, p0.2, C0] at g0
  rw [p1.1, p1.2, C1] at g1
  rw [p2.1, p2.2, C2] at g2
  have b0 := (Array.getElem?_eq_some_iff.1 e0).1
  have b1 := (Array.getElem?_eq_some_iff.1 e1).1
  have b2 := (Array.getElem?_eq_some_iff.1 e2).1
  match cs', hlen with
  | [v0, v1, v2], _ =>
    rw [List.getElem?_eq_getElem (show 0 < xs.length by omega)] at g0
    rw [List.getElem?_eq_getElem (show 1 < xs.length by omega)] at g1
    rw [List.getElem?_eq_getElem (show 2 < xs.length by omega)] at g2
    obtain ⟨z0, q0, _, b0'⟩ := DataW.trod_int Tryz.underlying5 g0
    obtain ⟨z1, q1, _, b1'⟩ := DataW.trod_int Tryz.underlying3 g1
    obtain ⟨z2, q2, _, b2'⟩ := DataW.trod_string Tryz.underlying9 g2
    simp at q0 q1 q2
    have h0 : 0 ≤ z0 ∧ z0 ≤ 255 := by simpa [Lit.wf, IntKind.min, IntKind.max, IntKind.signed, IntKind.bits] using b0'
    have h1 : -9223372036854775808 ≤ z1 ∧ z1 ≤ 9223372036854775807 := by simpa [Lit.wf, IntKind.min, IntKind.max, IntKind.signed, IntKind.bits] using b1'
    unfold maxLen at b2'
    exact ⟨⟨z0, z1, z2⟩, by rw [q0, q1, q2]; rfl, h0.1, h0.2, h1.1, h1.2, by omega⟩
/-- a slice of atoms, as an element -/
theorem elem_rowA (n : Nat) : Elem enc W 25 n encSl (fun r : SlE Atom => r.Ok encA 3 W ∧ r.n ≤ 9223372036854775807 ∧ ∀ x ∈ r.l, okAt x) := by
  intro cs' x h _
  obtain ⟨p, m, cap, l, rfl, hr, hq⟩ := open_row_at encA okAt Tryz.underlying25 (by kernel_rfl) (by omega) encA_len h (fun n _ => elem_atom n)
  exact ⟨⟨p, m, cap, l⟩, rfl, ⟨hr.len, hr.le, hr.nil, hr.row⟩, hr.max, hq⟩

theorem open_rowS (ht : Tryz.prog.underlying t = some (.slice 9)) (hv : Value.okWide Tryz.prog W .any base t v) (h : DataW.Trod enc Tryz.prog W 0 (fun _ => true) true t v d ps) :
    ∃ p n cap, ∃ l : List ByteArray, v = .slice p n cap ∧ IsRow encS 1 W p n cap l ∧ ∀ s ∈ l, s.size ≤ 9223372036854775807 := open_row_of encS _ ht (by kernel_rfl) (by omega) encS_len hv h elem_str
theorem open_rowAA (ht : Tryz.prog.underlying t = some (.slice 25)) (hv : Value.okWide Tryz.prog W .any base t v) (h : DataW.Trod enc Tryz.prog W 0 (fun _ => true) true t v d ps) :
    ∃ p n cap, ∃ l : List (SlE Atom), v = .slice p n cap ∧ IsRow encSl 1 W p n cap l ∧ ∀ r ∈ l, r.Ok encA 3 W ∧ r.n ≤ 9223372036854775807 ∧ ∀ x ∈ r.l, okAt x := open_row_of encSl _ ht (by kernel_rfl) (by omega) encSl_len hv h elem_rowA
end
end Go.Proofs.YtekhblomdlehhaaGreatDoor
