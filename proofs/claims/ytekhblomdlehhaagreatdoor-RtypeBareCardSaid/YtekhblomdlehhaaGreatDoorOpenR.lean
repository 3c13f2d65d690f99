/- Arguments opened: types with regions. -/
import Derived.Test.YtekhblomdlehhaaGreatDoorRT
set_option linter.unusedVariables false
set_option maxRecDepth 100000
set_option linter.unusedSimpArgs false
namespace Go.Proofs.YtekhblomdlehhaaGreatDoor
open Go.ChangeShapes Go.WideShapes Go.ChangeAt Go.RowKit Go.Deep

section
variable {H : Type} {enc : TypeId × Value → H} {W : World} {base : Nat} {t e : TypeId} {v : Value} {d : DataW H} {ps : List MemPlace}

theorem elem_rt (n : Nat) : Elem enc W 47 n LR.encT (LR.lies W) := by
  induction n using Nat.strongRecOn with
  | _ n ih =>
  intro cs' x h hlen
  have he : Tryz.prog.underlying 47 = some (.struct (Tryz.prog.fieldsOf 47)) := by kernel_rfl
  have ce : Tryz.prog.cellsOf 47 = 4 := by kernel_rfl
  have F0 : ((Tryz.prog.fieldsOf 47)[0]?).map (fun f => (f.type, f.offset)) = some (5, 0) := by kernel_rfl
  have F1 : ((Tryz.prog.fieldsOf 47)[1]?).map (fun f => (f.type, f.offset)) = some (3, 1) := by kernel_rfl
  have F2 : ((Tryz.prog.fieldsOf 47)[2]?).map (fun f => (f.type, f.offset)) = some (25, 2) := by kernel_rfl
  have F3 : ((Tryz.prog.fieldsOf 47)[3]?).map (fun f => (f.type, f.offset)) = some (45, 3) := by kernel_rfl
  have C0 : Tryz.prog.cellsOf 5 = 1 := by kernel_rfl
  have C1 : Tryz.prog.cellsOf 3 = 1 := by kernel_rfl
  have C2 : Tryz.prog.cellsOf 25 = 1 := by kernel_rfl
  have C3 : Tryz.prog.cellsOf 45 = 1 := by kernel_rfl
  have CA : Tryz.prog.cellsOf 70 = 3 := by kernel_rfl
  rw [ce] at hlen
  obtain ⟨xs, k, hk, hxy, _, hxl, hf'⟩ := DataW.trod_struct he h
  obtain ⟨f0, e0, p0⟩ := Option.map_eq_some_iff.1 F0
  obtain ⟨f1, e1, p1⟩ := Option.map_eq_some_iff.1 F1
  obtain ⟨f2, e2, p2⟩ := Option.map_eq_some_iff.1 F2
  obtain ⟨f3, e3, p3⟩ := Option.map_eq_some_iff.1 F3
  simp only [Prod.mk.injEq] at p0 p1 p2 p3
  have g0 := hf' 0 f0 e0
  have g1 := hf' 1 f1 e1
  have g2 := hf' 2 f2 e2
  have g3 := hf' 3 f3 e3
  rw [p0.1, p0.2, C0] at g0
  rw [p1.1, p1.2, C1] at g1
  rw [p2.1, p2.2, C2] at g2
  rw [p3.1, p3.2, C3] at g3
  have b3 := (Array.getElem?_eq_some_iff.1 e3).1
  match cs', hlen with
  | [v0, v1, v2, v3], _ =>
    rw [List.getElem?_eq_getElem (show 0 < xs.length by omega)] at g0
    rw [List.getElem?_eq_getElem (show 1 < xs.length by omega)] at g1
    rw [List.getElem?_eq_getElem (show 2 < xs.length by omega)] at g2
    rw [List.getElem?_eq_getElem (show 3 < xs.length by omega)] at g3
    obtain ⟨z0, q0, _, b0'⟩ := DataW.trod_int Tryz.underlying5 g0
    obtain ⟨z1, q1, _, b1'⟩ := DataW.trod_int Tryz.underlying3 g1
    obtain ⟨ep, en, ec, eff, q2, re, oke⟩ := open_row_at encA okAt Tryz.underlying25 CA (by omega) encA_len g2 (fun n _ => elem_atom n)
    obtain ⟨kp, kn, kc, l, q3, rk, okk⟩ := open_row_at LR.encT (LR.lies W) Tryz.underlying45 ce (by omega) LRlen g3 (fun m hm => ih m (by omega))
    simp at q0 q1 q2 q3
    have h0 : 0 ≤ z0 ∧ z0 ≤ 255 := by simpa [Lit.wf, IntKind.min, IntKind.max, IntKind.signed, IntKind.bits] using b0'
    have h1 : -9223372036854775808 ≤ z1 ∧ z1 ≤ 9223372036854775807 := by simpa [Lit.wf, IntKind.min, IntKind.max, IntKind.signed, IntKind.bits] using b1'
    refine ⟨.node ⟨z0, z1, ep, en, ec, eff, kp, kn, kc⟩ l, by rw [q0, q1, q2, q3]; rfl, NodeIn.lies ⟨⟨re, oke, h0.1, h0.2, h1.1, h1.2, rk.max, rk.le, rk.nil⟩, rk, okk⟩⟩

/-- a type by value -/
theorem open_rt (hv : Value.okWide Tryz.prog W .any base 47 v) (h : DataW.Trod enc Tryz.prog W 0 (fun _ => true) true 47 v d ps) : ∃ x : PT, v = aggR x.head ∧ LR.lies W x := by
  have he : Tryz.prog.underlying 47 = some (.struct (Tryz.prog.fieldsOf 47)) := by kernel_rfl
  have ce : Tryz.prog.cellsOf 47 = 4 := by kernel_rfl
  simp only [Value.okWide, he] at hv
  obtain ⟨cs, rfl, hs, _⟩ := hv
  obtain ⟨fuel, hf⟩ := h
  obtain ⟨y, hy, hl⟩ := elem_rt fuel cs.toList _ hf (by simpa using hs)
  refine ⟨y, ?_, hl⟩
  obtain ⟨a⟩ := cs
  simp only [encT_LR, encRH] at hy
  rw [hy]
end
end Go.Proofs.YtekhblomdlehhaaGreatDoor
