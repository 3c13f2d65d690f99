/- Part 13: AT, OpenR, OpenT, Name, Tm, Hd. -/
import Derived.Test.YtkdjnegfnhldpaaGreatDoorH09
import Derived.Test.YtkdjnegfnhldpaaGreatDoorH02
import Derived.Test.YtkdjnegfnhldpaaGreatDoorH05
import Derived.Test.YtkdjnegfnhldpaaGreatDoorH08
import Derived.Test.YtkdjnegfnhldpaaGreatDoorH03
import Derived.Deep.CutRange
import Derived.Deep.RegionHeld3
import Derived.Test.YtkdjnegfnhldpaaGreatDoorH10
set_option linter.unusedVariables false
set_option maxRecDepth 100000
set_option linter.unusedSimpArgs false
namespace Go.Proofs.YtkdjnegfnhldpaaGreatDoor
open Go.Lib (hid)
section
open Go.RowKit
def inI (z : Int) : Prop := -9223372036854775808 ≤ z ∧ z ≤ 9223372036854775807
structure LAH where
  kind : Int
  op : Int
  at_ : Int
  n : Int
  name : ByteArray
  arg : ByteArray
  exn : ByteArray
  rho : Int
  rhos : List Int
  eff : List Atom
  ty : RT
  res : RT
structure AH where
  kind : Int
  op : Int
  at_ : Int
  n : Int
  name : ByteArray
  arg : ByteArray
  exn : ByteArray
  rho : Int
  rp : Option Addr
  rn : Nat
  rc : Nat
  rhos : List Int
  ep : Option Addr
  en : Nat
  ec : Nat
  eff : List Atom
  ty : PT
  res : PT
  kp : Option Addr
  kn : Nat
  kc : Nat
abbrev PA := Rose AH
abbrev AT := Rose LAH
def AH.plain (a : AH) : LAH := ⟨a.kind, a.op, a.at_, a.n, a.name, a.arg, a.exn, a.rho, a.rhos, a.eff, a.ty.er, a.res.er⟩
def PA.er (t : PA) : AT := Rose.map AH.plain t
theorem PA.er_node (a : AH) (l : List PA) : PA.er (.node a l) = .node a.plain (l.map PA.er) := Rose.map_node _ a l
def encAH (a : AH) : List Value := [.int .u8 a.kind, .int .u8 a.op, .int .i64 a.at_, .int .i64 a.n, .string a.name, .string a.arg, .string a.exn, .int .i64 a.rho, .slice a.rp a.rn a.rc, .slice a.ep a.en a.ec,
  .int .u8 a.ty.head.kind, .int .i64 a.ty.head.rho, .slice a.ty.head.ep a.ty.head.en a.ty.head.ec, .slice a.ty.head.kp a.ty.head.kn a.ty.head.kc,
  .int .u8 a.res.head.kind, .int .i64 a.res.head.rho, .slice a.res.head.ep a.res.head.en a.res.head.ec, .slice a.res.head.kp a.res.head.kn a.res.head.kc, .slice a.kp a.kn a.kc]
structure AH.Own (w : World) (a : AH) : Prop where
  k0 : 0 ≤ a.kind
  k1 : a.kind ≤ 255
  o0 : 0 ≤ a.op
  o1 : a.op ≤ 255
  at_ : inI a.at_
  n : inI a.n
  name : a.name.size ≤ 9223372036854775807
  arg : a.arg.size ≤ 9223372036854775807
  exn : a.exn.size ≤ 9223372036854775807
  rho : inI a.rho
  rhos : IsRow encN 1 w a.rp a.rn a.rc a.rhos
  rok : ∀ z ∈ a.rhos, inI z
  eff : IsRow encA 3 w a.ep a.en a.ec a.eff
  eok : ∀ x ∈ a.eff, okAt x
  ty : LR.lies w a.ty
  res : LR.lies w a.res
  kmax : a.kn ≤ 9223372036854775807
  kle : a.kn ≤ a.kc
  knil : a.kp = none → a.kc = 0
def LA : Laid AH where
  enc := encAH
  k := 19
  own := AH.Own
  kp := AH.kp
  kn := AH.kn
  len := fun _ => rfl
  below := fun h hb => ⟨h.k0, h.k1, h.o0, h.o1, h.at_, h.n, h.name, h.arg, h.exn, h.rho, h.rhos.below hb, h.rok, h.eff.below hb, h.eok, LR.lies_below hb _ h.ty, LR.lies_below hb _ h.res, h.kmax, h.kle, h.knil⟩
theorem LAlen : ∀ t : PA, (LA.encT t).length = 19 := fun _ => rfl
abbrev aggT (a : AH) : Value := .agg #[.int .u8 a.kind, .int .u8 a.op, .int .i64 a.at_, .int .i64 a.n, .string a.name, .string a.arg, .string a.exn, .int .i64 a.rho, .slice a.rp a.rn a.rc, .slice a.ep a.en a.ec,
  .int .u8 a.ty.head.kind, .int .i64 a.ty.head.rho, .slice a.ty.head.ep a.ty.head.en a.ty.head.ec, .slice a.ty.head.kp a.ty.head.kn a.ty.head.kc,
  .int .u8 a.res.head.kind, .int .i64 a.res.head.rho, .slice a.res.head.ep a.res.head.en a.res.head.ec, .slice a.res.head.kp a.res.head.kn a.res.head.kc, .slice a.kp a.kn a.kc]
abbrev boxA (a : AH) : Obj := .cells #[.int .u8 a.kind, .int .u8 a.op, .int .i64 a.at_, .int .i64 a.n, .string a.name, .string a.arg, .string a.exn, .int .i64 a.rho, .slice a.rp a.rn a.rc, .slice a.ep a.en a.ec,
  .int .u8 a.ty.head.kind, .int .i64 a.ty.head.rho, .slice a.ty.head.ep a.ty.head.en a.ty.head.ec, .slice a.ty.head.kp a.ty.head.kn a.ty.head.kc,
  .int .u8 a.res.head.kind, .int .i64 a.res.head.rho, .slice a.res.head.ep a.res.head.en a.res.head.ec, .slice a.res.head.kp a.res.head.kn a.res.head.kc, .slice a.kp a.kn a.kc] 31
structure CellsA (w : World) (b o : Nat) (a : AH) : Prop where
  c : ∀ i u, (encAH a)[i]? = some u → w.cell? ⟨b, o + i, none⟩ = some u
theorem CellsA.below {w w' : World} {b o : Nat} {a : AH} (h : CellsA w b o a) (hb : Below w.heap.size w w') (hlt : b < w.heap.size) : CellsA w' b o a := ⟨fun i u hu => by rw [hb.cell hlt]; exact h.c i u hu⟩
structure NodeA (w : World) (a : AH) (l : List PA) : Prop where
  own : AH.Own w a
  kids : IsRow LA.encT 19 w a.kp a.kn a.kc l
  each : ∀ t ∈ l, LA.lies w t
theorem nodeA {w : World} {a : AH} {l : List PA} (h : LA.lies w (.node a l)) : NodeA w a l := by
  rw [Laid.lies_node] at h
  exact ⟨h.1, ⟨h.2.1, h.1.kmax, h.1.kle, h.1.knil, h.2.2.1⟩, h.2.2.2⟩
theorem NodeA.lies {w : World} {a : AH} {l : List PA} (h : NodeA w a l) : LA.lies w (.node a l) := by
  rw [Laid.lies_node]
  exact ⟨h.own, h.kids.len, h.kids.row, h.each⟩
theorem NodeA.below {w w' : World} {a : AH} {l : List PA} (h : NodeA w a l) (hb : Below w.heap.size w w') : NodeA w' a l := nodeA (LA.lies_below hb _ h.lies)
theorem NodeA.alloc {w : World} {a : AH} {l : List PA} (h : NodeA w a l) (o : Obj) : NodeA (w.alloc o) a l := h.below ((Below.refl _ _).alloc (Nat.le_refl _) _)
structure RowTA (w : World) (p : Option Addr) (n cap : Nat) (l : List PA) : Prop where
  row : IsRow LA.encT 19 w p n cap l
  each : ∀ t ∈ l, LA.lies w t
theorem NodeA.rowT {w : World} {a : AH} {l : List PA} (h : NodeA w a l) : RowTA w a.kp a.kn a.kc l := ⟨h.kids, h.each⟩
theorem RowTA.below {w w' : World} {p : Option Addr} {n cap : Nat} {l : List PA} (h : RowTA w p n cap l) (hb : Below w.heap.size w w') : RowTA w' p n cap l := ⟨h.row.below hb, fun t ht => LA.lies_below hb t (h.each t ht)⟩
theorem RowTA.kid {w : World} {p : Option Addr} {n cap : Nat} {l : List PA} (h : RowTA w p n cap l) {j : Nat} {t : PA} (hx : l[j]? = some t) :
    ∃ b o, p = some ⟨b, o, none⟩ ∧ b < w.heap.size ∧ CellsA w b (o + j * 19) t.head := by
  obtain ⟨b, o, hp, hb, hc⟩ := h.row.row.elem hx
  exact ⟨b, o, hp, hb, ⟨fun i u hu => hc i u hu⟩⟩
theorem RowTA.at {w : World} {p : Option Addr} {n cap : Nat} {l : List PA} (h : RowTA w p n cap l) {j : Nat} (hj : j < n) : ∃ t, l[j]? = some t := get_of_lt (by rw [h.row.len]; exact hj)
theorem RowTA.lies {w : World} {p : Option Addr} {n cap : Nat} {l : List PA} (h : RowTA w p n cap l) {j : Nat} {t : PA} (hx : l[j]? = some t) : LA.lies w t := h.each t (List.mem_of_getElem? hx)
end
section
open Go.ChangeShapes Go.WideShapes Go.ChangeAt Go.RowKit Go.Deep
section
variable {H : Type} {enc : TypeId × Value → H} {W : World} {base : Nat} {t e : TypeId} {v : Value} {d : DataW H} {ps : List MemPlace}
theorem elem_rt (n : Nat) : Elem enc W 28 n LR.encT (LR.lies W) := by
  induction n using Nat.strongRecOn with
  | _ n ih =>
  intro cs' x h hlen
  have he : Tryz.prog.underlying 28 = some (.struct (Tryz.prog.fieldsOf 28)) := by kernel_rfl
  have ce : Tryz.prog.cellsOf 28 = 4 := by kernel_rfl
  have F0 : ((Tryz.prog.fieldsOf 28)[0]?).map (fun f => (f.type, f.offset)) = some (5, 0) := by kernel_rfl
  have F1 : ((Tryz.prog.fieldsOf 28)[1]?).map (fun f => (f.type, f.offset)) = some (3, 1) := by kernel_rfl
  have F2 : ((Tryz.prog.fieldsOf 28)[2]?).map (fun f => (f.type, f.offset)) = some (25, 2) := by kernel_rfl
  have F3 : ((Tryz.prog.fieldsOf 28)[3]?).map (fun f => (f.type, f.offset)) = some (26, 3) := by kernel_rfl
  have C0 : Tryz.prog.cellsOf 5 = 1 := by kernel_rfl
  have C1 : Tryz.prog.cellsOf 3 = 1 := by kernel_rfl
  have C2 : Tryz.prog.cellsOf 25 = 1 := by kernel_rfl
  have C3 : Tryz.prog.cellsOf 26 = 1 := by kernel_rfl
  have CA : Tryz.prog.cellsOf 59 = 3 := by kernel_rfl
  rw [ce] at hlen
  obtain ⟨xs, k, hk, hxy, _, hxl, hf'⟩ := DataW.trod_struct he h
  obtain ⟨f0, e0, p0⟩ := Option.map_eq_some_iff.1 F0
  obtain ⟨f1, e1, p1⟩ := Option.map_eq_some_iff.1 F1
  obtain ⟨f2, e2, p2⟩ := Option.map_eq_some_iff.1 F2
  obtain ⟨f3, e3, p3⟩ := Option.map_eq_some_iff.1 F3
  simp only [Prod.mk.injEq] at p0 p1 p2 p3
  have g0 := hf' 0 f0 e0
  have g1 := hf' 1 f1 e1
  have g2 := hf' 2 f2 e2
  have g3 := hf' 3 f3 e3
  rw [p0.1, p0.2, C0] at g0
  rw [p1.1, p1.2, C1] at g1
  rw [p2.1, p2.2, C2] at g2
  rw [p3.1, p3.2, C3] at g3
  have b3 := (Array.getElem?_eq_some_iff.1 e3).1
  match cs', hlen with
  | [v0, v1, v2, v3], _ =>
    rw [List.getElem?_eq_getElem (show 0 < xs.length by omega)] at g0
    rw [List.getElem?_eq_getElem (show 1 < xs.length by omega)] at g1
    rw [List.getElem?_eq_getElem (show 2 < xs.length by omega)] at g2
    rw [List.getElem?_eq_getElem (show 3 < xs.length by omega)] at g3
    obtain ⟨z0, q0, _, b0'⟩ := DataW.trod_int Tryz.underlying5 g0
    obtain ⟨z1, q1, _, b1'⟩ := DataW.trod_int Tryz.underlying3 g1
    obtain ⟨ep, en, ec, eff, q2, re, oke⟩ := open_row_at encA okAt Tryz.underlying25 CA (by omega) encA_len g2 (fun n _ => elem_atom n)
    obtain ⟨kp, kn, kc, l, q3, rk, okk⟩ := open_row_at LR.encT (LR.lies W) Tryz.underlying26 ce (by omega) LRlen g3 (fun m hm => ih m (by omega))
    simp at q0 q1 q2 q3
    have h0 : 0 ≤ z0 ∧ z0 ≤ 255 := by simpa [Lit.wf, IntKind.min, IntKind.max, IntKind.signed, IntKind.bits] using b0'
    have h1 : -9223372036854775808 ≤ z1 ∧ z1 ≤ 9223372036854775807 := by simpa [Lit.wf, IntKind.min, IntKind.max, IntKind.signed, IntKind.bits] using b1'
    refine ⟨.node ⟨z0, z1, ep, en, ec, eff, kp, kn, kc⟩ l, by rw [q0, q1, q2, q3]; rfl, NodeIn.lies ⟨⟨re, oke, h0.1, h0.2, h1.1, h1.2, rk.max, rk.le, rk.nil⟩, rk, okk⟩⟩
end
end
section
open Go.ChangeShapes Go.WideShapes Go.ChangeAt Go.RowKit Go.Deep
section
variable {H : Type} {enc : TypeId × Value → H} {W : World} {base : Nat} {t e : TypeId} {v : Value} {d : DataW H} {ps : List MemPlace}
structure HeadV where
  kind : Int
  op : Int
  at_ : Int
  n : Int
  name : ByteArray
  arg : ByteArray
  exn : ByteArray
def encHd (h : HeadV) : List Value := [.int .u8 h.kind, .int .u8 h.op, .int .i64 h.at_, .int .i64 h.n, .string h.name, .string h.arg, .string h.exn]
structure HeadV.Ok (h : HeadV) : Prop where
  k0 : 0 ≤ h.kind
  k1 : h.kind ≤ 255
  o0 : 0 ≤ h.op
  o1 : h.op ≤ 255
  at_ : inI h.at_
  n : inI h.n
  name : h.name.size ≤ 9223372036854775807
  arg : h.arg.size ≤ 9223372036854775807
  exn : h.exn.size ≤ 9223372036854775807
theorem elem_head (n : Nat) : Elem enc W 23 n encHd HeadV.Ok := by
  intro cs' x h hlen
  have he : Tryz.prog.underlying 23 = some (.struct (Tryz.prog.fieldsOf 23)) := by kernel_rfl
  have ce : Tryz.prog.cellsOf 23 = 7 := by kernel_rfl
  have F0 : ((Tryz.prog.fieldsOf 23)[0]?).map (fun f => (f.type, f.offset)) = some (5, 0) := by kernel_rfl
  have F1 : ((Tryz.prog.fieldsOf 23)[1]?).map (fun f => (f.type, f.offset)) = some (5, 1) := by kernel_rfl
  have F2 : ((Tryz.prog.fieldsOf 23)[2]?).map (fun f => (f.type, f.offset)) = some (3, 2) := by kernel_rfl
  have F3 : ((Tryz.prog.fieldsOf 23)[3]?).map (fun f => (f.type, f.offset)) = some (2, 3) := by kernel_rfl
  have F4 : ((Tryz.prog.fieldsOf 23)[4]?).map (fun f => (f.type, f.offset)) = some (9, 4) := by kernel_rfl
  have F5 : ((Tryz.prog.fieldsOf 23)[5]?).map (fun f => (f.type, f.offset)) = some (9, 5) := by kernel_rfl
  have F6 : ((Tryz.prog.fieldsOf 23)[6]?).map (fun f => (f.type, f.offset)) = some (9, 6) := by kernel_rfl
  have C_uint8 : Tryz.prog.cellsOf 5 = 1 := by kernel_rfl
  have C_int : Tryz.prog.cellsOf 3 = 1 := by kernel_rfl
  have C_int64 : Tryz.prog.cellsOf 2 = 1 := by kernel_rfl
  have C_string : Tryz.prog.cellsOf 9 = 1 := by kernel_rfl
  rw [ce] at hlen
  obtain ⟨xs, k, hk, hxy, _, hxl, hf'⟩ := DataW.trod_struct he h
  obtain ⟨f0, e0, p0⟩ := Option.map_eq_some_iff.1 F0
  obtain ⟨f1, e1, p1⟩ := Option.map_eq_some_iff.1 F1
  obtain ⟨f2, e2, p2⟩ := Option.map_eq_some_iff.1 F2
  obtain ⟨f3, e3, p3⟩ := Option.map_eq_some_iff.1 F3
  obtain ⟨f4, e4, p4⟩ := Option.map_eq_some_iff.1 F4
  obtain ⟨f5, e5, p5⟩ := Option.map_eq_some_iff.1 F5
  obtain ⟨f6, e6, p6⟩ := Option.map_eq_some_iff.1 F6
  simp only [Prod.mk.injEq] at p0 p1 p2 p3 p4 p5 p6
  have g0 := hf' 0 f0 e0
  have g1 := hf' 1 f1 e1
  have g2 := hf' 2 f2 e2
  have g3 := hf' 3 f3 e3
  have g4 := hf' 4 f4 e4
  have g5 := hf' 5 f5 e5
  have g6 := hf' 6 f6 e6
  rw [p0.1, p0.2, C_uint8] at g0
  rw [p1.1, p1.2, C_uint8] at g1
  rw [p2.1, p2.2, C_int] at g2
  rw [p3.1, p3.2, C_int64] at g3
  rw [p4.1, p4.2, C_string] at g4
  rw [p5.1, p5.2, C_string] at g5
  rw [p6.1, p6.2, C_string] at g6
  have bl := (Array.getElem?_eq_some_iff.1 e6).1
  match cs', hlen with
  | [v0, v1, v2, v3, v4, v5, v6], _ =>
    rw [List.getElem?_eq_getElem (show 0 < xs.length by omega)] at g0
    rw [List.getElem?_eq_getElem (show 1 < xs.length by omega)] at g1
    rw [List.getElem?_eq_getElem (show 2 < xs.length by omega)] at g2
    rw [List.getElem?_eq_getElem (show 3 < xs.length by omega)] at g3
    rw [List.getElem?_eq_getElem (show 4 < xs.length by omega)] at g4
    rw [List.getElem?_eq_getElem (show 5 < xs.length by omega)] at g5
    rw [List.getElem?_eq_getElem (show 6 < xs.length by omega)] at g6
    obtain ⟨z0, q0, _, b0⟩ := DataW.trod_int Tryz.underlying5 g0
    obtain ⟨z1, q1, _, b1⟩ := DataW.trod_int Tryz.underlying5 g1
    obtain ⟨z2, q2, _, b2⟩ := DataW.trod_int Tryz.underlying3 g2
    obtain ⟨z3, q3, _, b3⟩ := DataW.trod_int Tryz.underlying2 g3
    obtain ⟨z4, q4, _, b4⟩ := DataW.trod_string Tryz.underlying9 g4
    obtain ⟨z5, q5, _, b5⟩ := DataW.trod_string Tryz.underlying9 g5
    obtain ⟨z6, q6, _, b6⟩ := DataW.trod_string Tryz.underlying9 g6
    simp at q0 q1 q2 q3 q4 q5 q6
    have h0 : 0 ≤ z0 ∧ z0 ≤ 255 := by simpa [Lit.wf, IntKind.min, IntKind.max, IntKind.signed, IntKind.bits] using b0
    have h1 : 0 ≤ z1 ∧ z1 ≤ 255 := by simpa [Lit.wf, IntKind.min, IntKind.max, IntKind.signed, IntKind.bits] using b1
    have h2 : -9223372036854775808 ≤ z2 ∧ z2 ≤ 9223372036854775807 := by simpa [Lit.wf, IntKind.min, IntKind.max, IntKind.signed, IntKind.bits] using b2
    have h3 : -9223372036854775808 ≤ z3 ∧ z3 ≤ 9223372036854775807 := by simpa [Lit.wf, IntKind.min, IntKind.max, IntKind.signed, IntKind.bits] using b3
    unfold maxLen at b4 b5 b6
    exact ⟨⟨z0, z1, z2, z3, z4, z5, z6⟩, by rw [q0, q1, q2, q3, q4, q5, q6]; rfl, h0.1, h0.2, h1.1, h1.2, h2, h3, by show z4.size ≤ _; omega, by show z5.size ≤ _; omega, by show z6.size ≤ _; omega⟩
theorem elem_at (n : Nat) : Elem enc W 31 n LA.encT (LA.lies W) := by
  induction n using Nat.strongRecOn with
  | _ n ih =>
  intro cs' x h hlen
  have he : Tryz.prog.underlying 31 = some (.struct (Tryz.prog.fieldsOf 31)) := by kernel_rfl
  have ce : Tryz.prog.cellsOf 31 = 19 := by kernel_rfl
  have CAt : Tryz.prog.cellsOf 59 = 3 := by kernel_rfl
  have CI : Tryz.prog.cellsOf 3 = 1 := by kernel_rfl
  have F0 : ((Tryz.prog.fieldsOf 31)[0]?).map (fun f => (f.type, f.offset)) = some (23, 0) := by kernel_rfl
  have F1 : ((Tryz.prog.fieldsOf 31)[1]?).map (fun f => (f.type, f.offset)) = some (3, 7) := by kernel_rfl
  have F2 : ((Tryz.prog.fieldsOf 31)[2]?).map (fun f => (f.type, f.offset)) = some (24, 8) := by kernel_rfl
  have F3 : ((Tryz.prog.fieldsOf 31)[3]?).map (fun f => (f.type, f.offset)) = some (25, 9) := by kernel_rfl
  have F4 : ((Tryz.prog.fieldsOf 31)[4]?).map (fun f => (f.type, f.offset)) = some (28, 10) := by kernel_rfl
  have F5 : ((Tryz.prog.fieldsOf 31)[5]?).map (fun f => (f.type, f.offset)) = some (28, 14) := by kernel_rfl
  have F6 : ((Tryz.prog.fieldsOf 31)[6]?).map (fun f => (f.type, f.offset)) = some (29, 18) := by kernel_rfl
  have C_apiHead : Tryz.prog.cellsOf 23 = 7 := by kernel_rfl
  have C_int : Tryz.prog.cellsOf 3 = 1 := by kernel_rfl
  have C_sint : Tryz.prog.cellsOf 24 = 1 := by kernel_rfl
  have C_sapiAtom : Tryz.prog.cellsOf 25 = 1 := by kernel_rfl
  have C_apiRType : Tryz.prog.cellsOf 28 = 4 := by kernel_rfl
  have C_sapiATerm : Tryz.prog.cellsOf 29 = 1 := by kernel_rfl
  rw [ce] at hlen
  obtain ⟨xs, k, hk, hxy, _, hxl, hf'⟩ := DataW.trod_struct he h
  obtain ⟨f0, e0, p0⟩ := Option.map_eq_some_iff.1 F0
  obtain ⟨f1, e1, p1⟩ := Option.map_eq_some_iff.1 F1
  obtain ⟨f2, e2, p2⟩ := Option.map_eq_some_iff.1 F2
  obtain ⟨f3, e3, p3⟩ := Option.map_eq_some_iff.1 F3
  obtain ⟨f4, e4, p4⟩ := Option.map_eq_some_iff.1 F4
  obtain ⟨f5, e5, p5⟩ := Option.map_eq_some_iff.1 F5
  obtain ⟨f6, e6, p6⟩ := Option.map_eq_some_iff.1 F6
  simp only [Prod.mk.injEq] at p0 p1 p2 p3 p4 p5 p6
  have g0 := hf' 0 f0 e0
  have g1 := hf' 1 f1 e1
  have g2 := hf' 2 f2 e2
  have g3 := hf' 3 f3 e3
  have g4 := hf' 4 f4 e4
  have g5 := hf' 5 f5 e5
  have g6 := hf' 6 f6 e6
  rw [p0.1, p0.2, C_apiHead] at g0
  rw [p1.1, p1.2, C_int] at g1
  rw [p2.1, p2.2, C_sint] at g2
  rw [p3.1, p3.2, C_sapiAtom] at g3
  rw [p4.1, p4.2, C_apiRType] at g4
  rw [p5.1, p5.2, C_apiRType] at g5
  rw [p6.1, p6.2, C_sapiATerm] at g6
  have bl := (Array.getElem?_eq_some_iff.1 e6).1
  match cs', hlen with
  | [v0, v1, v2, v3, v4, v5, v6, v7, v8, v9, v10, v11, v12, v13, v14, v15, v16, v17, v18], _ =>
    rw [List.getElem?_eq_getElem (show 0 < xs.length by omega)] at g0
    rw [List.getElem?_eq_getElem (show 1 < xs.length by omega)] at g1
    rw [List.getElem?_eq_getElem (show 2 < xs.length by omega)] at g2
    rw [List.getElem?_eq_getElem (show 3 < xs.length by omega)] at g3
    rw [List.getElem?_eq_getElem (show 4 < xs.length by omega)] at g4
    rw [List.getElem?_eq_getElem (show 5 < xs.length by omega)] at g5
    rw [List.getElem?_eq_getElem (show 6 < xs.length by omega)] at g6
    obtain ⟨hd, q0, hh⟩ := elem_head _ _ _ g0 (by simp [C_apiHead])
    obtain ⟨z1, q1, _, b1⟩ := DataW.trod_int Tryz.underlying3 g1
    obtain ⟨rp, rn, rc, rhos, q2, rr, rok⟩ := open_row_at encN inI Tryz.underlying24 CI (by omega) encN_len g2 (fun n _ => elem_num n)
    obtain ⟨ep, en, ec, eff, q3, re, eok⟩ := open_row_at encA okAt Tryz.underlying25 CAt (by omega) encA_len g3 (fun n _ => elem_atom n)
    obtain ⟨ty, q4, hty⟩ := elem_rt _ _ _ g4 (by simp [C_apiRType])
    obtain ⟨res, q5, hres⟩ := elem_rt _ _ _ g5 (by simp [C_apiRType])
    obtain ⟨kp, kn, kc, l, q6, rk, okk⟩ := open_row_at LA.encT (LA.lies W) Tryz.underlying29 ce (by omega) LAlen g6 (fun m hm => ih m (by omega))
    simp [encHd, encT_LR, encRH] at q0 q1 q2 q3 q4 q5 q6
    have h1 : -9223372036854775808 ≤ z1 ∧ z1 ≤ 9223372036854775807 := by simpa [Lit.wf, IntKind.min, IntKind.max, IntKind.signed, IntKind.bits] using b1
    obtain ⟨rfl, rfl, rfl, rfl, rfl, rfl, rfl⟩ := q0
    obtain ⟨rfl, rfl, rfl, rfl⟩ := q4
    obtain ⟨rfl, rfl, rfl, rfl⟩ := q5
    subst q1 q2 q3 q6
    exact ⟨.node ⟨hd.kind, hd.op, hd.at_, hd.n, hd.name, hd.arg, hd.exn, z1, rp, rn, rc, rhos, ep, en, ec, eff, ty, res, kp, kn, kc⟩ l, rfl,
      NodeA.lies ⟨⟨hh.k0, hh.k1, hh.o0, hh.o1, hh.at_, hh.n, hh.name, hh.arg, hh.exn, h1, rr, rok, re, eok, hty, hres, rk.max, rk.le, rk.nil⟩, rk, okk⟩⟩
theorem open_at (hv : Value.okWide Tryz.prog W .any base 31 v) (h : DataW.Trod enc Tryz.prog W 0 (fun _ => true) true 31 v d ps) : ∃ x : PA, v = aggT x.head ∧ LA.lies W x := by
  have he : Tryz.prog.underlying 31 = some (.struct (Tryz.prog.fieldsOf 31)) := by kernel_rfl
  have ce : Tryz.prog.cellsOf 31 = 19 := by kernel_rfl
  simp only [Value.okWide, he] at hv
  obtain ⟨cs, rfl, hs, _⟩ := hv
  obtain ⟨fuel, hf⟩ := h
  obtain ⟨y, hy, hl⟩ := elem_at fuel cs.toList _ hf (by simpa using hs)
  refine ⟨y, ?_, hl⟩
  obtain ⟨a⟩ := cs
  have e : LA.encT y = encAH y.head := rfl
  simp only [e, encAH] at hy
  rw [hy]
end
end
section
open Go.RowKit
theorem all1_of (fid : FuncId) (q : ByteArray → Bool) (I : World → Prop) (hI : ∀ w w', I w → Below w.heap.size w w' → I w') (hent : ∀ args w, (callFunc fid args).run Tryz.prog w = .ok (.enter fid args) w) (hq : ∀ s w, I w → Calls Tryz.prog fid #[.string s] w fun e w' => e = .returned (.bool (q s)) ∧ Below w.heap.size w w') (s : ByteArray) (a : Addr) (w : World) (hw : I w) (hbox : w.cell? a = some (.func (.func fid) #[] #[])) :
    Calls Tryz.prog 247 #[.string s, .pointer (some a)] w fun e w' => e = .returned (.bool (!q s)) ∧ Below w.heap.size w w' := by
  have HQ := hid hq
  have HW := hid hw
  clear hq hw hI
  go_enter Tryz.func247, Tryz.ntmps247
  go_wp2_with fail
  refine (HQ.out s w HW.out).mono ?_
  rintro e w1 ⟨rfl, hb⟩
  have HB := hid hb
  clear hb
  go_wp2_with fail
  go_ret
  exact ⟨rfl, HB.out⟩
theorem str_indexFunc_of (fid : FuncId) (q : ByteArray → Bool) (I : World → Prop) (hI : ∀ w w', I w → Below w.heap.size w w' → I w') (hent : ∀ args w, (callFunc fid args).run Tryz.prog w = .ok (.enter fid args) w) (hq : ∀ s w, I w → Calls Tryz.prog fid #[.string s] w fun e w' => e = .returned (.bool (q s)) ∧ Below w.heap.size w w') (a : Addr) (p : Option Addr) (n cap : Nat) (l : List ByteArray) (w : World) (hw : I w) (hn : l.length = n) (hm : n ≤ 9223372036854775807) (hr : RowE encS 1 w p l)
    (hbox : w.cell? a = some (.func (.func fid) #[] #[])) :
    Calls Tryz.prog 262 #[.slice p n cap, .func (.func 247) #[] #[.pointer (some a)]] w fun e w' =>
      (∃ r : Int, e = .returned (.int .i64 r) ∧ (l.any (fun s => !q s) = decide (0 ≤ r))) ∧ Below w.heap.size w w' := by
  have HR := hid hr
  have HN := hid hn
  have HX := hid hbox
  have HA := hid (fun x W hw h => all1_of fid q I hI hent hq x a W hw h)
  have HII := hid hI
  have HW := hid hw
  clear hr hn hbox hq hent hI hw
  go_enter Tryz.func262, Tryz.ntmps262
  go_wp2_with fail
  go_loopw [5, 8] (fun _ i wr => ∃ k : Nat, k ≤ n ∧ i = .int .i64 k ∧ (l.take k).any (fun s => !q s) = false ∧ Below w.heap.size w wr) (fun _ i _ => n - (intOf i).toNat)
  case atStart => exact ⟨0, by omega, rfl, by simp, Below.refl _ _⟩
  case round =>
    obtain ⟨k, hk, rfl, hno, hb⟩ := hrel
    have HNO := hid hno
    have HB := hid hb
    clear hno hb
    by_cases hlt : k < n
    · obtain ⟨x, hx⟩ := get_of_lt (l := l) (j := k) (by rw [HN.out]; exact hlt)
      obtain ⟨b, o, rfl, hcell⟩ := (HR.out.below HB.out).str hx
      have HE := hid hx
      have hbx : wr.cell? a = some (.func (.func fid) #[] #[]) := by rw [HB.out.cell (cell_block HX.out)]; exact HX.out
      clear hx
      by_cases hq : q x = true
      · go_wp2_with fail
        refine (HA.out x wr (HII.out _ _ HW.out HB.out) hbx).mono ?_
        rintro e w1 ⟨rfl, hb⟩
        have HB1 := hid (HB.out.trans (hb.mono HB.out.size))
        clear hb hbx hcell
        go_wp2_with fail
        go_roundw
        case rel => exact ⟨k + 1, by omega, by go_num, by rw [any_take_get HE.out, HNO.out, hq]; rfl, HB1.out⟩
        case measure => simp [intOf]; omega
      · have hq' : q x = false := by simpa using hq
        clear hq
        go_wp2_with fail
        refine (HA.out x wr (HII.out _ _ HW.out HB.out) hbx).mono ?_
        rintro e w1 ⟨rfl, hb⟩
        have HB1 := hid (HB.out.trans (hb.mono HB.out.size))
        clear hb hbx hcell
        go_wp2_with fail
        go_ret
        exact ⟨⟨k, rfl, by rw [any_get HE.out (by rw [hq']; rfl)]; simp⟩, HB1.out⟩
    · go_wp2_with fail
      go_ret
      have h := HNO.out
      rw [take_full (by rw [HN.out]; omega)] at h
      exact ⟨⟨-1, rfl, by rw [h]; simp⟩, HB.out⟩
theorem str_containsFunc_of (fid : FuncId) (q : ByteArray → Bool) (I : World → Prop) (hI : ∀ w w', I w → Below w.heap.size w w' → I w') (hent : ∀ args w, (callFunc fid args).run Tryz.prog w = .ok (.enter fid args) w) (hq : ∀ s w, I w → Calls Tryz.prog fid #[.string s] w fun e w' => e = .returned (.bool (q s)) ∧ Below w.heap.size w w') (a : Addr) (p : Option Addr) (n cap : Nat) (l : List ByteArray) (w : World) (hw : I w) (hn : l.length = n) (hm : n ≤ 9223372036854775807) (hr : RowE encS 1 w p l)
    (hbox : w.cell? a = some (.func (.func fid) #[] #[])) :
    Calls Tryz.prog 246 #[.slice p n cap, .func (.func 247) #[] #[.pointer (some a)]] w fun e w' =>
      e = .returned (.bool (l.any (fun s => !q s))) ∧ Below w.heap.size w w' := by
  have hc := str_indexFunc_of fid q I hI hent hq a p n cap l w hw hn hm hr hbox
  generalize l.any (fun s => !q s) = r0 at hc ⊢
  clear hr hn hbox hq hent hI hw
  go_enter Tryz.func246, Tryz.ntmps246
  go_wp2_with fail
  refine hc.mono ?_
  rintro e w1 ⟨⟨r, rfl, hr⟩, hb⟩
  have HR := hid hr
  have HB := hid hb
  clear hr hb hc
  go_wp2_with fail
  go_ret
  exact ⟨ret_bool HR.out.symm, HB.out⟩
theorem words_all_of (fid : FuncId) (q : ByteArray → Bool) (I : World → Prop) (hI : ∀ w w', I w → Below w.heap.size w w' → I w') (hent : ∀ args w, (callFunc fid args).run Tryz.prog w = .ok (.enter fid args) w) (hq : ∀ s w, I w → Calls Tryz.prog fid #[.string s] w fun e w' => e = .returned (.bool (q s)) ∧ Below w.heap.size w w') (p : Option Addr) (n cap : Nat) (l : List ByteArray) (w : World) (hw : I w) (hn : l.length = n) (hm : n ≤ 9223372036854775807) (hr : RowE encS 1 w p l) :
    Calls Tryz.prog 210 #[.func (.func fid) #[] #[], .slice p n cap] w fun e w' => e = .returned (.bool (l.all q)) ∧ Below w.heap.size w w' := by
  have hc := fun o => str_containsFunc_of fid q I hI hent hq ⟨w.heap.size, 0, none⟩ p n cap l (w.alloc o) (hI _ _ hw ((Below.refl _ _).alloc (Nat.le_refl _) _)) hn hm (hr.alloc o)
  have he : Hid (l.all q = !l.any (fun s => !q s)) := by show l.all q = !l.any (fun s => !q s); rw [List.all_eq_not_any_not]
  have HC := hid hc
  clear hr hn hc hq hent hI hw
  go_enter Tryz.func210, Tryz.ntmps210
  go_wp2_with fail
  refine (HC.out _ (by rw [cell_new]; rfl)).mono ?_
  rintro e w1 ⟨rfl, hb⟩
  have HB : Hid (Below w.heap.size w w1) := ((Below.refl _ w).alloc (Nat.le_refl _) _).trans (hb.mono (by simp))
  clear hb
  generalize l.any (fun s => !q s) = r0 at *
  go_wp2_with fail
  go_ret
  exact ⟨ret_bool he.out.symm, HB.out⟩
def Vr (w : World) : Prop := ∃ m : Int, w.cell? ⟨0, 0, none⟩ = some (.int .i64 m)
theorem Vr.below {w w' : World} (h : Vr w) (hb : Below w.heap.size w w') : Vr w' := by
  obtain ⟨m, h⟩ := h
  exact ⟨m, by rw [hb.cell (cell_block h)]; exact h⟩
def kwL : List ByteArray := [⟨#[108, 101, 116]⟩, ⟨#[108, 101, 116, 114, 101, 99]⟩, ⟨#[105, 110]⟩, ⟨#[102, 110]⟩, ⟨#[105, 102]⟩, ⟨#[116, 104, 101, 110]⟩, ⟨#[101, 108, 115, 101]⟩, ⟨#[114, 97, 105, 115, 101]⟩, ⟨#[116, 114, 121]⟩, ⟨#[119, 105, 116, 104]⟩, ⟨#[114, 101, 102]⟩, ⟨#[102, 115, 116]⟩, ⟨#[115, 110, 100]⟩, ⟨#[101, 120, 110]⟩]
def kwB (s : ByteArray) : Bool := kwL.any (fun k => decide (k = s))
def nameB (s : ByteArray) : Bool := shapedB s 3 && !kwB s
abbrev kwText : ByteArray := ⟨#[32, 108, 101, 116, 32, 108, 101, 116, 114, 101, 99, 32, 105, 110, 32, 102, 110, 32, 105, 102, 32, 116, 104, 101, 110, 32, 101, 108, 115, 101, 32, 114, 97, 105, 115, 101, 32, 116, 114, 121, 32, 119, 105, 116, 104, 32, 114, 101, 102, 32, 102, 115, 116, 32, 115, 110, 100, 32, 101, 120, 110]⟩
theorem kw_count : Lib.countB kwText ⟨#[32]⟩ = 14 := by decide +kernel
theorem kw_split : Lib.splitB ⟨#[32]⟩ 0 14 kwText = (⟨#[]⟩ : ByteArray) :: kwL := by decide +kernel
set_option maxHeartbeats 1000000 in
theorem keywords_any {w : World} (hv : Vr w) : Calls Tryz.prog 258 #[] w fun e w' => e = .returned (.slice (some ⟨w.heap.size, 0, none⟩) 15 15) ∧ RowE encS 1 w' (some ⟨w.heap.size, 0, none⟩) ((⟨#[]⟩ : ByteArray) :: kwL) ∧ Below w.heap.size w w' := by
  obtain ⟨m, hm⟩ := hv
  have hc := Tryz.strings_Split kwText ⟨#[32]⟩ m w (by decide +kernel) hm (by decide +kernel)
  rw [kw_count, kw_split] at hc
  have HC := hid hc
  clear hc hm
  go_enter Tryz.func258, Tryz.ntmps258
  go_wp2_with fail
  refine HC.out.mono ?_
  rintro e w1 ⟨rfl, rfl⟩
  go_wp2_with fail
  go_ret
  refine ⟨rfl, ?_, (Below.refl _ _).alloc (Nat.le_refl _) _⟩
  exact RowE.newAt encS_len w _ _ rfl _ _ _ rfl
theorem idxS_from (x : ByteArray) : ∀ (l : List ByteArray) (i : Nat), (l.any (fun y => decide (y = x)) = false ∧ Lib.idxFromS l x i = -1) ∨ ∃ k : Nat, k < l.length ∧ l.any (fun y => decide (y = x)) = true ∧ Lib.idxFromS l x i = ((i + k : Nat) : Int)
  | [], i => .inl ⟨rfl, rfl⟩
  | y :: l, i => by
    unfold Lib.idxFromS
    by_cases h : y = x
    · subst h
      exact .inr ⟨0, by simp, by simp, by simp⟩
    · rw [if_neg h]
      rcases idxS_from x l (i + 1) with ⟨h1, h2⟩ | ⟨k, hk, h1, h2⟩
      · exact .inl ⟨by rw [List.any_cons, h1]; simp [h], h2⟩
      · exact .inr ⟨k + 1, by simpa using hk, by rw [List.any_cons, h1]; simp, by rw [h2]; congr 1; omega⟩
theorem kw_idx {s : ByteArray} (h : s.size ≠ 0) : ∃ r : Int, Lib.idxOfS ((⟨#[]⟩ : ByteArray) :: kwL) s = r ∧ (kwB s = false ∧ r = -1 ∨ kwB s = true ∧ 1 ≤ r ∧ r ≤ 14) := by
  have h0 : ¬ ((⟨#[]⟩ : ByteArray) = s) := by rintro rfl; exact h rfl
  refine ⟨_, rfl, ?_⟩
  have e : Lib.idxOfS ((⟨#[]⟩ : ByteArray) :: kwL) s = Lib.idxFromS kwL s 1 := by
    show (if (⟨#[]⟩ : ByteArray) = s then (0 : Int) else Lib.idxFromS kwL s 1) = _
    rw [if_neg h0]
  rw [e]
  rcases idxS_from s kwL 1 with ⟨h1, h2⟩ | ⟨k, hk, h1, h2⟩
  · exact .inl ⟨h1, h2⟩
  · have : kwL.length = 14 := rfl
    exact .inr ⟨h1, by rw [h2]; omega, by rw [h2]; omega⟩
set_option maxHeartbeats 1000000 in
theorem words_Keyword_any {w : World} (hv : Vr w) (s : ByteArray) : Calls Tryz.prog 236 #[.string s] w fun e w' => (∃ r : Int, e = .returned (.int .i64 r) ∧ (s.size ≠ 0 → decide (r = 0) = !kwB s)) ∧ Below w.heap.size w w' := by
  have HV := hid hv
  clear hv
  by_cases h0 : s.size = 0
  · have hs : s = ⟨#[]⟩ := by apply ByteArray.ext; exact Array.eq_empty_of_size_eq_zero h0
    subst hs
    clear h0
    go_enter Tryz.func236, Tryz.ntmps236
    go_wp2_with fail
    go_ret
    exact ⟨⟨0, rfl, fun h => absurd rfl h⟩, Below.refl _ _⟩
  · have hne : ¬ s = ⟨#[]⟩ := by rintro rfl; exact h0 rfl
    have hb : s.toList.isEmpty = false := by
      rw [Lib.toList_data]
      cases h : s.data.toList with
      | nil => exact absurd (by show s.data.size = 0; rw [← Array.length_toList, h]; rfl) h0
      | cons x l => rfl
    clear hne
    obtain ⟨r, hr, hrr⟩ := kw_idx h0
    have HR := hid hr
    have HRR := hid hrr
    clear hr hrr h0
    go_enter Tryz.func236, Tryz.ntmps236
    go_wp2_with fail
    refine (keywords_any HV.out).mono ?_
    rintro e w1 ⟨rfl, hrow, hb⟩
    have HROW := hid hrow
    have HB := hid hb
    clear hrow hb
    go_wp2_with fail
    have hc := Tryz.slices_Index_string w.heap.size 0 15 15 ((⟨#[]⟩ : ByteArray) :: kwL) s w1 (by decide) (by decide) (fun j hj => by
      rcases HROW.out with h | ⟨b, o, he, _, hcell⟩
      · cases h
      · cases he
        have := hcell j _ (List.getElem?_eq_getElem hj) 0 _ rfl
        rw [List.getD_eq_getElem?_getD, List.getElem?_eq_getElem hj]
        simpa using this)
    rw [List.take_of_length_le (by decide), HR.out] at hc
    refine hc.mono ?_
    rintro e w2 ⟨rfl, rfl⟩
    clear hc
    rcases HRR.out with ⟨h1, h2⟩ | ⟨h1, h2, h3⟩
    · subst h2
      go_wp2_with fail
      go_ret
      exact ⟨⟨0, rfl, fun _ => by rw [h1]; rfl⟩, HB.out⟩
    · have hp : (0 : Int) < r := by omega
      go_wp2_with fail
      go_ret
      refine ⟨⟨max 0 r, rfl, fun _ => ?_⟩, HB.out⟩
      rw [h1]
      have : ¬ (max 0 r = 0) := by omega
      simp [this]
set_option maxHeartbeats 1000000 in
theorem name1_any {w : World} (hv : Vr w) (s : ByteArray) : Calls Tryz.prog 235 #[.string s] w fun e w' => e = .returned (.bool (nameB s)) ∧ Below w.heap.size w w' := by
  have HV := hid hv
  clear hv
  cases h : shapedB s 3
  · have H := hid h
    clear h
    have HN : Hid (nameB s = false) := by show _ = _; unfold nameB; rw [H.out]; rfl
    go_enter Tryz.func235, Tryz.ntmps235
    go_wp2_with fail
    refine (shaped_any s 3 _).mono ?_
    rintro e w1 ⟨rfl, hb⟩
    rw [H.out]
    have HB := hid hb
    clear hb
    go_wp2_with fail
    go_ret
    exact ⟨ret_bool HN.out.symm, HB.out⟩
  · have H := hid h
    have h0 : s.size ≠ 0 := by
      intro h0
      unfold shapedB at h
      rw [h0] at h
      simp at h
    have H0 := hid h0
    clear h h0
    go_enter Tryz.func235, Tryz.ntmps235
    go_wp2_with fail
    refine (shaped_any s 3 _).mono ?_
    rintro e w1 ⟨rfl, hb⟩
    rw [H.out]
    have HB := hid hb
    clear hb
    go_wp2_with fail
    refine (words_Keyword_any (HV.out.below HB.out) s).mono ?_
    rintro e w2 ⟨⟨r, rfl, hr⟩, hb⟩
    have HB2 := hid (HB.out.trans (hb.mono HB.out.size))
    have HR := hid (hr H0.out)
    clear hb hr
    go_wp2_with fail
    go_ret
    refine ⟨ret_bool ?_, HB2.out⟩
    unfold nameB
    rw [H.out, ← HR.out]
    show (r == 0) = _
    by_cases hr0 : r = 0 <;> simp [hr0]
theorem words_Name_any {w : World} (hv : Vr w) (p : Option Addr) (n cap : Nat) (l : List ByteArray) (hn : l.length = n) (hm : n ≤ 9223372036854775807) (hr : RowE encS 1 w p l) :
    Calls Tryz.prog 207 #[.slice p n cap] w fun e w' => e = .returned (.bool (l.all nameB)) ∧ Below w.heap.size w w' := by
  have hc := words_all_of 235 nameB Vr (fun _ _ h hb => h.below hb) (fun args w => by kernel_rfl) (fun s w h => name1_any h s) p n cap l w hv hn hm hr
  generalize l.all nameB = r0 at *
  have HC := hid hc
  clear hr hn hc hv
  go_enter Tryz.func207, Tryz.ntmps207
  go_wp2_with fail
  refine HC.out.mono ?_
  rintro e w1 ⟨rfl, hb⟩
  have HB := hid hb
  clear hb
  go_wp2_with fail
  go_ret
  exact ⟨rfl, HB.out⟩
end
section
open Go.RowKit
def kidsI (k : Int) : Int :=
  if k = 1 ∨ k = 2 then 0 else if k = 4 ∨ k = 5 ∨ k = 6 ∨ k = 7 ∨ k = 11 ∨ k = 15 then 1
  else if k = 3 ∨ k = 8 ∨ k = 9 ∨ k = 10 ∨ k = 12 ∨ k = 13 ∨ k = 16 then 2 else if k = 14 then 3 else -1
def fitsB (there : Bool) (s : ByteArray) (ok : Bool) : Bool := there && ok || !there && decide (s.size = 0)
abbrev aggTm (h : HeadV) (p : Option Addr) (n c : Nat) : Value := .agg #[.int .u8 h.kind, .int .u8 h.op, .int .i64 h.at_, .int .i64 h.n, .string h.name, .string h.arg, .string h.exn, .slice p n c]
abbrev boxTm (h : HeadV) (p : Option Addr) (n c : Nat) : Obj := .cells #[.int .u8 h.kind, .int .u8 h.op, .int .i64 h.at_, .int .i64 h.n, .string h.name, .string h.arg, .string h.exn, .slice p n c] 53
def CellsTm (W : World) (b : Nat) (h : HeadV) (p : Option Addr) (n c : Nat) : Prop :=
  W.cell? ⟨b, 0, none⟩ = some (.int .u8 h.kind) ∧ W.cell? ⟨b, 1, none⟩ = some (.int .u8 h.op) ∧ W.cell? ⟨b, 2, none⟩ = some (.int .i64 h.at_) ∧ W.cell? ⟨b, 3, none⟩ = some (.int .i64 h.n) ∧
    W.cell? ⟨b, 4, none⟩ = some (.string h.name) ∧ W.cell? ⟨b, 5, none⟩ = some (.string h.arg) ∧ W.cell? ⟨b, 6, none⟩ = some (.string h.exn) ∧ W.cell? ⟨b, 7, none⟩ = some (.slice p n c)
theorem CellsTm.below {W W' : World} {b : Nat} {h : HeadV} {p : Option Addr} {n c : Nat} (hc : CellsTm W b h p n c) (hb : Below W.heap.size W W') : CellsTm W' b h p n c := by
  obtain ⟨h0, h1, h2, h3, h4, h5, h6, h7⟩ := hc
  have hlt : b < W.heap.size := cell_block h0
  exact ⟨by rw [hb.cell hlt]; exact h0, by rw [hb.cell hlt]; exact h1, by rw [hb.cell hlt]; exact h2, by rw [hb.cell hlt]; exact h3, by rw [hb.cell hlt]; exact h4, by rw [hb.cell hlt]; exact h5, by rw [hb.cell hlt]; exact h6, by rw [hb.cell hlt]; exact h7⟩
theorem cellsTm_new (w : World) (h : HeadV) (p : Option Addr) (n c : Nat) : CellsTm (w.alloc (boxTm h p n c)) w.heap.size h p n c := by
  refine ⟨?_, ?_, ?_, ?_, ?_, ?_, ?_, ?_⟩ <;> (rw [cell_new]; rfl)
def wName (k : Int) : Bool := k == 2 || k == 12 || k == 13
def wArg (k : Int) : Bool := k == 11 || k == 13 || k == 16
def wExn (k : Int) : Bool := k == 15 || k == 16
def node4B (h : HeadV) (n : Nat) : Bool :=
  !(decide (kidsI h.kind < 0) || ((n : Int) != kidsI h.kind) || decide (h.at_ < 0)) && !((h.kind == 9) && (decide (h.op < 1) || decide (5 < h.op)) || (h.kind != 9) && (h.op != 0)) &&
  !(decide (h.n < 0) || decide (2147483647 < h.n) || (h.kind != 1) && (h.n != 0)) && (fitsB (wName h.kind) h.name (nameB h.name) && fitsB (wArg h.kind) h.arg (nameB h.arg) && fitsB (wExn h.kind) h.exn (exnB h.exn))
end
section
open Go.RowKit
def AH.hd (a : AH) : HeadV := ⟨a.kind, a.op, a.at_, a.n, a.name, a.arg, a.exn⟩
def bareB (h : HeadV) : Bool := (h.op == 0) && (h.n == 0) && h.arg.toList.isEmpty && h.exn.toList.isEmpty
def headB (h : HeadV) (n : Nat) : Bool :=
  if h.kind = 17 then bareB h && h.name.toList.isEmpty && decide (0 ≤ h.at_) && ((n : Int) == 1)
  else if h.kind = 18 then bareB h && nameB h.name && decide (0 ≤ h.at_) && ((n : Int) == 0)
  else node4B h (min n 4)
abbrev zTm : List Value := [.int .u8 0, .int .u8 0, .int .i64 0, .int .i64 0, .string ⟨#[]⟩, .string ⟨#[]⟩, .string ⟨#[]⟩, .slice none 0 0]
def encZ (_ : Unit) : List Value := zTm
theorem infoTm : (Tryz.prog.info? 53).map (fun i => (i.zero, i.size, i.bytes)) = some (some (.agg #[.int .u8 0, .int .u8 0, .int .i64 0, .int .i64 0, .string .empty, .string .empty, .string .empty, .slice none 0 0]), 8, 96) := by kernel_rfl
structure Box8 (w : World) (g : Nat) (h : HeadV) (v : Value) : Prop where
  blk : w.heap[g]? = some (.cells #[.int .u8 h.kind, .int .u8 h.op, .int .i64 h.at_, .int .i64 h.n, .string h.name, .string h.arg, .string h.exn, v] 53 (0, 0))
theorem Box8.cells {w : World} {g : Nat} {h : HeadV} {v : Value} (hb : Box8 w g h v) : w.cell? ⟨g, 0, none⟩ = some (.int .u8 h.kind) ∧ w.cell? ⟨g, 1, none⟩ = some (.int .u8 h.op) ∧ w.cell? ⟨g, 2, none⟩ = some (.int .i64 h.at_) ∧ w.cell? ⟨g, 3, none⟩ = some (.int .i64 h.n) ∧
    w.cell? ⟨g, 4, none⟩ = some (.string h.name) ∧ w.cell? ⟨g, 5, none⟩ = some (.string h.arg) ∧ w.cell? ⟨g, 6, none⟩ = some (.string h.exn) ∧ w.cell? ⟨g, 7, none⟩ = some v ∧ w.frozen? ⟨g, 7, none⟩ = false := by
  have hb := hb.blk
  refine ⟨?_, ?_, ?_, ?_, ?_, ?_, ?_, ?_, ?_⟩ <;> simp [World.cell?, World.frozen?, hb]
theorem Box8.lt {w : World} {g : Nat} {h : HeadV} {v : Value} (hb : Box8 w g h v) : g < w.heap.size := (Array.getElem?_eq_some_iff.1 hb.blk).1
theorem Box8.grown {w w' : World} {g : Nat} {h : HeadV} {v : Value} {r : Option Nat} (hb : Box8 w g h v) (hg : w.grownBy w' r) (hr : r ≠ some g) : Box8 w' g h v := ⟨by rw [hg.block g hb.lt hr.symm]; exact hb.blk⟩
theorem Box8.below {w w' : World} {g : Nat} {h : HeadV} {v : Value} (hb : Box8 w g h v) (h' : Below w.heap.size w w') : Box8 w' g h v := ⟨by rw [h'.block g hb.lt]; exact hb.blk⟩
theorem Box8.set {w : World} {g : Nat} {h : HeadV} {v : Value} (hb : Box8 w g h v) (v' : Value) : Box8 (w.setCell ⟨g, 7, none⟩ v') g h v' := ⟨by simpa using heap_setCell1 (o := 7) v' hb.blk⟩
theorem box8_new (w : World) (h : HeadV) (v : Value) : Box8 (w.alloc (.cells #[.int .u8 h.kind, .int .u8 h.op, .int .i64 h.at_, .int .i64 h.n, .string h.name, .string h.arg, .string h.exn, v] 53)) w.heap.size h v := ⟨heap_alloc_new w _⟩
structure ZInv (w wr : World) (h : HeadV) (a : AH) (v : Value) (k : Nat) : Prop where
  own : OwnE encZ 8 wr (w.heap.size + 3) 53 v k (List.replicate k ())
  box : Box8 wr (w.heap.size + 2) h v
  kids : wr.cell? ⟨w.heap.size, 18, none⟩ = some (.slice a.kp a.kn a.kc)
  size : w.heap.size + 3 ≤ wr.heap.size
  below : Below w.heap.size w wr
theorem ZInv.add {w wr w3 : World} {h : HeadV} {a : AH} {v v3 : Value} {k : Nat} (hi : ZInv w wr h a v k) (hown : OwnE encZ 8 w3 (w.heap.size + 3) 53 v3 (k + 1) (List.replicate k () ++ [()])) (hgw : wr.grownBy w3 v.ownBlock) :
    ZInv w (w3.setCell ⟨w.heap.size + 2, 7, none⟩ v3) h a v3 (k + 1) := by
  have hfr : ∀ b, v.ownBlock = some b → w.heap.size + 3 ≤ b := fun b hb => (World.ownsRow.lt hi.own b hb).1
  have hfr3 : ∀ b, v3.ownBlock = some b → w.heap.size + 3 ≤ b := fun b hb => (World.ownsRow.lt hown b hb).1
  have hgs : w3.grownBy (w3.setCell ⟨w.heap.size + 2, 7, none⟩ v3) (some (w.heap.size + 2)) := grown_setCell1 _ _ _ _
  have hlt := hi.size
  refine ⟨?_, (hi.box.grown hgw (fun e => by have := hfr _ e; omega)).set v3, ?_, Nat.le_trans hi.size (Nat.le_trans hgw.size hgs.size), ?_⟩
  · refine ⟨by rw [List.replicate_succ']; exact hown.1, ?_⟩
    rw [List.replicate_succ']
    rcases hown.2 with h0 | ⟨g, cap, cur, rfl, h1, h2, rest⟩
    · exact .inl h0
    · refine .inr ⟨g, cap, cur, rfl, h1, ?_, rest⟩
      rw [hgs.block g (Array.getElem?_eq_some_iff.1 h2).1 (fun e => by injection e with e; omega)]; exact h2
  · have h1 := hi.kids
    refine held_cell hgs (fun e => by injection e with e; have e' : w.heap.size + 2 = w.heap.size := e; omega) (held_cell hgw (fun e => by have := hfr _ e; have : w.heap.size + 3 ≤ w.heap.size := this; omega) h1)
  · exact (hi.below.grown hgw (by omega) (fun b hb => by have := hfr b hb; omega)).grown hgs (by have := hgw.size; omega) (fun b hb => by injection hb with hb; omega)
structure HdIn (w W : World) (a : AH) : Prop where
  h : W.cell? ⟨w.heap.size + 1, 0, none⟩ = some (.int .u8 a.kind) ∧ W.cell? ⟨w.heap.size + 1, 1, none⟩ = some (.int .u8 a.op) ∧ W.cell? ⟨w.heap.size + 1, 2, none⟩ = some (.int .i64 a.at_) ∧ W.cell? ⟨w.heap.size + 1, 3, none⟩ = some (.int .i64 a.n) ∧
    W.cell? ⟨w.heap.size + 1, 4, none⟩ = some (.string a.name) ∧ W.cell? ⟨w.heap.size + 1, 5, none⟩ = some (.string a.arg) ∧ W.cell? ⟨w.heap.size + 1, 6, none⟩ = some (.string a.exn)
  t : W.cell? ⟨w.heap.size, 0, none⟩ = some (.int .u8 a.kind) ∧ W.cell? ⟨w.heap.size, 18, none⟩ = some (.slice a.kp a.kn a.kc)
  below : Below w.heap.size w W
  size : W.heap.size = w.heap.size + 2
theorem HdIn.drop {w W W' : World} {a : AH} (h : HdIn w W a) (hb : Below W.heap.size W W') : (W'.cell? ⟨w.heap.size + 1, 2, none⟩ = some (.int .i64 a.at_)) ∧ (W'.cell? ⟨w.heap.size, 18, none⟩ = some (.slice a.kp a.kn a.kc)) ∧ Below w.heap.size w W' :=
  ⟨by rw [hb.cell (by rw [h.size]; simp)]; exact h.h.2.2.1, by rw [hb.cell (by rw [h.size]; simp)]; exact h.t.2, h.below.trans (hb.mono (by rw [h.size]; omega))⟩
end
end Go.Proofs.YtkdjnegfnhldpaaGreatDoor
