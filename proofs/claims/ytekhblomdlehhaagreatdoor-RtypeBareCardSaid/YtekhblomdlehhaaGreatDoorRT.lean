/- Types with regions: as plain trees, and as they lie in memory. -/
import Derived.Test.YtekhblomdlehhaaGreatDoorRose
import Derived.Test.YtekhblomdlehhaaGreatDoorEff22
import Derived.Test.YtekhblomdlehhaaGreatDoorOpenG
set_option linter.unusedVariables false
set_option maxRecDepth 100000
set_option linter.unusedSimpArgs false
namespace Go.Proofs.YtekhblomdlehhaaGreatDoor
open Go.RowKit

/-- a node, plain -/
structure LH where
  kind : Int
  rho : Int
  eff : List Atom
/-- a node as it lies: where its effect and its kids lie, too -/
structure RH where
  kind : Int
  rho : Int
  ep : Option Addr
  en : Nat
  ec : Nat
  eff : List Atom
  kp : Option Addr
  kn : Nat
  kc : Nat
abbrev PT := Rose RH
abbrev RT := Rose LH
def RH.plain (a : RH) : LH := ⟨a.kind, a.rho, a.eff⟩
/-- the plain type -/
def PT.er (t : PT) : RT := Rose.map RH.plain t
theorem PT.er_node (a : RH) (l : List PT) : PT.er (.node a l) = .node a.plain (l.map PT.er) := Rose.map_node _ a l

def encRH (a : RH) : List Value := [.int .u8 a.kind, .int .i64 a.rho, .slice a.ep a.en a.ec, .slice a.kp a.kn a.kc]
/-- what a node's own cells are good for -/
structure RH.Own (w : World) (a : RH) : Prop where
  eff : IsRow encA 3 w a.ep a.en a.ec a.eff
  ok : ∀ x ∈ a.eff, okAt x
  k0 : 0 ≤ a.kind
  k1 : a.kind ≤ 255
  r0 : -9223372036854775808 ≤ a.rho
  r1 : a.rho ≤ 9223372036854775807
  kmax : a.kn ≤ 9223372036854775807
  kle : a.kn ≤ a.kc
  knil : a.kp = none → a.kc = 0
def LR : Laid RH where
  enc := encRH
  k := 4
  own := RH.Own
  kp := RH.kp
  kn := RH.kn
  len := fun _ => rfl
  below := fun h hb => ⟨h.eff.below hb, h.ok, h.k0, h.k1, h.r0, h.r1, h.kmax, h.kle, h.knil⟩
theorem encT_LR (t : PT) : LR.encT t = encRH t.head := rfl
theorem LRlen : ∀ t : PT, (LR.encT t).length = 4 := fun _ => rfl
/-- a type by value -/
abbrev aggR (a : RH) : Value := .agg #[.int .u8 a.kind, .int .i64 a.rho, .slice a.ep a.en a.ec, .slice a.kp a.kn a.kc]

/-- a node that lies, taken apart -/
structure NodeIn (w : World) (a : RH) (l : List PT) : Prop where
  own : RH.Own w a
  kids : IsRow LR.encT 4 w a.kp a.kn a.kc l
  each : ∀ t ∈ l, LR.lies w t
theorem nodeIn {w : World} {a : RH} {l : List PT} (h : LR.lies w (.node a l)) : NodeIn w a l := by
  rw [Laid.lies_node] at h
  exact ⟨h.1, ⟨h.2.1, h.1.kmax, h.1.kle, h.1.knil, h.2.2.1⟩, h.2.2.2⟩
theorem NodeIn.lies {w : World} {a : RH} {l : List PT} (h : NodeIn w a l) : LR.lies w (.node a l) := by
  rw [Laid.lies_node]
  exact ⟨h.own, h.kids.len, h.kids.row, h.each⟩
theorem NodeIn.below {w w' : World} {a : RH} {l : List PT} (h : NodeIn w a l) (hb : Below w.heap.size w w') : NodeIn w' a l := nodeIn (LR.lies_below hb _ h.lies)
theorem NodeIn.alloc {w : World} {a : RH} {l : List PT} (h : NodeIn w a l) (o : Obj) : NodeIn (w.alloc o) a l := h.below ((Below.refl _ _).alloc (Nat.le_refl _) _)

/-- a row of types -/
structure RowT (w : World) (p : Option Addr) (n cap : Nat) (l : List PT) : Prop where
  row : IsRow LR.encT 4 w p n cap l
  each : ∀ t ∈ l, LR.lies w t
theorem NodeIn.rowT {w : World} {a : RH} {l : List PT} (h : NodeIn w a l) : RowT w a.kp a.kn a.kc l := ⟨h.kids, h.each⟩
theorem RowT.below {w w' : World} {p : Option Addr} {n cap : Nat} {l : List PT} (h : RowT w p n cap l) (hb : Below w.heap.size w w') : RowT w' p n cap l := ⟨h.row.below hb, fun t ht => LR.lies_below hb t (h.each t ht)⟩
theorem RowT.alloc {w : World} {p : Option Addr} {n cap : Nat} {l : List PT} (h : RowT w p n cap l) (o : Obj) : RowT (w.alloc o) p n cap l := h.below ((Below.refl _ _).alloc (Nat.le_refl _) _)
/-- a type of a row -/
theorem RowT.kid {w : World} {p : Option Addr} {n cap : Nat} {l : List PT} (h : RowT w p n cap l) {j : Nat} {t : PT} (hx : l[j]? = some t) :
    ∃ b o, p = some ⟨b, o, none⟩ ∧ b < w.heap.size ∧ w.cell? ⟨b, o + j * 4, none⟩ = some (.int .u8 t.head.kind) ∧ w.cell? ⟨b, o + j * 4 + 1, none⟩ = some (.int .i64 t.head.rho) ∧
      w.cell? ⟨b, o + j * 4 + 2, none⟩ = some (.slice t.head.ep t.head.en t.head.ec) ∧ w.cell? ⟨b, o + j * 4 + 3, none⟩ = some (.slice t.head.kp t.head.kn t.head.kc) := by
  obtain ⟨b, o, hp, hb, hc⟩ := h.row.row.elem hx
  exact ⟨b, o, hp, hb, by simpa using hc 0 _ rfl, hc 1 _ rfl, hc 2 _ rfl, hc 3 _ rfl⟩
theorem RowT.at {w : World} {p : Option Addr} {n cap : Nat} {l : List PT} (h : RowT w p n cap l) {j : Nat} (hj : j < n) : ∃ t, l[j]? = some t := get_of_lt (by rw [h.row.len]; exact hj)
theorem RowT.lies {w : World} {p : Option Addr} {n cap : Nat} {l : List PT} (h : RowT w p n cap l) {j : Nat} {t : PT} (hx : l[j]? = some t) : LR.lies w t := h.each t (List.mem_of_getElem? hx)

theorem le_sum_of_mem : ∀ {l : List Nat} {x : Nat}, x ∈ l → x ≤ l.sum
  | [], _, h => by cases h
  | y :: l, x, h => by
    rcases List.mem_cons.1 h with rfl | h
    · simp
    · have := le_sum_of_mem h; simp; omega
/-- few nodes, and effects that aren't great -/
def effsOK : RT → Bool := Rose.all (fun a _ => !greatB a.eff)
theorem effsOK_node (a : LH) (l : List RT) : effsOK (.node a l) = (!greatB a.eff && l.all effsOK) := Rose.all_node _ a l
structure SmallT (t : RT) (n : Nat) : Prop where
  size : t.size ≤ n
  effs : effsOK t = true
theorem SmallT.kid {a : LH} {l : List RT} {n : Nat} (h : SmallT (.node a l) n) {t : RT} (ht : t ∈ l) : SmallT t n := by
  refine ⟨?_, ?_⟩
  · have h1 := h.size
    rw [Rose.size_node] at h1
    have h2 : t.size ≤ (l.map Rose.size).sum := by
      have : t.size ∈ l.map Rose.size := List.mem_map_of_mem ht
      exact le_sum_of_mem this
    omega
  · have h1 := h.effs
    rw [effsOK_node, Bool.and_eq_true, List.all_eq_true] at h1
    exact h1.2 t ht
theorem SmallT.kids {a : LH} {l : List RT} {n : Nat} (h : SmallT (.node a l) n) : l.length ≤ n := by
  have h1 := h.size
  rw [Rose.size_node] at h1
  have : ∀ l : List RT, l.length ≤ (l.map Rose.size).sum := by
    intro l
    induction l with
    | nil => simp
    | cons x l ih => have := Rose.size_pos x; simp only [List.length_cons, List.map_cons, List.sum_cons]; omega
  have := this l
  omega
theorem SmallT.eff {a : LH} {l : List RT} {n : Nat} (h : SmallT (.node a l) n) : greatB a.eff = false := by
  have h1 := h.effs
  rw [effsOK_node, Bool.and_eq_true] at h1
  simpa using h1.1
end Go.Proofs.YtekhblomdlehhaaGreatDoor
