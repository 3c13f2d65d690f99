/- Part 12 of the texts: Rose, Eff14, Eff15, Del, Eff10, Eff11, Eff17, Facts. -/
import Derived.Test.YtdlbjngpohkglaaGreatDoorG02
import Derived.Test.YtdlbjngpohkglaaGreatDoorG08
import Derived.Test.YtdlbjngpohkglaaGreatDoorG11
import Derived.Test.YtdlbjngpohkglaaGreatDoorG09
import Derived.Test.YtdlbjngpohkglaaGreatDoorG10
section
set_option linter.unusedVariables false
set_option maxRecDepth 100000
set_option linter.unusedSimpArgs false
namespace Go.Proofs.YtdlbjngpohkglaaGreatDoor
open Go.RowKit

/-- A node, and its kids. -/
inductive Rose (α : Type) where
  | node (a : α) (kids : List (Rose α))

namespace Rose
variable {α β : Type}
def head : Rose α → α
  | node a _ => a
def kids : Rose α → List (Rose α)
  | node _ l => l
theorem eta (t : Rose α) : t = node t.head t.kids := by cases t; rfl

mutual
theorem ind {P : Rose α → Prop} (h : ∀ a l, (∀ t ∈ l, P t) → P (node a l)) : ∀ t, P t
  | node a l => h a l (indL h l)
theorem indL {P : Rose α → Prop} (h : ∀ a l, (∀ t ∈ l, P t) → P (node a l)) : ∀ l : List (Rose α), ∀ t ∈ l, P t
  | [], _, hm => absurd hm List.not_mem_nil
  | t :: l, x, hm => by
    rcases List.mem_cons.1 hm with e | hm
    · rw [e]; exact ind h t
    · exact indL h l x hm
end

mutual
/-- from the leaves up -/
def fold (f : α → List β → β) : Rose α → β
  | node a l => f a (foldL f l)
def foldL (f : α → List β → β) : List (Rose α) → List β
  | [] => []
  | t :: l => fold f t :: foldL f l
end
theorem foldL_eq (f : α → List β → β) : ∀ l : List (Rose α), foldL f l = l.map (fold f)
  | [] => by simp [foldL]
  | t :: l => by simp [foldL, foldL_eq f l]
theorem fold_node (f : α → List β → β) (a : α) (l : List (Rose α)) : fold f (node a l) = f a (l.map (fold f)) := by
  rw [fold, foldL_eq]

/-- how many nodes -/
def size : Rose α → Nat := fold (fun _ l => 1 + l.sum)
theorem size_node (a : α) (l : List (Rose α)) : size (node a l) = 1 + (l.map size).sum := fold_node _ a l
theorem size_pos (t : Rose α) : 0 < size t := by cases t; rw [size_node]; omega

/-- node by node -/
def map (g : α → β) : Rose α → Rose β := fold (fun a l => node (g a) l)
theorem map_node (g : α → β) (a : α) (l : List (Rose α)) : map g (node a l) = node (g a) (l.map (map g)) := fold_node _ a l
theorem size_map (g : α → β) (t : Rose α) : size (map g t) = size t := by
  refine ind (P := fun t => size (map g t) = size t) (fun a l ih => ?_) t
  rw [map_node, size_node, size_node, List.map_map]
  congr 2
  exact List.map_congr_left ih

/-- all nodes, each ahead of its kids -/
def nodes : Rose α → List α := fold (fun a l => a :: l.flatten)
theorem nodes_node (a : α) (l : List (Rose α)) : nodes (node a l) = a :: (l.map nodes).flatten := fold_node _ a l

/-- do all nodes meet p, which knows how many kids there are? -/
def all (p : α → Nat → Bool) : Rose α → Bool := fold (fun a l => p a l.length && l.all id)
theorem all_node (p : α → Nat → Bool) (a : α) (l : List (Rose α)) : all p (node a l) = (p a l.length && l.all (all p)) := by
  show fold _ _ = _
  rw [fold_node, List.length_map, List.all_map]
  rfl

mutual
/-- the same shape, and nodes that are alike -/
def same (r : α → β → Bool) : Rose α → Rose β → Bool
  | node a l, node b m => r a b && sameL r l m
def sameL (r : α → β → Bool) : List (Rose α) → List (Rose β) → Bool
  | [], [] => true
  | t :: l, u :: m => same r t u && sameL r l m
  | [], _ :: _ => false
  | _ :: _, [] => false
end
theorem same_node (r : α → β → Bool) (a : α) (b : β) (l : List (Rose α)) (m : List (Rose β)) : same r (node a l) (node b m) = (r a b && sameL r l m) := by rw [same]
theorem sameL_length (r : α → β → Bool) : ∀ (l : List (Rose α)) (m : List (Rose β)), sameL r l m = true → List.length l = List.length m
  | [], [], _ => rfl
  | t :: l, u :: m, h => by
    simp only [sameL, Bool.and_eq_true] at h
    simp [sameL_length r l m h.2]
  | [], _ :: _, h => by simp [sameL] at h
  | _ :: _, [], h => by simp [sameL] at h
theorem sameL_get (r : α → β → Bool) : ∀ (l : List (Rose α)) (m : List (Rose β)), sameL r l m = true ↔ l.length = m.length ∧ ∀ (j : Nat) (t : Rose α) (u : Rose β), l[j]? = some t → m[j]? = some u → same r t u = true
  | [], [] => by simp [sameL]
  | t :: l, u :: m => by
    simp only [sameL, Bool.and_eq_true, sameL_get r l m, List.length_cons, Nat.add_right_cancel_iff]
    constructor
    · rintro ⟨h, hl, hj⟩
      refine ⟨hl, fun j x y hx hy => ?_⟩
      cases j with
      | zero => simp at hx hy; subst hx; subst hy; exact h
      | succ j => exact hj j x y (by simpa using hx) (by simpa using hy)
    · rintro ⟨hl, hj⟩
      exact ⟨hj 0 t u rfl rfl, hl, fun j x y hx hy => hj (j + 1) x y (by simpa using hx) (by simpa using hy)⟩
  | [], _ :: _ => by simp [sameL]
  | _ :: _, [] => by simp [sameL]
end Rose

/-- How nodes of a kind lie: their cells, how many, what a node's cells lead to beside the kids, and where the kids lie. -/
structure Laid (α : Type) where
  enc : α → List Value
  k : Nat
  own : World → α → Prop
  kp : α → Option Addr
  kn : α → Nat
  len : ∀ a, (enc a).length = k
  below : ∀ {w w' : World} {a : α}, own w a → Below w.heap.size w w' → own w' a

namespace Laid
variable {α : Type}
/-- a tree's cells -/
def encT (L : Laid α) (t : Rose α) : List Value := L.enc t.head
theorem encT_len (L : Laid α) (t : Rose α) : (L.encT t).length = L.k := L.len _
mutual
/-- The tree lies in w. -/
def lies (L : Laid α) (w : World) : Rose α → Prop
  | .node a l => L.own w a ∧ l.length = L.kn a ∧ RowE L.encT L.k w (L.kp a) l ∧ liesL L w l
def liesL (L : Laid α) (w : World) : List (Rose α) → Prop
  | [] => True
  | t :: l => lies L w t ∧ liesL L w l
end
theorem liesL_iff (L : Laid α) (w : World) : ∀ l : List (Rose α), L.liesL w l ↔ ∀ t ∈ l, L.lies w t
  | [] => by simp [liesL]
  | t :: l => by simp [liesL, liesL_iff L w l]
theorem lies_node (L : Laid α) (w : World) (a : α) (l : List (Rose α)) : L.lies w (.node a l) ↔ L.own w a ∧ l.length = L.kn a ∧ RowE L.encT L.k w (L.kp a) l ∧ ∀ t ∈ l, L.lies w t := by
  rw [lies, liesL_iff]
theorem lies_below (L : Laid α) {w w' : World} (hb : Below w.heap.size w w') (t : Rose α) : L.lies w t → L.lies w' t := by
  refine Rose.ind (P := fun t => L.lies w t → L.lies w' t) (fun a l ih h => ?_) t
  rw [lies_node] at h ⊢
  exact ⟨L.below h.1 hb, h.2.1, h.2.2.1.below hb, fun t ht => ih t ht (h.2.2.2 t ht)⟩
theorem lies_drewN (L : Laid α) {w : World} (n : Nat) {t : Rose α} (h : L.lies w t) : L.lies (w.drewN n) t :=
  L.lies_below (w := w) (w' := w.drewN n) ⟨rfl, rfl, rfl, Nat.le_refl _, fun _ _ => rfl⟩ t h
end Laid
end Go.Proofs.YtdlbjngpohkglaaGreatDoor
end
section
set_option linter.unusedVariables false
set_option maxRecDepth 100000
set_option linter.unusedSimpArgs false
namespace Go.Proofs.YtdlbjngpohkglaaGreatDoor
open Go.RowKit

/-- an atom by value -/
abbrev aggA (x : Atom) : Value := .agg #[.int .u8 x.kind, .int .i64 x.rho, .string x.exn]
/-- a call of function value f enters f -/
def Enters (fid : FuncId) : Prop := ∀ args w, (callFunc fid args).run Tryz.prog w = .ok (.enter fid args) w
/-- The predicate answers q, in every world behind w. -/
def PredA (fid : FuncId) (caps : Array Value) (w : World) (l : List Atom) (q : Atom → Bool) : Prop :=
  ∀ x ∈ l, ∀ W, Below w.heap.size w W → Calls Tryz.prog fid (#[aggA x] ++ caps) W fun e w' => e = .returned (.bool (q x)) ∧ Below W.heap.size W w'
theorem PredA.is {fid : FuncId} {caps : Array Value} {w : World} {l : List Atom} {q : Atom → Bool} (h : PredA fid caps w l q) {x : Atom} (hx : x ∈ l) {r : Bool} (hq : q x = r) {W : World} (hb : Below w.heap.size w W) :
    Calls Tryz.prog fid (#[aggA x] ++ caps) W fun e w' => e = .returned (.bool r) ∧ Below W.heap.size W w' := by subst hq; exact h x hx W hb

/-- r is the place of the first that meets q, or -1 -/
def IdxOf {α : Type} (q : α → Bool) (l : List α) (r : Int) : Prop := (r = -1 ∧ l.any q = false) ∨ ∃ (k : Nat) (x : α), r = (k : Int) ∧ l[k]? = some x ∧ q x = true ∧ (l.take k).any q = false
theorem IdxOf.any {α : Type} {q : α → Bool} {l : List α} {r : Int} (h : IdxOf q l r) : l.any q = decide (0 ≤ r) := by
  rcases h with ⟨rfl, h⟩ | ⟨k, x, rfl, hx, hq, _⟩
  · rw [h]; rfl
  · rw [any_get hx hq]; simp
/-- The predicate answers q, in every world that is w below B. -/
def PredB (fid : FuncId) (caps : Array Value) (B : Nat) (w : World) (l : List Atom) (q : Atom → Bool) : Prop :=
  ∀ x ∈ l, ∀ W, Below B w W → Calls Tryz.prog fid (#[aggA x] ++ caps) W fun e w' => e = .returned (.bool (q x)) ∧ Below W.heap.size W w'
theorem PredB.a {fid : FuncId} {caps : Array Value} {B : Nat} {w w' : World} {l : List Atom} {q : Atom → Bool} (h : PredB fid caps B w l q) (hb : Below B w w') (hB : B ≤ w'.heap.size) : PredA fid caps w' l q :=
  fun x hx W hW => h x hx W (hb.trans (hW.mono hB))
theorem PredB.is {fid : FuncId} {caps : Array Value} {B : Nat} {w : World} {l : List Atom} {q : Atom → Bool} (h : PredB fid caps B w l q) {x : Atom} (hx : x ∈ l) {r : Bool} (hq : q x = r) {W : World} (hb : Below B w W) :
    Calls Tryz.prog fid (#[aggA x] ++ caps) W fun e w' => e = .returned (.bool r) ∧ Below W.heap.size W w' := by subst hq; exact h x hx W hb

end Go.Proofs.YtdlbjngpohkglaaGreatDoor
end
section
set_option linter.unusedVariables false
set_option maxRecDepth 100000
set_option linter.unusedSimpArgs false
namespace Go.Proofs.YtdlbjngpohkglaaGreatDoor
open Go.RowKit

theorem any_eqA_comm (l : List Atom) (a : Atom) : l.any (fun x => eqA a x) = inA l a := by
  unfold inA
  congr 1
  funext x
  unfold eqA
  exact decide_eq_decide.2 ⟨fun h => h.symm, fun h => h.symm⟩

end Go.Proofs.YtdlbjngpohkglaaGreatDoor
end
section
set_option linter.unusedVariables false
set_option maxRecDepth 100000
set_option linter.unusedSimpArgs false
namespace Go.Proofs.YtdlbjngpohkglaaGreatDoor
open Go.RowKit Go.Sort Go.Lib

/-- so far: the kept ones of the first j at the head, the rest as it was -/
structure DelInv (q : Atom → Bool) (l : List Atom) (j i : Nat) (dk : List Atom) : Prop where
  size : dk.length = l.length
  low : dk.take i = (l.take j).filter (fun x => !q x)
  high : ∀ t, j ≤ t → dk[t]? = l[t]?
  lt : i < j
theorem DelInv.start {q : Atom → Bool} {l : List Atom} {k : Nat} {x : Atom} (hx : l[k]? = some x) (hq : q x = true) (hno : (l.take k).any q = false) : DelInv q l (k + 1) k l := by
  refine ⟨rfl, ?_, fun _ _ => rfl, by omega⟩
  rw [take_succ_get hx, List.filter_append]
  have h1 : (l.take k).filter (fun x => !q x) = l.take k := by
    rw [List.filter_eq_self]
    intro a ha
    have := List.any_eq_false.1 hno a ha
    simpa using this
  rw [h1]
  simp [hq]
theorem DelInv.skip {q : Atom → Bool} {l dk : List Atom} {j i : Nat} {x : Atom} (h : DelInv q l j i dk) (hx : l[j]? = some x) (hq : q x = true) : DelInv q l (j + 1) i dk := by
  refine ⟨h.size, ?_, fun t ht => h.high t (by omega), by have := h.lt; omega⟩
  rw [take_succ_get hx, List.filter_append, h.low]
  simp [hq]
theorem DelInv.keep {q : Atom → Bool} {l dk : List Atom} {j i : Nat} {x : Atom} (h : DelInv q l j i dk) (hx : l[j]? = some x) (hq : q x = false) : DelInv q l (j + 1) (i + 1) (dk.set i x) := by
  have hj := get_lt hx
  have hi : i < dk.length := by have := h.lt; have := h.size; omega
  refine ⟨by rw [List.length_set]; exact h.size, ?_, fun t ht => ?_, by have := h.lt; omega⟩
  · rw [take_succ_get hx, List.filter_append, ← h.low]
    rw [take_succ_get (List.getElem?_set_self hi), List.take_set_of_le (Nat.le_refl _)]
    simp [hq]
  · rw [List.getElem?_set_ne (by have := h.lt; omega)]
    exact h.high t (by omega)

end Go.Proofs.YtdlbjngpohkglaaGreatDoor
end
section
set_option linter.unusedVariables false
set_option maxRecDepth 100000
set_option linter.unusedSimpArgs false
namespace Go.Proofs.YtdlbjngpohkglaaGreatDoor
open Go.RowKit Go.Sort Go.Lib

/-- a region, turned -/
def turnI (r : Int) : List Int → List Int → Int
  | [], _ => r
  | f :: fs, t => if f = r then (t[0]?).getD r else turnI r fs (t.drop 1)
theorem turnI_hit (r : Int) : ∀ (f t : List Int) (k : Nat), (f.take k).any (· == r) = false → f[k]? = some r → turnI r f t = (t[k]?).getD r
  | [], _, k, _, h => by simp at h
  | x :: f, t, 0, _, h => by simp at h; subst h; simp [turnI]
  | x :: f, t, k + 1, hno, h => by
    simp only [List.take_succ_cons, List.any_cons, Bool.or_eq_false_iff] at hno
    have hx : ¬ x = r := by simpa using hno.1
    unfold turnI
    rw [if_neg hx, turnI_hit r f (t.drop 1) k hno.2 (by simpa using h)]
    simp [Nat.add_comm]
theorem turnI_none (r : Int) : ∀ (f t : List Int), f.any (· == r) = false → turnI r f t = r
  | [], _, _ => rfl
  | x :: f, t, hno => by
    simp only [List.any_cons, Bool.or_eq_false_iff] at hno
    have hx : ¬ x = r := by simpa using hno.1
    unfold turnI
    rw [if_neg hx, turnI_none r f _ hno.2]
theorem turnI_self (r : Int) : ∀ f : List Int, turnI r f f = r
  | [] => rfl
  | x :: f => by
    unfold turnI
    by_cases h : x = r
    · rw [if_pos h]; simp [h]
    · rw [if_neg h]; exact turnI_self r f

theorem ret_i64 {a b : Int} (h : a = b) : Ending.returned (.int .i64 a) = .returned (.int .i64 b) := by rw [h]

/-- an atom with its region turned -/
def swA (f t : List Int) (a : Atom) : Atom := if a.kind = 3 then a else { a with rho := turnI a.rho f t }

end Go.Proofs.YtdlbjngpohkglaaGreatDoor
end
section
set_option linter.unusedVariables false
set_option maxRecDepth 100000
set_option linter.unusedSimpArgs false
namespace Go.Proofs.YtdlbjngpohkglaaGreatDoor
open Go.RowKit Go.Sort Go.Lib

theorem getD_of_get {l : List Int} {j : Nat} {x : Int} (h : l[j]? = some x) : l.getD j 0 = x := by simp [List.getD, h]

theorem idxFrom_turn (x : Int) : ∀ (f t : List Int) (i : Nat), (Lib.idxFrom f x i = -1 ∧ turnI x f t = x) ∨ ∃ k : Nat, k < f.length ∧ Lib.idxFrom f x i = ((i + k : Nat) : Int) ∧ turnI x f t = (t[k]?).getD x
  | [], _, _ => .inl ⟨rfl, rfl⟩
  | y :: f, t, i => by
    unfold Lib.idxFrom turnI
    by_cases h : y = x
    · rw [if_pos h, if_pos h]
      exact .inr ⟨0, by simp, rfl, rfl⟩
    · rw [if_neg h, if_neg h]
      rcases idxFrom_turn x f (t.drop 1) (i + 1) with h1 | ⟨k, hk, h1, h2⟩
      · exact .inl h1
      · refine .inr ⟨k + 1, by simpa using hk, by rw [h1]; congr 1; omega, ?_⟩
        rw [h2]; simp [Nat.add_comm]
/-- what Index tells of Turn -/
theorem idx_turn (x : Int) (f t : List Int) : (Lib.idxOf f x = -1 ∧ turnI x f t = x) ∨ ∃ k : Nat, k < f.length ∧ Lib.idxOf f x = k ∧ turnI x f t = (t[k]?).getD x := by
  have := idxFrom_turn x f t 0
  simpa [Lib.idxOf] using this

/-- the turned region stands in its place -/
theorem swA_of {f t : List Int} {kd rr z : Int} {ss : ByteArray} (h3 : kd ≠ 3) (h : turnI rr f t = z) : swA f t ⟨kd, rr, ss⟩ = ⟨kd, z, ss⟩ := by
  subst h; unfold swA; rw [if_neg h3]
theorem swA_same {f t : List Int} {kd rr : Int} {ss : ByteArray} (h : kd = 3 ∨ turnI rr f t = rr) : swA f t ⟨kd, rr, ss⟩ = ⟨kd, rr, ss⟩ := by
  unfold swA
  by_cases h3 : kd = 3
  · rw [if_pos h3]
  · rw [if_neg h3, h.resolve_left h3]

/-- the effect of turned atoms -/
def swL (f t : List Int) (l : List Atom) : List Atom := sortA (((sortA (l.filter atomB)).map (swA f t)).filter atomB)

end Go.Proofs.YtdlbjngpohkglaaGreatDoor
end
section
set_option linter.unusedVariables false
set_option maxRecDepth 100000
set_option linter.unusedSimpArgs false
namespace Go.Proofs.YtdlbjngpohkglaaGreatDoor
open Go.RowKit Go.Sort Go.Lib

/-- does a row have a string? -/
def inS (l : List ByteArray) (x : ByteArray) : Bool := l.any (fun y => decide (y = x))
theorem inS_mem (l : List ByteArray) (x : ByteArray) : inS l x = true ↔ x ∈ l := by
  unfold inS
  rw [List.any_eq_true]
  constructor
  · rintro ⟨y, hy, h⟩
    have : y = x := by simpa using h
    subst this; exact hy
  · intro h
    exact ⟨x, h, by simp⟩
theorem inN_mem (l : List Int) (x : Int) : inN l x = true ↔ x ∈ l := by
  unfold inN
  rw [List.any_eq_true]
  constructor
  · rintro ⟨y, hy, h⟩
    have : y = x := by simpa using h
    subst this; exact hy
  · intro h
    exact ⟨x, h, by simp⟩
theorem s_contains_any {p : Option Addr} {n cap : Nat} {l : List ByteArray} {w : World} (h : IsRow encS 1 w p n cap l) (x : ByteArray) :
    Calls Tryz.prog 28 #[.slice p n cap, .string x] w fun e w' => e = .returned (.bool (inS l x)) ∧ w = w' := by
  have e1 : inS l x = Lib.containsS l x := by rw [Bool.eq_iff_iff, Lib.containsS_iff, inS_mem]
  by_cases h0 : n = 0
  · subst h0
    have : l = [] := List.length_eq_zero_iff.1 h.len
    subst this
    exact (Tryz.slices_Contains_string_empty p cap x w).mono fun _ _ ⟨he, hw⟩ => ⟨he, hw.symm⟩
  · obtain ⟨b, o, rfl, _, hc⟩ := h.row.at (by rw [h.len]; omega)
    have := Tryz.slices_Contains_string b o n cap l x w (by rw [h.len]; omega) h.max (fun j hj => by
      have := hc j (l[j]) (List.getElem?_eq_getElem hj) 0 _ rfl
      simpa [List.getD, hj] using this)
    rw [List.take_of_length_le (by rw [h.len]; omega), ← e1] at this
    exact this.mono fun _ _ ⟨he, hw⟩ => ⟨he, hw.symm⟩

theorem PredB.trans {fid : FuncId} {caps : Array Value} {B : Nat} {w w' : World} {l : List Atom} {q : Atom → Bool} (h : PredB fid caps B w l q) (hb : Below B w w') : PredB fid caps B w' l q :=
  fun x hx W hW => h x hx W (hb.trans hW)

/-- does an atom go, without these regions? -/
def goesR (rhos : List Int) (x : Atom) : Bool := decide (x.kind ≠ 3) && inN rhos x.rho
/-- an effect without some regions -/
def withoutL (l : List Atom) (rhos : List Int) : List Atom := (sortA (l.filter atomB)).filter (fun x => !goesR rhos x)
/-- does an atom go, without these exceptions? -/
def goesX (exns : List ByteArray) (x : Atom) : Bool := decide (x.kind = 3) && inS exns x.exn
/-- an effect without some exceptions -/
def handledL (l : List Atom) (exns : List ByteArray) : List Atom := (sortA (l.filter atomB)).filter (fun x => !goesX exns x)
/-- the exceptions of an effect -/
def exnsL (S : List Atom) : List ByteArray := (S.filter (fun x => decide (x.kind = 3))).map (·.exn)
end Go.Proofs.YtdlbjngpohkglaaGreatDoor
end
section
set_option linter.unusedVariables false
set_option maxRecDepth 100000
set_option linter.unusedSimpArgs false
namespace Go.Proofs.YtdlbjngpohkglaaGreatDoor
open Go.RowKit Go.Sort Go.Lib

theorem withinB_iff (a b : List Atom) : withinB a b = true ↔ ∀ x ∈ a, atomB x = true → x ∈ b := by
  unfold withinB
  rw [List.all_eq_true]
  constructor
  · intro h x hx ha
    have := h x hx
    rw [ha] at this
    exact (inA_iff b x).1 (by simpa using this)
  · intro h x hx
    cases ha : atomB x
    · rfl
    · simp [(inA_iff b x).2 (h x hx ha)]
theorem withinB_refl (a : List Atom) : withinB a a = true := (withinB_iff a a).2 (fun x hx _ => hx)
theorem greatB_len {l : List Atom} (h : greatB l = false) : l.length ≤ 100 := by
  unfold greatB at h
  simp only [Bool.or_eq_false_iff, decide_eq_false_iff_not] at h
  have := h.1; omega
/-- a row of two slices, just laid -/
theorem two_rows {w : World} {p q : Option Addr} {n m nc mc : Nat} (l l' : List Atom) (t : TypeId) : RowE encSl 1 (w.alloc (.cells #[.slice p n nc, .slice q m mc] t)) (some ⟨w.heap.size, 0, none⟩) [⟨p, n, nc, l⟩, ⟨q, m, mc, l'⟩] :=
  RowE.newAt encSl_len w _ _ rfl _ _ _ rfl

theorem two_ok {w : World} {p q : Option Addr} {n m nc mc : Nat} {l l' : List Atom} (h : IsRow encA 3 w p n nc l) (h' : IsRow encA 3 w q m mc l') : ∀ r ∈ [(⟨p, n, nc, l⟩ : SlE Atom), ⟨q, m, mc, l'⟩], r.Ok encA 3 w := by
  intro r hr
  simp only [List.mem_cons, List.not_mem_nil, or_false] at hr
  rcases hr with rfl | rfl
  · exact ⟨h.len, h.le, h.nil, h.row⟩
  · exact ⟨h'.len, h'.le, h'.nil, h'.row⟩

theorem ref_Great_is {p : Option Addr} {n cap : Nat} {l : List Atom} {w : World} {r : Bool} (h : greatB l = r) (hl : IsRow encA 3 w p n cap l) :
    Calls Tryz.prog 33 #[.slice p n cap] w fun e w' => e = .returned (.bool r) ∧ w = w' := by
  subst h; exact ref_Great_any p n cap l w hl.len hl.max hl.row

theorem mem_withoutL (l : List Atom) (rhos : List Int) (x : Atom) : x ∈ withoutL l rhos ↔ x ∈ l ∧ atomB x = true ∧ goesR rhos x = false := by
  unfold withoutL
  rw [List.mem_filter, mem_sortA, List.mem_filter]
  simp [and_assoc]
theorem mem_handledL (l : List Atom) (exns : List ByteArray) (x : Atom) : x ∈ handledL l exns ↔ x ∈ l ∧ atomB x = true ∧ goesX exns x = false := by
  unfold handledL
  rw [List.mem_filter, mem_sortA, List.mem_filter]
  simp [and_assoc]
theorem mem_exnsL (S : List Atom) (s : ByteArray) : s ∈ exnsL S ↔ ∃ x ∈ S, x.kind = 3 ∧ x.exn = s := by
  unfold exnsL
  rw [List.mem_map]
  constructor
  · rintro ⟨x, hx, rfl⟩
    rw [List.mem_filter] at hx
    exact ⟨x, hx.1, by simpa using hx.2, rfl⟩
  · rintro ⟨x, hx, h3, rfl⟩
    exact ⟨x, by rw [List.mem_filter]; exact ⟨hx, by simpa using h3⟩, rfl⟩
/-- the effect of a row -/
abbrev effL (l : List Atom) : List Atom := sortA (l.filter atomB)
/-- without the exceptions that it has, an effect has none -/
theorem mem_handled_own (l : List Atom) (x : Atom) : x ∈ handledL l (exnsL (effL l)) ↔ x ∈ l ∧ atomB x = true ∧ x.kind ≠ 3 := by
  rw [mem_handledL]
  constructor
  · rintro ⟨h1, h2, h3⟩
    refine ⟨h1, h2, fun h => ?_⟩
    unfold goesX at h3
    rw [decide_eq_true h, Bool.true_and] at h3
    have : x.exn ∈ exnsL (effL l) := (mem_exnsL _ _).2 ⟨x, by rw [mem_sortA, List.mem_filter]; exact ⟨h1, h2⟩, h, rfl⟩
    rw [(inS_mem _ _).2 this] at h3; cases h3
  · rintro ⟨h1, h2, h3⟩
    exact ⟨h1, h2, by simp [goesX, h3]⟩
def goneL (l : List Atom) (rhos : List Int) : List Atom := l.filter (goesR rhos)

theorem parts_union (l : List Atom) (rhos : List Int) : effL (withoutL l rhos ++ goneL l rhos) = effL l := by
  refine sortA_congr (fun x => ?_)
  simp only [List.mem_filter, List.mem_append, mem_withoutL, goneL]
  constructor
  · rintro ⟨h | h, h'⟩
    · exact ⟨h.1, h'⟩
    · exact ⟨h.1, h'⟩
  · rintro ⟨h, h'⟩
    cases hg : goesR rhos x
    · exact ⟨.inl ⟨h, h', rfl⟩, h'⟩
    · exact ⟨.inr ⟨h, rfl⟩, h'⟩
theorem parts_within (l : List Atom) (rhos : List Int) : withinB (withoutL l rhos) l = true :=
  (withinB_iff _ _).2 (fun x hx _ => ((mem_withoutL l rhos x).1 hx).1)
theorem parts_same (l : List Atom) (rhos : List Int) : (withinB (handledL (withoutL l rhos) (exnsL (effL (withoutL l rhos)))) (withoutL (handledL l (exnsL (effL l))) rhos) && withinB (withoutL (handledL l (exnsL (effL l))) rhos) (handledL (withoutL l rhos) (exnsL (effL (withoutL l rhos))))) = true := by
  have h : ∀ x, x ∈ handledL (withoutL l rhos) (exnsL (effL (withoutL l rhos))) ↔ x ∈ withoutL (handledL l (exnsL (effL l))) rhos := by
    intro x
    rw [mem_handled_own, mem_withoutL, mem_withoutL, mem_handled_own]
    constructor
    · rintro ⟨⟨h1, h2, h3⟩, h4, h5⟩; exact ⟨⟨h1, h2, h5⟩, h4, h3⟩
    · rintro ⟨⟨h1, h2, h5⟩, h4, h3⟩; exact ⟨⟨h1, h2, h3⟩, h4, h5⟩
  rw [Bool.and_eq_true]
  exact ⟨(withinB_iff _ _).2 (fun x hx _ => (h x).1 hx), (withinB_iff _ _).2 (fun x hx _ => (h x).2 hx)⟩

theorem one_row {w : World} {p : Option Addr} {n nc : Nat} (l : List Atom) (t : TypeId) : RowE encSl 1 (w.alloc (.cells #[.slice p n nc] t)) (some ⟨w.heap.size, 0, none⟩) [⟨p, n, nc, l⟩] :=
  RowE.newAt encSl_len w _ _ rfl _ _ _ rfl
theorem one_ok {w : World} {p : Option Addr} {n nc : Nat} {l : List Atom} (h : IsRow encA 3 w p n nc l) : ∀ r ∈ [(⟨p, n, nc, l⟩ : SlE Atom)], r.Ok encA 3 w := by
  intro r hr
  simp only [List.mem_cons, List.not_mem_nil, or_false] at hr
  subst hr
  exact ⟨h.len, h.le, h.nil, h.row⟩
theorem ref_Ints_is {p : Option Addr} {n cap : Nat} {l : List Int} {x : Int} {w : World} {r : Bool} (hq : inN l x = r) (h : IsRow encN 1 w p n cap l) :
    Calls Tryz.prog 37 #[.slice p n cap, .int .i64 x] w fun e w' => e = .returned (.bool r) ∧ w = w' := by
  subst hq; exact ref_Ints_any p n cap l x w h.len h.max h.row

end Go.Proofs.YtdlbjngpohkglaaGreatDoor
end
