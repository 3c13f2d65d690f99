/- Trees with any number of kids: as plain data, and as they lie in memory. -/
import Derived.Test.YtekhblomdlehhaaGreatDoorRowE
set_option linter.unusedVariables false
set_option maxRecDepth 100000
set_option linter.unusedSimpArgs false
namespace Go.Proofs.YtekhblomdlehhaaGreatDoor
open Go.RowKit

/-- A node, and its kids. -/
inductive Rose (α : Type) where
  | node (a : α) (kids : List (Rose α))

namespace Rose
variable {α β : Type}
def head : Rose α → α
  | node a _ => a
def kids : Rose α → List (Rose α)
  | node _ l => l
theorem eta (t : Rose α) : t = node t.head t.kids := by cases t; rfl

mutual
theorem ind {P : Rose α → Prop} (h : ∀ a l, (∀ t ∈ l, P t) → P (node a l)) : ∀ t, P t
  | node a l => h a l (indL h l)
theorem indL {P : Rose α → Prop} (h : ∀ a l, (∀ t ∈ l, P t) → P (node a l)) : ∀ l : List (Rose α), ∀ t ∈ l, P t
  | [], _, hm => absurd hm List.not_mem_nil
  | t :: l, x, hm => by
    rcases List.mem_cons.1 hm with e | hm
    · rw [e]; exact ind h t
    · exact indL h l x hm
end

mutual
/-- from the leaves up -/
def fold (f : α → List β → β) : Rose α → β
  | node a l => f a (foldL f l)
def foldL (f : α → List β → β) : List (Rose α) → List β
  | [] => []
  | t :: l => fold f t :: foldL f l
end
theorem foldL_eq (f : α → List β → β) : ∀ l : List (Rose α), foldL f l = l.map (fold f)
  | [] => by simp [foldL]
  | t :: l => by simp [foldL, foldL_eq f l]
theorem fold_node (f : α → List β → β) (a : α) (l : List (Rose α)) : fold f (node a l) = f a (l.map (fold f)) := by
  rw [fold, foldL_eq]

/-- how many nodes -/
def size : Rose α → Nat := fold (fun _ l => 1 + l.sum)
theorem size_node (a : α) (l : List (Rose α)) : size (node a l) = 1 + (l.map size).sum := fold_node _ a l
theorem size_pos (t : Rose α) : 0 < size t := by cases t; rw [size_node]; omega

/-- node by node -/
def map (g : α → β) : Rose α → Rose β := fold (fun a l => node (g a) l)
theorem map_node (g : α → β) (a : α) (l : List (Rose α)) : map g (node a l) = node (g a) (l.map (map g)) := fold_node _ a l
theorem size_map (g : α → β) (t : Rose α) : size (map g t) = size t := by
  refine ind (P := fun t => size (map g t) = size t) (fun a l ih => ?_) t
  rw [map_node, size_node, size_node, List.map_map]
  congr 2
  exact List.map_congr_left ih

/-- all nodes, each ahead of its kids -/
def nodes : Rose α → List α := fold (fun a l => a :: l.flatten)
theorem nodes_node (a : α) (l : List (Rose α)) : nodes (node a l) = a :: (l.map nodes).flatten := fold_node _ a l

/-- do all nodes meet p, which knows how many kids there are? -/
def all (p : α → Nat → Bool) : Rose α → Bool := fold (fun a l => p a l.length && l.all id)
theorem all_node (p : α → Nat → Bool) (a : α) (l : List (Rose α)) : all p (node a l) = (p a l.length && l.all (all p)) := by
  show fold _ _ = _
  rw [fold_node, List.length_map, List.all_map]
  rfl

mutual
/-- the same shape, and nodes that are alike -/
def same (r : α → β → Bool) : Rose α → Rose β → Bool
  | node a l, node b m => r a b && sameL r l m
def sameL (r : α → β → Bool) : List (Rose α) → List (Rose β) → Bool
  | [], [] => true
  | t :: l, u :: m => same r t u && sameL r l m
  | [], _ :: _ => false
  | _ :: _, [] => false
end
theorem same_node (r : α → β → Bool) (a : α) (b : β) (l : List (Rose α)) (m : List (Rose β)) : same r (node a l) (node b m) = (r a b && sameL r l m) := by rw [same]
theorem sameL_length (r : α → β → Bool) : ∀ (l : List (Rose α)) (m : List (Rose β)), sameL r l m = true → List.length l = List.length m
  | [], [], _ => rfl
  | t :: l, u :: m, h => by
    simp only [sameL, Bool.and_eq_true] at h
    simp [sameL_length r l m h.2]
  | [], _ :: _, h => by simp [sameL] at h
  | _ :: _, [], h => by simp [sameL] at h
theorem sameL_get (r : α → β → Bool) : ∀ (l : List (Rose α)) (m : List (Rose β)), sameL r l m = true ↔ l.length = m.length ∧ ∀ (j : Nat) (t : Rose α) (u : Rose β), l[j]? = some t → m[j]? = some u → same r t u = true
  | [], [] => by simp [sameL]
  | t :: l, u :: m => by
    simp only [sameL, Bool.and_eq_true, sameL_get r l m, List.length_cons, Nat.add_right_cancel_iff]
    constructor
    · rintro ⟨h, hl, hj⟩
      refine ⟨hl, fun j x y hx hy => ?_⟩
      cases j with
      | zero => simp at hx hy; subst hx; subst hy; exact h
      | succ j => exact hj j x y (by simpa using hx) (by simpa using hy)
    · rintro ⟨hl, hj⟩
      exact ⟨hj 0 t u rfl rfl, hl, fun j x y hx hy => hj (j + 1) x y (by simpa using hx) (by simpa using hy)⟩
  | [], _ :: _ => by simp [sameL]
  | _ :: _, [] => by simp [sameL]
end Rose

/-- How nodes of a kind lie: their cells, how many, what a node's cells lead to beside the kids, and where the kids lie. -/
structure Laid (α : Type) where
  enc : α → List Value
  k : Nat
  own : World → α → Prop
  kp : α → Option Addr
  kn : α → Nat
  len : ∀ a, (enc a).length = k
  below : ∀ {w w' : World} {a : α}, own w a → Below w.heap.size w w' → own w' a

namespace Laid
variable {α : Type}
/-- a tree's cells -/
def encT (L : Laid α) (t : Rose α) : List Value := L.enc t.head
theorem encT_len (L : Laid α) (t : Rose α) : (L.encT t).length = L.k := L.len _
mutual
/-- The tree lies in w. -/
def lies (L : Laid α) (w : World) : Rose α → Prop
  | .node a l => L.own w a ∧ l.length = L.kn a ∧ RowE L.encT L.k w (L.kp a) l ∧ liesL L w l
def liesL (L : Laid α) (w : World) : List (Rose α) → Prop
  | [] => True
  | t :: l => lies L w t ∧ liesL L w l
end
theorem liesL_iff (L : Laid α) (w : World) : ∀ l : List (Rose α), L.liesL w l ↔ ∀ t ∈ l, L.lies w t
  | [] => by simp [liesL]
  | t :: l => by simp [liesL, liesL_iff L w l]
theorem lies_node (L : Laid α) (w : World) (a : α) (l : List (Rose α)) : L.lies w (.node a l) ↔ L.own w a ∧ l.length = L.kn a ∧ RowE L.encT L.k w (L.kp a) l ∧ ∀ t ∈ l, L.lies w t := by
  rw [lies, liesL_iff]
theorem lies_below (L : Laid α) {w w' : World} (hb : Below w.heap.size w w') (t : Rose α) : L.lies w t → L.lies w' t := by
  refine Rose.ind (P := fun t => L.lies w t → L.lies w' t) (fun a l ih h => ?_) t
  rw [lies_node] at h ⊢
  exact ⟨L.below h.1 hb, h.2.1, h.2.2.1.below hb, fun t ht => ih t ht (h.2.2.2 t ht)⟩
theorem lies_drewN (L : Laid α) {w : World} (n : Nat) {t : Rose α} (h : L.lies w t) : L.lies (w.drewN n) t :=
  L.lies_below (w := w) (w' := w.drewN n) ⟨rfl, rfl, rfl, Nat.le_refl _, fun _ _ => rfl⟩ t h
end Laid
end Go.Proofs.YtekhblomdlehhaaGreatDoor
