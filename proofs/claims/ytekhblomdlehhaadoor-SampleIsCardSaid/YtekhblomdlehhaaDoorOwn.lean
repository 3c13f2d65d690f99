/- append of one element to a row of the call's own. -/
import Derived.Test.YtekhblomdlehhaaDoorRowE
set_option linter.unusedVariables false
set_option maxRecDepth 100000
set_option linter.unusedSimpArgs false
namespace Go.Proofs.YtekhblomdlehhaaDoor
open Go.RowKit

theorem grown_alloc {w w' : World} {o : Obj} {row : Option Nat} (h : (w.alloc o).grownBy w' row) : w.grownBy w' row :=
  ⟨h.os, h.tape, h.output, Nat.le_trans (by simp) h.size, fun k hk hne => (h.block k (by simp; omega) hne).trans (Below.heap_alloc w o k hk)⟩

/-- A row of the call's own that holds the elements l. -/
def OwnE {α : Type} (enc : α → List Value) (k : Nat) (w : World) (base : Nat) (e : TypeId) (v : Value) (n : Nat) (l : List α) : Prop := w.ownsRow base e k v n (l.flatMap enc)

theorem wpList_append1 {P : Program} {α : Type} {ops : Array Oper} {rest : List Oper} {o : Oper} {a : Act} {Q : Exit → Act → World → Prop} (hgd : o.guard = none) (s x : Operand) (t : TypeId)
    (ho : o.op = .call { callee := .builtin .append, args := #[s, x], argTypes := #[t, t] })
    (base : Nat) (e : TypeId) (z : Value) (k bytes : Nat) (ht : P.underlying t = some (.slice e)) (hinfo : (P.info? e).map (fun i => (i.zero, i.size, i.bytes)) = some (some z, k, bytes))
    (hzs : z.cells.size = k) (hsz : 0 < k)
    (enc : α → List Value) (hk : ∀ x, (enc x).length = k) (h1 : ∀ y, ∀ u ∈ enc y, u.oneCell' = true) (y : α) (l : List α) (n : Nat) {w : World} (v : Value) (hown : OwnE enc k w base e v n l)
    (hs : a.eval s = v) (hx : a.eval x = .slice (some ⟨w.heap.size, 0, none⟩) 1 1)
    (hbytes : (n + 1) * bytes ≤ 140737488355328) (h63 : n + 1 ≤ 9223372036854775807) (hbase : base ≤ w.heap.size)
    (h : ∀ v' w', OwnE enc k w' base e v' (n + 1) (l ++ [y]) → w.grownBy w' v.ownBlock → wpList P ops Q rest (a.put o.dst v') w') :
    wpList P ops Q (o :: rest) a (w.alloc (.cells (enc y).toArray e)) := by
  obtain ⟨i, hi, hz, hsize, hby⟩ := info_parts hinfo
  refine wpList_append_own _ hgd s x t ho base e i z k bytes ht hi hz hsize hby hzs hsz v n _ hs (World.ownsRow.alloc hown _) ⟨w.heap.size, 0, none⟩ 1 1 (enc y) hx (by rw [hk]; omega) ?_ (h1 y) (by unfold maxLen; omega) hbytes (by simp; omega) ?_
  · intro j u hj
    rw [add_lit', cell_new w _ _ _ (0, 0), Nat.zero_add]
    simpa using hj
  · intro v' w' hown' hg _
    refine h v' w' ?_ (grown_alloc hg)
    unfold OwnE
    rw [List.flatMap_append, List.flatMap_singleton]
    exact hown'

section
variable {α : Type} {enc : α → List Value} {k : Nat} {w w' : World} {base base' e n : Nat} {v : Value} {l : List α}
/-- an empty literal -/
theorem OwnE.lit (enc : α → List Value) (w : World) (base : Nat) (e : TypeId) (k : Nat) (hb : base ≤ w.heap.size) : OwnE enc k (w.alloc (.cells #[] e)) base e (.slice (some ⟨w.heap.size, 0, none⟩) 0 0) 0 [] :=
  World.ownsRow_made w #[] 0 hb (by simp [maxLen]) (by simp)
theorem OwnE.nil (enc : α → List Value) (w : World) (base : Nat) (e : TypeId) (k : Nat) : OwnE enc k w base e (.slice none 0 0) 0 [] := World.ownsRow_nil w base e k
/-- A row of the call's own stays while only newer blocks turn. -/
theorem OwnE.below (h : OwnE enc k w base e v n l) (hb : Below w.heap.size w w') : OwnE enc k w' base e v n l := by
  refine ⟨h.1, ?_⟩
  rcases h.2 with hn | ⟨g, cap, cur, rfl, hb', hg, rest⟩
  · exact .inl hn
  · refine .inr ⟨g, cap, cur, rfl, hb', ?_, rest⟩
    rw [hb.block g (Array.getElem?_eq_some_iff.1 hg).1]; exact hg
theorem OwnE.lower (h : OwnE enc k w base e v n l) (hb : base' ≤ base) : OwnE enc k w base' e v n l := by
  refine ⟨h.1, ?_⟩
  rcases h.2 with hn | ⟨g, cap, cur, rfl, hb', hg, rest⟩
  · exact .inl hn
  · exact .inr ⟨g, cap, cur, rfl, Nat.le_trans hb hb', hg, rest⟩
theorem OwnE.drew (h : OwnE enc k w base e v n l) : OwnE enc k w.drew base e v n l := h
theorem OwnE.drewN (h : OwnE enc k w base e v n l) (m : Nat) : OwnE enc k (w.drewN m) base e v n l := h
theorem OwnE.row (hk : ∀ x, (enc x).length = k) (h : OwnE enc k w base e v n l) (hk0 : 0 < k) :
    ∃ p cap, v = .slice p n cap ∧ l.length = n ∧ n ≤ cap ∧ RowE enc k w p l ∧ cap ≤ maxLen ∧ (p = none → n = 0 ∧ cap = 0) ∧ (∀ a, p = some a → base ≤ a.block ∧ a.off = 0 ∧ a.spot = none ∧ a.block < w.heap.size) := own_row hk h hk0
theorem OwnE.len (hk : ∀ x, (enc x).length = k) (h : OwnE enc k w base e v n l) (hk0 : 0 < k) : l.length = n := by
  obtain ⟨_, _, _, h, _⟩ := h.row hk hk0; exact h
/-- what lay below B lies so behind an append -/
theorem Below.own {B : Nat} {w0 : World} (h : Below B w0 w) (hg : w.grownBy w' v.ownBlock) (hB : B ≤ w.heap.size) (ho : OwnE enc k w B e v n l) : Below B w0 w' :=
  h.grown hg hB (fun k hk => (World.ownsRow.lt ho k hk).1)
end
end Go.Proofs.YtekhblomdlehhaaDoor
