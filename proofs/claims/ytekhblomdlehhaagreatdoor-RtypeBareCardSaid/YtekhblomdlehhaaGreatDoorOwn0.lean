/- Rows of the call's own, empty ones of whatever block let in: Own0. -/
import Derived.Test.YtekhblomdlehhaaGreatDoorConcat
import Derived.Deep.AppendSrc
set_option linter.unusedVariables false
set_option maxRecDepth 100000
set_option linter.unusedSimpArgs false
namespace Go.Proofs.YtekhblomdlehhaaGreatDoor
open Go.RowKit

/-- a row of the call's own, or an empty one without room -/
def Own0 {α : Type} (enc : α → List Value) (k : Nat) (w : World) (base : Nat) (e : TypeId) (v : Value) (n : Nat) (l : List α) : Prop := OwnE enc k w base e v n l ∨ ∃ p, v = .slice p 0 0 ∧ n = 0 ∧ l = []
section
variable {α : Type} {enc : α → List Value} {k : Nat} {w w' : World} {base base' e n : Nat} {v : Value} {l : List α}
theorem OwnE.z (h : OwnE enc k w base e v n l) : Own0 enc k w base e v n l := .inl h
theorem Own0.lit (enc : α → List Value) (k : Nat) (w : World) (base : Nat) (e : TypeId) (p : Option Addr) : Own0 enc k w base e (.slice p 0 0) 0 [] := .inr ⟨p, rfl, rfl, rfl⟩
theorem Own0.below (h : Own0 enc k w base e v n l) (hb : Below w.heap.size w w') : Own0 enc k w' base e v n l := h.elim (fun h => .inl (h.below hb)) .inr
theorem Own0.lower (h : Own0 enc k w base e v n l) (hb : base' ≤ base) : Own0 enc k w base' e v n l := h.elim (fun h => .inl (h.lower hb)) .inr
theorem Own0.drewN (h : Own0 enc k w base e v n l) (m : Nat) : Own0 enc k (w.drewN m) base e v n l := h
theorem Own0.isRow (h : Own0 enc k w base e v n l) (hk : ∀ x, (enc x).length = k) (hk0 : 0 < k) : ∃ p cap, v = .slice p n cap ∧ l.length = n ∧ n ≤ cap ∧ RowE enc k w p l ∧ cap ≤ maxLen ∧ (p = none → cap = 0) := by
  rcases h with h | ⟨p, rfl, rfl, rfl⟩
  · obtain ⟨p, cap, hv, hl, hc, hr, hm, hn, _⟩ := h.row hk hk0
    exact ⟨p, cap, hv, hl, hc, hr, hm, fun e => (hn e).2⟩
  · exact ⟨p, 0, rfl, rfl, by omega, .inl rfl, by unfold maxLen; omega, fun _ => rfl⟩
theorem Own0.len (h : Own0 enc k w base e v n l) (hk : ∀ x, (enc x).length = k) (hk0 : 0 < k) : l.length = n := by
  obtain ⟨_, _, _, h, _⟩ := h.isRow hk hk0; exact h
end
/-- what stays behind an append -/
def Keeps (B : Nat) (w w' : World) : Prop := ∀ B0 w0, B0 ≤ B → B0 ≤ w.heap.size → Below B0 w0 w → Below B0 w0 w'

/-- an append of a row, nil or not -/
theorem wpList_append0 {P : Program} {α : Type} {ops : Array Oper} {rest : List Oper} {o : Oper} {a : Act} {Q : Exit → Act → World → Prop} (hgd : o.guard = none) (s x : Operand) (t : TypeId)
    (ho : o.op = .call { callee := .builtin .append, args := #[s, x], argTypes := #[t, t] })
    (base : Nat) (e : TypeId) (z : Value) (k bytes : Nat) (ht : P.underlying t = some (.slice e)) (hinfo : (P.info? e).map (fun i => (i.zero, i.size, i.bytes)) = some (some z, k, bytes))
    (hzs : z.cells.size = k) (hsz : 0 < k)
    (enc : α → List Value) (hk : ∀ x, (enc x).length = k) (h1 : ∀ y, ∀ u ∈ enc y, u.oneCell' = true) (l' l : List α) (n : Nat) {w : World} (v : Value) (hown : Own0 enc k w base e v n l)
    (p : Option Addr) (m c : Nat) (hs : a.eval s = v) (hx : a.eval x = .slice p m c) (hl : l'.length = m) (hp : p = none → c = 0) (hr : RowE enc k w p l')
    (hbytes : (n + m) * bytes ≤ 140737488355328) (h63 : n + m ≤ 9223372036854775807) (hbase : base ≤ w.heap.size)
    (h : ∀ v' w', Own0 enc k w' base e v' (n + m) (l ++ l') → Keeps base w w' → wpList P ops Q rest (a.put o.dst v') w') :
    wpList P ops Q (o :: rest) a w := by
  rcases hown with hown | ⟨q, rfl, rfl, rfl⟩
  · refine wpList_appendR hgd s x t ho base e z k bytes ht hinfo hzs hsz enc hk h1 l' l n v hown p m c hs hx hl hp hr hbytes h63 hbase (fun v' w' ho' hg => h v' w' ho'.z ?_)
    intro B0 w0 hB hB' hb
    exact hb.grown hg hB' (fun g hg' => Nat.le_trans hB (World.ownsRow.lt hown g hg').1)
  · rcases q with _ | ad
    · refine wpList_appendR hgd s x t ho base e z k bytes ht hinfo hzs hsz enc hk h1 l' [] 0 _ (OwnE.nil enc w base e k) p m c hs hx hl hp hr hbytes h63 hbase (fun v' w' ho' hg => h v' w' ho'.z ?_)
      intro B0 w0 hB hB' hb
      exact hb.grown hg hB' (fun g hg' => by cases hg')
    · obtain ⟨i, hi, hz, hsize, hby⟩ := info_parts hinfo
      rcases Nat.eq_zero_or_pos m with hm0 | hm0
      · subst hm0
        have hl0 : l' = [] := List.length_eq_zero_iff.1 hl
        subst hl0
        have hsrc : Src P i.size t (.slice p 0 c) 0 [] w := by
          rcases p with _ | b
          · exact Src.ofNil w ht c
          · exact Src.ofSlice w ht b 0 c [] (by simp) (by simp) (by simp)
        have hst := run_storeCells_cells (P := P) ad.block (ad.off) [] 0 w (by simp) (by simp) (by simp)
        have hrun : (Builtin.append_ #[t, t] o.type #[.slice (some ad) 0 0, .slice p 0 c]).run P w = .ok (.slice (some ad) 0 0) w := by
          rcases hsrc.kind with ⟨e', hk'⟩ | hk' <;> simp [Builtin.append_, run_underlying ht, sizeOf, typeInfo, hi, hsrc.len, hsrc.cells, storeCells]
        exact Lib.wpList_append_run w hgd s x t t ho _ _ hs hx _ _ hrun (h _ _ (.inr ⟨_, rfl, rfl, by simp⟩) (fun _ _ _ _ hb => hb))
      · have hcells : ∀ b, p = some b → ∀ j u, (l'.flatMap enc)[j]? = some u → w.cell? (b.add j) = some u := by
          intro ad' had j u hj
          rcases hr with h0 | ⟨b, o', hb, hlt, hc⟩
          · subst h0; simp at hj
          · rw [had] at hb
            cases hb
            have hjl : j < l'.length * k := by rw [← flat_length hk]; exact get_lt hj
            have hq : j / k < l'.length := Nat.div_lt_of_lt_mul (by rw [Nat.mul_comm]; exact hjl)
            have hm : j % k < k := Nat.mod_lt _ hsz
            have hf := flat_get hk l' (j / k) _ (j % k) (List.getElem?_eq_getElem hq) hm
            rw [Nat.div_add_mod' j k, hj] at hf
            have := hc (j / k) _ (List.getElem?_eq_getElem hq) (j % k) u hf.symm
            rw [add_lit', ← Nat.div_add_mod' j k, ← Nat.add_assoc]
            exact this
        have hone : ∀ u ∈ l'.flatMap enc, u.oneCell' = true := by
          intro u hu
          rw [List.mem_flatMap] at hu
          obtain ⟨y, _, hu⟩ := hu
          exact h1 y u hu
        rcases p with _ | b
        · rcases hr with h0 | ⟨_, _, hb, _⟩
          · subst h0; simp at hl; omega
          · cases hb
        · have hsrc : Src P i.size t (.slice (some b) m c) m (l'.flatMap enc) w := Src.ofSlice w ht b m c _ (by rw [flat_length hk, hl, hsize]) (hcells b rfl) hone
          have hrun := run_append_grow_src (P := P) (w := w) t t o.type e i z ht hi hz (some ad) 0 0 [] (by exact run_firstCells_some w.drew i.size 0 ad 0 0 [] (by simp) (by simp)) _ m _ hsrc (by omega) (by omega)
            (growslice_fits (by omega) (by rw [hby]; exact hbytes))
          rw [Nat.zero_add] at hrun
          have hge := grownCap_ge w m 0 e
          have hle := grownCap_le_maxLen w m 0 e (by unfold maxLen; omega)
          refine Lib.wpList_append_run w hgd s x t t ho _ _ hs hx _ _ hrun (h _ _ (.inl ?_) ?_)
          · rw [Nat.zero_add]
            refine ⟨by rw [List.nil_append, flat_length hk, hl], .inr ⟨_, _, _, rfl, by simpa using hbase, heap_alloc_new w.drew _, hge, hle, ?_, ?_⟩⟩
            · simp only [List.nil_append, Array.size_append, List.size_toArray, size_zeroCells, flat_length hk, hl, hzs]
              rw [← Nat.add_mul]; congr 1; omega
            · simp only [List.nil_append, Array.toList_append]
              rw [List.take_append_of_le_length (by simp [flat_length hk, hl]), List.take_of_length_le (by simp [flat_length hk, hl])]
          · intro B0 w0 hB hB' hb
            exact hb.drew.alloc hB' _

/-- an append of one element -/
theorem wpList_append01 {P : Program} {α : Type} {ops : Array Oper} {rest : List Oper} {o : Oper} {a : Act} {Q : Exit → Act → World → Prop} (hgd : o.guard = none) (s x : Operand) (t : TypeId)
    (ho : o.op = .call { callee := .builtin .append, args := #[s, x], argTypes := #[t, t] })
    (base : Nat) (e : TypeId) (z : Value) (k bytes : Nat) (ht : P.underlying t = some (.slice e)) (hinfo : (P.info? e).map (fun i => (i.zero, i.size, i.bytes)) = some (some z, k, bytes))
    (hzs : z.cells.size = k) (hsz : 0 < k)
    (enc : α → List Value) (hk : ∀ x, (enc x).length = k) (h1 : ∀ y, ∀ u ∈ enc y, u.oneCell' = true) (y : α) (l : List α) (n : Nat) {w : World} (v : Value) (hown : Own0 enc k w base e v n l)
    (hs : a.eval s = v) (hx : a.eval x = .slice (some ⟨w.heap.size, 0, none⟩) 1 1)
    (hbytes : (n + 1) * bytes ≤ 140737488355328) (h63 : n + 1 ≤ 9223372036854775807) (hbase : base ≤ w.heap.size)
    (h : ∀ v' w', Own0 enc k w' base e v' (n + 1) (l ++ [y]) → Keeps base w w' → wpList P ops Q rest (a.put o.dst v') w') :
    wpList P ops Q (o :: rest) a (w.alloc (.cells (enc y).toArray e)) := by
  refine wpList_append0 hgd s x t ho base e z k bytes ht hinfo hzs hsz enc hk h1 [y] l n v (hown.below ((Below.refl _ _).alloc (Nat.le_refl _) _)) _ 1 1 hs hx rfl (fun h => by cases h) ?_ hbytes h63 (by simp; omega) ?_
  · exact RowE.newAt hk w [y] _ (by simp) _ _ _ rfl
  · intro v' w' ho' hk'
    exact h v' w' ho' (fun B0 w0 hB hB' hb => hk' B0 w0 hB (by simp; omega) (hb.alloc hB' _))
end Go.Proofs.YtekhblomdlehhaaGreatDoor
