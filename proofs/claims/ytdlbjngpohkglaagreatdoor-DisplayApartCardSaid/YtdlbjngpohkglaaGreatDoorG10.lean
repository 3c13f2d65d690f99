/- Part 10 of the texts: Own0, Eff22, OpenA, OpenB, OpenC. -/
import Derived.Test.YtdlbjngpohkglaaGreatDoorG05
import Derived.Deep.AppendSrc
import Derived.Test.YtdlbjngpohkglaaGreatDoorG09
import Derived.Test.YtdlbjngpohkglaaGreatDoorG04
import Derived.ProofKit
import Derived.OpenShut
import Derived.Deep.Slices
import Derived.Deep.SlicePairs
import Derived.Lib.SmallJoins
import Derived.ChangeOld
import Derived.Test.YtdlbjngpohkglaaGreatDoorG07
section
set_option linter.unusedVariables false
set_option maxRecDepth 100000
set_option linter.unusedSimpArgs false
namespace Go.Proofs.YtdlbjngpohkglaaGreatDoor
open Go.RowKit

/-- a row of the call's own, or an empty one without room -/
def Own0 {α : Type} (enc : α → List Value) (k : Nat) (w : World) (base : Nat) (e : TypeId) (v : Value) (n : Nat) (l : List α) : Prop := OwnE enc k w base e v n l ∨ ∃ p, v = .slice p 0 0 ∧ n = 0 ∧ l = []
section
variable {α : Type} {enc : α → List Value} {k : Nat} {w w' : World} {base base' e n : Nat} {v : Value} {l : List α}
theorem OwnE.z (h : OwnE enc k w base e v n l) : Own0 enc k w base e v n l := .inl h
theorem Own0.lit (enc : α → List Value) (k : Nat) (w : World) (base : Nat) (e : TypeId) (p : Option Addr) : Own0 enc k w base e (.slice p 0 0) 0 [] := .inr ⟨p, rfl, rfl, rfl⟩
theorem Own0.below (h : Own0 enc k w base e v n l) (hb : Below w.heap.size w w') : Own0 enc k w' base e v n l := h.elim (fun h => .inl (h.below hb)) .inr
theorem Own0.lower (h : Own0 enc k w base e v n l) (hb : base' ≤ base) : Own0 enc k w base' e v n l := h.elim (fun h => .inl (h.lower hb)) .inr
theorem Own0.drewN (h : Own0 enc k w base e v n l) (m : Nat) : Own0 enc k (w.drewN m) base e v n l := h
theorem Own0.isRow (h : Own0 enc k w base e v n l) (hk : ∀ x, (enc x).length = k) (hk0 : 0 < k) : ∃ p cap, v = .slice p n cap ∧ l.length = n ∧ n ≤ cap ∧ RowE enc k w p l ∧ cap ≤ maxLen ∧ (p = none → cap = 0) := by
  rcases h with h | ⟨p, rfl, rfl, rfl⟩
  · obtain ⟨p, cap, hv, hl, hc, hr, hm, hn, _⟩ := h.row hk hk0
    exact ⟨p, cap, hv, hl, hc, hr, hm, fun e => (hn e).2⟩
  · exact ⟨p, 0, rfl, rfl, by omega, .inl rfl, by unfold maxLen; omega, fun _ => rfl⟩
theorem Own0.len (h : Own0 enc k w base e v n l) (hk : ∀ x, (enc x).length = k) (hk0 : 0 < k) : l.length = n := by
  obtain ⟨_, _, _, h, _⟩ := h.isRow hk hk0; exact h
end
/-- what stays behind an append -/
def Keeps (B : Nat) (w w' : World) : Prop := ∀ B0 w0, B0 ≤ B → B0 ≤ w.heap.size → Below B0 w0 w → Below B0 w0 w'

/-- an append of a row, nil or not -/
theorem wpList_append0 {P : Program} {α : Type} {ops : Array Oper} {rest : List Oper} {o : Oper} {a : Act} {Q : Exit → Act → World → Prop} (hgd : o.guard = none) (s x : Operand) (t : TypeId)
    (ho : o.op = .call { callee := .builtin .append, args := #[s, x], argTypes := #[t, t] })
    (base : Nat) (e : TypeId) (z : Value) (k bytes : Nat) (ht : P.underlying t = some (.slice e)) (hinfo : (P.info? e).map (fun i => (i.zero, i.size, i.bytes)) = some (some z, k, bytes))
    (hzs : z.cells.size = k) (hsz : 0 < k)
    (enc : α → List Value) (hk : ∀ x, (enc x).length = k) (h1 : ∀ y, ∀ u ∈ enc y, u.oneCell' = true) (l' l : List α) (n : Nat) {w : World} (v : Value) (hown : Own0 enc k w base e v n l)
    (p : Option Addr) (m c : Nat) (hs : a.eval s = v) (hx : a.eval x = .slice p m c) (hl : l'.length = m) (hp : p = none → c = 0) (hr : RowE enc k w p l')
    (hbytes : (n + m) * bytes ≤ 140737488355328) (h63 : n + m ≤ 9223372036854775807) (hbase : base ≤ w.heap.size)
    (h : ∀ v' w', Own0 enc k w' base e v' (n + m) (l ++ l') → Keeps base w w' → wpList P ops Q rest (a.put o.dst v') w') :
    wpList P ops Q (o :: rest) a w := by
  rcases hown with hown | ⟨q, rfl, rfl, rfl⟩
  · refine wpList_appendR hgd s x t ho base e z k bytes ht hinfo hzs hsz enc hk h1 l' l n v hown p m c hs hx hl hp hr hbytes h63 hbase (fun v' w' ho' hg => h v' w' ho'.z ?_)
    intro B0 w0 hB hB' hb
    exact hb.grown hg hB' (fun g hg' => Nat.le_trans hB (World.ownsRow.lt hown g hg').1)
  · rcases q with _ | ad
    · refine wpList_appendR hgd s x t ho base e z k bytes ht hinfo hzs hsz enc hk h1 l' [] 0 _ (OwnE.nil enc w base e k) p m c hs hx hl hp hr hbytes h63 hbase (fun v' w' ho' hg => h v' w' ho'.z ?_)
      intro B0 w0 hB hB' hb
      exact hb.grown hg hB' (fun g hg' => by cases hg')
    · obtain ⟨i, hi, hz, hsize, hby⟩ := info_parts hinfo
      rcases Nat.eq_zero_or_pos m with hm0 | hm0
      · subst hm0
        have hl0 : l' = [] := List.length_eq_zero_iff.1 hl
        subst hl0
        have hsrc : Src P i.size t (.slice p 0 c) 0 [] w := by
          rcases p with _ | b
          · exact Src.ofNil w ht c
          · exact Src.ofSlice w ht b 0 c [] (by simp) (by simp) (by simp)
        have hst := run_storeCells_cells (P := P) ad.block (ad.off) [] 0 w (by simp) (by simp) (by simp)
        have hrun : (Builtin.append_ #[t, t] o.type #[.slice (some ad) 0 0, .slice p 0 c]).run P w = .ok (.slice (some ad) 0 0) w := by
          rcases hsrc.kind with ⟨e', hk'⟩ | hk' <;> simp [Builtin.append_, run_underlying ht, sizeOf, typeInfo, hi, hsrc.len, hsrc.cells, storeCells]
        exact Lib.wpList_append_run w hgd s x t t ho _ _ hs hx _ _ hrun (h _ _ (.inr ⟨_, rfl, rfl, by simp⟩) (fun _ _ _ _ hb => hb))
      · have hcells : ∀ b, p = some b → ∀ j u, (l'.flatMap enc)[j]? = some u → w.cell? (b.add j) = some u := by
          intro ad' had j u hj
          rcases hr with h0 | ⟨b, o', hb, hlt, hc⟩
          · subst h0; simp at hj
          · rw [had] at hb
            cases hb
            have hjl : j < l'.length * k := by rw [← flat_length hk]; exact get_lt hj
            have hq : j / k < l'.length := Nat.div_lt_of_lt_mul (by rw [Nat.mul_comm]; exact hjl)
            have hm : j % k < k := Nat.mod_lt _ hsz
            have hf := flat_get hk l' (j / k) _ (j % k) (List.getElem?_eq_getElem hq) hm
            rw [Nat.div_add_mod' j k, hj] at hf
            have := hc (j / k) _ (List.getElem?_eq_getElem hq) (j % k) u hf.symm
            rw [add_lit', ← Nat.div_add_mod' j k, ← Nat.add_assoc]
            exact this
        have hone : ∀ u ∈ l'.flatMap enc, u.oneCell' = true := by
          intro u hu
          rw [List.mem_flatMap] at hu
          obtain ⟨y, _, hu⟩ := hu
          exact h1 y u hu
        rcases p with _ | b
        · rcases hr with h0 | ⟨_, _, hb, _⟩
          · subst h0; simp at hl; omega
          · cases hb
        · have hsrc : Src P i.size t (.slice (some b) m c) m (l'.flatMap enc) w := Src.ofSlice w ht b m c _ (by rw [flat_length hk, hl, hsize]) (hcells b rfl) hone
          have hrun := run_append_grow_src (P := P) (w := w) t t o.type e i z ht hi hz (some ad) 0 0 [] (by exact run_firstCells_some w.drew i.size 0 ad 0 0 [] (by simp) (by simp)) _ m _ hsrc (by omega) (by omega)
            (growslice_fits (by omega) (by rw [hby]; exact hbytes))
          rw [Nat.zero_add] at hrun
          have hge := grownCap_ge w m 0 e
          have hle := grownCap_le_maxLen w m 0 e (by unfold maxLen; omega)
          refine Lib.wpList_append_run w hgd s x t t ho _ _ hs hx _ _ hrun (h _ _ (.inl ?_) ?_)
          · rw [Nat.zero_add]
            refine ⟨by rw [List.nil_append, flat_length hk, hl], .inr ⟨_, _, _, rfl, by simpa using hbase, heap_alloc_new w.drew _, hge, hle, ?_, ?_⟩⟩
            · simp only [List.nil_append, Array.size_append, List.size_toArray, size_zeroCells, flat_length hk, hl, hzs]
              rw [← Nat.add_mul]; congr 1; omega
            · simp only [List.nil_append, Array.toList_append]
              rw [List.take_append_of_le_length (by simp [flat_length hk, hl]), List.take_of_length_le (by simp [flat_length hk, hl])]
          · intro B0 w0 hB hB' hb
            exact hb.drew.alloc hB' _

/-- an append of one element -/
theorem wpList_append01 {P : Program} {α : Type} {ops : Array Oper} {rest : List Oper} {o : Oper} {a : Act} {Q : Exit → Act → World → Prop} (hgd : o.guard = none) (s x : Operand) (t : TypeId)
    (ho : o.op = .call { callee := .builtin .append, args := #[s, x], argTypes := #[t, t] })
    (base : Nat) (e : TypeId) (z : Value) (k bytes : Nat) (ht : P.underlying t = some (.slice e)) (hinfo : (P.info? e).map (fun i => (i.zero, i.size, i.bytes)) = some (some z, k, bytes))
    (hzs : z.cells.size = k) (hsz : 0 < k)
    (enc : α → List Value) (hk : ∀ x, (enc x).length = k) (h1 : ∀ y, ∀ u ∈ enc y, u.oneCell' = true) (y : α) (l : List α) (n : Nat) {w : World} (v : Value) (hown : Own0 enc k w base e v n l)
    (hs : a.eval s = v) (hx : a.eval x = .slice (some ⟨w.heap.size, 0, none⟩) 1 1)
    (hbytes : (n + 1) * bytes ≤ 140737488355328) (h63 : n + 1 ≤ 9223372036854775807) (hbase : base ≤ w.heap.size)
    (h : ∀ v' w', Own0 enc k w' base e v' (n + 1) (l ++ [y]) → Keeps base w w' → wpList P ops Q rest (a.put o.dst v') w') :
    wpList P ops Q (o :: rest) a (w.alloc (.cells (enc y).toArray e)) := by
  refine wpList_append0 hgd s x t ho base e z k bytes ht hinfo hzs hsz enc hk h1 [y] l n v (hown.below ((Below.refl _ _).alloc (Nat.le_refl _) _)) _ 1 1 hs hx rfl (fun h => by cases h) ?_ hbytes h63 (by simp; omega) ?_
  · exact RowE.newAt hk w [y] _ (by simp) _ _ _ rfl
  · intro v' w' ho' hk'
    exact h v' w' ho' (fun B0 w0 hB hB' hb => hk' B0 w0 hB (by simp; omega) (hb.alloc hB' _))
end Go.Proofs.YtdlbjngpohkglaaGreatDoor
end
section
set_option linter.unusedVariables false
set_option maxRecDepth 100000
set_option linter.unusedSimpArgs false
namespace Go.Proofs.YtdlbjngpohkglaaGreatDoor
open Go.RowKit Go.Sort Go.Lib

/-- does an atom name a region? -/
def hasR (x : Atom) : Bool := atomB x && decide (x.kind ≠ 3)
/-- the regions of an effect -/
def rhosOf (l : List Atom) : List Int := sortI ((l.filter hasR).map (·.rho))
def rhosF (l : List Atom) : List Int := (l.filter hasR).foldl (fun e a => putI a.rho e) []
theorem rhosF_snoc (l : List Atom) (x : Atom) : rhosF (l ++ [x]) = if hasR x then putI x.rho (rhosF l) else rhosF l := by
  unfold rhosF
  rw [List.filter_append, List.foldl_append]
  cases h : hasR x <;> simp [h]
theorem foldI : ∀ (l : List Int) (e : List Int), Rising ltI e → Rising ltI (l.foldl (fun e a => putI a e) e) ∧ ∀ x, x ∈ l.foldl (fun e a => putI a e) e ↔ x ∈ e ∨ x ∈ l
  | [], e, h => ⟨h, fun x => by simp⟩
  | a :: l, e, h => by
    obtain ⟨h1, h2⟩ := foldI l (putI a e) (rising_putI a e h)
    refine ⟨h1, fun x => ?_⟩
    rw [List.foldl_cons, h2, mem_putI, List.mem_cons]
    constructor
    · rintro ((rfl | h) | h)
      · exact .inr (.inl rfl)
      · exact .inl h
      · exact .inr (.inr h)
    · rintro (h | rfl | h)
      · exact .inl (.inr h)
      · exact .inl (.inl rfl)
      · exact .inr h
theorem rhosF_eq (l : List Atom) : rhosF l = rhosOf l := by
  have e : rhosF l = ((l.filter hasR).map (·.rho)).foldl (fun e a => putI a e) [] := by unfold rhosF; rw [List.foldl_map]
  obtain ⟨h1, h2⟩ := foldI ((l.filter hasR).map (·.rho)) [] (by simp [Rising])
  rw [e]
  exact eq_sortI h1 (fun x => by rw [h2]; simp)
theorem insertR_length {α : Type} (lt : α → α → Bool) (a : α) : ∀ l : List α, (insertR lt a l).length ≤ l.length + 1
  | [] => by simp [insertR]
  | b :: l => by
    unfold insertR
    split
    · simp
    · split
      · have := insertR_length lt a l; simp; omega
      · simp
theorem sortR_length {α : Type} (lt : α → α → Bool) : ∀ l : List α, (sortR lt l).length ≤ l.length
  | [] => by simp [sortR]
  | a :: l => by
    have h1 := insertR_length lt a (sortR lt l)
    have h2 := sortR_length lt l
    simp only [sortR, List.length_cons]; omega
theorem rhosOf_length (l : List Atom) : (rhosOf l).length ≤ l.length := by
  have h1 := sortR_length ltI ((l.filter hasR).map (·.rho))
  have h2 := List.length_filter_le hasR l
  rw [List.length_map] at h1
  exact Nat.le_trans h1 h2
theorem mem_rhosOf (l : List Atom) (r : Int) : r ∈ rhosOf l ↔ ∃ x ∈ l, atomB x = true ∧ x.kind ≠ 3 ∧ x.rho = r := by
  unfold rhosOf
  rw [mem_sortI, List.mem_map]
  constructor
  · rintro ⟨x, hx, rfl⟩
    rw [List.mem_filter] at hx
    have h := hx.2
    unfold hasR at h
    rw [Bool.and_eq_true] at h
    exact ⟨x, hx.1, h.1, of_decide_eq_true h.2, rfl⟩
  · rintro ⟨x, hx, h1, h2, rfl⟩
    exact ⟨x, List.mem_filter.2 ⟨hx, by unfold hasR; rw [h1, decide_eq_true h2]; rfl⟩, rfl⟩
theorem rhosOf_congr {l m : List Atom} (h : ∀ x, atomB x = true → (x ∈ l ↔ x ∈ m)) : rhosOf l = rhosOf m := by
  refine sortI_congr (fun r => ?_)
  have h1 := mem_rhosOf l r
  have h2 := mem_rhosOf m r
  unfold rhosOf at h1 h2
  rw [mem_sortI] at h1 h2
  rw [h1, h2]
  constructor
  · rintro ⟨x, hx, ha, hk, hr⟩; exact ⟨x, (h x ha).1 hx, ha, hk, hr⟩
  · rintro ⟨x, hx, ha, hk, hr⟩; exact ⟨x, (h x ha).2 hx, ha, hk, hr⟩
theorem rhosOf_effL (l : List Atom) : rhosOf (effL l) = rhosOf l := rhosOf_congr (fun x hx => by rw [mem_sortA, List.mem_filter]; simp [hx])

end Go.Proofs.YtdlbjngpohkglaaGreatDoor
end
section
set_option linter.unusedVariables false
set_option maxRecDepth 100000
set_option linter.unusedSimpArgs false
namespace Go.Proofs.YtdlbjngpohkglaaGreatDoor
open Go.ChangeShapes Go.WideShapes Go.ChangeAt Go.RowKit Go.Deep

variable {H : Type} {enc : TypeId × Value → H} {W : World} {base : Nat} {t e : TypeId} {v : Value} {d : DataW H} {ps : List MemPlace}

theorem row_of_gets {α : Type} {encE : α → List Value} {k : Nat} (w : World) (b o : Nat) (hb : b < w.heap.size) (n : Nat) (q : Nat → α) (h : ∀ j, j < n → ∀ i u, (encE (q j))[i]? = some u → w.cell? ⟨b, o + j * k + i, none⟩ = some u) :
    RowE encE k w (some ⟨b, o, none⟩) ((List.range n).map q) := by
  refine .inr ⟨b, o, rfl, hb, fun j x hx i u hu => ?_⟩
  rw [List.getElem?_map] at hx
  have hj : j < n := by
    have := (Option.map_eq_some_iff.1 hx).choose_spec.1
    have := (List.getElem?_eq_some_iff.1 this).1
    simpa using this
  rw [List.getElem?_range hj] at hx
  cases hx
  exact h j hj i u hu

theorem open_nums (ht : Tryz.prog.underlying t = some (.slice e)) (he : Tryz.prog.underlying e = some (.int .i64)) (hc : Tryz.prog.cellsOf e = 1)
    (hv : Value.okWide Tryz.prog W .any base t v) (h : DataW.Trod enc Tryz.prog W 0 (fun _ => true) true t v d ps) :
    ∃ p n cap, ∃ l : List Int, v = .slice p n cap ∧ l.length = n ∧ n ≤ 9223372036854775807 ∧ RowE encN 1 W p l := by
  obtain ⟨p, n, cap, rfl⟩ := okWide_slice ht hv
  obtain ⟨fuel, hf⟩ := h
  rcases open_ints ht he hc hf with ⟨hcs, _⟩ | ⟨x, l, c, zs, hcs, _, hl, hm, hz, _, hcell, hwz⟩
  · simp [Value.cells] at hcs
    obtain ⟨rfl, rfl, rfl⟩ := hcs
    exact ⟨_, _, _, [], rfl, rfl, by omega, .inl rfl⟩
  · simp [Value.cells] at hcs
    obtain ⟨rfl, rfl, rfl⟩ := hcs
    unfold maxLen at hm
    have hz : zs.length = cap := by simpa using hz
    by_cases hn0 : n = 0
    · subst hn0
      exact ⟨_, _, _, [], rfl, rfl, by omega, .inl rfl⟩
    · obtain ⟨b, off, spot⟩ := x
      have hspot : spot = none := by simpa [Addr.add] using World.cell?_spot (hcell 0 (by omega))
      subst hspot
      have hbl : b < W.heap.size := by simpa [Addr.add] using cell_block (hcell 0 (by omega))
      refine ⟨_, _, _, (List.range n).map (fun j => zs.getD j 0), rfl, by simp, by omega, row_of_gets W b off hbl n _ (fun j hj i u hu => ?_)⟩
      have c0 := hcell j (by omega)
      rw [add_lit'] at c0
      match i, hu with
      | 0, hu => simp [encN] at hu; subst hu; simpa [List.getD] using c0
      | i + 1, hu => simp [encN] at hu

theorem open_atoms (ht : Tryz.prog.underlying t = some (.slice 78))
    (hv : Value.okWide Tryz.prog W .any base t v) (h : DataW.Trod enc Tryz.prog W 0 (fun _ => true) true t v d ps) :
    ∃ p n cap, ∃ l : List Atom, v = .slice p n cap ∧ l.length = n ∧ n ≤ 9223372036854775807 ∧ RowA W p l := by
  obtain ⟨p, n, cap, rfl⟩ := okWide_slice ht hv
  obtain ⟨fuel, hf⟩ := h
  rcases open_slice ht hf with ⟨hcs, _⟩ | ⟨a, len, c, m, fu, D, Pl, hcs, _, hl, hm, hmm, _, hx⟩
  · simp [Value.cells] at hcs
    obtain ⟨rfl, rfl, rfl⟩ := hcs
    exact ⟨_, _, _, [], rfl, rfl, by omega, .inl rfl⟩
  · simp [Value.cells] at hcs
    obtain ⟨rfl, rfl, rfl⟩ := hcs
    unfold maxLen at hm
    have hmc : m = cap := by simpa using hmm
    have he : Tryz.prog.underlying 78 = some (.struct (Tryz.prog.fieldsOf 78)) := by kernel_rfl
    have ce : Tryz.prog.cellsOf 78 = 3 := by kernel_rfl
    have F0 : ((Tryz.prog.fieldsOf 78)[0]?).map (fun f => (f.type, f.offset)) = some (5, 0) := by kernel_rfl
    have F1 : ((Tryz.prog.fieldsOf 78)[1]?).map (fun f => (f.type, f.offset)) = some (3, 1) := by kernel_rfl
    have F2 : ((Tryz.prog.fieldsOf 78)[2]?).map (fun f => (f.type, f.offset)) = some (9, 2) := by kernel_rfl
    have C0 : Tryz.prog.cellsOf 5 = 1 := by kernel_rfl
    have C1 : Tryz.prog.cellsOf 3 = 1 := by kernel_rfl
    have C2 : Tryz.prog.cellsOf 9 = 1 := by kernel_rfl
    have each : ∀ i, i < n → ∃ y : Atom, W.cell? ((a.add (i * 3)).add 0) = some (.int .u8 y.kind) ∧ W.cell? ((a.add (i * 3)).add 1) = some (.int .i64 y.rho) ∧ W.cell? ((a.add (i * 3)).add 2) = some (.string y.exn) := by
      intro i hi
      obtain ⟨cs', h1, h2⟩ := hx i (by omega)
      rw [ce] at h1
      obtain ⟨_, hlen, hcell⟩ := World.cells?_some h1
      obtain ⟨xs, k, hk, hxy, _, hxl, hf'⟩ := DataW.trod_struct he h2
      obtain ⟨f0, e0, p0⟩ := Option.map_eq_some_iff.1 F0
      obtain ⟨f1, e1, p1⟩ := Option.map_eq_some_iff.1 F1
      obtain ⟨f2, e2, p2⟩ := Option.map_eq_some_iff.1 F2
      simp only [Prod.mk.injEq] at p0 p1 p2
      have g0 := hf' 0 f0 e0
      have g1 := hf' 1 f1 e1
      have g2 := hf' 2 f2 e2
      rw [p0.1, p0.2, C0] at g0
      rw [p1.1, p1.2, C1] at g1
      rw [p2.1, p2.2, C2] at g2
      have b0 := (Array.getElem?_eq_some_iff.1 e0).1
      have b1 := (Array.getElem?_eq_some_iff.1 e1).1
      have b2 := (Array.getElem?_eq_some_iff.1 e2).1
      match cs', hlen with
      | [v0, v1, v2], _ =>
        rw [List.getElem?_eq_getElem (show 0 < xs.length by omega)] at g0
        rw [List.getElem?_eq_getElem (show 1 < xs.length by omega)] at g1
        rw [List.getElem?_eq_getElem (show 2 < xs.length by omega)] at g2
        obtain ⟨z0, q0, _⟩ := DataW.trod_int Tryz.underlying5 g0
        obtain ⟨z1, q1, _⟩ := DataW.trod_int Tryz.underlying3 g1
        obtain ⟨z2, q2, _⟩ := DataW.trod_string Tryz.underlying9 g2
        simp at q0 q1 q2
        have c0 := hcell 0 (by omega)
        have c1 := hcell 1 (by omega)
        have c2 := hcell 2 (by omega)
        refine ⟨⟨z0, z1, z2⟩, ?_, ?_, ?_⟩
        · simpa [q0] using c0
        · simpa [q1] using c1
        · simpa [q2] using c2
    by_cases hn0 : n = 0
    · subst hn0
      exact ⟨_, _, _, [], rfl, rfl, by omega, .inl rfl⟩
    · obtain ⟨q, hq⟩ := choose_lt each
      obtain ⟨b, off, spot⟩ := a
      have hspot : spot = none := by simpa [Addr.add] using World.cell?_spot (hq 0 (by omega)).1
      subst hspot
      have hbl : b < W.heap.size := by simpa [Addr.add] using cell_block (hq 0 (by omega)).1
      refine ⟨_, _, _, (List.range n).map q, rfl, by simp, by omega, row_of_gets W b off hbl n q (fun j hj i u hu => ?_)⟩
      obtain ⟨c0, c1, c2⟩ := hq j hj
      rw [add_lit'] at c0 c1 c2
      rw [add_lit'] at c0 c1 c2
      match i, hu with
      | 0, hu => simp [encA] at hu; subst hu; simpa using c0
      | 1, hu => simp [encA] at hu; subst hu; simpa using c1
      | 2, hu => simp [encA] at hu; subst hu; simpa using c2
      | i + 3, hu => simp [encA] at hu
end Go.Proofs.YtdlbjngpohkglaaGreatDoor
end
section
set_option linter.unusedVariables false
set_option maxRecDepth 100000
set_option linter.unusedSimpArgs false
namespace Go.Proofs.YtdlbjngpohkglaaGreatDoor
open Go.ChangeShapes Go.WideShapes Go.ChangeAt Go.RowKit Go.Deep

section
variable {H : Type} {enc : TypeId × Value → H} {W : World} {base : Nat} {t e : TypeId} {v : Value} {d : DataW H} {ps : List MemPlace}

theorem slice_shape {p : Option Addr} {n cap : Nat} (ht : Tryz.prog.underlying t = some (.slice e)) (h : DataW.Trod enc Tryz.prog W 0 (fun _ => true) true t (.slice p n cap) d ps) : n ≤ cap ∧ (p = none → cap = 0) := by
  obtain ⟨fuel, hf⟩ := h
  rcases open_slice ht hf with ⟨hcs, _⟩ | ⟨a, len, c, m, fu, D, Pl, hcs, _, hl, hm, hmm, _, hx⟩
  · simp [Value.cells] at hcs
    obtain ⟨rfl, rfl, rfl⟩ := hcs
    exact ⟨Nat.le_refl _, fun _ => rfl⟩
  · simp [Value.cells] at hcs
    obtain ⟨rfl, rfl, rfl⟩ := hcs
    exact ⟨hl, fun h => by cases h⟩

theorem open_rowA (ht : Tryz.prog.underlying t = some (.slice 78))
    (hv : Value.okWide Tryz.prog W .any base t v) (h : DataW.Trod enc Tryz.prog W 0 (fun _ => true) true t v d ps) :
    ∃ p n cap, ∃ l : List Atom, v = .slice p n cap ∧ IsRow encA 3 W p n cap l := by
  obtain ⟨p, n, cap, l, rfl, h1, h2, h3⟩ := open_atoms ht hv h
  obtain ⟨h4, h5⟩ := slice_shape ht h
  exact ⟨p, n, cap, l, rfl, h1, h2, h4, h5, h3⟩
theorem open_rowN (ht : Tryz.prog.underlying t = some (.slice 3))
    (hv : Value.okWide Tryz.prog W .any base t v) (h : DataW.Trod enc Tryz.prog W 0 (fun _ => true) true t v d ps) :
    ∃ p n cap, ∃ l : List Int, v = .slice p n cap ∧ IsRow encN 1 W p n cap l := by
  obtain ⟨p, n, cap, l, rfl, h1, h2, h3⟩ := open_nums ht Tryz.underlying3 (by kernel_rfl) hv h
  obtain ⟨h4, h5⟩ := slice_shape ht h
  exact ⟨p, n, cap, l, rfl, h1, h2, h4, h5, h3⟩
end
end Go.Proofs.YtdlbjngpohkglaaGreatDoor
end
section
set_option linter.unusedVariables false
set_option maxRecDepth 100000
set_option linter.unusedSimpArgs false
namespace Go.Proofs.YtdlbjngpohkglaaGreatDoor
open Go.ChangeShapes Go.WideShapes Go.ChangeAt Go.RowKit Go.Deep

variable {H : Type} {enc : TypeId × Value → H} {W : World} {base : Nat} {t e : TypeId} {v : Value} {d : DataW H} {ps : List MemPlace}

/-- an atom that came in: its numbers in range -/
structure okAt (x : Atom) : Prop where
  k0 : 0 ≤ x.kind
  k1 : x.kind ≤ 255
  r0 : -9223372036854775808 ≤ x.rho
  r1 : x.rho ≤ 9223372036854775807
  s1 : x.exn.size ≤ 9223372036854775807

theorem open_atomsR (ht : Tryz.prog.underlying t = some (.slice 78))
    (hv : Value.okWide Tryz.prog W .any base t v) (h : DataW.Trod enc Tryz.prog W 0 (fun _ => true) true t v d ps) :
    ∃ p n cap, ∃ l : List Atom, v = .slice p n cap ∧ l.length = n ∧ n ≤ 9223372036854775807 ∧ RowA W p l ∧ ∀ x ∈ l, okAt x := by
  obtain ⟨p, n, cap, rfl⟩ := okWide_slice ht hv
  obtain ⟨fuel, hf⟩ := h
  rcases open_slice ht hf with ⟨hcs, _⟩ | ⟨a, len, c, m, fu, D, Pl, hcs, _, hl, hm, hmm, _, hx⟩
  · simp [Value.cells] at hcs
    obtain ⟨rfl, rfl, rfl⟩ := hcs
    exact ⟨_, _, _, [], rfl, rfl, by omega, .inl rfl, fun x hx => by cases hx⟩
  · simp [Value.cells] at hcs
    obtain ⟨rfl, rfl, rfl⟩ := hcs
    unfold maxLen at hm
    have hmc : m = cap := by simpa using hmm
    have he : Tryz.prog.underlying 78 = some (.struct (Tryz.prog.fieldsOf 78)) := by kernel_rfl
    have ce : Tryz.prog.cellsOf 78 = 3 := by kernel_rfl
    have F0 : ((Tryz.prog.fieldsOf 78)[0]?).map (fun f => (f.type, f.offset)) = some (5, 0) := by kernel_rfl
    have F1 : ((Tryz.prog.fieldsOf 78)[1]?).map (fun f => (f.type, f.offset)) = some (3, 1) := by kernel_rfl
    have F2 : ((Tryz.prog.fieldsOf 78)[2]?).map (fun f => (f.type, f.offset)) = some (9, 2) := by kernel_rfl
    have C0 : Tryz.prog.cellsOf 5 = 1 := by kernel_rfl
    have C1 : Tryz.prog.cellsOf 3 = 1 := by kernel_rfl
    have C2 : Tryz.prog.cellsOf 9 = 1 := by kernel_rfl
    have each : ∀ i, i < n → ∃ y : Atom, okAt y ∧ W.cell? ((a.add (i * 3)).add 0) = some (.int .u8 y.kind) ∧ W.cell? ((a.add (i * 3)).add 1) = some (.int .i64 y.rho) ∧ W.cell? ((a.add (i * 3)).add 2) = some (.string y.exn) := by
      intro i hi
      obtain ⟨cs', h1, h2⟩ := hx i (by omega)
      rw [ce] at h1
      obtain ⟨_, hlen, hcell⟩ := World.cells?_some h1
      obtain ⟨xs, k, hk, hxy, _, hxl, hf'⟩ := DataW.trod_struct he h2
      obtain ⟨f0, e0, p0⟩ := Option.map_eq_some_iff.1 F0
      obtain ⟨f1, e1, p1⟩ := Option.map_eq_some_iff.1 F1
      obtain ⟨f2, e2, p2⟩ := Option.map_eq_some_iff.1 F2
      simp only [Prod.mk.injEq] at p0 p1 p2
      have g0 := hf' 0 f0 e0
      have g1 := hf' 1 f1 e1
      have g2 := hf' 2 f2 e2
      rw [p0.1, p0.2, C0] at g0
      rw [p1.1, p1.2, C1] at g1
      rw [p2.1, p2.2, C2] at g2
      have b0 := (Array.getElem?_eq_some_iff.1 e0).1
      have b1 := (Array.getElem?_eq_some_iff.1 e1).1
      have b2 := (Array.getElem?_eq_some_iff.1 e2).1
      match cs', hlen with
      | [v0, v1, v2], _ =>
        rw [List.getElem?_eq_getElem (show 0 < xs.length by omega)] at g0
        rw [List.getElem?_eq_getElem (show 1 < xs.length by omega)] at g1
        rw [List.getElem?_eq_getElem (show 2 < xs.length by omega)] at g2
        obtain ⟨z0, q0, _, b0'⟩ := DataW.trod_int Tryz.underlying5 g0
        obtain ⟨z1, q1, _, b1'⟩ := DataW.trod_int Tryz.underlying3 g1
        obtain ⟨z2, q2, _, b2'⟩ := DataW.trod_string Tryz.underlying9 g2
        simp at q0 q1 q2
        have c0 := hcell 0 (by omega)
        have c1 := hcell 1 (by omega)
        have c2 := hcell 2 (by omega)
        refine ⟨⟨z0, z1, z2⟩, ?_, ?_, ?_, ?_⟩
        · have h0 : 0 ≤ z0 ∧ z0 ≤ 255 := by simpa [Lit.wf, IntKind.min, IntKind.max, IntKind.signed, IntKind.bits] using b0'
          have h1 : -9223372036854775808 ≤ z1 ∧ z1 ≤ 9223372036854775807 := by simpa [Lit.wf, IntKind.min, IntKind.max, IntKind.signed, IntKind.bits] using b1'
          unfold maxLen at b2'
          exact ⟨h0.1, h0.2, h1.1, h1.2, by omega⟩
        · simpa [q0] using c0
        · simpa [q1] using c1
        · simpa [q2] using c2
    by_cases hn0 : n = 0
    · subst hn0
      exact ⟨_, _, _, [], rfl, rfl, by omega, .inl rfl, fun x hx => by cases hx⟩
    · obtain ⟨q, hq⟩ := choose_lt each
      obtain ⟨b, off, spot⟩ := a
      have hspot : spot = none := by simpa [Addr.add] using World.cell?_spot (hq 0 (by omega)).2.1
      subst hspot
      have hbl : b < W.heap.size := by simpa [Addr.add] using cell_block (hq 0 (by omega)).2.1
      refine ⟨_, _, _, (List.range n).map q, rfl, by simp, by omega, row_of_gets W b off hbl n q (fun j hj i u hu => ?_), fun x hx => by
        obtain ⟨j, hj, rfl⟩ := List.mem_map.1 hx
        exact (hq j (List.mem_range.1 hj)).1⟩
      obtain ⟨_, c0, c1, c2⟩ := hq j hj
      rw [add_lit'] at c0 c1 c2
      rw [add_lit'] at c0 c1 c2
      match i, hu with
      | 0, hu => simp [encA] at hu; subst hu; simpa using c0
      | 1, hu => simp [encA] at hu; subst hu; simpa using c1
      | 2, hu => simp [encA] at hu; subst hu; simpa using c2
      | i + 3, hu => simp [encA] at hu

theorem open_rowR (ht : Tryz.prog.underlying t = some (.slice 78))
    (hv : Value.okWide Tryz.prog W .any base t v) (h : DataW.Trod enc Tryz.prog W 0 (fun _ => true) true t v d ps) :
    ∃ p n cap, ∃ l : List Atom, v = .slice p n cap ∧ IsRow encA 3 W p n cap l ∧ ∀ x ∈ l, okAt x := by
  obtain ⟨p, n, cap, l, rfl, h1, h2, h3, h6⟩ := open_atomsR ht hv h
  obtain ⟨h4, h5⟩ := slice_shape ht h
  exact ⟨p, n, cap, l, rfl, ⟨h1, h2, h4, h5, h3⟩, h6⟩
end Go.Proofs.YtdlbjngpohkglaaGreatDoor
end
