/- Part 13 of the texts: IntSort, Eff21, Own0. -/
import Derived.Test.YtdlbjngpohkglaaGreatDoorG07
import Derived.Test.YtdlbjngpohkglaaGreatDoorG10
import Derived.Test.YtdlbjngpohkglaaGreatDoorG12
import Derived.Test.YtdlbjngpohkglaaGreatDoorG11
import Derived.Deep.AppendSrc
section
set_option linter.unusedVariables false
set_option maxRecDepth 100000
set_option linter.unusedSimpArgs false
namespace Go.Proofs.YtdlbjngpohkglaaGreatDoor
open Go.RowKit Go.Sort Go.Lib

theorem flatN (l : List Int) : l.flatMap encN = l.map (Value.int .i64) := by
  induction l with
  | nil => rfl
  | cons a l ih => rw [List.flatMap_cons, ih]; rfl
theorem holds_ints {w : World} {g : Nat} {cur : Array Value} {e : TypeId} {ss : List Int} (hb : w.heap[g]? = some (.cells cur e (0, 0))) (ht : cur.toList.take ss.length = ss.map (Value.int .i64)) : Holds (Value.int .i64) w g 0 ss.toArray := by
  intro j hj
  have hj' : j < ss.length := by simpa using hj
  refine ⟨?_, by simp [World.frozen?, hb]⟩
  have h1 : (cur.toList.take ss.length)[j]? = (ss.map (Value.int .i64))[j]? := by rw [ht]
  rw [List.getElem?_take_of_lt hj'] at h1
  simp only [World.cell?, hb, Nat.zero_add]
  simp only [Option.isSome_none, Bool.false_eq_true, if_false]
  rw [← Array.getElem?_toList, h1]
  simp [hj']
theorem take_putInts (cur : Array Value) (ts : List Int) (h : ts.length ≤ cur.size) : (putCells (Value.int .i64) 0 ts.toArray cur).toList.take ts.length = ts.map (Value.int .i64) := by
  apply List.ext_getElem?
  intro j
  by_cases hj : j < ts.length
  · rw [List.getElem?_take_of_lt hj, Array.getElem?_toList]
    simp [putCells, hj, show j < cur.size by omega]
  · rw [List.getElem?_take_eq_none (by omega), List.getElem?_eq_none (by simp; omega)]
theorem heap_putInts {w : World} {g n : Nat} {os : Array Obj} {cur : Array Value} {e : TypeId} {fr : Nat × Nat} (d : Array Int) (hb : w.heap[g]? = some (.cells cur e fr)) :
    (grow (putRow (Value.int .i64) (Sort.ahead w n) g 0 d) os).heap[g]? = some (.cells (putCells (Value.int .i64) 0 d cur) e fr) := by
  have hg : g < w.heap.size := (Array.getElem?_eq_some_iff.1 hb).1
  rw [heap_grow_old _ _ (by simpa using hg)]
  simp [putRow, mapBlock, Sort.ahead, Array.getElem?_modify, hb, onCells]
theorem grownBy_putInts {w : World} {g n : Nat} {os : Array Obj} (d : Array Int) : w.grownBy (grow (putRow (Value.int .i64) (Sort.ahead w n) g 0 d) os) (some g) := by
  refine ⟨rfl, rfl, rfl, by simp, fun k hk hne => ?_⟩
  rw [heap_grow_old _ _ (by simpa using hk)]
  have : g ≠ k := fun e => hne (by rw [e])
  simp [putRow, mapBlock, Sort.ahead, Array.getElem?_modify, this]
theorem OwnE.holdsN {w : World} {base e n g cap : Nat} {l : List Int} (h : OwnE encN 1 w base e (.slice (some ⟨g, 0, none⟩) n cap) n l) : Holds (Value.int .i64) w g 0 l.toArray ∧ g < w.heap.size := by
  have hln := h.len encN_len (by omega)
  rcases h.2 with ⟨h0, _⟩ | ⟨g', cap', cur, hv, hb, hg, hn, hm, hs, ht⟩
  · cases h0
  · cases hv
    refine ⟨holds_ints hg ?_, (Array.getElem?_eq_some_iff.1 hg).1⟩
    rw [← flatN, hln]; simpa using ht
theorem OwnE.putN {w : World} {base e n g cap : Nat} {l l' : List Int} (h : OwnE encN 1 w base e (.slice (some ⟨g, 0, none⟩) n cap) n l) (hl : l'.length = l.length) (m : Nat) (os : Array Obj) :
    OwnE encN 1 (grow (putRow (Value.int .i64) (Sort.ahead w m) g 0 l'.toArray) os) base e (.slice (some ⟨g, 0, none⟩) n cap) n l' ∧ w.grownBy (grow (putRow (Value.int .i64) (Sort.ahead w m) g 0 l'.toArray) os) (some g) := by
  have hln := h.len encN_len (by omega)
  rcases h.2 with ⟨h0, _⟩ | ⟨g', cap', cur, hv, hb, hg, hn, hm, hs, ht⟩
  · cases h0
  · cases hv
    refine ⟨⟨by rw [flatN]; simp [hl, hln], .inr ⟨g, cap, _, rfl, hb, heap_putInts _ hg, hn, hm, by simp [putCells, hs], ?_⟩⟩, grownBy_putInts _⟩
    rw [flatN, Nat.mul_one, ← hln, ← hl]
    exact take_putInts cur l' (by rw [hl, hln, hs]; omega)
theorem grow_empty (w : World) : grow w #[] = w := by simp [grow]

theorem rising_compactI {d : Array Int} (h : ∀ i j, i < j → j < d.size → ltI d[j]! d[i]! = false) : ∀ m, m ≤ d.size → Rising ltI (compactUpTo d m)
  | 0, _ => by simp [compactUpTo, Rising]
  | m + 1, hm => by
    rw [compactUpTo_succ]
    by_cases c : keeps d m = true
    · rw [if_pos c]
      refine List.pairwise_append.2 ⟨rising_compactI h m (by omega), by simp, ?_⟩
      intro x hx y hy
      obtain ⟨j, hj, rfl⟩ := (mem_compactUpTo d x m).1 hx
      have : y = d[m]! := by simpa using hy
      subst this
      have hc : m = 0 ∨ d[m]! ≠ d[m - 1]! := by simpa [keeps] using c
      have hne : d[m]! ≠ d[m - 1]! := hc.resolve_left (by omega)
      have h1 := h (m - 1) m (by omega) (by omega)
      have h2 : j = m - 1 ∨ ltI d[m - 1]! d[j]! = false := by
        by_cases e : j = m - 1
        · exact .inl e
        · exact .inr (h j (m - 1) (by omega) (by omega))
      unfold ltI at h1 h2 ⊢
      simp only [decide_eq_true_eq, decide_eq_false_iff_not] at h1 h2 ⊢
      rcases h2 with e | h2
      · rw [e]; omega
      · omega
    · rw [if_neg c, List.append_nil]; exact rising_compactI h m (by omega)
abbrev msortI (l : List Int) : List Int := l.mergeSort fun x y => decide (x ≤ y)
theorem msortI_nofall (l : List Int) : (msortI l).Pairwise (fun a b => ltI b a = false) := by
  have := List.pairwise_mergeSort (le := fun x y : Int => decide (x ≤ y)) (fun a b c h1 h2 => by simp at *; omega) (fun a b => by simp; omega) l
  refine this.imp ?_
  intro a b h
  unfold ltI
  simp at h ⊢; omega
theorem compact_msortI (l : List Int) : compact (msortI l) = sortI l := by
  refine eq_sortI ?_ ?_
  · unfold compact
    refine rising_compactI ?_ _ (by simp)
    intro i j hij hj
    have hj' : j < (msortI l).length := by simpa using hj
    rw [getElem!_pos _ j hj, getElem!_pos _ i (by omega)]
    simpa using List.pairwise_iff_getElem.1 (msortI_nofall l) i j (by omega) hj' hij
  · intro a
    unfold compact
    rw [mem_compactUpTo]
    constructor
    · rintro ⟨j, hj, rfl⟩
      rw [getElem!_pos _ j (by simpa using hj)]
      exact List.mem_mergeSort.1 (List.getElem_mem (l := msortI l) (by simpa using hj))
    · intro ha
      have : a ∈ msortI l := by simpa [msortI] using ha
      obtain ⟨j, hj, e⟩ := List.getElem_of_mem this
      exact ⟨j, hj, by rw [getElem!_pos _ j (by simpa using hj)]; simpa using e⟩

theorem sortN_any (g cap n : Nat) (l : List Int) (base : Nat) (w : World) (h : OwnE encN 1 w base 3 (.slice (some ⟨g, 0, none⟩) n cap) n l) (hn : n ≤ 1000000000) :
    Calls Tryz.prog 106 #[.slice (some ⟨g, 0, none⟩) n cap] w fun e w' => e = .returned (.tuple #[]) ∧ OwnE encN 1 w' base 3 (.slice (some ⟨g, 0, none⟩) n cap) n (msortI l) ∧ w.grownBy w' (some g) := by
  obtain ⟨hH, hb⟩ := h.holdsN
  have hln := h.len encN_len (by omega)
  have := Tryz.slices_Sort_int g 0 cap l w hH hb (by omega)
  rw [hln] at this
  refine this.mono ?_
  rintro e w' ⟨he, m, os, rfl⟩
  obtain ⟨h1, h2⟩ := h.putN (l' := msortI l) (by simp) m os
  exact ⟨he, h1, h2⟩
theorem compactN_any (g cap n : Nat) (l : List Int) (base : Nat) (w : World) (h : OwnE encN 1 w base 3 (.slice (some ⟨g, 0, none⟩) n cap) n l) (hcap : n ≤ cap) (hn : n ≤ 1000000000) :
    Calls Tryz.prog 90 #[.slice (some ⟨g, 0, none⟩) n cap] w fun e w' =>
      ∃ m, e = .returned (.slice (some ⟨g, 0, none⟩) m cap) ∧ m ≤ n ∧ OwnE encN 1 w' base 3 (.slice (some ⟨g, 0, none⟩) m cap) m (compact l) ∧ w.grownBy w' (some g) := by
  obtain ⟨hH, hb⟩ := h.holdsN
  have hln := h.len encN_len (by omega)
  have := Tryz.slices_Compact_int g 0 cap l w hH (by omega) (by omega)
  rw [hln] at this
  have hle : (compact l).length ≤ n := by
    rw [← hln]
    exact compact_length_le l
  refine this.mono ?_
  rintro e w' ⟨he, q, rfl⟩
  obtain ⟨h1, h2⟩ := h.putN (l' := compact l ++ List.replicate (n - (compact l).length) 0) (by simp; omega) q #[]
  rw [grow_empty] at h1 h2
  refine ⟨(compact l).length, he, hle, ?_, h2⟩
  have h3 := OwnE.cut (m := (compact l).length) encN_len h1 (by simp; omega) hle
  rw [List.take_append_of_le_length (Nat.le_refl _), List.take_length] at h3
  exact h3
end Go.Proofs.YtdlbjngpohkglaaGreatDoor
end
section
set_option linter.unusedVariables false
set_option maxRecDepth 100000
set_option linter.unusedSimpArgs false
namespace Go.Proofs.YtdlbjngpohkglaaGreatDoor
open Go.RowKit Go.Sort Go.Lib

/-- the result is a row -/
def IsOut {α : Type} (enc : α → List Value) (k : Nat) (w : World) (e : Ending) (l : List α) : Prop := ∃ p n c, e = .returned (.slice p n c) ∧ IsRow enc k w p n c l
theorem IsOut.mk {α : Type} {enc : α → List Value} {k : Nat} {w : World} {p : Option Addr} {n c : Nat} {l : List α} (h : IsRow enc k w p n c l) : IsOut enc k w (.returned (.slice p n c)) l := ⟨p, n, c, rfl, h⟩

theorem ref_put_row {p : Option Addr} {n cap : Nat} {l : List Atom} {w : World} (hr : IsRow encA 3 w p n cap l) (hm : n ≤ 1000000) (a : Atom) :
    Calls Tryz.prog 63 #[.slice p n cap, .agg #[.int .u8 a.kind, .int .i64 a.rho, .string a.exn]] w fun e w' => IsOut encA 3 w' e (putA a l) ∧ Below w.heap.size w w' := by
  by_cases ha : atomB a = true
  · by_cases hi : inA l a = true
    · have hp : Hid (putA a l = l) := by show putA a l = l; simp [putA, ha, hi]
      have HR := Lib.hid hr
      clear hr
      go_enter Tryz.func63, Tryz.ntmps63
      go_wp2_with fail
      refine (ref_Atom_any a _).mono ?_
      rintro e w1 ⟨rfl, hb⟩
      have H1 : Hid (Below w.heap.size w w1) := ((Below.refl _ w).alloc (Nat.le_refl _) _).trans (hb.mono (by simp))
      have c0 : w1.cell? ⟨w.heap.size, 0, none⟩ = some (.int .u8 a.kind) := by rw [hb.cell (by simp), cell_new]; rfl
      have c1 : w1.cell? ⟨w.heap.size, 1, none⟩ = some (.int .i64 a.rho) := by rw [hb.cell (by simp), cell_new]; rfl
      have c2 : w1.cell? ⟨w.heap.size, 2, none⟩ = some (.string a.exn) := by rw [hb.cell (by simp), cell_new]; rfl
      rw [ha]
      clear hb ha
      go_wp2_with fail
      refine (ref_In_any p n cap l a w1 HR.out.len (by omega) (HR.out.below H1.out).row).mono ?_
      rintro e w2 ⟨rfl, hb⟩
      have H2 := Lib.hid (H1.out.trans (hb.mono H1.out.size))
      rw [hi]
      clear hb hi
      go_wp2_with fail
      go_ret
      exact ⟨by rw [hp.out]; exact IsOut.mk (HR.out.below H2.out), H2.out⟩
    · have hi' : inA l a = false := by simpa using hi
      refine (ref_put_main p n cap l a w hr.len hm hr.row ha hi').mono ?_
      rintro e w' ⟨v, he, ho, hb⟩
      obtain ⟨p', c', rfl, hrow⟩ := ho.isRow encA_len (by omega)
      exact ⟨by rw [he, show putA a l = putPos a l from by simp [putA, ha, hi']]; exact IsOut.mk hrow, hb⟩
  · have ha' : atomB a = false := by simpa using ha
    have hp : Hid (putA a l = l) := by show putA a l = l; simp [putA, ha']
    have HR := Lib.hid hr
    clear hr
    clear ha
    go_enter Tryz.func63, Tryz.ntmps63
    go_wp2_with fail
    refine (ref_Atom_any a _).mono ?_
    rintro e w1 ⟨rfl, hb⟩
    have H1 : Hid (Below w.heap.size w w1) := ((Below.refl _ w).alloc (Nat.le_refl _) _).trans (hb.mono (by simp))
    rw [ha']
    clear hb ha'
    go_wp2_with fail
    go_ret
    exact ⟨by rw [hp.out]; exact IsOut.mk (HR.out.below H1.out), H1.out⟩

/-- an empty literal, as a row -/
theorem isRow_lit {α : Type} (enc : α → List Value) (k : Nat) (w : World) (t : TypeId) : IsRow enc k (w.alloc (.cells #[] t)) (some ⟨w.heap.size, 0, none⟩) 0 0 [] := ⟨rfl, by omega, by omega, (fun h => by cases h), .inl rfl⟩

theorem ref_Of_row {p : Option Addr} {n cap : Nat} {l : List Atom} {w : World} (hr : IsRow encA 3 w p n cap l) (hm : n ≤ 1000000) :
    Calls Tryz.prog 49 #[.slice p n cap] w fun e w' => IsOut encA 3 w' e (effL l) ∧ Below w.heap.size w w' := by
  have HE0 := Lib.hid (refOf_eq l)
  have HR := Lib.hid hr
  clear hr
  go_enter Tryz.func49, Tryz.ntmps49
  go_wp2_with fail
  go_loopw [3, 8] (fun u i wr => ∃ (k : Nat) (q : Option Addr) (m mc : Nat), k ≤ n ∧ i = .int .i64 k ∧ u = .slice q m mc ∧ m ≤ k ∧ IsRow encA 3 wr q m mc (refOf (l.take k)) ∧ Below w.heap.size w wr) (fun _ i _ => n - (intOf i).toNat)
  case atStart => exact ⟨0, _, _, _, by omega, rfl, rfl, by omega, isRow_lit _ _ _ _, (Below.refl _ _).alloc (Nat.le_refl _) _⟩
  case round =>
    obtain ⟨k, q, m, mc, hk, rfl, rfl, hmk, hrow, hb⟩ := hrel
    have HROW := Lib.hid hrow
    have HB := Lib.hid hb
    clear hrow hb
    by_cases hlt : k < n
    · obtain ⟨x, hx⟩ := get_of_lt (l := l) (j := k) (by rw [HR.out.len]; exact hlt)
      have HE := Lib.hid hx
      obtain ⟨b, o, rfl, hbl, d0, d1, d2⟩ := RowA.atom (HR.out.below HB.out).row hx
      clear hx hbl
      go_wp2_with fail
      refine (ref_put_row HROW.out (by omega) x).mono ?_
      rintro e w1 ⟨⟨q', m', mc', rfl, hr'⟩, hb⟩
      have HB1 := Lib.hid (HB.out.trans (hb.mono HB.out.size))
      have hm' : m' ≤ k + 1 := by have h1 := putA_length x (refOf (l.take k)); have h2 := hr'.len; have h3 := HROW.out.len; omega
      have HR' := Lib.hid hr'
      clear hb d0 d1 d2 hr'
      go_wp2_with fail
      go_roundw
      case rel => exact ⟨k + 1, q', m', mc', by omega, by go_num, rfl, hm', by rw [take_succ_get HE.out, refOf_snoc]; exact HR'.out, HB1.out⟩
      case measure => simp [intOf]; omega
    · have hkn : k = n := by omega
      subst hkn
      go_wp2_with fail
      go_ret
      have h2 := HROW.out
      rw [take_full (by rw [HR.out.len]; omega), HE0.out] at h2
      exact ⟨IsOut.mk h2, HB.out⟩
theorem effL_length (l : List Atom) : (effL l).length ≤ l.length := by
  have := refOf_length l
  rw [refOf_eq] at this; exact this


/-- filtered after or before -/
theorem filter_effL (q : Atom → Bool) (l : List Atom) : (effL l).filter q = effL (l.filter q) := by
  refine eq_sortA ?_ (fun x => ?_)
  · exact List.Pairwise.filter _ (rising_sortA _)
  · simp only [List.mem_filter, mem_sortA]
    constructor
    · rintro ⟨⟨h1, h2⟩, h3⟩; exact ⟨⟨h1, h3⟩, h2⟩
    · rintro ⟨⟨h1, h3⟩, h2⟩; exact ⟨⟨h1, h2⟩, h3⟩


end Go.Proofs.YtdlbjngpohkglaaGreatDoor
end
section
set_option linter.unusedVariables false
set_option maxRecDepth 100000
set_option linter.unusedSimpArgs false
namespace Go.Proofs.YtdlbjngpohkglaaGreatDoor
open Go.RowKit

/-- a row of the call's own, or an empty one without room -/
def Own0 {α : Type} (enc : α → List Value) (k : Nat) (w : World) (base : Nat) (e : TypeId) (v : Value) (n : Nat) (l : List α) : Prop := OwnE enc k w base e v n l ∨ ∃ p, v = .slice p 0 0 ∧ n = 0 ∧ l = []
section
variable {α : Type} {enc : α → List Value} {k : Nat} {w w' : World} {base base' e n : Nat} {v : Value} {l : List α}
theorem OwnE.z (h : OwnE enc k w base e v n l) : Own0 enc k w base e v n l := .inl h
theorem Own0.lit (enc : α → List Value) (k : Nat) (w : World) (base : Nat) (e : TypeId) (p : Option Addr) : Own0 enc k w base e (.slice p 0 0) 0 [] := .inr ⟨p, rfl, rfl, rfl⟩
theorem Own0.below (h : Own0 enc k w base e v n l) (hb : Below w.heap.size w w') : Own0 enc k w' base e v n l := h.elim (fun h => .inl (h.below hb)) .inr
theorem Own0.lower (h : Own0 enc k w base e v n l) (hb : base' ≤ base) : Own0 enc k w base' e v n l := h.elim (fun h => .inl (h.lower hb)) .inr
theorem Own0.drewN (h : Own0 enc k w base e v n l) (m : Nat) : Own0 enc k (w.drewN m) base e v n l := h
theorem Own0.isRow (h : Own0 enc k w base e v n l) (hk : ∀ x, (enc x).length = k) (hk0 : 0 < k) : ∃ p cap, v = .slice p n cap ∧ l.length = n ∧ n ≤ cap ∧ RowE enc k w p l ∧ cap ≤ maxLen ∧ (p = none → cap = 0) := by
  rcases h with h | ⟨p, rfl, rfl, rfl⟩
  · obtain ⟨p, cap, hv, hl, hc, hr, hm, hn, _⟩ := h.row hk hk0
    exact ⟨p, cap, hv, hl, hc, hr, hm, fun e => (hn e).2⟩
  · exact ⟨p, 0, rfl, rfl, by omega, .inl rfl, by unfold maxLen; omega, fun _ => rfl⟩
theorem Own0.len (h : Own0 enc k w base e v n l) (hk : ∀ x, (enc x).length = k) (hk0 : 0 < k) : l.length = n := by
  obtain ⟨_, _, _, h, _⟩ := h.isRow hk hk0; exact h
end
/-- what stays behind an append -/
def Keeps (B : Nat) (w w' : World) : Prop := ∀ B0 w0, B0 ≤ B → B0 ≤ w.heap.size → Below B0 w0 w → Below B0 w0 w'

/-- an append of a row, nil or not -/
theorem wpList_append0 {P : Program} {α : Type} {ops : Array Oper} {rest : List Oper} {o : Oper} {a : Act} {Q : Exit → Act → World → Prop} (hgd : o.guard = none) (s x : Operand) (t : TypeId)
    (ho : o.op = .call { callee := .builtin .append, args := #[s, x], argTypes := #[t, t] })
    (base : Nat) (e : TypeId) (z : Value) (k bytes : Nat) (ht : P.underlying t = some (.slice e)) (hinfo : (P.info? e).map (fun i => (i.zero, i.size, i.bytes)) = some (some z, k, bytes))
    (hzs : z.cells.size = k) (hsz : 0 < k)
    (enc : α → List Value) (hk : ∀ x, (enc x).length = k) (h1 : ∀ y, ∀ u ∈ enc y, u.oneCell' = true) (l' l : List α) (n : Nat) {w : World} (v : Value) (hown : Own0 enc k w base e v n l)
    (p : Option Addr) (m c : Nat) (hs : a.eval s = v) (hx : a.eval x = .slice p m c) (hl : l'.length = m) (hp : p = none → c = 0) (hr : RowE enc k w p l')
    (hbytes : (n + m) * bytes ≤ 140737488355328) (h63 : n + m ≤ 9223372036854775807) (hbase : base ≤ w.heap.size)
    (h : ∀ v' w', Own0 enc k w' base e v' (n + m) (l ++ l') → Keeps base w w' → wpList P ops Q rest (a.put o.dst v') w') :
    wpList P ops Q (o :: rest) a w := by
  rcases hown with hown | ⟨q, rfl, rfl, rfl⟩
  · refine wpList_appendR hgd s x t ho base e z k bytes ht hinfo hzs hsz enc hk h1 l' l n v hown p m c hs hx hl hp hr hbytes h63 hbase (fun v' w' ho' hg => h v' w' ho'.z ?_)
    intro B0 w0 hB hB' hb
    exact hb.grown hg hB' (fun g hg' => Nat.le_trans hB (World.ownsRow.lt hown g hg').1)
  · rcases q with _ | ad
    · refine wpList_appendR hgd s x t ho base e z k bytes ht hinfo hzs hsz enc hk h1 l' [] 0 _ (OwnE.nil enc w base e k) p m c hs hx hl hp hr hbytes h63 hbase (fun v' w' ho' hg => h v' w' ho'.z ?_)
      intro B0 w0 hB hB' hb
      exact hb.grown hg hB' (fun g hg' => by cases hg')
    · obtain ⟨i, hi, hz, hsize, hby⟩ := info_parts hinfo
      rcases Nat.eq_zero_or_pos m with hm0 | hm0
      · subst hm0
        have hl0 : l' = [] := List.length_eq_zero_iff.1 hl
        subst hl0
        have hsrc : Src P i.size t (.slice p 0 c) 0 [] w := by
          rcases p with _ | b
          · exact Src.ofNil w ht c
          · exact Src.ofSlice w ht b 0 c [] (by simp) (by simp) (by simp)
        have hst := run_storeCells_cells (P := P) ad.block (ad.off) [] 0 w (by simp) (by simp) (by simp)
        have hrun : (Builtin.append_ #[t, t] o.type #[.slice (some ad) 0 0, .slice p 0 c]).run P w = .ok (.slice (some ad) 0 0) w := by
          rcases hsrc.kind with ⟨e', hk'⟩ | hk' <;> simp [Builtin.append_, run_underlying ht, sizeOf, typeInfo, hi, hsrc.len, hsrc.cells, storeCells]
        exact Lib.wpList_append_run w hgd s x t t ho _ _ hs hx _ _ hrun (h _ _ (.inr ⟨_, rfl, rfl, by simp⟩) (fun _ _ _ _ hb => hb))
      · have hcells : ∀ b, p = some b → ∀ j u, (l'.flatMap enc)[j]? = some u → w.cell? (b.add j) = some u := by
          intro ad' had j u hj
          rcases hr with h0 | ⟨b, o', hb, hlt, hc⟩
          · subst h0; simp at hj
          · rw [had] at hb
            cases hb
            have hjl : j < l'.length * k := by rw [← flat_length hk]; exact get_lt hj
            have hq : j / k < l'.length := Nat.div_lt_of_lt_mul (by rw [Nat.mul_comm]; exact hjl)
            have hm : j % k < k := Nat.mod_lt _ hsz
            have hf := flat_get hk l' (j / k) _ (j % k) (List.getElem?_eq_getElem hq) hm
            rw [Nat.div_add_mod' j k, hj] at hf
            have := hc (j / k) _ (List.getElem?_eq_getElem hq) (j % k) u hf.symm
            rw [add_lit', ← Nat.div_add_mod' j k, ← Nat.add_assoc]
            exact this
        have hone : ∀ u ∈ l'.flatMap enc, u.oneCell' = true := by
          intro u hu
          rw [List.mem_flatMap] at hu
          obtain ⟨y, _, hu⟩ := hu
          exact h1 y u hu
        rcases p with _ | b
        · rcases hr with h0 | ⟨_, _, hb, _⟩
          · subst h0; simp at hl; omega
          · cases hb
        · have hsrc : Src P i.size t (.slice (some b) m c) m (l'.flatMap enc) w := Src.ofSlice w ht b m c _ (by rw [flat_length hk, hl, hsize]) (hcells b rfl) hone
          have hrun := run_append_grow_src (P := P) (w := w) t t o.type e i z ht hi hz (some ad) 0 0 [] (by exact run_firstCells_some w.drew i.size 0 ad 0 0 [] (by simp) (by simp)) _ m _ hsrc (by omega) (by omega)
            (growslice_fits (by omega) (by rw [hby]; exact hbytes))
          rw [Nat.zero_add] at hrun
          have hge := grownCap_ge w m 0 e
          have hle := grownCap_le_maxLen w m 0 e (by unfold maxLen; omega)
          refine Lib.wpList_append_run w hgd s x t t ho _ _ hs hx _ _ hrun (h _ _ (.inl ?_) ?_)
          · rw [Nat.zero_add]
            refine ⟨by rw [List.nil_append, flat_length hk, hl], .inr ⟨_, _, _, rfl, by simpa using hbase, heap_alloc_new w.drew _, hge, hle, ?_, ?_⟩⟩
            · simp only [List.nil_append, Array.size_append, List.size_toArray, size_zeroCells, flat_length hk, hl, hzs]
              rw [← Nat.add_mul]; congr 1; omega
            · simp only [List.nil_append, Array.toList_append]
              rw [List.take_append_of_le_length (by simp [flat_length hk, hl]), List.take_of_length_le (by simp [flat_length hk, hl])]
          · intro B0 w0 hB hB' hb
            exact hb.drew.alloc hB' _

/-- an append of one element -/
theorem wpList_append01 {P : Program} {α : Type} {ops : Array Oper} {rest : List Oper} {o : Oper} {a : Act} {Q : Exit → Act → World → Prop} (hgd : o.guard = none) (s x : Operand) (t : TypeId)
    (ho : o.op = .call { callee := .builtin .append, args := #[s, x], argTypes := #[t, t] })
    (base : Nat) (e : TypeId) (z : Value) (k bytes : Nat) (ht : P.underlying t = some (.slice e)) (hinfo : (P.info? e).map (fun i => (i.zero, i.size, i.bytes)) = some (some z, k, bytes))
    (hzs : z.cells.size = k) (hsz : 0 < k)
    (enc : α → List Value) (hk : ∀ x, (enc x).length = k) (h1 : ∀ y, ∀ u ∈ enc y, u.oneCell' = true) (y : α) (l : List α) (n : Nat) {w : World} (v : Value) (hown : Own0 enc k w base e v n l)
    (hs : a.eval s = v) (hx : a.eval x = .slice (some ⟨w.heap.size, 0, none⟩) 1 1)
    (hbytes : (n + 1) * bytes ≤ 140737488355328) (h63 : n + 1 ≤ 9223372036854775807) (hbase : base ≤ w.heap.size)
    (h : ∀ v' w', Own0 enc k w' base e v' (n + 1) (l ++ [y]) → Keeps base w w' → wpList P ops Q rest (a.put o.dst v') w') :
    wpList P ops Q (o :: rest) a (w.alloc (.cells (enc y).toArray e)) := by
  refine wpList_append0 hgd s x t ho base e z k bytes ht hinfo hzs hsz enc hk h1 [y] l n v (hown.below ((Below.refl _ _).alloc (Nat.le_refl _) _)) _ 1 1 hs hx rfl (fun h => by cases h) ?_ hbytes h63 (by simp; omega) ?_
  · exact RowE.newAt hk w [y] _ (by simp) _ _ _ rfl
  · intro v' w' ho' hk'
    exact h v' w' ho' (fun B0 w0 hB hB' hb => hk' B0 w0 hB (by simp; omega) (hb.alloc hB' _))
end Go.Proofs.YtdlbjngpohkglaaGreatDoor
end
