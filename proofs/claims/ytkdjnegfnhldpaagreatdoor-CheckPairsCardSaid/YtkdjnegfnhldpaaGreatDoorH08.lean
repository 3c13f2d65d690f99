/- Part 8: Facts, Sets, IntSort, Eff21, Own0, Eff22, OpenA, OpenB, OpenC, OpenG. -/
import Derived.Test.YtkdjnegfnhldpaaGreatDoorH07
import Derived.Test.YtkdjnegfnhldpaaGreatDoorH03
import Derived.Test.YtkdjnegfnhldpaaGreatDoorH06
import Derived.Test.YtkdjnegfnhldpaaGreatDoorH04
import Derived.Deep.AppendSrc
import Derived.ProofKit
import Derived.OpenShut
import Derived.Deep.Slices
import Derived.Deep.SlicePairs
import Derived.Lib.SmallJoins
import Derived.ChangeOld
set_option linter.unusedVariables false
set_option maxRecDepth 100000
set_option linter.unusedSimpArgs false
namespace Go.Proofs.YtkdjnegfnhldpaaGreatDoor
open Go.Lib (hid)
section
open Go.RowKit Go.Sort Go.Lib
theorem withinB_iff (a b : List Atom) : withinB a b = true ↔ ∀ x ∈ a, atomB x = true → x ∈ b := by
  unfold withinB
  rw [List.all_eq_true]
  constructor
  · intro h x hx ha
    have := h x hx
    rw [ha] at this
    exact (inA_iff b x).1 (by simpa using this)
  · intro h x hx
    cases ha : atomB x
    · rfl
    · simp [(inA_iff b x).2 (h x hx ha)]
theorem withinB_refl (a : List Atom) : withinB a a = true := (withinB_iff a a).2 (fun x hx _ => hx)
theorem greatB_len {l : List Atom} (h : greatB l = false) : l.length ≤ 100 := by
  unfold greatB at h
  simp only [Bool.or_eq_false_iff, decide_eq_false_iff_not] at h
  have := h.1; omega
theorem two_rows {w : World} {p q : Option Addr} {n m nc mc : Nat} (l l' : List Atom) (t : TypeId) : RowE encSl 1 (w.alloc (.cells #[.slice p n nc, .slice q m mc] t)) (some ⟨w.heap.size, 0, none⟩) [⟨p, n, nc, l⟩, ⟨q, m, mc, l'⟩] :=
  RowE.newAt encSl_len w _ _ rfl _ _ _ rfl
theorem two_ok {w : World} {p q : Option Addr} {n m nc mc : Nat} {l l' : List Atom} (h : IsRow encA 3 w p n nc l) (h' : IsRow encA 3 w q m mc l') : ∀ r ∈ [(⟨p, n, nc, l⟩ : SlE Atom), ⟨q, m, mc, l'⟩], r.Ok encA 3 w := by
  intro r hr
  simp only [List.mem_cons, List.not_mem_nil, or_false] at hr
  rcases hr with rfl | rfl
  · exact ⟨h.len, h.le, h.nil, h.row⟩
  · exact ⟨h'.len, h'.le, h'.nil, h'.row⟩
theorem mem_withoutL (l : List Atom) (rhos : List Int) (x : Atom) : x ∈ withoutL l rhos ↔ x ∈ l ∧ atomB x = true ∧ goesR rhos x = false := by
  unfold withoutL
  rw [List.mem_filter, mem_sortA, List.mem_filter]
  simp [and_assoc]
theorem mem_handledL (l : List Atom) (exns : List ByteArray) (x : Atom) : x ∈ handledL l exns ↔ x ∈ l ∧ atomB x = true ∧ goesX exns x = false := by
  unfold handledL
  rw [List.mem_filter, mem_sortA, List.mem_filter]
  simp [and_assoc]
abbrev effL (l : List Atom) : List Atom := sortA (l.filter atomB)
theorem one_row {w : World} {p : Option Addr} {n nc : Nat} (l : List Atom) (t : TypeId) : RowE encSl 1 (w.alloc (.cells #[.slice p n nc] t)) (some ⟨w.heap.size, 0, none⟩) [⟨p, n, nc, l⟩] :=
  RowE.newAt encSl_len w _ _ rfl _ _ _ rfl
theorem one_ok {w : World} {p : Option Addr} {n nc : Nat} {l : List Atom} (h : IsRow encA 3 w p n nc l) : ∀ r ∈ [(⟨p, n, nc, l⟩ : SlE Atom)], r.Ok encA 3 w := by
  intro r hr
  simp only [List.mem_cons, List.not_mem_nil, or_false] at hr
  subst hr
  exact ⟨h.len, h.le, h.nil, h.row⟩
end
section
open Go.RowKit
def putPosI (a : Int) : List Int → List Int
  | [] => [a]
  | b :: l => if ltI a b then a :: b :: l else b :: putPosI a l
def putI (a : Int) (e : List Int) : List Int := if inN e a then e else putPosI a e
theorem putPosI_length (a : Int) : ∀ l : List Int, (putPosI a l).length = l.length + 1
  | [] => rfl
  | b :: l => by
    simp only [putPosI]
    split
    · rfl
    · simp [putPosI_length a l]
theorem mem_putPosI (a x : Int) : ∀ l : List Int, x ∈ putPosI a l ↔ x = a ∨ x ∈ l
  | [] => by simp [putPosI]
  | b :: l => by
    unfold putPosI
    by_cases h : ltI a b = true
    · rw [if_pos h]; simp
    · rw [if_neg h, List.mem_cons, mem_putPosI a x l, List.mem_cons]
      constructor
      · rintro (h | h | h)
        · exact .inr (.inl h)
        · exact .inl h
        · exact .inr (.inr h)
      · rintro (h | h | h)
        · exact .inr (.inl h)
        · exact .inl h
        · exact .inr (.inr h)
theorem rising_putPosI (a : Int) : ∀ l : List Int, Rising ltI l → a ∉ l → Rising ltI (putPosI a l)
  | [], _, _ => by simp [putPosI, Rising]
  | b :: l, hr, hn => by
    obtain ⟨hb, hl⟩ := List.pairwise_cons.1 hr
    unfold putPosI
    by_cases h : ltI a b = true
    · rw [if_pos h]
      refine List.pairwise_cons.2 ⟨fun x hx => ?_, hr⟩
      rcases List.mem_cons.1 hx with rfl | hx
      · exact h
      · exact ltI_trans _ _ _ h (hb x hx)
    · rw [if_neg h]
      refine List.pairwise_cons.2 ⟨fun x hx => ?_, rising_putPosI a l hl (fun h => hn (List.mem_cons_of_mem _ h))⟩
      rcases (mem_putPosI a x l).1 hx with rfl | hx
      · cases e : ltI b x with
        | true => rfl
        | false => exact absurd (List.mem_cons.2 (.inl (ltI_tri _ _ (by simpa using h) e))) hn
      · exact hb x hx
theorem inN_mem' (l : List Int) (x : Int) : inN l x = true ↔ x ∈ l := by
  unfold inN
  rw [List.any_eq_true]
  constructor
  · rintro ⟨y, hy, h⟩
    have : y = x := by simpa using h
    subst this; exact hy
  · intro h
    exact ⟨x, h, by simp⟩
theorem mem_putI (a x : Int) (l : List Int) : x ∈ putI a l ↔ x = a ∨ x ∈ l := by
  unfold putI
  by_cases h : inN l a = true
  · rw [if_pos h]
    constructor
    · exact .inr
    · rintro (rfl | h')
      · exact (inN_mem' _ _).1 h
      · exact h'
  · rw [if_neg h, mem_putPosI]
theorem rising_putI (a : Int) (l : List Int) (hr : Rising ltI l) : Rising ltI (putI a l) := by
  unfold putI
  by_cases h : inN l a = true
  · rw [if_pos h]; exact hr
  · rw [if_neg h]; exact rising_putPosI a l hr (fun hm => h ((inN_mem' l a).2 hm))
theorem putI_length (a : Int) (l : List Int) : (putI a l).length ≤ l.length + 1 := by
  unfold putI; split
  · omega
  · rw [putPosI_length]; omega
theorem infoN : (Tryz.prog.info? 3).map (fun i => (i.zero, i.size, i.bytes)) = some (some (.int .i64 0), 1, 8) := by kernel_rfl
theorem encN_one (y : Int) : ∀ u ∈ encN y, u.oneCell' = true := by
  intro u hu
  simp [encN] at hu
  subst hu; rfl
theorem ref_Ints_of {p : Option Addr} {n cap : Nat} {l : List Int} {x : Int} {w : World} {r : Bool} (hq : inN l x = r) (h : IsRow encN 1 w p n cap l) :
    Calls Tryz.prog 21 #[.slice p n cap, .int .i64 x] w fun e w' => e = .returned (.bool r) ∧ w = w' := by
  subst hq; exact ref_Ints_any p n cap l x w h.len h.max h.row
theorem bytes_beq (a b : ByteArray) : (a.toList == b.toList) = decide (a = b) := by
  by_cases h : a = b
  · subst h; simp
  · rw [decide_eq_false h, beq_eq_false_iff_ne]
    exact fun e => h (toList_inj e)
end
section
open Go.RowKit Go.Sort Go.Lib
theorem flatN (l : List Int) : l.flatMap encN = l.map (Value.int .i64) := by
  induction l with
  | nil => rfl
  | cons a l ih => rw [List.flatMap_cons, ih]; rfl
theorem holds_ints {w : World} {g : Nat} {cur : Array Value} {e : TypeId} {ss : List Int} (hb : w.heap[g]? = some (.cells cur e (0, 0))) (ht : cur.toList.take ss.length = ss.map (Value.int .i64)) : Holds (Value.int .i64) w g 0 ss.toArray := by
  intro j hj
  have hj' : j < ss.length := by simpa using hj
  refine ⟨?_, by simp [World.frozen?, hb]⟩
  have h1 : (cur.toList.take ss.length)[j]? = (ss.map (Value.int .i64))[j]? := by rw [ht]
  rw [List.getElem?_take_of_lt hj'] at h1
  simp only [World.cell?, hb, Nat.zero_add]
  simp only [Option.isSome_none, Bool.false_eq_true, if_false]
  rw [← Array.getElem?_toList, h1]
  simp [hj']
theorem take_putInts (cur : Array Value) (ts : List Int) (h : ts.length ≤ cur.size) : (putCells (Value.int .i64) 0 ts.toArray cur).toList.take ts.length = ts.map (Value.int .i64) := by
  apply List.ext_getElem?
  intro j
  by_cases hj : j < ts.length
  · rw [List.getElem?_take_of_lt hj, Array.getElem?_toList]
    simp [putCells, hj, show j < cur.size by omega]
  · rw [List.getElem?_take_eq_none (by omega), List.getElem?_eq_none (by simp; omega)]
theorem heap_putInts {w : World} {g n : Nat} {os : Array Obj} {cur : Array Value} {e : TypeId} {fr : Nat × Nat} (d : Array Int) (hb : w.heap[g]? = some (.cells cur e fr)) :
    (grow (putRow (Value.int .i64) (Sort.ahead w n) g 0 d) os).heap[g]? = some (.cells (putCells (Value.int .i64) 0 d cur) e fr) := by
  have hg : g < w.heap.size := (Array.getElem?_eq_some_iff.1 hb).1
  rw [heap_grow_old _ _ (by simpa using hg)]
  simp [putRow, mapBlock, Sort.ahead, Array.getElem?_modify, hb, onCells]
theorem grownBy_putInts {w : World} {g n : Nat} {os : Array Obj} (d : Array Int) : w.grownBy (grow (putRow (Value.int .i64) (Sort.ahead w n) g 0 d) os) (some g) := by
  refine ⟨rfl, rfl, rfl, by simp, fun k hk hne => ?_⟩
  rw [heap_grow_old _ _ (by simpa using hk)]
  have : g ≠ k := fun e => hne (by rw [e])
  simp [putRow, mapBlock, Sort.ahead, Array.getElem?_modify, this]
theorem OwnE.holdsN {w : World} {base e n g cap : Nat} {l : List Int} (h : OwnE encN 1 w base e (.slice (some ⟨g, 0, none⟩) n cap) n l) : Holds (Value.int .i64) w g 0 l.toArray ∧ g < w.heap.size := by
  have hln := h.len encN_len (by omega)
  rcases h.2 with ⟨h0, _⟩ | ⟨g', cap', cur, hv, hb, hg, hn, hm, hs, ht⟩
  · cases h0
  · cases hv
    refine ⟨holds_ints hg ?_, (Array.getElem?_eq_some_iff.1 hg).1⟩
    rw [← flatN, hln]; simpa using ht
theorem OwnE.putN {w : World} {base e n g cap : Nat} {l l' : List Int} (h : OwnE encN 1 w base e (.slice (some ⟨g, 0, none⟩) n cap) n l) (hl : l'.length = l.length) (m : Nat) (os : Array Obj) :
    OwnE encN 1 (grow (putRow (Value.int .i64) (Sort.ahead w m) g 0 l'.toArray) os) base e (.slice (some ⟨g, 0, none⟩) n cap) n l' ∧ w.grownBy (grow (putRow (Value.int .i64) (Sort.ahead w m) g 0 l'.toArray) os) (some g) := by
  have hln := h.len encN_len (by omega)
  rcases h.2 with ⟨h0, _⟩ | ⟨g', cap', cur, hv, hb, hg, hn, hm, hs, ht⟩
  · cases h0
  · cases hv
    refine ⟨⟨by rw [flatN]; simp [hl, hln], .inr ⟨g, cap, _, rfl, hb, heap_putInts _ hg, hn, hm, by simp [putCells, hs], ?_⟩⟩, grownBy_putInts _⟩
    rw [flatN, Nat.mul_one, ← hln, ← hl]
    exact take_putInts cur l' (by rw [hl, hln, hs]; omega)
theorem grow_empty (w : World) : grow w #[] = w := by simp [grow]
theorem rising_compactI {d : Array Int} (h : ∀ i j, i < j → j < d.size → ltI d[j]! d[i]! = false) : ∀ m, m ≤ d.size → Rising ltI (compactUpTo d m)
  | 0, _ => by simp [compactUpTo, Rising]
  | m + 1, hm => by
    rw [compactUpTo_succ]
    by_cases c : keeps d m = true
    · rw [if_pos c]
      refine List.pairwise_append.2 ⟨rising_compactI h m (by omega), by simp, ?_⟩
      intro x hx y hy
      obtain ⟨j, hj, rfl⟩ := (mem_compactUpTo d x m).1 hx
      have : y = d[m]! := by simpa using hy
      subst this
      have hc : m = 0 ∨ d[m]! ≠ d[m - 1]! := by simpa [keeps] using c
      have hne : d[m]! ≠ d[m - 1]! := hc.resolve_left (by omega)
      have h1 := h (m - 1) m (by omega) (by omega)
      have h2 : j = m - 1 ∨ ltI d[m - 1]! d[j]! = false := by
        by_cases e : j = m - 1
        · exact .inl e
        · exact .inr (h j (m - 1) (by omega) (by omega))
      unfold ltI at h1 h2 ⊢
      simp only [decide_eq_true_eq, decide_eq_false_iff_not] at h1 h2 ⊢
      rcases h2 with e | h2
      · rw [e]; omega
      · omega
    · rw [if_neg c, List.append_nil]; exact rising_compactI h m (by omega)
abbrev msortI (l : List Int) : List Int := l.mergeSort fun x y => decide (x ≤ y)
theorem msortI_nofall (l : List Int) : (msortI l).Pairwise (fun a b => ltI b a = false) := by
  have := List.pairwise_mergeSort (le := fun x y : Int => decide (x ≤ y)) (fun a b c h1 h2 => by simp at *; omega) (fun a b => by simp; omega) l
  refine this.imp ?_
  intro a b h
  unfold ltI
  simp at h ⊢; omega
theorem compact_msortI (l : List Int) : compact (msortI l) = sortI l := by
  refine eq_sortI ?_ ?_
  · unfold compact
    refine rising_compactI ?_ _ (by simp)
    intro i j hij hj
    have hj' : j < (msortI l).length := by simpa using hj
    rw [getElem!_pos _ j hj, getElem!_pos _ i (by omega)]
    simpa using List.pairwise_iff_getElem.1 (msortI_nofall l) i j (by omega) hj' hij
  · intro a
    unfold compact
    rw [mem_compactUpTo]
    constructor
    · rintro ⟨j, hj, rfl⟩
      rw [getElem!_pos _ j (by simpa using hj)]
      exact List.mem_mergeSort.1 (List.getElem_mem (l := msortI l) (by simpa using hj))
    · intro ha
      have : a ∈ msortI l := by simpa [msortI] using ha
      obtain ⟨j, hj, e⟩ := List.getElem_of_mem this
      exact ⟨j, hj, by rw [getElem!_pos _ j (by simpa using hj)]; simpa using e⟩
theorem sortN_any (g cap n : Nat) (l : List Int) (base : Nat) (w : World) (h : OwnE encN 1 w base 3 (.slice (some ⟨g, 0, none⟩) n cap) n l) (hn : n ≤ 1000000000) :
    Calls Tryz.prog 172 #[.slice (some ⟨g, 0, none⟩) n cap] w fun e w' => e = .returned (.tuple #[]) ∧ OwnE encN 1 w' base 3 (.slice (some ⟨g, 0, none⟩) n cap) n (msortI l) ∧ w.grownBy w' (some g) := by
  obtain ⟨hH, hb⟩ := h.holdsN
  have hln := h.len encN_len (by omega)
  have := Tryz.slices_Sort_int g 0 cap l w hH hb (by omega)
  rw [hln] at this
  refine this.mono ?_
  rintro e w' ⟨he, m, os, rfl⟩
  obtain ⟨h1, h2⟩ := h.putN (l' := msortI l) (by simp) m os
  exact ⟨he, h1, h2⟩
theorem compactN_any (g cap n : Nat) (l : List Int) (base : Nat) (w : World) (h : OwnE encN 1 w base 3 (.slice (some ⟨g, 0, none⟩) n cap) n l) (hcap : n ≤ cap) (hn : n ≤ 1000000000) :
    Calls Tryz.prog 126 #[.slice (some ⟨g, 0, none⟩) n cap] w fun e w' =>
      ∃ m, e = .returned (.slice (some ⟨g, 0, none⟩) m cap) ∧ m ≤ n ∧ OwnE encN 1 w' base 3 (.slice (some ⟨g, 0, none⟩) m cap) m (compact l) ∧ w.grownBy w' (some g) := by
  obtain ⟨hH, hb⟩ := h.holdsN
  have hln := h.len encN_len (by omega)
  have := Tryz.slices_Compact_int g 0 cap l w hH (by omega) (by omega)
  rw [hln] at this
  have hle : (compact l).length ≤ n := by
    rw [← hln]
    exact compact_length_le l
  refine this.mono ?_
  rintro e w' ⟨he, q, rfl⟩
  obtain ⟨h1, h2⟩ := h.putN (l' := compact l ++ List.replicate (n - (compact l).length) 0) (by simp; omega) q #[]
  rw [grow_empty] at h1 h2
  refine ⟨(compact l).length, he, hle, ?_, h2⟩
  have h3 := OwnE.cut (m := (compact l).length) encN_len h1 (by simp; omega) hle
  rw [List.take_append_of_le_length (Nat.le_refl _), List.take_length] at h3
  exact h3
end
section
open Go.RowKit Go.Sort Go.Lib
def IsOut {α : Type} (enc : α → List Value) (k : Nat) (w : World) (e : Ending) (l : List α) : Prop := ∃ p n c, e = .returned (.slice p n c) ∧ IsRow enc k w p n c l
theorem IsOut.mk {α : Type} {enc : α → List Value} {k : Nat} {w : World} {p : Option Addr} {n c : Nat} {l : List α} (h : IsRow enc k w p n c l) : IsOut enc k w (.returned (.slice p n c)) l := ⟨p, n, c, rfl, h⟩
theorem ref_put_row {p : Option Addr} {n cap : Nat} {l : List Atom} {w : World} (hr : IsRow encA 3 w p n cap l) (hm : n ≤ 1000000) (a : Atom) :
    Calls Tryz.prog 52 #[.slice p n cap, .agg #[.int .u8 a.kind, .int .i64 a.rho, .string a.exn]] w fun e w' => IsOut encA 3 w' e (putA a l) ∧ Below w.heap.size w w' := by
  by_cases ha : atomB a = true
  · by_cases hi : inA l a = true
    · have hp : Hid (putA a l = l) := by show putA a l = l; simp [putA, ha, hi]
      have HR := hid hr
      clear hr
      go_enter Tryz.func52, Tryz.ntmps52
      go_wp2_with fail
      refine (ref_Atom_any a _).mono ?_
      rintro e w1 ⟨rfl, hb⟩
      have H1 : Hid (Below w.heap.size w w1) := ((Below.refl _ w).alloc (Nat.le_refl _) _).trans (hb.mono (by simp))
      have c0 : w1.cell? ⟨w.heap.size, 0, none⟩ = some (.int .u8 a.kind) := by rw [hb.cell (by simp), cell_new]; rfl
      have c1 : w1.cell? ⟨w.heap.size, 1, none⟩ = some (.int .i64 a.rho) := by rw [hb.cell (by simp), cell_new]; rfl
      have c2 : w1.cell? ⟨w.heap.size, 2, none⟩ = some (.string a.exn) := by rw [hb.cell (by simp), cell_new]; rfl
      rw [ha]
      clear hb ha
      go_wp2_with fail
      refine (ref_In_any p n cap l a w1 HR.out.len (by omega) (HR.out.below H1.out).row).mono ?_
      rintro e w2 ⟨rfl, hb⟩
      have H2 := hid (H1.out.trans (hb.mono H1.out.size))
      rw [hi]
      clear hb hi
      go_wp2_with fail
      go_ret
      exact ⟨by rw [hp.out]; exact IsOut.mk (HR.out.below H2.out), H2.out⟩
    · have hi' : inA l a = false := by simpa using hi
      refine (ref_put_main p n cap l a w hr.len hm hr.row ha hi').mono ?_
      rintro e w' ⟨v, he, ho, hb⟩
      obtain ⟨p', c', rfl, hrow⟩ := ho.isRow encA_len (by omega)
      exact ⟨by rw [he, show putA a l = putPos a l from by simp [putA, ha, hi']]; exact IsOut.mk hrow, hb⟩
  · have ha' : atomB a = false := by simpa using ha
    have hp : Hid (putA a l = l) := by show putA a l = l; simp [putA, ha']
    have HR := hid hr
    clear hr
    clear ha
    go_enter Tryz.func52, Tryz.ntmps52
    go_wp2_with fail
    refine (ref_Atom_any a _).mono ?_
    rintro e w1 ⟨rfl, hb⟩
    have H1 : Hid (Below w.heap.size w w1) := ((Below.refl _ w).alloc (Nat.le_refl _) _).trans (hb.mono (by simp))
    rw [ha']
    clear hb ha'
    go_wp2_with fail
    go_ret
    exact ⟨by rw [hp.out]; exact IsOut.mk (HR.out.below H1.out), H1.out⟩
theorem isRow_lit {α : Type} (enc : α → List Value) (k : Nat) (w : World) (t : TypeId) : IsRow enc k (w.alloc (.cells #[] t)) (some ⟨w.heap.size, 0, none⟩) 0 0 [] := ⟨rfl, by omega, by omega, (fun h => by cases h), .inl rfl⟩
theorem flat_take_succ {rows : List (SlE Atom)} {j : Nat} {x : SlE Atom} (hx : rows[j]? = some x) : (rows.take (j + 1)).flatMap (·.l) = (rows.take j).flatMap (·.l) ++ x.l := by
  rw [take_succ_get hx, List.flatMap_append]; simp
set_option maxHeartbeats 1000000 in
theorem ref_Union_any {p : Option Addr} {n cap : Nat} {rows : List (SlE Atom)} {w : World} (hr : IsRow encSl 1 w p n cap rows) (hm : n ≤ 1000000) (hok : ∀ r ∈ rows, r.Ok encA 3 w) (htot : (rows.map (·.n)).sum ≤ 1000000) :
    Calls Tryz.prog 28 #[.slice p n cap] w fun e w' => IsOut encA 3 w' e (effL (rows.flatMap (·.l))) ∧ Below w.heap.size w w' := by
  have HE0 := hid (refOf_eq (rows.flatMap (·.l)))
  have HR := hid hr
  have HOK := hid hok
  have HT := hid htot
  clear hr hok htot
  go_enter Tryz.func28, Tryz.ntmps28
  go_wp2_with fail
  go_loopw [3, 4, 5, 9, 17] (fun u _ _ i _ wr => ∃ (k S : Nat) (q : Option Addr) (m mc : Nat), k ≤ n ∧ i = .int .i64 k ∧ u = .slice q m mc ∧ ((rows.take k).map (·.n)).sum = S ∧ m ≤ S ∧ S ≤ 1000000 ∧ IsRow encA 3 wr q m mc (refOf ((rows.take k).flatMap (·.l))) ∧ Below w.heap.size w wr) (fun _ _ _ i _ _ => n - (intOf i).toNat)
  case atStart => exact ⟨0, 0, _, _, _, by omega, rfl, rfl, rfl, by omega, by omega, isRow_lit _ _ _ _, (Below.refl _ _).alloc (Nat.le_refl _) _⟩
  case round =>
    obtain ⟨k, S, q, m, mc, hk, rfl, rfl, hS, hmS, hS1, hrow, hb⟩ := hrel
    have HROW := hid hrow
    have HB := hid hb
    have HS := hid hS
    clear hrow hb hS
    by_cases hlt : k < n
    · obtain ⟨x, hx⟩ := get_of_lt (l := rows) (j := k) (by rw [HR.out.len]; exact hlt)
      have HE := hid hx
      obtain ⟨b, o, rfl, hbl, hc⟩ := (HR.out.below HB.out).row.elem hx
      have d0 := hc 0 _ rfl
      simp only [Nat.mul_one, Nat.add_zero] at d0
      have HD : Hid (∀ W, Below wr.heap.size wr W → W.cell? ⟨b, o + k, none⟩ = some (.slice x.p x.n x.cap)) := fun W h => by rw [h.cell hbl]; exact d0
      have HSS := hid (sum_take_get (·.n) rows k x hx)
      have hb1 : S + x.n ≤ 1000000 := by have := HSS.out.2; have := HT.out; have := HS.out; omega
      have HX := hid ((HOK.out x (List.mem_of_getElem? hx)).below HB.out)
      clear hx hbl hc
      obtain ⟨wo, rfl⟩ : ∃ wo : World, wo = wr := ⟨_, rfl⟩
      go_wp2_with fail
      go_loopw [3, 5, 17] (fun u _ i wi => ∃ (j : Nat) (q' : Option Addr) (m' mc' : Nat), j ≤ x.n ∧ i = .int .i64 j ∧ u = .slice q' m' mc' ∧ m' ≤ S + j ∧ IsRow encA 3 wi q' m' mc' (refOf ((rows.take k).flatMap (·.l) ++ x.l.take j)) ∧ Below wo.heap.size wo wi) (fun _ _ i _ => x.n - (intOf i).toNat)
      case atStart => exact ⟨0, q, m, mc, by omega, rfl, rfl, by omega, by simpa using HROW.out, Below.refl _ _⟩
      case round =>
        obtain ⟨j, q', m', mc', hj, rfl, rfl, hmj, hrow', hb'⟩ := hrel
        have HROW' := hid hrow'
        have HB' := hid hb'
        clear hrow' hb'
        by_cases hlt' : j < x.n
        · obtain ⟨y, hy⟩ := get_of_lt (l := x.l) (j := j) (by rw [HX.out.len]; exact hlt')
          have HY := hid hy
          obtain ⟨b2, o2, hb2, hbl2, e0, e1, e2⟩ := RowA.atom (HX.out.below HB'.out).row hy
          have d0' := HD.out _ HB'.out
          rw [hb2] at d0'
          clear d0 hy hb2 hbl2
          go_wp2_with fail
          refine (ref_put_row HROW'.out (by omega) y).mono ?_
          rintro e w1 ⟨⟨q2, m2, mc2, rfl, hr2⟩, hb⟩
          have HB1 := hid (HB'.out.trans (hb.mono HB'.out.size))
          have hm2 : m2 ≤ S + j + 1 := by have h1 := putA_length y (refOf ((rows.take k).flatMap (·.l) ++ x.l.take j)); have h2 := hr2.len; have h3 := HROW'.out.len; omega
          have HR2 := hid hr2
          clear hb e0 e1 e2 hr2 d0'
          go_wp2_with fail
          go_roundw
          case rel => exact ⟨j + 1, q2, m2, mc2, by omega, by go_num, rfl, by omega, by rw [take_succ_get HY.out, ← List.append_assoc, refOf_snoc]; exact HR2.out, HB1.out⟩
          case measure => simp [intOf]; omega
        · have hjn : j = x.n := by omega
          have HR2 : Hid (IsRow encA 3 wr q' m' mc' (refOf ((rows.take (k + 1)).flatMap (·.l)))) := by
            show IsRow _ _ _ _ _ _ _
            have h := HROW'.out
            rw [take_full (l := x.l) (by rw [HX.out.len]; omega), ← flat_take_succ HE.out] at h
            exact h
          go_wp2_with fail
          go_roundw
          case rel => exact ⟨k + 1, S + x.n, q', m', mc', by omega, by go_num, rfl, by have := HSS.out.1; have := HS.out; omega, by omega, hb1, HR2.out, HB.out.trans (HB'.out.mono HB.out.size)⟩
          case measure => simp [intOf]; omega
    · have hkn : k = n := by omega
      subst hkn
      go_wp2_with fail
      go_ret
      have h2 := HROW.out
      rw [take_full (by rw [HR.out.len]; omega), HE0.out] at h2
      exact ⟨IsOut.mk h2, HB.out⟩
end
section
open Go.RowKit
def Own0 {α : Type} (enc : α → List Value) (k : Nat) (w : World) (base : Nat) (e : TypeId) (v : Value) (n : Nat) (l : List α) : Prop := OwnE enc k w base e v n l ∨ ∃ p, v = .slice p 0 0 ∧ n = 0 ∧ l = []
section
variable {α : Type} {enc : α → List Value} {k : Nat} {w w' : World} {base base' e n : Nat} {v : Value} {l : List α}
theorem OwnE.z (h : OwnE enc k w base e v n l) : Own0 enc k w base e v n l := .inl h
theorem Own0.lit (enc : α → List Value) (k : Nat) (w : World) (base : Nat) (e : TypeId) (p : Option Addr) : Own0 enc k w base e (.slice p 0 0) 0 [] := .inr ⟨p, rfl, rfl, rfl⟩
theorem Own0.below (h : Own0 enc k w base e v n l) (hb : Below w.heap.size w w') : Own0 enc k w' base e v n l := h.elim (fun h => .inl (h.below hb)) .inr
theorem Own0.lower (h : Own0 enc k w base e v n l) (hb : base' ≤ base) : Own0 enc k w base' e v n l := h.elim (fun h => .inl (h.lower hb)) .inr
theorem Own0.drewN (h : Own0 enc k w base e v n l) (m : Nat) : Own0 enc k (w.drewN m) base e v n l := h
theorem Own0.isRow (h : Own0 enc k w base e v n l) (hk : ∀ x, (enc x).length = k) (hk0 : 0 < k) : ∃ p cap, v = .slice p n cap ∧ l.length = n ∧ n ≤ cap ∧ RowE enc k w p l ∧ cap ≤ maxLen ∧ (p = none → cap = 0) := by
  rcases h with h | ⟨p, rfl, rfl, rfl⟩
  · obtain ⟨p, cap, hv, hl, hc, hr, hm, hn, _⟩ := h.row hk hk0
    exact ⟨p, cap, hv, hl, hc, hr, hm, fun e => (hn e).2⟩
  · exact ⟨p, 0, rfl, rfl, by omega, .inl rfl, by unfold maxLen; omega, fun _ => rfl⟩
theorem Own0.len (h : Own0 enc k w base e v n l) (hk : ∀ x, (enc x).length = k) (hk0 : 0 < k) : l.length = n := by
  obtain ⟨_, _, _, h, _⟩ := h.isRow hk hk0; exact h
end
end
section
open Go.RowKit Go.Sort Go.Lib
def hasR (x : Atom) : Bool := atomB x && decide (x.kind ≠ 3)
def rhosOf (l : List Atom) : List Int := sortI ((l.filter hasR).map (·.rho))
theorem foldI : ∀ (l : List Int) (e : List Int), Rising ltI e → Rising ltI (l.foldl (fun e a => putI a e) e) ∧ ∀ x, x ∈ l.foldl (fun e a => putI a e) e ↔ x ∈ e ∨ x ∈ l
  | [], e, h => ⟨h, fun x => by simp⟩
  | a :: l, e, h => by
    obtain ⟨h1, h2⟩ := foldI l (putI a e) (rising_putI a e h)
    refine ⟨h1, fun x => ?_⟩
    rw [List.foldl_cons, h2, mem_putI, List.mem_cons]
    constructor
    · rintro ((rfl | h) | h)
      · exact .inr (.inl rfl)
      · exact .inl h
      · exact .inr (.inr h)
    · rintro (h | rfl | h)
      · exact .inl (.inr h)
      · exact .inl (.inl rfl)
      · exact .inr h
theorem insertR_length {α : Type} (lt : α → α → Bool) (a : α) : ∀ l : List α, (insertR lt a l).length ≤ l.length + 1
  | [] => by simp [insertR]
  | b :: l => by
    unfold insertR
    split
    · simp
    · split
      · have := insertR_length lt a l; simp; omega
      · simp
theorem sortR_length {α : Type} (lt : α → α → Bool) : ∀ l : List α, (sortR lt l).length ≤ l.length
  | [] => by simp [sortR]
  | a :: l => by
    have h1 := insertR_length lt a (sortR lt l)
    have h2 := sortR_length lt l
    simp only [sortR, List.length_cons]; omega
theorem rhosOf_length (l : List Atom) : (rhosOf l).length ≤ l.length := by
  have h1 := sortR_length ltI ((l.filter hasR).map (·.rho))
  have h2 := List.length_filter_le hasR l
  rw [List.length_map] at h1
  exact Nat.le_trans h1 h2
theorem mem_rhosOf (l : List Atom) (r : Int) : r ∈ rhosOf l ↔ ∃ x ∈ l, atomB x = true ∧ x.kind ≠ 3 ∧ x.rho = r := by
  unfold rhosOf
  rw [mem_sortI, List.mem_map]
  constructor
  · rintro ⟨x, hx, rfl⟩
    rw [List.mem_filter] at hx
    have h := hx.2
    unfold hasR at h
    rw [Bool.and_eq_true] at h
    exact ⟨x, hx.1, h.1, of_decide_eq_true h.2, rfl⟩
  · rintro ⟨x, hx, h1, h2, rfl⟩
    exact ⟨x, List.mem_filter.2 ⟨hx, by unfold hasR; rw [h1, decide_eq_true h2]; rfl⟩, rfl⟩
theorem rhosOf_congr {l m : List Atom} (h : ∀ x, atomB x = true → (x ∈ l ↔ x ∈ m)) : rhosOf l = rhosOf m := by
  refine sortI_congr (fun r => ?_)
  have h1 := mem_rhosOf l r
  have h2 := mem_rhosOf m r
  unfold rhosOf at h1 h2
  rw [mem_sortI] at h1 h2
  rw [h1, h2]
  constructor
  · rintro ⟨x, hx, ha, hk, hr⟩; exact ⟨x, (h x ha).1 hx, ha, hk, hr⟩
  · rintro ⟨x, hx, ha, hk, hr⟩; exact ⟨x, (h x ha).2 hx, ha, hk, hr⟩
theorem rhosOf_effL (l : List Atom) : rhosOf (effL l) = rhosOf l := rhosOf_congr (fun x hx => by rw [mem_sortA, List.mem_filter]; simp [hx])
set_option maxHeartbeats 1000000 in
theorem effect_Rhos_any (p : Option Addr) (n cap : Nat) (rows : List (SlE Atom)) (w : World) (hn : rows.length = n) (hm : n ≤ 1000000) (hr : RowE encSl 1 w p rows) (hok : ∀ r ∈ rows, r.Ok encA 3 w) (htot : (rows.map (·.n)).sum ≤ 1000000) :
    Calls Tryz.prog 132 #[.slice p n cap] w fun e w' => ∃ q m c, e = .returned (.slice q m c) ∧ m ≤ 1000000 ∧ IsRow encN 1 w' q m c (rhosOf (rows.flatMap (·.l))) ∧ Below w.heap.size w w' := by
  have HU := hid (effect_Union_any p n cap rows w hn hm hr hok htot)
  have HT := hid htot
  have HRE : Hid (sortI (((sortA ((rows.flatMap (·.l)).filter atomB)).filter (fun x => decide (x.kind ≠ 3))).map (·.rho)) = rhosOf (rows.flatMap (·.l))) := by
    show _ = _
    rw [← rhosOf_effL]
    unfold rhosOf
    congr 2
    apply List.filter_congr
    intro x hx
    rw [mem_sortA, List.mem_filter] at hx
    simp [hasR, hx.2]
  clear hn hr hok htot
  go_enter Tryz.func132, Tryz.ntmps132
  go_wp2_with fail
  refine HU.out.mono ?_
  rintro e w1 ⟨v, m, rfl, hmn, hown, hb⟩
  obtain ⟨q, mc, rfl, hrow⟩ := hown.isRow encA_len (by omega)
  have hm1 : m ≤ 1000000 := by have := HT.out; omega
  generalize hS : sortA ((rows.flatMap (·.l)).filter atomB) = S at hrow HRE
  have HS := hid hS
  have HR := hid hrow
  have HB := hid hb
  clear hrow hb
  clear hown hS hmn
  go_wp2_with fail
  go_loopw [3, 5, 9] (fun u _ i wr => ∃ k t : Nat, k ≤ m ∧ i = .int .i64 k ∧ t ≤ k ∧ OwnE encN 1 wr w1.heap.size 3 u t (((S.take k).filter (fun x => decide (x.kind ≠ 3))).map (·.rho)) ∧ Below w1.heap.size w1 wr) (fun _ _ i _ => m - (intOf i).toNat)
  case atStart => exact ⟨0, 0, by omega, rfl, by omega, OwnE.nil _ _ _ _ _, Below.refl _ _⟩
  case round =>
    obtain ⟨k, t, hk, rfl, htk, hown, hb⟩ := hrel
    have HOWN := hid hown
    have HBW := hid hb
    clear hown hb
    by_cases hlt : k < m
    · obtain ⟨x, hx⟩ := get_of_lt (l := S) (j := k) (by rw [HR.out.len]; exact hlt)
      have HE := hid hx
      obtain ⟨b, o, rfl, hbl, d0, d1, d2⟩ := RowA.atom (HR.out.below HBW.out).row hx
      obtain ⟨kd, rr, ss⟩ := x
      simp only at d0 d1 d2
      clear hx hbl
      have HBX := hid (HBW.out.alloc HBW.out.size (.cells #[.int .u8 kd, .int .i64 rr, .string ss] 59))
      have HO2 := hid (HOWN.out.below ((Below.refl _ wr).alloc (Nat.le_refl _) (.cells #[.int .u8 kd, .int .i64 rr, .string ss] 59)))
      by_cases h3 : kd = 3
      · have h3' : (kd != 3) = false := by simp [h3]
        have HN3 := hid h3
        clear h3
        go_wp2_with fail
        go_roundw
        case rel => exact ⟨k + 1, t, by omega, by go_num, by omega, by rw [take_succ_get HE.out, List.filter_append, List.map_append]; simpa [HN3.out] using HO2.out, HBX.out⟩
        case measure => simp [intOf]; omega
      · have h3' : (kd != 3) = true := by simpa using h3
        have HN3 := hid h3
        clear h3
        go_wp2_with (at_builtin; refine wpList_append1 rfl _ _ 24 rfl w1.heap.size 3 _ 1 8 Tryz.underlying24 infoN rfl (by decide) encN encN_len encN_one rr _ _ _ HO2.out rfl (by refine Eq.trans (b := Value.slice (some ⟨wr.heap.size + 1, 0, none⟩) 1 1) rfl ?_; simp) ?c1 ?c2 ?c3 ?_)
        case c1 => omega
        case c2 => omega
        case c3 => have := HBX.out.size; simp at this ⊢; omega
        · intro v' w4 hown' hg
          have HO4 := hid hown'
          have HB4 := hid (Below.own HBX.out hg (by have := HBX.out.size; simp at this ⊢; omega) HO2.out)
          clear hown' hg d0 d1 d2
          go_wp2_with fail
          go_roundw
          case rel => exact ⟨k + 1, t + 1, by omega, by go_num, by omega, by rw [take_succ_get HE.out, List.filter_append, List.map_append]; simpa [HN3.out] using HO4.out, HB4.out⟩
          case measure => simp [intOf]; omega
    · have hkm : k = m := by omega
      subst hkm
      have h1 := HOWN.out
      rw [take_full (by rw [HR.out.len]; omega)] at h1
      have HO := hid h1
      clear h1
      rcases HO.out.split encN_len (by omega) with ⟨rfl, rfl, hnil⟩ | ⟨g, cp, rfl, hcp, hbg⟩
      · have HNIL := hid hnil
        clear hnil
        go_wp2_with fail
        refine (Tryz.slices_Sort_int_none none 0 _).mono ?_
        rintro e w2 ⟨rfl, rfl⟩
        go_wp2_with fail
        refine (Tryz.slices_Compact_int_empty none 0 _).mono ?_
        rintro e w3 ⟨rfl, rfl⟩
        go_wp2_with fail
        go_ret
        exact ⟨none, 0, 0, rfl, by omega, by rw [← HRE.out, HNIL.out]; exact IsRow.none _ _ _, HB.out.trans (HBW.out.mono HB.out.size)⟩
      · go_wp2_with fail
        refine (sortN_any g cp t _ w1.heap.size wr HO.out (by omega)).mono ?_
        rintro e w2 ⟨rfl, ho1, hg1⟩
        have HB1 := hid (OwnE.drop_base (enc := encN) (k := 1) hg1 hbg HBW.out HBW.out.size)
        have HO1 := hid ho1
        clear ho1 hg1
        go_wp2_with fail
        refine (compactN_any g cp t _ w1.heap.size w2 HO1.out hcp (by omega)).mono ?_
        rintro e w3 ⟨m', rfl, hm', ho2, hg2⟩
        have HB2 := hid (OwnE.drop_base (enc := encN) (k := 1) hg2 hbg HB1.out HB1.out.size)
        rw [compact_msortI, HRE.out] at ho2
        obtain ⟨p', c', hv, hrow⟩ := ho2.isRow encN_len (by omega)
        cases hv
        have HO2 := hid hrow
        clear ho2 hg2 hrow
        go_wp2_with fail
        go_ret
        exact ⟨_, m', _, rfl, by omega, HO2.out, HB.out.trans (HB2.out.mono HB.out.size)⟩
end
section
open Go.ChangeShapes Go.WideShapes Go.ChangeAt Go.RowKit Go.Deep
variable {H : Type} {enc : TypeId × Value → H} {W : World} {base : Nat} {t e : TypeId} {v : Value} {d : DataW H} {ps : List MemPlace}
theorem row_of_gets {α : Type} {encE : α → List Value} {k : Nat} (w : World) (b o : Nat) (hb : b < w.heap.size) (n : Nat) (q : Nat → α) (h : ∀ j, j < n → ∀ i u, (encE (q j))[i]? = some u → w.cell? ⟨b, o + j * k + i, none⟩ = some u) :
    RowE encE k w (some ⟨b, o, none⟩) ((List.range n).map q) := by
  refine .inr ⟨b, o, rfl, hb, fun j x hx i u hu => ?_⟩
  rw [List.getElem?_map] at hx
  have hj : j < n := by
    have := (Option.map_eq_some_iff.1 hx).choose_spec.1
    have := (List.getElem?_eq_some_iff.1 this).1
    simpa using this
  rw [List.getElem?_range hj] at hx
  cases hx
  exact h j hj i u hu
end
section
open Go.ChangeShapes Go.WideShapes Go.ChangeAt Go.RowKit Go.Deep
section
variable {H : Type} {enc : TypeId × Value → H} {W : World} {base : Nat} {t e : TypeId} {v : Value} {d : DataW H} {ps : List MemPlace}
end
end
section
open Go.ChangeShapes Go.WideShapes Go.ChangeAt Go.RowKit Go.Deep
variable {H : Type} {enc : TypeId × Value → H} {W : World} {base : Nat} {t e : TypeId} {v : Value} {d : DataW H} {ps : List MemPlace}
structure okAt (x : Atom) : Prop where
  k0 : 0 ≤ x.kind
  k1 : x.kind ≤ 255
  r0 : -9223372036854775808 ≤ x.rho
  r1 : x.rho ≤ 9223372036854775807
  s1 : x.exn.size ≤ 9223372036854775807
end
section
open Go.ChangeShapes Go.WideShapes Go.ChangeAt Go.RowKit Go.Deep
section
variable {H : Type} {enc : TypeId × Value → H} {W : World} {base : Nat} {t e : TypeId} {v : Value} {d : DataW H} {ps : List MemPlace}
def Elem (enc : TypeId × Value → H) (W : World) (e : TypeId) (n : Nat) {α : Type} (enc1 : α → List Value) (Q : α → Prop) : Prop :=
  ∀ cs' x, DataW.trod enc Tryz.prog W 0 (fun _ => true) true n e cs' = some x → cs'.length = Tryz.prog.cellsOf e → ∃ y : α, cs' = enc1 y ∧ Q y
theorem open_row_at {α : Type} {k fuel : Nat} {cs : List Value} {x : DataW H × List MemPlace} (enc1 : α → List Value) (Q : α → Prop) (ht : Tryz.prog.underlying t = some (.slice e)) (hc : Tryz.prog.cellsOf e = k) (hk0 : 0 < k) (henc : ∀ y, (enc1 y).length = k)
    (hf : DataW.trod enc Tryz.prog W 0 (fun _ => true) true fuel t cs = some x) (he : ∀ n, n < fuel → Elem enc W e n enc1 Q) :
    ∃ p n cap, ∃ l : List α, cs = [.slice p n cap] ∧ IsRow enc1 k W p n cap l ∧ ∀ y ∈ l, Q y := by
  rcases DataW.trod_slice ht hf with ⟨hcs, _⟩ | ⟨a, len, cap, elems, rest, n, hfu, hcs, _, _, hl, hm, hlen, hel, _, _⟩
  · exact ⟨none, 0, 0, [], hcs, IsRow.none _ _ _, fun y hy => by cases hy⟩
  · unfold maxLen at hm
    have each : ∀ i, i < len → ∃ y : α, Q y ∧ ∀ j u, (enc1 y)[j]? = some u → W.cell? ((a.add (i * k)).add j) = some u := by
      intro i hi
      have h := hel i hi
      rw [List.getElem?_eq_getElem (by omega)] at h
      obtain ⟨cs', h1, h2⟩ := Option.bind_eq_some_iff.1 h
      rw [hc] at h1
      obtain ⟨_, hlen', hcell⟩ := World.cells?_some h1
      obtain ⟨y, rfl, hq⟩ := he n (by omega) cs' _ h2 (by rw [hc]; exact hlen')
      refine ⟨y, hq, fun j u hu => ?_⟩
      have hj : j < k := by rw [← henc y]; exact get_lt hu
      rw [hcell j hj]; exact hu
    by_cases hn0 : len = 0
    · subst hn0
      exact ⟨_, 0, cap, [], hcs, ⟨rfl, by omega, hl, (fun h => by cases h), .inl rfl⟩, fun y hy => by cases hy⟩
    · obtain ⟨y0, _⟩ := each 0 (by omega)
      haveI : Inhabited α := ⟨y0⟩
      obtain ⟨q, hq⟩ := choose_lt each
      obtain ⟨b, off, spot⟩ := a
      obtain ⟨u0, hu0⟩ : ∃ u, (enc1 (q 0))[0]? = some u := get_of_lt (by rw [henc]; omega)
      have c0 := (hq 0 (by omega)).2 0 u0 hu0
      have hspot : spot = none := by simpa [Addr.add] using World.cell?_spot c0
      subst hspot
      have hbl : b < W.heap.size := by simpa [Addr.add] using cell_block c0
      refine ⟨_, len, cap, (List.range len).map q, hcs, ⟨by simp, by omega, hl, (fun h => by cases h), row_of_gets W b off hbl len q (fun j hj i u hu => ?_)⟩, fun y hy => ?_⟩
      · have := (hq j hj).2 i u hu
        rw [add_lit', add_lit'] at this
        exact this
      · obtain ⟨j, hj, rfl⟩ := List.mem_map.1 hy
        exact (hq j (List.mem_range.1 hj)).1
theorem elem_num (n : Nat) : Elem enc W 3 n encN (fun z : Int => -9223372036854775808 ≤ z ∧ z ≤ 9223372036854775807) := by
  intro cs' x h _
  obtain ⟨z, rfl, _, hz⟩ := DataW.trod_int Tryz.underlying3 h
  exact ⟨z, rfl, by simpa [Lit.wf, IntKind.min, IntKind.max, IntKind.signed, IntKind.bits] using hz⟩
theorem elem_atom (n : Nat) : Elem enc W 59 n encA okAt := by
  intro cs' x h hlen
  have he : Tryz.prog.underlying 59 = some (.struct (Tryz.prog.fieldsOf 59)) := by kernel_rfl
  have ce : Tryz.prog.cellsOf 59 = 3 := by kernel_rfl
  have F0 : ((Tryz.prog.fieldsOf 59)[0]?).map (fun f => (f.type, f.offset)) = some (5, 0) := by kernel_rfl
  have F1 : ((Tryz.prog.fieldsOf 59)[1]?).map (fun f => (f.type, f.offset)) = some (3, 1) := by kernel_rfl
  have F2 : ((Tryz.prog.fieldsOf 59)[2]?).map (fun f => (f.type, f.offset)) = some (9, 2) := by kernel_rfl
  have C0 : Tryz.prog.cellsOf 5 = 1 := by kernel_rfl
  have C1 : Tryz.prog.cellsOf 3 = 1 := by kernel_rfl
  have C2 : Tryz.prog.cellsOf 9 = 1 := by kernel_rfl
  rw [ce] at hlen
  obtain ⟨xs, k, hk, hxy, _, hxl, hf'⟩ := DataW.trod_struct he h
  obtain ⟨f0, e0, p0⟩ := Option.map_eq_some_iff.1 F0
  obtain ⟨f1, e1, p1⟩ := Option.map_eq_some_iff.1 F1
  obtain ⟨f2, e2, p2⟩ := Option.map_eq_some_iff.1 F2
  simp only [Prod.mk.injEq] at p0 p1 p2
  have g0 := hf' 0 f0 e0
  have g1 := hf' 1 f1 e1
  have g2 := hf' 2 f2 e2
  rw [p0.1, p0.2, C0] at g0
  rw [p1.1, p1.2, C1] at g1
  rw [p2.1, p2.2, C2] at g2
  have b0 := (Array.getElem?_eq_some_iff.1 e0).1
  have b1 := (Array.getElem?_eq_some_iff.1 e1).1
  have b2 := (Array.getElem?_eq_some_iff.1 e2).1
  match cs', hlen with
  | [v0, v1, v2], _ =>
    rw [List.getElem?_eq_getElem (show 0 < xs.length by omega)] at g0
    rw [List.getElem?_eq_getElem (show 1 < xs.length by omega)] at g1
    rw [List.getElem?_eq_getElem (show 2 < xs.length by omega)] at g2
    obtain ⟨z0, q0, _, b0'⟩ := DataW.trod_int Tryz.underlying5 g0
    obtain ⟨z1, q1, _, b1'⟩ := DataW.trod_int Tryz.underlying3 g1
    obtain ⟨z2, q2, _, b2'⟩ := DataW.trod_string Tryz.underlying9 g2
    simp at q0 q1 q2
    have h0 : 0 ≤ z0 ∧ z0 ≤ 255 := by simpa [Lit.wf, IntKind.min, IntKind.max, IntKind.signed, IntKind.bits] using b0'
    have h1 : -9223372036854775808 ≤ z1 ∧ z1 ≤ 9223372036854775807 := by simpa [Lit.wf, IntKind.min, IntKind.max, IntKind.signed, IntKind.bits] using b1'
    unfold maxLen at b2'
    exact ⟨⟨z0, z1, z2⟩, by rw [q0, q1, q2]; rfl, h0.1, h0.2, h1.1, h1.2, by omega⟩
end
end
end Go.Proofs.YtkdjnegfnhldpaaGreatDoor
