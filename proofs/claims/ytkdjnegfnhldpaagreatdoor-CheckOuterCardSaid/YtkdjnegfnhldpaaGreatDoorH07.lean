/- Part 7 of the texts: Facts, Sets, IntSort, Eff21, Own0, Eff22, OpenA, OpenB, OpenC, OpenG, RT, Rt1. -/
import Derived.Test.YtkdjnegfnhldpaaGreatDoorH06
import Derived.Test.YtkdjnegfnhldpaaGreatDoorH03
import Derived.Test.YtkdjnegfnhldpaaGreatDoorH05
import Derived.Deep.AppendSrc
import Derived.Test.YtkdjnegfnhldpaaGreatDoorH02
import Derived.ProofKit
import Derived.OpenShut
import Derived.Deep.Slices
import Derived.Deep.SlicePairs
import Derived.Lib.SmallJoins
import Derived.ChangeOld
set_option linter.unusedVariables false
set_option maxRecDepth 100000
set_option linter.unusedSimpArgs false
namespace Go.Proofs.YtkdjnegfnhldpaaGreatDoor
open Go.Lib (hid)
section
open Go.RowKit Go.Sort Go.Lib
theorem greatB_len {l : List Atom} (h : greatB l = false) : l.length ≤ 100 := by
  unfold greatB at h
  simp only [Bool.or_eq_false_iff, decide_eq_false_iff_not] at h
  have := h.1; omega
theorem two_rows {w : World} {p q : Option Addr} {n m nc mc : Nat} (l l' : List Atom) (t : TypeId) : RowE encSl 1 (w.alloc (.cells #[.slice p n nc, .slice q m mc] t)) (some ⟨w.heap.size, 0, none⟩) [⟨p, n, nc, l⟩, ⟨q, m, mc, l'⟩] :=
  RowE.newAt encSl_len w _ _ rfl _ _ _ rfl
theorem two_ok {w : World} {p q : Option Addr} {n m nc mc : Nat} {l l' : List Atom} (h : IsRow encA 3 w p n nc l) (h' : IsRow encA 3 w q m mc l') : ∀ r ∈ [(⟨p, n, nc, l⟩ : SlE Atom), ⟨q, m, mc, l'⟩], r.Ok encA 3 w := by
  intro r hr
  simp only [List.mem_cons, List.not_mem_nil, or_false] at hr
  rcases hr with rfl | rfl
  · exact ⟨h.len, h.le, h.nil, h.row⟩
  · exact ⟨h'.len, h'.le, h'.nil, h'.row⟩
theorem mem_withoutL (l : List Atom) (rhos : List Int) (x : Atom) : x ∈ withoutL l rhos ↔ x ∈ l ∧ atomB x = true ∧ goesR rhos x = false := by
  unfold withoutL
  rw [List.mem_filter, mem_sortA, List.mem_filter]
  simp [and_assoc]
theorem mem_handledL (l : List Atom) (exns : List ByteArray) (x : Atom) : x ∈ handledL l exns ↔ x ∈ l ∧ atomB x = true ∧ goesX exns x = false := by
  unfold handledL
  rw [List.mem_filter, mem_sortA, List.mem_filter]
  simp [and_assoc]
abbrev effL (l : List Atom) : List Atom := sortA (l.filter atomB)
theorem one_row {w : World} {p : Option Addr} {n nc : Nat} (l : List Atom) (t : TypeId) : RowE encSl 1 (w.alloc (.cells #[.slice p n nc] t)) (some ⟨w.heap.size, 0, none⟩) [⟨p, n, nc, l⟩] :=
  RowE.newAt encSl_len w _ _ rfl _ _ _ rfl
theorem one_ok {w : World} {p : Option Addr} {n nc : Nat} {l : List Atom} (h : IsRow encA 3 w p n nc l) : ∀ r ∈ [(⟨p, n, nc, l⟩ : SlE Atom)], r.Ok encA 3 w := by
  intro r hr
  simp only [List.mem_cons, List.not_mem_nil, or_false] at hr
  subst hr
  exact ⟨h.len, h.le, h.nil, h.row⟩
end
section
open Go.RowKit
def putPosI (a : Int) : List Int → List Int
  | [] => [a]
  | b :: l => if ltI a b then a :: b :: l else b :: putPosI a l
def putI (a : Int) (e : List Int) : List Int := if inN e a then e else putPosI a e
theorem putPosI_length (a : Int) : ∀ l : List Int, (putPosI a l).length = l.length + 1
  | [] => rfl
  | b :: l => by
    simp only [putPosI]
    split
    · rfl
    · simp [putPosI_length a l]
theorem mem_putPosI (a x : Int) : ∀ l : List Int, x ∈ putPosI a l ↔ x = a ∨ x ∈ l
  | [] => by simp [putPosI]
  | b :: l => by
    unfold putPosI
    by_cases h : ltI a b = true
    · rw [if_pos h]; simp
    · rw [if_neg h, List.mem_cons, mem_putPosI a x l, List.mem_cons]
      constructor
      · rintro (h | h | h)
        · exact .inr (.inl h)
        · exact .inl h
        · exact .inr (.inr h)
      · rintro (h | h | h)
        · exact .inr (.inl h)
        · exact .inl h
        · exact .inr (.inr h)
theorem rising_putPosI (a : Int) : ∀ l : List Int, Rising ltI l → a ∉ l → Rising ltI (putPosI a l)
  | [], _, _ => by simp [putPosI, Rising]
  | b :: l, hr, hn => by
    obtain ⟨hb, hl⟩ := List.pairwise_cons.1 hr
    unfold putPosI
    by_cases h : ltI a b = true
    · rw [if_pos h]
      refine List.pairwise_cons.2 ⟨fun x hx => ?_, hr⟩
      rcases List.mem_cons.1 hx with rfl | hx
      · exact h
      · exact ltI_trans _ _ _ h (hb x hx)
    · rw [if_neg h]
      refine List.pairwise_cons.2 ⟨fun x hx => ?_, rising_putPosI a l hl (fun h => hn (List.mem_cons_of_mem _ h))⟩
      rcases (mem_putPosI a x l).1 hx with rfl | hx
      · cases e : ltI b x with
        | true => rfl
        | false => exact absurd (List.mem_cons.2 (.inl (ltI_tri _ _ (by simpa using h) e))) hn
      · exact hb x hx
theorem inN_mem' (l : List Int) (x : Int) : inN l x = true ↔ x ∈ l := by
  unfold inN
  rw [List.any_eq_true]
  constructor
  · rintro ⟨y, hy, h⟩
    have : y = x := by simpa using h
    subst this; exact hy
  · intro h
    exact ⟨x, h, by simp⟩
theorem mem_putI (a x : Int) (l : List Int) : x ∈ putI a l ↔ x = a ∨ x ∈ l := by
  unfold putI
  by_cases h : inN l a = true
  · rw [if_pos h]
    constructor
    · exact .inr
    · rintro (rfl | h')
      · exact (inN_mem' _ _).1 h
      · exact h'
  · rw [if_neg h, mem_putPosI]
theorem rising_putI (a : Int) (l : List Int) (hr : Rising ltI l) : Rising ltI (putI a l) := by
  unfold putI
  by_cases h : inN l a = true
  · rw [if_pos h]; exact hr
  · rw [if_neg h]; exact rising_putPosI a l hr (fun hm => h ((inN_mem' l a).2 hm))
theorem putI_length (a : Int) (l : List Int) : (putI a l).length ≤ l.length + 1 := by
  unfold putI; split
  · omega
  · rw [putPosI_length]; omega
theorem infoN : (Tryz.prog.info? 3).map (fun i => (i.zero, i.size, i.bytes)) = some (some (.int .i64 0), 1, 8) := by kernel_rfl
theorem encN_one (y : Int) : ∀ u ∈ encN y, u.oneCell' = true := by
  intro u hu
  simp [encN] at hu
  subst hu; rfl
theorem ref_Ints_of {p : Option Addr} {n cap : Nat} {l : List Int} {x : Int} {w : World} {r : Bool} (hq : inN l x = r) (h : IsRow encN 1 w p n cap l) :
    Calls Tryz.prog 21 #[.slice p n cap, .int .i64 x] w fun e w' => e = .returned (.bool r) ∧ w = w' := by
  subst hq; exact ref_Ints_any p n cap l x w h.len h.max h.row
theorem bytes_beq (a b : ByteArray) : (a.toList == b.toList) = decide (a = b) := by
  by_cases h : a = b
  · subst h; simp
  · rw [decide_eq_false h, beq_eq_false_iff_ne]
    exact fun e => h (toList_inj e)
end
section
open Go.RowKit Go.Sort Go.Lib
theorem flatN (l : List Int) : l.flatMap encN = l.map (Value.int .i64) := by
  induction l with
  | nil => rfl
  | cons a l ih => rw [List.flatMap_cons, ih]; rfl
theorem holds_ints {w : World} {g : Nat} {cur : Array Value} {e : TypeId} {ss : List Int} (hb : w.heap[g]? = some (.cells cur e (0, 0))) (ht : cur.toList.take ss.length = ss.map (Value.int .i64)) : Holds (Value.int .i64) w g 0 ss.toArray := by
  intro j hj
  have hj' : j < ss.length := by simpa using hj
  refine ⟨?_, by simp [World.frozen?, hb]⟩
  have h1 : (cur.toList.take ss.length)[j]? = (ss.map (Value.int .i64))[j]? := by rw [ht]
  rw [List.getElem?_take_of_lt hj'] at h1
  simp only [World.cell?, hb, Nat.zero_add]
  simp only [Option.isSome_none, Bool.false_eq_true, if_false]
  rw [← Array.getElem?_toList, h1]
  simp [hj']
theorem take_putInts (cur : Array Value) (ts : List Int) (h : ts.length ≤ cur.size) : (putCells (Value.int .i64) 0 ts.toArray cur).toList.take ts.length = ts.map (Value.int .i64) := by
  apply List.ext_getElem?
  intro j
  by_cases hj : j < ts.length
  · rw [List.getElem?_take_of_lt hj, Array.getElem?_toList]
    simp [putCells, hj, show j < cur.size by omega]
  · rw [List.getElem?_take_eq_none (by omega), List.getElem?_eq_none (by simp; omega)]
theorem heap_putInts {w : World} {g n : Nat} {os : Array Obj} {cur : Array Value} {e : TypeId} {fr : Nat × Nat} (d : Array Int) (hb : w.heap[g]? = some (.cells cur e fr)) :
    (grow (putRow (Value.int .i64) (Sort.ahead w n) g 0 d) os).heap[g]? = some (.cells (putCells (Value.int .i64) 0 d cur) e fr) := by
  have hg : g < w.heap.size := (Array.getElem?_eq_some_iff.1 hb).1
  rw [heap_grow_old _ _ (by simpa using hg)]
  simp [putRow, mapBlock, Sort.ahead, Array.getElem?_modify, hb, onCells]
theorem grownBy_putInts {w : World} {g n : Nat} {os : Array Obj} (d : Array Int) : w.grownBy (grow (putRow (Value.int .i64) (Sort.ahead w n) g 0 d) os) (some g) := by
  refine ⟨rfl, rfl, rfl, by simp, fun k hk hne => ?_⟩
  rw [heap_grow_old _ _ (by simpa using hk)]
  have : g ≠ k := fun e => hne (by rw [e])
  simp [putRow, mapBlock, Sort.ahead, Array.getElem?_modify, this]
theorem OwnE.holdsN {w : World} {base e n g cap : Nat} {l : List Int} (h : OwnE encN 1 w base e (.slice (some ⟨g, 0, none⟩) n cap) n l) : Holds (Value.int .i64) w g 0 l.toArray ∧ g < w.heap.size := by
  have hln := h.len encN_len (by omega)
  rcases h.2 with ⟨h0, _⟩ | ⟨g', cap', cur, hv, hb, hg, hn, hm, hs, ht⟩
  · cases h0
  · cases hv
    refine ⟨holds_ints hg ?_, (Array.getElem?_eq_some_iff.1 hg).1⟩
    rw [← flatN, hln]; simpa using ht
theorem OwnE.putN {w : World} {base e n g cap : Nat} {l l' : List Int} (h : OwnE encN 1 w base e (.slice (some ⟨g, 0, none⟩) n cap) n l) (hl : l'.length = l.length) (m : Nat) (os : Array Obj) :
    OwnE encN 1 (grow (putRow (Value.int .i64) (Sort.ahead w m) g 0 l'.toArray) os) base e (.slice (some ⟨g, 0, none⟩) n cap) n l' ∧ w.grownBy (grow (putRow (Value.int .i64) (Sort.ahead w m) g 0 l'.toArray) os) (some g) := by
  have hln := h.len encN_len (by omega)
  rcases h.2 with ⟨h0, _⟩ | ⟨g', cap', cur, hv, hb, hg, hn, hm, hs, ht⟩
  · cases h0
  · cases hv
    refine ⟨⟨by rw [flatN]; simp [hl, hln], .inr ⟨g, cap, _, rfl, hb, heap_putInts _ hg, hn, hm, by simp [putCells, hs], ?_⟩⟩, grownBy_putInts _⟩
    rw [flatN, Nat.mul_one, ← hln, ← hl]
    exact take_putInts cur l' (by rw [hl, hln, hs]; omega)
theorem grow_empty (w : World) : grow w #[] = w := by simp [grow]
theorem rising_compactI {d : Array Int} (h : ∀ i j, i < j → j < d.size → ltI d[j]! d[i]! = false) : ∀ m, m ≤ d.size → Rising ltI (compactUpTo d m)
  | 0, _ => by simp [compactUpTo, Rising]
  | m + 1, hm => by
    rw [compactUpTo_succ]
    by_cases c : keeps d m = true
    · rw [if_pos c]
      refine List.pairwise_append.2 ⟨rising_compactI h m (by omega), by simp, ?_⟩
      intro x hx y hy
      obtain ⟨j, hj, rfl⟩ := (mem_compactUpTo d x m).1 hx
      have : y = d[m]! := by simpa using hy
      subst this
      have hc : m = 0 ∨ d[m]! ≠ d[m - 1]! := by simpa [keeps] using c
      have hne : d[m]! ≠ d[m - 1]! := hc.resolve_left (by omega)
      have h1 := h (m - 1) m (by omega) (by omega)
      have h2 : j = m - 1 ∨ ltI d[m - 1]! d[j]! = false := by
        by_cases e : j = m - 1
        · exact .inl e
        · exact .inr (h j (m - 1) (by omega) (by omega))
      unfold ltI at h1 h2 ⊢
      simp only [decide_eq_true_eq, decide_eq_false_iff_not] at h1 h2 ⊢
      rcases h2 with e | h2
      · rw [e]; omega
      · omega
    · rw [if_neg c, List.append_nil]; exact rising_compactI h m (by omega)
abbrev msortI (l : List Int) : List Int := l.mergeSort fun x y => decide (x ≤ y)
theorem msortI_nofall (l : List Int) : (msortI l).Pairwise (fun a b => ltI b a = false) := by
  have := List.pairwise_mergeSort (le := fun x y : Int => decide (x ≤ y)) (fun a b c h1 h2 => by simp at *; omega) (fun a b => by simp; omega) l
  refine this.imp ?_
  intro a b h
  unfold ltI
  simp at h ⊢; omega
theorem compact_msortI (l : List Int) : compact (msortI l) = sortI l := by
  refine eq_sortI ?_ ?_
  · unfold compact
    refine rising_compactI ?_ _ (by simp)
    intro i j hij hj
    have hj' : j < (msortI l).length := by simpa using hj
    rw [getElem!_pos _ j hj, getElem!_pos _ i (by omega)]
    simpa using List.pairwise_iff_getElem.1 (msortI_nofall l) i j (by omega) hj' hij
  · intro a
    unfold compact
    rw [mem_compactUpTo]
    constructor
    · rintro ⟨j, hj, rfl⟩
      rw [getElem!_pos _ j (by simpa using hj)]
      exact List.mem_mergeSort.1 (List.getElem_mem (l := msortI l) (by simpa using hj))
    · intro ha
      have : a ∈ msortI l := by simpa [msortI] using ha
      obtain ⟨j, hj, e⟩ := List.getElem_of_mem this
      exact ⟨j, hj, by rw [getElem!_pos _ j (by simpa using hj)]; simpa using e⟩
theorem sortN_any (g cap n : Nat) (l : List Int) (base : Nat) (w : World) (h : OwnE encN 1 w base 3 (.slice (some ⟨g, 0, none⟩) n cap) n l) (hn : n ≤ 1000000000) :
    Calls Tryz.prog 172 #[.slice (some ⟨g, 0, none⟩) n cap] w fun e w' => e = .returned (.tuple #[]) ∧ OwnE encN 1 w' base 3 (.slice (some ⟨g, 0, none⟩) n cap) n (msortI l) ∧ w.grownBy w' (some g) := by
  obtain ⟨hH, hb⟩ := h.holdsN
  have hln := h.len encN_len (by omega)
  have := Tryz.slices_Sort_int g 0 cap l w hH hb (by omega)
  rw [hln] at this
  refine this.mono ?_
  rintro e w' ⟨he, m, os, rfl⟩
  obtain ⟨h1, h2⟩ := h.putN (l' := msortI l) (by simp) m os
  exact ⟨he, h1, h2⟩
theorem compactN_any (g cap n : Nat) (l : List Int) (base : Nat) (w : World) (h : OwnE encN 1 w base 3 (.slice (some ⟨g, 0, none⟩) n cap) n l) (hcap : n ≤ cap) (hn : n ≤ 1000000000) :
    Calls Tryz.prog 126 #[.slice (some ⟨g, 0, none⟩) n cap] w fun e w' =>
      ∃ m, e = .returned (.slice (some ⟨g, 0, none⟩) m cap) ∧ m ≤ n ∧ OwnE encN 1 w' base 3 (.slice (some ⟨g, 0, none⟩) m cap) m (compact l) ∧ w.grownBy w' (some g) := by
  obtain ⟨hH, hb⟩ := h.holdsN
  have hln := h.len encN_len (by omega)
  have := Tryz.slices_Compact_int g 0 cap l w hH (by omega) (by omega)
  rw [hln] at this
  have hle : (compact l).length ≤ n := by
    rw [← hln]
    exact compact_length_le l
  refine this.mono ?_
  rintro e w' ⟨he, q, rfl⟩
  obtain ⟨h1, h2⟩ := h.putN (l' := compact l ++ List.replicate (n - (compact l).length) 0) (by simp; omega) q #[]
  rw [grow_empty] at h1 h2
  refine ⟨(compact l).length, he, hle, ?_, h2⟩
  have h3 := OwnE.cut (m := (compact l).length) encN_len h1 (by simp; omega) hle
  rw [List.take_append_of_le_length (Nat.le_refl _), List.take_length] at h3
  exact h3
end
section
open Go.RowKit Go.Sort Go.Lib
def IsOut {α : Type} (enc : α → List Value) (k : Nat) (w : World) (e : Ending) (l : List α) : Prop := ∃ p n c, e = .returned (.slice p n c) ∧ IsRow enc k w p n c l
theorem IsOut.mk {α : Type} {enc : α → List Value} {k : Nat} {w : World} {p : Option Addr} {n c : Nat} {l : List α} (h : IsRow enc k w p n c l) : IsOut enc k w (.returned (.slice p n c)) l := ⟨p, n, c, rfl, h⟩
end
section
open Go.RowKit
def Own0 {α : Type} (enc : α → List Value) (k : Nat) (w : World) (base : Nat) (e : TypeId) (v : Value) (n : Nat) (l : List α) : Prop := OwnE enc k w base e v n l ∨ ∃ p, v = .slice p 0 0 ∧ n = 0 ∧ l = []
section
variable {α : Type} {enc : α → List Value} {k : Nat} {w w' : World} {base base' e n : Nat} {v : Value} {l : List α}
theorem OwnE.z (h : OwnE enc k w base e v n l) : Own0 enc k w base e v n l := .inl h
theorem Own0.lit (enc : α → List Value) (k : Nat) (w : World) (base : Nat) (e : TypeId) (p : Option Addr) : Own0 enc k w base e (.slice p 0 0) 0 [] := .inr ⟨p, rfl, rfl, rfl⟩
theorem Own0.below (h : Own0 enc k w base e v n l) (hb : Below w.heap.size w w') : Own0 enc k w' base e v n l := h.elim (fun h => .inl (h.below hb)) .inr
theorem Own0.lower (h : Own0 enc k w base e v n l) (hb : base' ≤ base) : Own0 enc k w base' e v n l := h.elim (fun h => .inl (h.lower hb)) .inr
theorem Own0.drewN (h : Own0 enc k w base e v n l) (m : Nat) : Own0 enc k (w.drewN m) base e v n l := h
theorem Own0.isRow (h : Own0 enc k w base e v n l) (hk : ∀ x, (enc x).length = k) (hk0 : 0 < k) : ∃ p cap, v = .slice p n cap ∧ l.length = n ∧ n ≤ cap ∧ RowE enc k w p l ∧ cap ≤ maxLen ∧ (p = none → cap = 0) := by
  rcases h with h | ⟨p, rfl, rfl, rfl⟩
  · obtain ⟨p, cap, hv, hl, hc, hr, hm, hn, _⟩ := h.row hk hk0
    exact ⟨p, cap, hv, hl, hc, hr, hm, fun e => (hn e).2⟩
  · exact ⟨p, 0, rfl, rfl, by omega, .inl rfl, by unfold maxLen; omega, fun _ => rfl⟩
theorem Own0.len (h : Own0 enc k w base e v n l) (hk : ∀ x, (enc x).length = k) (hk0 : 0 < k) : l.length = n := by
  obtain ⟨_, _, _, h, _⟩ := h.isRow hk hk0; exact h
end
end
section
open Go.RowKit Go.Sort Go.Lib
def hasR (x : Atom) : Bool := atomB x && decide (x.kind ≠ 3)
def rhosOf (l : List Atom) : List Int := sortI ((l.filter hasR).map (·.rho))
theorem foldI : ∀ (l : List Int) (e : List Int), Rising ltI e → Rising ltI (l.foldl (fun e a => putI a e) e) ∧ ∀ x, x ∈ l.foldl (fun e a => putI a e) e ↔ x ∈ e ∨ x ∈ l
  | [], e, h => ⟨h, fun x => by simp⟩
  | a :: l, e, h => by
    obtain ⟨h1, h2⟩ := foldI l (putI a e) (rising_putI a e h)
    refine ⟨h1, fun x => ?_⟩
    rw [List.foldl_cons, h2, mem_putI, List.mem_cons]
    constructor
    · rintro ((rfl | h) | h)
      · exact .inr (.inl rfl)
      · exact .inl h
      · exact .inr (.inr h)
    · rintro (h | rfl | h)
      · exact .inl (.inr h)
      · exact .inl (.inl rfl)
      · exact .inr h
theorem insertR_length {α : Type} (lt : α → α → Bool) (a : α) : ∀ l : List α, (insertR lt a l).length ≤ l.length + 1
  | [] => by simp [insertR]
  | b :: l => by
    unfold insertR
    split
    · simp
    · split
      · have := insertR_length lt a l; simp; omega
      · simp
theorem sortR_length {α : Type} (lt : α → α → Bool) : ∀ l : List α, (sortR lt l).length ≤ l.length
  | [] => by simp [sortR]
  | a :: l => by
    have h1 := insertR_length lt a (sortR lt l)
    have h2 := sortR_length lt l
    simp only [sortR, List.length_cons]; omega
theorem rhosOf_length (l : List Atom) : (rhosOf l).length ≤ l.length := by
  have h1 := sortR_length ltI ((l.filter hasR).map (·.rho))
  have h2 := List.length_filter_le hasR l
  rw [List.length_map] at h1
  exact Nat.le_trans h1 h2
theorem mem_rhosOf (l : List Atom) (r : Int) : r ∈ rhosOf l ↔ ∃ x ∈ l, atomB x = true ∧ x.kind ≠ 3 ∧ x.rho = r := by
  unfold rhosOf
  rw [mem_sortI, List.mem_map]
  constructor
  · rintro ⟨x, hx, rfl⟩
    rw [List.mem_filter] at hx
    have h := hx.2
    unfold hasR at h
    rw [Bool.and_eq_true] at h
    exact ⟨x, hx.1, h.1, of_decide_eq_true h.2, rfl⟩
  · rintro ⟨x, hx, h1, h2, rfl⟩
    exact ⟨x, List.mem_filter.2 ⟨hx, by unfold hasR; rw [h1, decide_eq_true h2]; rfl⟩, rfl⟩
theorem rhosOf_congr {l m : List Atom} (h : ∀ x, atomB x = true → (x ∈ l ↔ x ∈ m)) : rhosOf l = rhosOf m := by
  refine sortI_congr (fun r => ?_)
  have h1 := mem_rhosOf l r
  have h2 := mem_rhosOf m r
  unfold rhosOf at h1 h2
  rw [mem_sortI] at h1 h2
  rw [h1, h2]
  constructor
  · rintro ⟨x, hx, ha, hk, hr⟩; exact ⟨x, (h x ha).1 hx, ha, hk, hr⟩
  · rintro ⟨x, hx, ha, hk, hr⟩; exact ⟨x, (h x ha).2 hx, ha, hk, hr⟩
theorem rhosOf_effL (l : List Atom) : rhosOf (effL l) = rhosOf l := rhosOf_congr (fun x hx => by rw [mem_sortA, List.mem_filter]; simp [hx])
set_option maxHeartbeats 1000000 in
theorem effect_Rhos_any (p : Option Addr) (n cap : Nat) (rows : List (SlE Atom)) (w : World) (hn : rows.length = n) (hm : n ≤ 1000000) (hr : RowE encSl 1 w p rows) (hok : ∀ r ∈ rows, r.Ok encA 3 w) (htot : (rows.map (·.n)).sum ≤ 1000000) :
    Calls Tryz.prog 132 #[.slice p n cap] w fun e w' => ∃ q m c, e = .returned (.slice q m c) ∧ m ≤ 1000000 ∧ IsRow encN 1 w' q m c (rhosOf (rows.flatMap (·.l))) ∧ Below w.heap.size w w' := by
  have HU := hid (effect_Union_any p n cap rows w hn hm hr hok htot)
  have HT := hid htot
  have HRE : Hid (sortI (((sortA ((rows.flatMap (·.l)).filter atomB)).filter (fun x => decide (x.kind ≠ 3))).map (·.rho)) = rhosOf (rows.flatMap (·.l))) := by
    show _ = _
    rw [← rhosOf_effL]
    unfold rhosOf
    congr 2
    apply List.filter_congr
    intro x hx
    rw [mem_sortA, List.mem_filter] at hx
    simp [hasR, hx.2]
  clear hn hr hok htot
  go_enter Tryz.func132, Tryz.ntmps132
  go_wp2_with fail
  refine HU.out.mono ?_
  rintro e w1 ⟨v, m, rfl, hmn, hown, hb⟩
  obtain ⟨q, mc, rfl, hrow⟩ := hown.isRow encA_len (by omega)
  have hm1 : m ≤ 1000000 := by have := HT.out; omega
  generalize hS : sortA ((rows.flatMap (·.l)).filter atomB) = S at hrow HRE
  have HS := hid hS
  have HR := hid hrow
  have HB := hid hb
  clear hrow hb
  clear hown hS hmn
  go_wp2_with fail
  go_loopw [3, 5, 9] (fun u _ i wr => ∃ k t : Nat, k ≤ m ∧ i = .int .i64 k ∧ t ≤ k ∧ OwnE encN 1 wr w1.heap.size 3 u t (((S.take k).filter (fun x => decide (x.kind ≠ 3))).map (·.rho)) ∧ Below w1.heap.size w1 wr) (fun _ _ i _ => m - (intOf i).toNat)
  case atStart => exact ⟨0, 0, by omega, rfl, by omega, OwnE.nil _ _ _ _ _, Below.refl _ _⟩
  case round =>
    obtain ⟨k, t, hk, rfl, htk, hown, hb⟩ := hrel
    have HOWN := hid hown
    have HBW := hid hb
    clear hown hb
    by_cases hlt : k < m
    · obtain ⟨x, hx⟩ := get_of_lt (l := S) (j := k) (by rw [HR.out.len]; exact hlt)
      have HE := hid hx
      obtain ⟨b, o, rfl, hbl, d0, d1, d2⟩ := RowA.atom (HR.out.below HBW.out).row hx
      obtain ⟨kd, rr, ss⟩ := x
      simp only at d0 d1 d2
      clear hx hbl
      have HBX := hid (HBW.out.alloc HBW.out.size (.cells #[.int .u8 kd, .int .i64 rr, .string ss] 59))
      have HO2 := hid (HOWN.out.below ((Below.refl _ wr).alloc (Nat.le_refl _) (.cells #[.int .u8 kd, .int .i64 rr, .string ss] 59)))
      by_cases h3 : kd = 3
      · have h3' : (kd != 3) = false := by simp [h3]
        have HN3 := hid h3
        clear h3
        go_wp2_with fail
        go_roundw
        case rel => exact ⟨k + 1, t, by omega, by go_num, by omega, by rw [take_succ_get HE.out, List.filter_append, List.map_append]; simpa [HN3.out] using HO2.out, HBX.out⟩
        case measure => simp [intOf]; omega
      · have h3' : (kd != 3) = true := by simpa using h3
        have HN3 := hid h3
        clear h3
        go_wp2_with (at_builtin; refine wpList_append1 rfl _ _ 24 rfl w1.heap.size 3 _ 1 8 Tryz.underlying24 infoN rfl (by decide) encN encN_len encN_one rr _ _ _ HO2.out rfl (by refine Eq.trans (b := Value.slice (some ⟨wr.heap.size + 1, 0, none⟩) 1 1) rfl ?_; simp) ?c1 ?c2 ?c3 ?_)
        case c1 => omega
        case c2 => omega
        case c3 => have := HBX.out.size; simp at this ⊢; omega
        · intro v' w4 hown' hg
          have HO4 := hid hown'
          have HB4 := hid (Below.own HBX.out hg (by have := HBX.out.size; simp at this ⊢; omega) HO2.out)
          clear hown' hg d0 d1 d2
          go_wp2_with fail
          go_roundw
          case rel => exact ⟨k + 1, t + 1, by omega, by go_num, by omega, by rw [take_succ_get HE.out, List.filter_append, List.map_append]; simpa [HN3.out] using HO4.out, HB4.out⟩
          case measure => simp [intOf]; omega
    · have hkm : k = m := by omega
      subst hkm
      have h1 := HOWN.out
      rw [take_full (by rw [HR.out.len]; omega)] at h1
      have HO := hid h1
      clear h1
      rcases HO.out.split encN_len (by omega) with ⟨rfl, rfl, hnil⟩ | ⟨g, cp, rfl, hcp, hbg⟩
      · have HNIL := hid hnil
        clear hnil
        go_wp2_with fail
        refine (Tryz.slices_Sort_int_none none 0 _).mono ?_
        rintro e w2 ⟨rfl, rfl⟩
        go_wp2_with fail
        refine (Tryz.slices_Compact_int_empty none 0 _).mono ?_
        rintro e w3 ⟨rfl, rfl⟩
        go_wp2_with fail
        go_ret
        exact ⟨none, 0, 0, rfl, by omega, by rw [← HRE.out, HNIL.out]; exact IsRow.none _ _ _, HB.out.trans (HBW.out.mono HB.out.size)⟩
      · go_wp2_with fail
        refine (sortN_any g cp t _ w1.heap.size wr HO.out (by omega)).mono ?_
        rintro e w2 ⟨rfl, ho1, hg1⟩
        have HB1 := hid (OwnE.drop_base (enc := encN) (k := 1) hg1 hbg HBW.out HBW.out.size)
        have HO1 := hid ho1
        clear ho1 hg1
        go_wp2_with fail
        refine (compactN_any g cp t _ w1.heap.size w2 HO1.out hcp (by omega)).mono ?_
        rintro e w3 ⟨m', rfl, hm', ho2, hg2⟩
        have HB2 := hid (OwnE.drop_base (enc := encN) (k := 1) hg2 hbg HB1.out HB1.out.size)
        rw [compact_msortI, HRE.out] at ho2
        obtain ⟨p', c', hv, hrow⟩ := ho2.isRow encN_len (by omega)
        cases hv
        have HO2 := hid hrow
        clear ho2 hg2 hrow
        go_wp2_with fail
        go_ret
        exact ⟨_, m', _, rfl, by omega, HO2.out, HB.out.trans (HB2.out.mono HB.out.size)⟩
end
section
open Go.ChangeShapes Go.WideShapes Go.ChangeAt Go.RowKit Go.Deep
variable {H : Type} {enc : TypeId × Value → H} {W : World} {base : Nat} {t e : TypeId} {v : Value} {d : DataW H} {ps : List MemPlace}
theorem row_of_gets {α : Type} {encE : α → List Value} {k : Nat} (w : World) (b o : Nat) (hb : b < w.heap.size) (n : Nat) (q : Nat → α) (h : ∀ j, j < n → ∀ i u, (encE (q j))[i]? = some u → w.cell? ⟨b, o + j * k + i, none⟩ = some u) :
    RowE encE k w (some ⟨b, o, none⟩) ((List.range n).map q) := by
  refine .inr ⟨b, o, rfl, hb, fun j x hx i u hu => ?_⟩
  rw [List.getElem?_map] at hx
  have hj : j < n := by
    have := (Option.map_eq_some_iff.1 hx).choose_spec.1
    have := (List.getElem?_eq_some_iff.1 this).1
    simpa using this
  rw [List.getElem?_range hj] at hx
  cases hx
  exact h j hj i u hu
end
section
open Go.ChangeShapes Go.WideShapes Go.ChangeAt Go.RowKit Go.Deep
section
variable {H : Type} {enc : TypeId × Value → H} {W : World} {base : Nat} {t e : TypeId} {v : Value} {d : DataW H} {ps : List MemPlace}
end
end
section
open Go.ChangeShapes Go.WideShapes Go.ChangeAt Go.RowKit Go.Deep
variable {H : Type} {enc : TypeId × Value → H} {W : World} {base : Nat} {t e : TypeId} {v : Value} {d : DataW H} {ps : List MemPlace}
structure okAt (x : Atom) : Prop where
  k0 : 0 ≤ x.kind
  k1 : x.kind ≤ 255
  r0 : -9223372036854775808 ≤ x.rho
  r1 : x.rho ≤ 9223372036854775807
  s1 : x.exn.size ≤ 9223372036854775807
end
section
open Go.ChangeShapes Go.WideShapes Go.ChangeAt Go.RowKit Go.Deep
section
variable {H : Type} {enc : TypeId × Value → H} {W : World} {base : Nat} {t e : TypeId} {v : Value} {d : DataW H} {ps : List MemPlace}
def Elem (enc : TypeId × Value → H) (W : World) (e : TypeId) (n : Nat) {α : Type} (enc1 : α → List Value) (Q : α → Prop) : Prop :=
  ∀ cs' x, DataW.trod enc Tryz.prog W 0 (fun _ => true) true n e cs' = some x → cs'.length = Tryz.prog.cellsOf e → ∃ y : α, cs' = enc1 y ∧ Q y
theorem open_row_at {α : Type} {k fuel : Nat} {cs : List Value} {x : DataW H × List MemPlace} (enc1 : α → List Value) (Q : α → Prop) (ht : Tryz.prog.underlying t = some (.slice e)) (hc : Tryz.prog.cellsOf e = k) (hk0 : 0 < k) (henc : ∀ y, (enc1 y).length = k)
    (hf : DataW.trod enc Tryz.prog W 0 (fun _ => true) true fuel t cs = some x) (he : ∀ n, n < fuel → Elem enc W e n enc1 Q) :
    ∃ p n cap, ∃ l : List α, cs = [.slice p n cap] ∧ IsRow enc1 k W p n cap l ∧ ∀ y ∈ l, Q y := by
  rcases DataW.trod_slice ht hf with ⟨hcs, _⟩ | ⟨a, len, cap, elems, rest, n, hfu, hcs, _, _, hl, hm, hlen, hel, _, _⟩
  · exact ⟨none, 0, 0, [], hcs, IsRow.none _ _ _, fun y hy => by cases hy⟩
  · unfold maxLen at hm
    have each : ∀ i, i < len → ∃ y : α, Q y ∧ ∀ j u, (enc1 y)[j]? = some u → W.cell? ((a.add (i * k)).add j) = some u := by
      intro i hi
      have h := hel i hi
      rw [List.getElem?_eq_getElem (by omega)] at h
      obtain ⟨cs', h1, h2⟩ := Option.bind_eq_some_iff.1 h
      rw [hc] at h1
      obtain ⟨_, hlen', hcell⟩ := World.cells?_some h1
      obtain ⟨y, rfl, hq⟩ := he n (by omega) cs' _ h2 (by rw [hc]; exact hlen')
      refine ⟨y, hq, fun j u hu => ?_⟩
      have hj : j < k := by rw [← henc y]; exact get_lt hu
      rw [hcell j hj]; exact hu
    by_cases hn0 : len = 0
    · subst hn0
      exact ⟨_, 0, cap, [], hcs, ⟨rfl, by omega, hl, (fun h => by cases h), .inl rfl⟩, fun y hy => by cases hy⟩
    · obtain ⟨y0, _⟩ := each 0 (by omega)
      haveI : Inhabited α := ⟨y0⟩
      obtain ⟨q, hq⟩ := choose_lt each
      obtain ⟨b, off, spot⟩ := a
      obtain ⟨u0, hu0⟩ : ∃ u, (enc1 (q 0))[0]? = some u := get_of_lt (by rw [henc]; omega)
      have c0 := (hq 0 (by omega)).2 0 u0 hu0
      have hspot : spot = none := by simpa [Addr.add] using World.cell?_spot c0
      subst hspot
      have hbl : b < W.heap.size := by simpa [Addr.add] using cell_block c0
      refine ⟨_, len, cap, (List.range len).map q, hcs, ⟨by simp, by omega, hl, (fun h => by cases h), row_of_gets W b off hbl len q (fun j hj i u hu => ?_)⟩, fun y hy => ?_⟩
      · have := (hq j hj).2 i u hu
        rw [add_lit', add_lit'] at this
        exact this
      · obtain ⟨j, hj, rfl⟩ := List.mem_map.1 hy
        exact (hq j (List.mem_range.1 hj)).1
theorem elem_num (n : Nat) : Elem enc W 3 n encN (fun z : Int => -9223372036854775808 ≤ z ∧ z ≤ 9223372036854775807) := by
  intro cs' x h _
  obtain ⟨z, rfl, _, hz⟩ := DataW.trod_int Tryz.underlying3 h
  exact ⟨z, rfl, by simpa [Lit.wf, IntKind.min, IntKind.max, IntKind.signed, IntKind.bits] using hz⟩
theorem elem_atom (n : Nat) : Elem enc W 59 n encA okAt := by
  intro cs' x h hlen
  have he : Tryz.prog.underlying 59 = some (.struct (Tryz.prog.fieldsOf 59)) := by kernel_rfl
  have ce : Tryz.prog.cellsOf 59 = 3 := by kernel_rfl
  have F0 : ((Tryz.prog.fieldsOf 59)[0]?).map (fun f => (f.type, f.offset)) = some (5, 0) := by kernel_rfl
  have F1 : ((Tryz.prog.fieldsOf 59)[1]?).map (fun f => (f.type, f.offset)) = some (3, 1) := by kernel_rfl
  have F2 : ((Tryz.prog.fieldsOf 59)[2]?).map (fun f => (f.type, f.offset)) = some (9, 2) := by kernel_rfl
  have C0 : Tryz.prog.cellsOf 5 = 1 := by kernel_rfl
  have C1 : Tryz.prog.cellsOf 3 = 1 := by kernel_rfl
  have C2 : Tryz.prog.cellsOf 9 = 1 := by kernel_rfl
  rw [ce] at hlen
  obtain ⟨xs, k, hk, hxy, _, hxl, hf'⟩ := DataW.trod_struct he h
  obtain ⟨f0, e0, p0⟩ := Option.map_eq_some_iff.1 F0
  obtain ⟨f1, e1, p1⟩ := Option.map_eq_some_iff.1 F1
  obtain ⟨f2, e2, p2⟩ := Option.map_eq_some_iff.1 F2
  simp only [Prod.mk.injEq] at p0 p1 p2
  have g0 := hf' 0 f0 e0
  have g1 := hf' 1 f1 e1
  have g2 := hf' 2 f2 e2
  rw [p0.1, p0.2, C0] at g0
  rw [p1.1, p1.2, C1] at g1
  rw [p2.1, p2.2, C2] at g2
  have b0 := (Array.getElem?_eq_some_iff.1 e0).1
  have b1 := (Array.getElem?_eq_some_iff.1 e1).1
  have b2 := (Array.getElem?_eq_some_iff.1 e2).1
  match cs', hlen with
  | [v0, v1, v2], _ =>
    rw [List.getElem?_eq_getElem (show 0 < xs.length by omega)] at g0
    rw [List.getElem?_eq_getElem (show 1 < xs.length by omega)] at g1
    rw [List.getElem?_eq_getElem (show 2 < xs.length by omega)] at g2
    obtain ⟨z0, q0, _, b0'⟩ := DataW.trod_int Tryz.underlying5 g0
    obtain ⟨z1, q1, _, b1'⟩ := DataW.trod_int Tryz.underlying3 g1
    obtain ⟨z2, q2, _, b2'⟩ := DataW.trod_string Tryz.underlying9 g2
    simp at q0 q1 q2
    have h0 : 0 ≤ z0 ∧ z0 ≤ 255 := by simpa [Lit.wf, IntKind.min, IntKind.max, IntKind.signed, IntKind.bits] using b0'
    have h1 : -9223372036854775808 ≤ z1 ∧ z1 ≤ 9223372036854775807 := by simpa [Lit.wf, IntKind.min, IntKind.max, IntKind.signed, IntKind.bits] using b1'
    unfold maxLen at b2'
    exact ⟨⟨z0, z1, z2⟩, by rw [q0, q1, q2]; rfl, h0.1, h0.2, h1.1, h1.2, by omega⟩
end
end
section
open Go.RowKit
structure LH where
  kind : Int
  rho : Int
  eff : List Atom
structure RH where
  kind : Int
  rho : Int
  ep : Option Addr
  en : Nat
  ec : Nat
  eff : List Atom
  kp : Option Addr
  kn : Nat
  kc : Nat
abbrev PT := Rose RH
abbrev RT := Rose LH
def RH.plain (a : RH) : LH := ⟨a.kind, a.rho, a.eff⟩
def PT.er (t : PT) : RT := Rose.map RH.plain t
theorem PT.er_node (a : RH) (l : List PT) : PT.er (.node a l) = .node a.plain (l.map PT.er) := Rose.map_node _ a l
def encRH (a : RH) : List Value := [.int .u8 a.kind, .int .i64 a.rho, .slice a.ep a.en a.ec, .slice a.kp a.kn a.kc]
structure RH.Own (w : World) (a : RH) : Prop where
  eff : IsRow encA 3 w a.ep a.en a.ec a.eff
  ok : ∀ x ∈ a.eff, okAt x
  k0 : 0 ≤ a.kind
  k1 : a.kind ≤ 255
  r0 : -9223372036854775808 ≤ a.rho
  r1 : a.rho ≤ 9223372036854775807
  kmax : a.kn ≤ 9223372036854775807
  kle : a.kn ≤ a.kc
  knil : a.kp = none → a.kc = 0
def LR : Laid RH where
  enc := encRH
  k := 4
  own := RH.Own
  kp := RH.kp
  kn := RH.kn
  len := fun _ => rfl
  below := fun h hb => ⟨h.eff.below hb, h.ok, h.k0, h.k1, h.r0, h.r1, h.kmax, h.kle, h.knil⟩
theorem encT_LR (t : PT) : LR.encT t = encRH t.head := rfl
theorem LRlen : ∀ t : PT, (LR.encT t).length = 4 := fun _ => rfl
abbrev aggR (a : RH) : Value := .agg #[.int .u8 a.kind, .int .i64 a.rho, .slice a.ep a.en a.ec, .slice a.kp a.kn a.kc]
structure NodeIn (w : World) (a : RH) (l : List PT) : Prop where
  own : RH.Own w a
  kids : IsRow LR.encT 4 w a.kp a.kn a.kc l
  each : ∀ t ∈ l, LR.lies w t
theorem nodeIn {w : World} {a : RH} {l : List PT} (h : LR.lies w (.node a l)) : NodeIn w a l := by
  rw [Laid.lies_node] at h
  exact ⟨h.1, ⟨h.2.1, h.1.kmax, h.1.kle, h.1.knil, h.2.2.1⟩, h.2.2.2⟩
theorem NodeIn.lies {w : World} {a : RH} {l : List PT} (h : NodeIn w a l) : LR.lies w (.node a l) := by
  rw [Laid.lies_node]
  exact ⟨h.own, h.kids.len, h.kids.row, h.each⟩
theorem NodeIn.below {w w' : World} {a : RH} {l : List PT} (h : NodeIn w a l) (hb : Below w.heap.size w w') : NodeIn w' a l := nodeIn (LR.lies_below hb _ h.lies)
theorem NodeIn.alloc {w : World} {a : RH} {l : List PT} (h : NodeIn w a l) (o : Obj) : NodeIn (w.alloc o) a l := h.below ((Below.refl _ _).alloc (Nat.le_refl _) _)
structure RowT (w : World) (p : Option Addr) (n cap : Nat) (l : List PT) : Prop where
  row : IsRow LR.encT 4 w p n cap l
  each : ∀ t ∈ l, LR.lies w t
theorem NodeIn.rowT {w : World} {a : RH} {l : List PT} (h : NodeIn w a l) : RowT w a.kp a.kn a.kc l := ⟨h.kids, h.each⟩
theorem RowT.below {w w' : World} {p : Option Addr} {n cap : Nat} {l : List PT} (h : RowT w p n cap l) (hb : Below w.heap.size w w') : RowT w' p n cap l := ⟨h.row.below hb, fun t ht => LR.lies_below hb t (h.each t ht)⟩
theorem RowT.alloc {w : World} {p : Option Addr} {n cap : Nat} {l : List PT} (h : RowT w p n cap l) (o : Obj) : RowT (w.alloc o) p n cap l := h.below ((Below.refl _ _).alloc (Nat.le_refl _) _)
theorem RowT.kid {w : World} {p : Option Addr} {n cap : Nat} {l : List PT} (h : RowT w p n cap l) {j : Nat} {t : PT} (hx : l[j]? = some t) :
    ∃ b o, p = some ⟨b, o, none⟩ ∧ b < w.heap.size ∧ w.cell? ⟨b, o + j * 4, none⟩ = some (.int .u8 t.head.kind) ∧ w.cell? ⟨b, o + j * 4 + 1, none⟩ = some (.int .i64 t.head.rho) ∧
      w.cell? ⟨b, o + j * 4 + 2, none⟩ = some (.slice t.head.ep t.head.en t.head.ec) ∧ w.cell? ⟨b, o + j * 4 + 3, none⟩ = some (.slice t.head.kp t.head.kn t.head.kc) := by
  obtain ⟨b, o, hp, hb, hc⟩ := h.row.row.elem hx
  exact ⟨b, o, hp, hb, by simpa using hc 0 _ rfl, hc 1 _ rfl, hc 2 _ rfl, hc 3 _ rfl⟩
theorem RowT.at {w : World} {p : Option Addr} {n cap : Nat} {l : List PT} (h : RowT w p n cap l) {j : Nat} (hj : j < n) : ∃ t, l[j]? = some t := get_of_lt (by rw [h.row.len]; exact hj)
theorem RowT.lies {w : World} {p : Option Addr} {n cap : Nat} {l : List PT} (h : RowT w p n cap l) {j : Nat} {t : PT} (hx : l[j]? = some t) : LR.lies w t := h.each t (List.mem_of_getElem? hx)
theorem le_sum_of_mem : ∀ {l : List Nat} {x : Nat}, x ∈ l → x ≤ l.sum
  | [], _, h => by cases h
  | y :: l, x, h => by
    rcases List.mem_cons.1 h with rfl | h
    · simp
    · have := le_sum_of_mem h; simp; omega
def effsOK : RT → Bool := Rose.all (fun a _ => !greatB a.eff)
theorem effsOK_node (a : LH) (l : List RT) : effsOK (.node a l) = (!greatB a.eff && l.all effsOK) := Rose.all_node _ a l
structure SmallT (t : RT) (n : Nat) : Prop where
  size : t.size ≤ n
  effs : effsOK t = true
theorem SmallT.kid {a : LH} {l : List RT} {n : Nat} (h : SmallT (.node a l) n) {t : RT} (ht : t ∈ l) : SmallT t n := by
  refine ⟨?_, ?_⟩
  · have h1 := h.size
    rw [Rose.size_node] at h1
    have h2 : t.size ≤ (l.map Rose.size).sum := by
      have : t.size ∈ l.map Rose.size := List.mem_map_of_mem ht
      exact le_sum_of_mem this
    omega
  · have h1 := h.effs
    rw [effsOK_node, Bool.and_eq_true, List.all_eq_true] at h1
    exact h1.2 t ht
theorem SmallT.kids {a : LH} {l : List RT} {n : Nat} (h : SmallT (.node a l) n) : l.length ≤ n := by
  have h1 := h.size
  rw [Rose.size_node] at h1
  have : ∀ l : List RT, l.length ≤ (l.map Rose.size).sum := by
    intro l
    induction l with
    | nil => simp
    | cons x l ih => have := Rose.size_pos x; simp only [List.length_cons, List.map_cons, List.sum_cons]; omega
  have := this l
  omega
theorem SmallT.eff {a : LH} {l : List RT} {n : Nat} (h : SmallT (.node a l) n) : greatB a.eff = false := by
  have h1 := h.effs
  rw [effsOK_node, Bool.and_eq_true] at h1
  simpa using h1.1
end
section
open Go.RowKit
theorem ref_Great_eff {a : RH} {w : World} {r : Bool} (h : greatB a.eff = r) (ho : RH.Own w a) :
    Calls Tryz.prog 86 #[.slice a.ep a.en a.ec] w fun e w' => e = .returned (.bool r) ∧ w = w' := by
  subst h; exact ref_Great_any _ _ _ _ w ho.eff.len ho.eff.max ho.eff.row
def LeftOK (t : RT) (n r : Int) : Prop := -1 ≤ r ∧ r ≤ n ∧ (0 ≤ r → (t.size : Int) + r = n ∧ effsOK t = true)
def LeftTo (l : List RT) (n r : Int) : Prop := -1 ≤ r ∧ r ≤ n ∧ (0 ≤ r → ((l.map Rose.size).sum : Int) + r = n ∧ l.all effsOK = true)
theorem LeftTo.step {l : List RT} {n r r' : Int} {t : RT} (h : LeftTo l n r) (h0 : 0 ≤ r) (h' : LeftOK t r r') : LeftTo (l ++ [t]) n r' := by
  refine ⟨h'.1, by have := h.2.1; have := h'.2.1; omega, fun hr => ?_⟩
  obtain ⟨h1, h2⟩ := h.2.2 h0
  obtain ⟨h3, h4⟩ := h'.2.2 hr
  refine ⟨?_, by simp [h2, h4]⟩
  simp only [List.map_append, List.map_cons, List.map_nil, List.sum_append, List.sum_cons, List.sum_nil]
  omega
set_option maxHeartbeats 1000000 in
theorem ref_left_any (t : PT) : ∀ w, LR.lies w t → ∀ n : Int, 0 ≤ n → n ≤ 1000000 →
    Calls Tryz.prog 119 #[aggR t.head, .int .i64 n] w fun e w' => (∃ r : Int, e = .returned (.int .i64 r) ∧ LeftOK t.er n r) ∧ Below w.heap.size w w' := by
  refine Rose.ind (P := fun (t : PT) => ∀ w, LR.lies w t → ∀ n : Int, 0 ≤ n → n ≤ 1000000 → Calls Tryz.prog 119 #[aggR t.head, .int .i64 n] w fun e w' => (∃ r : Int, e = .returned (.int .i64 r) ∧ LeftOK t.er n r) ∧ Below w.heap.size w w') (fun a l ih => ?_) t
  intro w hl n h0 hn
  have HN := hid (nodeIn hl)
  have IH := hid ih
  have hkm := HN.out.own.kmax
  have HBX := hid ((Below.refl w.heap.size w).alloc (Nat.le_refl _) (.cells #[.int .u8 a.kind, .int .i64 a.rho, .slice a.ep a.en a.ec, .slice a.kp a.kn a.kc] 28))
  show Calls _ _ #[aggR a, .int .i64 n] w _
  clear hl ih
  cases hg : greatB a.eff
  · have HG := hid hg
    clear hg
    obtain ⟨kd, rr, ep, en, ec, eff, kp, kn, kc⟩ := a
    simp only at hkm
    go_enter Tryz.func119, Tryz.ntmps119
    go_wp2_with fail
    refine (ref_Great_eff HG.out (HN.out.alloc _).own).mono ?_
    rintro e w1 ⟨rfl, rfl⟩
    generalize hW : w.alloc (.cells #[.int .u8 kd, .int .i64 rr, .slice ep en ec, .slice kp kn kc] 28) = W at *
    have HC3 : Hid (∀ wr, Below W.heap.size W wr → wr.cell? ⟨w.heap.size, 3, none⟩ = some (.slice kp kn kc)) := by
      show ∀ wr, _
      intro wr hb
      rw [← hW] at hb
      rw [hb.cell (by simp), cell_new]; rfl
    have HNW : Hid (NodeIn W ⟨kd, rr, ep, en, ec, eff, kp, kn, kc⟩ l) := by show NodeIn _ _ _; rw [← hW]; exact HN.out.alloc _
    clear hW
    have hW3 := HC3.out W (Below.refl _ _)
    go_wp2_with fail
    clear hW3
    go_loopw [1, 5] (fun u i wr => ∃ (k : Nat) (r : Int), k ≤ kn ∧ i = .int .i64 k ∧ u = .int .i64 r ∧ LeftTo ((l.take k).map PT.er) (n - 1) r ∧ Below W.heap.size W wr) (fun _ i _ => kn - (intOf i).toNat)
    case atStart => exact ⟨0, n - 1, by omega, rfl, rfl, ⟨by omega, by omega, fun _ => ⟨by simp, by simp⟩⟩, Below.refl _ _⟩
    case round =>
      obtain ⟨k, r, hk, rfl, rfl, hto, hb⟩ := hrel
      have hr1 := hto.1
      have hr2 := hto.2.1
      have HTO := hid hto
      have HB := hid hb
      clear hto hb
      have hc3 := HC3.out wr HB.out
      by_cases hlt : k < kn
      · by_cases hr0 : 0 ≤ r
        · obtain ⟨x, hx⟩ := (HNW.out.rowT).at (j := k) hlt
          have HE := hid hx
          obtain ⟨b, o, rfl, hbl, d0, d1, d2, d3⟩ := (HNW.out.rowT.below HB.out).kid hx
          clear hx hbl
          go_wp2_with fail
          refine (IH.out x (List.mem_of_getElem? HE.out) wr ((HNW.out.rowT.below HB.out).lies HE.out) r hr0 (by omega)).mono ?_
          rintro e w2 ⟨⟨r', rfl, hok⟩, hb⟩
          have HOK := hid hok
          have HB2 := hid (HB.out.trans (hb.mono HB.out.size))
          clear hok hb d0 d1 d2 d3 hc3
          go_wp2_with fail
          go_roundw
          case rel => exact ⟨k + 1, r', by omega, by go_num, rfl, by rw [take_succ_get HE.out, List.map_append]; exact HTO.out.step hr0 HOK.out, HB2.out⟩
          case measure => simp [intOf]; omega
        · have hd : decide (0 ≤ r) = false := by simpa using hr0
          go_wp2_with fail
          go_ret
          exact ⟨⟨r, rfl, by have := HTO.out; refine ⟨this.1, by omega, fun h => absurd h (by omega)⟩⟩, HBX.out.trans (HB.out.mono HBX.out.size)⟩
      · have hkn : k = kn := by omega
        subst hkn
        go_wp2_with fail
        go_ret
        have h := HTO.out
        rw [take_full (by rw [HNW.out.kids.len]; omega)] at h
        refine ⟨⟨r, rfl, h.1, by omega, fun h0 => ?_⟩, HBX.out.trans (HB.out.mono HBX.out.size)⟩
        obtain ⟨h1, h2⟩ := h.2.2 h0
        rw [PT.er_node, Rose.size_node, effsOK_node]
        refine ⟨by omega, ?_⟩
        rw [h2, Bool.and_true]
        show (!greatB eff) = true
        rw [HG.out]; rfl
  · have HG := hid hg
    clear hg
    go_enter Tryz.func119, Tryz.ntmps119
    go_wp2_with fail
    refine (ref_Great_eff HG.out (HN.out.alloc _).own).mono ?_
    rintro e w1 ⟨rfl, rfl⟩
    go_wp2_with fail
    go_ret
    refine ⟨⟨-1, rfl, by omega, by omega, fun h => by omega⟩, HBX.out⟩
theorem ref_Great12_any {t : PT} {w : World} (hl : LR.lies w t) :
    Calls Tryz.prog 87 #[aggR t.head] w fun e w' => (∃ r, e = .returned (.bool r) ∧ (r = false → SmallT t.er 100)) ∧ Below w.heap.size w w' := by
  have HL := hid (fun o => ref_left_any t (w.alloc o) (LR.lies_below ((Below.refl _ _).alloc (Nat.le_refl _) _) t hl) 100 (by omega) (by omega))
  obtain ⟨a, l⟩ := t
  show Calls _ _ #[aggR a] w _
  obtain ⟨kd, rr, ep, en, ec, eff, kp, kn, kc⟩ := a
  clear hl
  go_enter Tryz.func87, Tryz.ntmps87
  go_wp2_with fail
  refine (HL.out _).mono ?_
  rintro e w1 ⟨⟨r, rfl, hok⟩, hb⟩
  have HOK := hid hok
  have HB := hid (((Below.refl w.heap.size w).alloc (Nat.le_refl _) (.cells #[.int .u8 kd, .int .i64 rr, .slice ep en ec, .slice kp kn kc] 28)).trans (hb.mono (by simp)))
  clear hok hb
  go_wp2_with fail
  go_ret
  refine ⟨⟨_, rfl, fun h => ?_⟩, HB.out⟩
  have h0 : 0 ≤ r := by simpa using h
  obtain ⟨h1, h2⟩ := HOK.out.2.2 h0
  exact ⟨by omega, h2⟩
end
end Go.Proofs.YtkdjnegfnhldpaaGreatDoor
