/- slices.SortFunc over effect.compare: the row holds its atoms, sorted. -/
import Derived.Test.YtekhblomdlehhaaDoorEff5
import Derived.Test.YtekhblomdlehhaaDoorShelf
import Derived.Shelf.SlSortCmp.NoneTotal
import Derived.Sort.OwnSorted
set_option linter.unusedVariables false
set_option maxRecDepth 100000
set_option linter.unusedSimpArgs false
namespace Go.Proofs.YtekhblomdlehhaaDoor
open Go.RowKit Go.Sort Go.Lib

theorem holds_vals {w : World} {g : Nat} {cur : Array Value} {e : TypeId} {ss : List Value} (hb : w.heap[g]? = some (.cells cur e (0, 0))) (ht : cur.toList.take ss.length = ss) : Holds id w g 0 ss.toArray := by
  intro j hj
  have hj' : j < ss.length := by simpa using hj
  refine ⟨?_, by simp [World.frozen?, hb]⟩
  have h1 : (cur.toList.take ss.length)[j]? = ss[j]? := by rw [ht]
  rw [List.getElem?_take_of_lt hj'] at h1
  simp only [World.cell?, hb, Nat.zero_add]
  simp only [Option.isSome_none, Bool.false_eq_true, if_false]
  rw [← Array.getElem?_toList, h1]
  simp [hj']

theorem take_putVals (cur : Array Value) (ts : List Value) (h : ts.length ≤ cur.size) : (putCells id 0 ts.toArray cur).toList.take ts.length = ts := by
  apply List.ext_getElem?
  intro j
  by_cases hj : j < ts.length
  · rw [List.getElem?_take_of_lt hj, Array.getElem?_toList]
    simp [putCells, hj, show j < cur.size by omega]
  · rw [List.getElem?_take_eq_none (by omega), List.getElem?_eq_none (by omega)]

theorem heap_putVals {w : World} {g n : Nat} {os : Array Obj} {cur : Array Value} {e : TypeId} {fr : Nat × Nat} (d : Array Value) (hb : w.heap[g]? = some (.cells cur e fr)) :
    (grow (putRow id (Sort.ahead w n) g 0 d) os).heap[g]? = some (.cells (putCells id 0 d cur) e fr) := by
  have hg : g < w.heap.size := (Array.getElem?_eq_some_iff.1 hb).1
  rw [heap_grow_old _ _ (by simpa using hg)]
  simp [putRow, mapBlock, Sort.ahead, Array.getElem?_modify, hb, onCells]

theorem grownBy_putVals {w : World} {g n : Nat} {os : Array Obj} (d : Array Value) : w.grownBy (grow (putRow id (Sort.ahead w n) g 0 d) os) (some g) := by
  refine ⟨rfl, rfl, rfl, by simp, fun k hk hne => ?_⟩
  rw [heap_grow_old _ _ (by simpa using hk)]
  have : g ≠ k := fun e => hne (by rw [e])
  simp [putRow, mapBlock, Sort.ahead, Array.getElem?_modify, this]

section
variable {α : Type} [Inhabited α]
theorem flatK_list {enc : α → List Value} {k : Nat} (hk : ∀ x, (enc x).length = k) (hk0 : 0 < k) (d : Array α) : flatK enc k d = (d.toList.flatMap enc).toArray := by
  apply Array.ext
  · simp only [size_flatK, List.size_toArray, flat_length hk, Array.length_toList]
  · intro t h1 h2
    have ht : t < d.size * k := by simpa using h1
    have hq : t / k < d.size := Nat.div_lt_of_lt_mul (by rwa [Nat.mul_comm])
    have hr : t % k < k := Nat.mod_lt _ hk0
    have hx : d.toList[t / k]? = some d[t / k]! := by
      rw [List.getElem?_eq_getElem (by simpa using hq)]; simp [hq]
    have hf := flat_get hk d.toList (t / k) _ (t % k) hx hr
    rw [show t / k * k + t % k = t from Nat.div_add_mod' t k] at hf
    rw [← getElem!_pos (flatK enc k d) t h1, get_flatK enc k d t ht]
    have e2 : (enc d[t / k]!)[t % k]! = (enc d[t / k]!)[t % k]'(by rw [hk]; exact hr) := getElem!_pos _ _ (by rw [hk]; exact hr)
    rw [e2]
    have e3 : (enc d[t / k]!)[t % k]? = some ((enc d[t / k]!)[t % k]'(by rw [hk]; exact hr)) := List.getElem?_eq_getElem (by rw [hk]; exact hr)
    rw [e3] at hf
    have := (List.getElem?_eq_some_iff.1 hf).2
    simpa using this.symm

/-- what a row of the call's own holds, for the sort -/
theorem OwnE.holdsK {enc : α → List Value} {k : Nat} (hk : ∀ x, (enc x).length = k) (hk0 : 0 < k) {w : World} {base e n : Nat} {g cap : Nat} {l : List α} (h : OwnE enc k w base e (.slice (some ⟨g, 0, none⟩) n cap) n l) :
    HoldsK enc k w g 0 l.toArray ∧ g < w.heap.size := by
  rcases h.2 with ⟨h0, _⟩ | ⟨g', cap', cur, hv, hb, hg, hn, hm, hs, ht⟩
  · cases h0
  · cases hv
    refine ⟨?_, (Array.getElem?_eq_some_iff.1 hg).1⟩
    unfold HoldsK
    rw [flatK_list hk hk0]
    refine holds_vals hg ?_
    rw [h.1]; exact ht

/-- behind the sort -/
theorem OwnE.sorted {enc : α → List Value} {k : Nat} (hk : ∀ x, (enc x).length = k) (hk0 : 0 < k) {w : World} {base e n : Nat} {g cap : Nat} {l l' : List α} (h : OwnE enc k w base e (.slice (some ⟨g, 0, none⟩) n cap) n l) (hl : l'.length = l.length) (m : Nat) (os : Array Obj) :
    OwnE enc k (sortWorldK enc k w g 0 m l'.toArray os) base e (.slice (some ⟨g, 0, none⟩) n cap) n l' ∧ w.grownBy (sortWorldK enc k w g 0 m l'.toArray os) (some g) := by
  rcases h.2 with ⟨h0, _⟩ | ⟨g', cap', cur, hv, hb, hg, hn, hm, hs, ht⟩
  · cases h0
  · cases hv
    have hlen : (l'.flatMap enc).length = n * k := by rw [flat_length hk, hl, ← flat_length hk, h.1]
    unfold sortWorldK putRowK
    rw [flatK_list hk hk0]
    refine ⟨⟨hlen, .inr ⟨g, cap, _, rfl, hb, heap_putVals _ hg, hn, hm, by simp [putCells, hs], ?_⟩⟩, grownBy_putVals _⟩
    rw [← hlen]
    refine take_putVals cur _ ?_
    rw [hlen, hs]
    exact Nat.mul_le_mul_right k hn
end

theorem cmpA_lt (a b : Atom) : decide (cmpA a b < 0) = Atom.lt a b := by
  unfold cmpA cmpZ cmpS Atom.lt
  rcases (by omega : a.kind < b.kind ∨ b.kind < a.kind ∨ a.kind = b.kind) with h | h | h
  · have : ¬ a.kind = b.kind := by omega
    simp [h, this]
  · have h1 : ¬ a.kind < b.kind := by omega
    have h2 : ¬ a.kind = b.kind := by omega
    simp [h, h1, h2]
  · have h1 : ¬ a.kind < b.kind := by omega
    have h2 : ¬ b.kind < a.kind := by omega
    rcases (by omega : a.rho < b.rho ∨ b.rho < a.rho ∨ a.rho = b.rho) with g | g | g
    · have : ¬ a.rho = b.rho := by omega
      simp [h, g, this]
    · have g1 : ¬ a.rho < b.rho := by omega
      have g2 : ¬ a.rho = b.rho := by omega
      simp [h, g, g1, g2]
    · cases hb : Op.bytesLess a.exn.toList b.exn.toList
      · cases hb' : Op.bytesLess b.exn.toList a.exn.toList <;> simp [h, g, hb, hb']
      · simp [h, g, hb]

theorem ltOf_cmpA : ltOf cmpA = Atom.lt := by funext a b; exact cmpA_lt a b
theorem swoA : SWO (ltOf cmpA) := by
  rw [ltOf_cmpA]
  refine ⟨Atom.lt_irrefl, fun _ _ _ => Atom.lt_trans, fun x y z h h' => ?_⟩
  cases hxz : Atom.lt x z with
  | false => rfl
  | true =>
    cases hyx : Atom.lt y x with
    | true => rw [Atom.lt_trans hyx hxz] at h'; cases h'
    | false =>
      have := Atom.lt_tri h hyx
      subst this
      rw [hxz] at h'; cases h'

theorem cmpLaysA (blk off size : Nat) (w : World) : CmpLays Tryd.prog 43 #[] encA 3 cmpA blk off size w :=
  fun _ _ _ _ x y => compare_any x y _

/-- the sorted list -/
def msort (l : List Atom) : List Atom := l.mergeSort (fun x y => !Atom.lt y x)

theorem sortFunc_any (g cap n : Nat) (l : List Atom) (base : Nat) (w : World) (h : OwnE encA 3 w base 34 (.slice (some ⟨g, 0, none⟩) n cap) n l) (hn : n < 4611686018427387904) :
    Calls Tryd.prog 42 #[.slice (some ⟨g, 0, none⟩) n cap, .func (.func 43) #[] #[]] w fun e w' =>
      e = .returned (.tuple #[]) ∧ OwnE encA 3 w' base 34 (.slice (some ⟨g, 0, none⟩) n cap) n (msort l) ∧ w.grownBy w' (some g) := by
  obtain ⟨hH, hblk⟩ := h.holdsK encA_len (by omega)
  have hl : l.length = n := h.len encA_len (by omega)
  have eg : ∀ args w, (callFunc 43 args).run Tryd.prog w = .ok (.enter 43 args) w := enters_of Tryd.func43 (by kernel_rfl) rfl
  have hc := AnyQ.slices_SortFunc_total Tryd.sortAtoms 3 Tryd.isAgg34 Tryd.sizeOf34 encA encA_len encA_one cmpA swoA 43 #[] g 0 cap l.toArray w eg (cmpLaysA g 0 _ w) hH hblk (by simp; omega)
    (by rw [ltOf_cmpA]; exact fun _ _ => Atom.lt_tri)
  have es : l.toArray.size = n := by simpa using hl
  rw [es] at hc
  refine hc.mono ?_
  rintro e w' ⟨he, m, os, rfl⟩
  have hs := h.sorted encA_len (by omega) (l' := msort l) (by simp [msort]) m os
  refine ⟨he, ?_, ?_⟩
  · have := hs.1
    rw [show msort l = l.mergeSort (fun x y => !ltOf cmpA y x) from by rw [ltOf_cmpA]; rfl] at this ⊢
    exact this
  · have := hs.2
    rw [show msort l = l.mergeSort (fun x y => !ltOf cmpA y x) from by rw [ltOf_cmpA]; rfl] at this
    exact this
end Go.Proofs.YtekhblomdlehhaaDoor
