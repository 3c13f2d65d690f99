/- Part 9 of the texts: Sets, IntSort, Eff21. -/
import Derived.Test.YtdlbjngpohkglaaGreatDoorG05
import Derived.Test.YtdlbjngpohkglaaGreatDoorG07
import Derived.Test.YtdlbjngpohkglaaGreatDoorG06
import Derived.Test.YtdlbjngpohkglaaGreatDoorG08
section
set_option linter.unusedVariables false
set_option maxRecDepth 100000
set_option linter.unusedSimpArgs false
namespace Go.Proofs.YtdlbjngpohkglaaGreatDoor
open Go.RowKit

/-- a number ahead of the first greater one -/
def putPosI (a : Int) : List Int → List Int
  | [] => [a]
  | b :: l => if ltI a b then a :: b :: l else b :: putPosI a l
/-- a rising row with one more -/
def putI (a : Int) (e : List Int) : List Int := if inN e a then e else putPosI a e
theorem putPosI_hit (a : Int) : ∀ (l : List Int) (x : Int), l.any (ltI a) = true → putPosI a (l ++ [x]) = putPosI a l ++ [x]
  | [], x, h => by simp at h
  | b :: l, x, h => by
    simp only [List.cons_append, putPosI]
    by_cases hb : ltI a b = true
    · simp [hb]
    · rw [if_neg hb, if_neg hb, putPosI_hit a l x (by simpa [hb] using h)]; rfl
theorem putPosI_first (a : Int) : ∀ (l : List Int) (x : Int), l.any (ltI a) = false → ltI a x = true → putPosI a (l ++ [x]) = l ++ [a, x]
  | [], x, _, hx => by simp [putPosI, hx]
  | b :: l, x, h, hx => by
    simp only [List.any_cons, Bool.or_eq_false_iff] at h
    simp only [List.cons_append, putPosI]
    rw [if_neg (by simp [h.1]), putPosI_first a l x h.2 hx]
theorem putPosI_none (a : Int) : ∀ (l : List Int), l.any (ltI a) = false → putPosI a l = l ++ [a]
  | [], _ => rfl
  | b :: l, h => by
    simp only [List.any_cons, Bool.or_eq_false_iff] at h
    simp only [putPosI, List.cons_append]
    rw [if_neg (by simp [h.1]), putPosI_none a l h.2]
theorem putPosI_length (a : Int) : ∀ l : List Int, (putPosI a l).length = l.length + 1
  | [] => rfl
  | b :: l => by
    simp only [putPosI]
    split
    · rfl
    · simp [putPosI_length a l]
/-- what has been put out behind k of them -/
def outI (a : Int) (l : List Int) : List Int := if l.any (ltI a) then putPosI a l else l
theorem outI_done (a : Int) (l : List Int) (x : Int) (h : l.any (ltI a) = true) : outI a (l ++ [x]) = outI a l ++ [x] := by
  unfold outI
  rw [if_pos h, if_pos (by rw [List.any_append, h]; rfl), putPosI_hit a l x h]
theorem outI_first (a : Int) (l : List Int) (x : Int) (h : l.any (ltI a) = false) (hx : ltI a x = true) : outI a (l ++ [x]) = (outI a l ++ [a]) ++ [x] := by
  have e1 : (l ++ [x]).any (ltI a) = true := by rw [List.any_append]; simp [hx]
  unfold outI
  rw [if_pos e1, if_neg (by rw [h]; exact Bool.false_ne_true), putPosI_first a l x h hx]
  simp
theorem outI_not (a : Int) (l : List Int) (x : Int) (h : l.any (ltI a) = false) (hx : ltI a x = false) : outI a (l ++ [x]) = outI a l ++ [x] := by
  have e1 : (l ++ [x]).any (ltI a) = false := by rw [List.any_append, h]; simp [hx]
  unfold outI
  rw [if_neg (by rw [e1]; exact Bool.false_ne_true), if_neg (by rw [h]; exact Bool.false_ne_true)]
theorem mem_putPosI (a x : Int) : ∀ l : List Int, x ∈ putPosI a l ↔ x = a ∨ x ∈ l
  | [] => by simp [putPosI]
  | b :: l => by
    unfold putPosI
    by_cases h : ltI a b = true
    · rw [if_pos h]; simp
    · rw [if_neg h, List.mem_cons, mem_putPosI a x l, List.mem_cons]
      constructor
      · rintro (h | h | h)
        · exact .inr (.inl h)
        · exact .inl h
        · exact .inr (.inr h)
      · rintro (h | h | h)
        · exact .inr (.inl h)
        · exact .inl h
        · exact .inr (.inr h)
theorem rising_putPosI (a : Int) : ∀ l : List Int, Rising ltI l → a ∉ l → Rising ltI (putPosI a l)
  | [], _, _ => by simp [putPosI, Rising]
  | b :: l, hr, hn => by
    obtain ⟨hb, hl⟩ := List.pairwise_cons.1 hr
    unfold putPosI
    by_cases h : ltI a b = true
    · rw [if_pos h]
      refine List.pairwise_cons.2 ⟨fun x hx => ?_, hr⟩
      rcases List.mem_cons.1 hx with rfl | hx
      · exact h
      · exact ltI_trans _ _ _ h (hb x hx)
    · rw [if_neg h]
      refine List.pairwise_cons.2 ⟨fun x hx => ?_, rising_putPosI a l hl (fun h => hn (List.mem_cons_of_mem _ h))⟩
      rcases (mem_putPosI a x l).1 hx with rfl | hx
      · cases e : ltI b x with
        | true => rfl
        | false => exact absurd (List.mem_cons.2 (.inl (ltI_tri _ _ (by simpa using h) e))) hn
      · exact hb x hx
theorem inN_mem' (l : List Int) (x : Int) : inN l x = true ↔ x ∈ l := by
  unfold inN
  rw [List.any_eq_true]
  constructor
  · rintro ⟨y, hy, h⟩
    have : y = x := by simpa using h
    subst this; exact hy
  · intro h
    exact ⟨x, h, by simp⟩
theorem mem_putI (a x : Int) (l : List Int) : x ∈ putI a l ↔ x = a ∨ x ∈ l := by
  unfold putI
  by_cases h : inN l a = true
  · rw [if_pos h]
    constructor
    · exact .inr
    · rintro (rfl | h')
      · exact (inN_mem' _ _).1 h
      · exact h'
  · rw [if_neg h, mem_putPosI]
theorem rising_putI (a : Int) (l : List Int) (hr : Rising ltI l) : Rising ltI (putI a l) := by
  unfold putI
  by_cases h : inN l a = true
  · rw [if_pos h]; exact hr
  · rw [if_neg h]; exact rising_putPosI a l hr (fun hm => h ((inN_mem' l a).2 hm))
theorem putI_length (a : Int) (l : List Int) : (putI a l).length ≤ l.length + 1 := by
  unfold putI; split
  · omega
  · rw [putPosI_length]; omega

theorem infoN : (Tryz.prog.info? 3).map (fun i => (i.zero, i.size, i.bytes)) = some (some (.int .i64 0), 1, 8) := by kernel_rfl
theorem encN_one (y : Int) : ∀ u ∈ encN y, u.oneCell' = true := by
  intro u hu
  simp [encN] at hu
  subst hu; rfl
theorem ref_Ints_of {p : Option Addr} {n cap : Nat} {l : List Int} {x : Int} {w : World} {r : Bool} (hq : inN l x = r) (h : IsRow encN 1 w p n cap l) :
    Calls Tryz.prog 37 #[.slice p n cap, .int .i64 x] w fun e w' => e = .returned (.bool r) ∧ w = w' := by
  subst hq; exact ref_Ints_any p n cap l x w h.len h.max h.row

/-- are two rows of numbers the same? -/
def eqN (l m : List Int) : Bool := decide (l = m)
theorem ref_EqualInts_any {p : Option Addr} {n cap : Nat} {l : List Int} {q : Option Addr} {m mc : Nat} {l' : List Int} {w : World} (hr : IsRow encN 1 w p n cap l) (hr' : IsRow encN 1 w q m mc l') :
    Calls Tryz.prog 25 #[.slice p n cap, .slice q m mc] w fun e w' => e = .returned (.bool (eqN l l')) ∧ ∃ j, w' = w.drewN j := by
  have hmx := hr.max
  have HR := Lib.hid hr
  have HR' := Lib.hid hr'
  clear hr hr'
  by_cases hnm : n = m
  · subst hnm
    go_enter Tryz.func25, Tryz.ntmps25
    go_wp2_with fail
    go_loopw [5, 13] (fun _ i wr => ∃ k : Nat, k ≤ n ∧ i = .int .i64 k ∧ l.take k = l'.take k ∧ ∃ j, wr = w.drewN j) (fun _ i _ => n - (intOf i).toNat)
    case atStart => exact ⟨0, by omega, rfl, by simp, 0, rfl⟩
    case round =>
      obtain ⟨k, hk, rfl, hno, j, rfl⟩ := hrel
      have HNO := Lib.hid hno
      clear hno
      by_cases hlt : k < n
      · obtain ⟨x, hx⟩ := get_of_lt (l := l) (j := k) (by rw [HR.out.len]; exact hlt)
        obtain ⟨y, hy⟩ := get_of_lt (l := l') (j := k) (by rw [HR'.out.len]; exact hlt)
        obtain ⟨b, o, rfl, c0⟩ := HR.out.row.num hx
        obtain ⟨b', o', rfl, d0⟩ := HR'.out.row.num hy
        have HE := Lib.hid hx
        have HE' := Lib.hid hy
        clear hx hy
        by_cases hq : x = y
        · have hb : (x != y) = false := by simp [hq]
          have HQ := Lib.hid hq
          clear hq
          go_wp2_with fail
          go_quiet (fail)
          go_wp2_with fail
          go_roundw
          case rel => exact ⟨k + 1, by omega, by go_num, by rw [take_succ_get HE.out, take_succ_get HE'.out, HNO.out, HQ.out], _, rfl⟩
          case measure => simp [intOf]; omega
        · have hb : (x != y) = true := by simpa using hq
          have hne : Hid (eqN l l' = false) := by
            show eqN l l' = false
            unfold eqN
            rw [decide_eq_false_iff_not]
            intro e
            have h1 := HE.out
            rw [e, HE'.out] at h1
            cases h1
            exact hq rfl
          clear hq
          go_wp2_with fail
          go_quiet (fail)
          go_wp2_with fail
          go_ret
          exact ⟨ret_bool hne.out.symm, _, World.drewN_drewN _ _ _⟩
      · have hkn : k = n := by omega
        subst hkn
        go_wp2_with fail
        go_ret
        exact ⟨ret_bool (by unfold eqN; have h := HNO.out; rw [take_full (by rw [HR.out.len]; omega), take_full (by rw [HR'.out.len]; omega)] at h; simp [h]), _, rfl⟩
  · have hne : Hid (eqN l l' = false) := by
      show eqN l l' = false
      unfold eqN
      rw [decide_eq_false_iff_not]
      intro e
      have h1 := HR.out.len
      have h2 := HR'.out.len
      rw [e] at h1
      omega
    have hb : ((n : Int) != (m : Int)) = true := by rw [bne_iff_ne]; omega
    clear hnm
    go_enter Tryz.func25, Tryz.ntmps25
    go_wp2_with fail
    go_ret
    exact ⟨ret_bool hne.out.symm, 0, rfl⟩
theorem bytes_beq (a b : ByteArray) : (a.toList == b.toList) = decide (a = b) := by
  by_cases h : a = b
  · subst h; simp
  · rw [decide_eq_false h, beq_eq_false_iff_ne]
    exact fun e => h (toList_inj e)
/-- are two rows of strings the same? -/
def eqS (l m : List ByteArray) : Bool := l.length == m.length && (l.zip m).all (fun x => decide (x.1 = x.2))
theorem eqS_iff (l m : List ByteArray) : eqS l m = true ↔ l = m := by
  unfold eqS
  constructor
  · intro h
    simp only [Bool.and_eq_true, beq_iff_eq, List.all_eq_true] at h
    apply List.ext_getElem h.1
    intro i h1 h2
    have := h.2 (l[i], m[i]) (by rw [List.mem_iff_getElem]; exact ⟨i, by simp; omega, by simp⟩)
    simpa using this
  · rintro rfl
    simp only [beq_self_eq_true, Bool.true_and, List.all_eq_true]
    intro x hx
    rw [List.mem_iff_getElem] at hx
    obtain ⟨i, hi, rfl⟩ := hx
    simp
theorem ref_InS_any {p : Option Addr} {n cap : Nat} {l : List ByteArray} {w : World} (hr : IsRow encS 1 w p n cap l) (s : ByteArray) :
    Calls Tryz.prog 19 #[.slice p n cap, .string s] w fun e w' => e = .returned (.bool (l.any (fun y => decide (y = s)))) ∧ w = w' := by
  have hmx := hr.max
  have HR := Lib.hid hr
  clear hr
  go_enter Tryz.func19, Tryz.ntmps19
  go_wp2_with fail
  go_loop [5, 8] (fun _ i => ∃ k : Nat, k ≤ n ∧ i = .int .i64 k ∧ (l.take k).any (fun y => decide (y = s)) = false) (fun _ i => n - (intOf i).toNat)
  case atStart => exact ⟨0, by omega, rfl, by simp⟩
  case round =>
    obtain ⟨k, hk, rfl, hno⟩ := hrel
    have HNO := Lib.hid hno
    clear hno
    by_cases hlt : k < n
    · obtain ⟨y, hy⟩ := get_of_lt (l := l) (j := k) (by rw [HR.out.len]; exact hlt)
      have HE := Lib.hid hy
      obtain ⟨b, o, rfl, d0⟩ := HR.out.row.str hy
      clear hy
      by_cases hq : y = s
      · have hb : (y.toList == s.toList) = true := by rw [bytes_beq]; simpa using hq
        have HQ := Lib.hid hq
        clear hq
        go_wp2_with fail
        go_ret
        exact ⟨ret_bool (by rw [any_get HE.out]; simpa using HQ.out), rfl⟩
      · have hb : (y.toList == s.toList) = false := by rw [bytes_beq]; simpa using hq
        have HQ := Lib.hid hq
        clear hq
        go_wp2_with fail
        go_round
        case rel => exact ⟨k + 1, by omega, by go_num, by rw [any_take_get HE.out, HNO.out]; simpa using HQ.out⟩
        case measure => simp [intOf]; omega
    · go_wp2_with fail
      go_ret
      have h := HNO.out
      rw [take_full (by rw [HR.out.len]; omega)] at h
      exact ⟨ret_bool h.symm, rfl⟩
end Go.Proofs.YtdlbjngpohkglaaGreatDoor
end
section
set_option linter.unusedVariables false
set_option maxRecDepth 100000
set_option linter.unusedSimpArgs false
namespace Go.Proofs.YtdlbjngpohkglaaGreatDoor
open Go.RowKit Go.Sort Go.Lib

theorem flatN (l : List Int) : l.flatMap encN = l.map (Value.int .i64) := by
  induction l with
  | nil => rfl
  | cons a l ih => rw [List.flatMap_cons, ih]; rfl
theorem holds_ints {w : World} {g : Nat} {cur : Array Value} {e : TypeId} {ss : List Int} (hb : w.heap[g]? = some (.cells cur e (0, 0))) (ht : cur.toList.take ss.length = ss.map (Value.int .i64)) : Holds (Value.int .i64) w g 0 ss.toArray := by
  intro j hj
  have hj' : j < ss.length := by simpa using hj
  refine ⟨?_, by simp [World.frozen?, hb]⟩
  have h1 : (cur.toList.take ss.length)[j]? = (ss.map (Value.int .i64))[j]? := by rw [ht]
  rw [List.getElem?_take_of_lt hj'] at h1
  simp only [World.cell?, hb, Nat.zero_add]
  simp only [Option.isSome_none, Bool.false_eq_true, if_false]
  rw [← Array.getElem?_toList, h1]
  simp [hj']
theorem take_putInts (cur : Array Value) (ts : List Int) (h : ts.length ≤ cur.size) : (putCells (Value.int .i64) 0 ts.toArray cur).toList.take ts.length = ts.map (Value.int .i64) := by
  apply List.ext_getElem?
  intro j
  by_cases hj : j < ts.length
  · rw [List.getElem?_take_of_lt hj, Array.getElem?_toList]
    simp [putCells, hj, show j < cur.size by omega]
  · rw [List.getElem?_take_eq_none (by omega), List.getElem?_eq_none (by simp; omega)]
theorem heap_putInts {w : World} {g n : Nat} {os : Array Obj} {cur : Array Value} {e : TypeId} {fr : Nat × Nat} (d : Array Int) (hb : w.heap[g]? = some (.cells cur e fr)) :
    (grow (putRow (Value.int .i64) (Sort.ahead w n) g 0 d) os).heap[g]? = some (.cells (putCells (Value.int .i64) 0 d cur) e fr) := by
  have hg : g < w.heap.size := (Array.getElem?_eq_some_iff.1 hb).1
  rw [heap_grow_old _ _ (by simpa using hg)]
  simp [putRow, mapBlock, Sort.ahead, Array.getElem?_modify, hb, onCells]
theorem grownBy_putInts {w : World} {g n : Nat} {os : Array Obj} (d : Array Int) : w.grownBy (grow (putRow (Value.int .i64) (Sort.ahead w n) g 0 d) os) (some g) := by
  refine ⟨rfl, rfl, rfl, by simp, fun k hk hne => ?_⟩
  rw [heap_grow_old _ _ (by simpa using hk)]
  have : g ≠ k := fun e => hne (by rw [e])
  simp [putRow, mapBlock, Sort.ahead, Array.getElem?_modify, this]
theorem OwnE.holdsN {w : World} {base e n g cap : Nat} {l : List Int} (h : OwnE encN 1 w base e (.slice (some ⟨g, 0, none⟩) n cap) n l) : Holds (Value.int .i64) w g 0 l.toArray ∧ g < w.heap.size := by
  have hln := h.len encN_len (by omega)
  rcases h.2 with ⟨h0, _⟩ | ⟨g', cap', cur, hv, hb, hg, hn, hm, hs, ht⟩
  · cases h0
  · cases hv
    refine ⟨holds_ints hg ?_, (Array.getElem?_eq_some_iff.1 hg).1⟩
    rw [← flatN, hln]; simpa using ht
theorem OwnE.putN {w : World} {base e n g cap : Nat} {l l' : List Int} (h : OwnE encN 1 w base e (.slice (some ⟨g, 0, none⟩) n cap) n l) (hl : l'.length = l.length) (m : Nat) (os : Array Obj) :
    OwnE encN 1 (grow (putRow (Value.int .i64) (Sort.ahead w m) g 0 l'.toArray) os) base e (.slice (some ⟨g, 0, none⟩) n cap) n l' ∧ w.grownBy (grow (putRow (Value.int .i64) (Sort.ahead w m) g 0 l'.toArray) os) (some g) := by
  have hln := h.len encN_len (by omega)
  rcases h.2 with ⟨h0, _⟩ | ⟨g', cap', cur, hv, hb, hg, hn, hm, hs, ht⟩
  · cases h0
  · cases hv
    refine ⟨⟨by rw [flatN]; simp [hl, hln], .inr ⟨g, cap, _, rfl, hb, heap_putInts _ hg, hn, hm, by simp [putCells, hs], ?_⟩⟩, grownBy_putInts _⟩
    rw [flatN, Nat.mul_one, ← hln, ← hl]
    exact take_putInts cur l' (by rw [hl, hln, hs]; omega)
theorem grow_empty (w : World) : grow w #[] = w := by simp [grow]

theorem rising_compactI {d : Array Int} (h : ∀ i j, i < j → j < d.size → ltI d[j]! d[i]! = false) : ∀ m, m ≤ d.size → Rising ltI (compactUpTo d m)
  | 0, _ => by simp [compactUpTo, Rising]
  | m + 1, hm => by
    rw [compactUpTo_succ]
    by_cases c : keeps d m = true
    · rw [if_pos c]
      refine List.pairwise_append.2 ⟨rising_compactI h m (by omega), by simp, ?_⟩
      intro x hx y hy
      obtain ⟨j, hj, rfl⟩ := (mem_compactUpTo d x m).1 hx
      have : y = d[m]! := by simpa using hy
      subst this
      have hc : m = 0 ∨ d[m]! ≠ d[m - 1]! := by simpa [keeps] using c
      have hne : d[m]! ≠ d[m - 1]! := hc.resolve_left (by omega)
      have h1 := h (m - 1) m (by omega) (by omega)
      have h2 : j = m - 1 ∨ ltI d[m - 1]! d[j]! = false := by
        by_cases e : j = m - 1
        · exact .inl e
        · exact .inr (h j (m - 1) (by omega) (by omega))
      unfold ltI at h1 h2 ⊢
      simp only [decide_eq_true_eq, decide_eq_false_iff_not] at h1 h2 ⊢
      rcases h2 with e | h2
      · rw [e]; omega
      · omega
    · rw [if_neg c, List.append_nil]; exact rising_compactI h m (by omega)
abbrev msortI (l : List Int) : List Int := l.mergeSort fun x y => decide (x ≤ y)
theorem msortI_nofall (l : List Int) : (msortI l).Pairwise (fun a b => ltI b a = false) := by
  have := List.pairwise_mergeSort (le := fun x y : Int => decide (x ≤ y)) (fun a b c h1 h2 => by simp at *; omega) (fun a b => by simp; omega) l
  refine this.imp ?_
  intro a b h
  unfold ltI
  simp at h ⊢; omega
theorem compact_msortI (l : List Int) : compact (msortI l) = sortI l := by
  refine eq_sortI ?_ ?_
  · unfold compact
    refine rising_compactI ?_ _ (by simp)
    intro i j hij hj
    have hj' : j < (msortI l).length := by simpa using hj
    rw [getElem!_pos _ j hj, getElem!_pos _ i (by omega)]
    simpa using List.pairwise_iff_getElem.1 (msortI_nofall l) i j (by omega) hj' hij
  · intro a
    unfold compact
    rw [mem_compactUpTo]
    constructor
    · rintro ⟨j, hj, rfl⟩
      rw [getElem!_pos _ j (by simpa using hj)]
      exact List.mem_mergeSort.1 (List.getElem_mem (l := msortI l) (by simpa using hj))
    · intro ha
      have : a ∈ msortI l := by simpa [msortI] using ha
      obtain ⟨j, hj, e⟩ := List.getElem_of_mem this
      exact ⟨j, hj, by rw [getElem!_pos _ j (by simpa using hj)]; simpa using e⟩

theorem sortN_any (g cap n : Nat) (l : List Int) (base : Nat) (w : World) (h : OwnE encN 1 w base 3 (.slice (some ⟨g, 0, none⟩) n cap) n l) (hn : n ≤ 1000000000) :
    Calls Tryz.prog 106 #[.slice (some ⟨g, 0, none⟩) n cap] w fun e w' => e = .returned (.tuple #[]) ∧ OwnE encN 1 w' base 3 (.slice (some ⟨g, 0, none⟩) n cap) n (msortI l) ∧ w.grownBy w' (some g) := by
  obtain ⟨hH, hb⟩ := h.holdsN
  have hln := h.len encN_len (by omega)
  have := Tryz.slices_Sort_int g 0 cap l w hH hb (by omega)
  rw [hln] at this
  refine this.mono ?_
  rintro e w' ⟨he, m, os, rfl⟩
  obtain ⟨h1, h2⟩ := h.putN (l' := msortI l) (by simp) m os
  exact ⟨he, h1, h2⟩
theorem compactN_any (g cap n : Nat) (l : List Int) (base : Nat) (w : World) (h : OwnE encN 1 w base 3 (.slice (some ⟨g, 0, none⟩) n cap) n l) (hcap : n ≤ cap) (hn : n ≤ 1000000000) :
    Calls Tryz.prog 90 #[.slice (some ⟨g, 0, none⟩) n cap] w fun e w' =>
      ∃ m, e = .returned (.slice (some ⟨g, 0, none⟩) m cap) ∧ m ≤ n ∧ OwnE encN 1 w' base 3 (.slice (some ⟨g, 0, none⟩) m cap) m (compact l) ∧ w.grownBy w' (some g) := by
  obtain ⟨hH, hb⟩ := h.holdsN
  have hln := h.len encN_len (by omega)
  have := Tryz.slices_Compact_int g 0 cap l w hH (by omega) (by omega)
  rw [hln] at this
  have hle : (compact l).length ≤ n := by
    rw [← hln]
    exact compact_length_le l
  refine this.mono ?_
  rintro e w' ⟨he, q, rfl⟩
  obtain ⟨h1, h2⟩ := h.putN (l' := compact l ++ List.replicate (n - (compact l).length) 0) (by simp; omega) q #[]
  rw [grow_empty] at h1 h2
  refine ⟨(compact l).length, he, hle, ?_, h2⟩
  have h3 := OwnE.cut (m := (compact l).length) encN_len h1 (by simp; omega) hle
  rw [List.take_append_of_le_length (Nat.le_refl _), List.take_length] at h3
  exact h3
end Go.Proofs.YtdlbjngpohkglaaGreatDoor
end
section
set_option linter.unusedVariables false
set_option maxRecDepth 100000
set_option linter.unusedSimpArgs false
namespace Go.Proofs.YtdlbjngpohkglaaGreatDoor
open Go.RowKit Go.Sort Go.Lib

/-- the result is a row -/
def IsOut {α : Type} (enc : α → List Value) (k : Nat) (w : World) (e : Ending) (l : List α) : Prop := ∃ p n c, e = .returned (.slice p n c) ∧ IsRow enc k w p n c l
theorem IsOut.mk {α : Type} {enc : α → List Value} {k : Nat} {w : World} {p : Option Addr} {n c : Nat} {l : List α} (h : IsRow enc k w p n c l) : IsOut enc k w (.returned (.slice p n c)) l := ⟨p, n, c, rfl, h⟩

theorem ref_put_row {p : Option Addr} {n cap : Nat} {l : List Atom} {w : World} (hr : IsRow encA 3 w p n cap l) (hm : n ≤ 1000000) (a : Atom) :
    Calls Tryz.prog 63 #[.slice p n cap, .agg #[.int .u8 a.kind, .int .i64 a.rho, .string a.exn]] w fun e w' => IsOut encA 3 w' e (putA a l) ∧ Below w.heap.size w w' := by
  by_cases ha : atomB a = true
  · by_cases hi : inA l a = true
    · have hp : Hid (putA a l = l) := by show putA a l = l; simp [putA, ha, hi]
      have HR := Lib.hid hr
      clear hr
      go_enter Tryz.func63, Tryz.ntmps63
      go_wp2_with fail
      refine (ref_Atom_any a _).mono ?_
      rintro e w1 ⟨rfl, hb⟩
      have H1 : Hid (Below w.heap.size w w1) := ((Below.refl _ w).alloc (Nat.le_refl _) _).trans (hb.mono (by simp))
      have c0 : w1.cell? ⟨w.heap.size, 0, none⟩ = some (.int .u8 a.kind) := by rw [hb.cell (by simp), cell_new]; rfl
      have c1 : w1.cell? ⟨w.heap.size, 1, none⟩ = some (.int .i64 a.rho) := by rw [hb.cell (by simp), cell_new]; rfl
      have c2 : w1.cell? ⟨w.heap.size, 2, none⟩ = some (.string a.exn) := by rw [hb.cell (by simp), cell_new]; rfl
      rw [ha]
      clear hb ha
      go_wp2_with fail
      refine (ref_In_any p n cap l a w1 HR.out.len (by omega) (HR.out.below H1.out).row).mono ?_
      rintro e w2 ⟨rfl, hb⟩
      have H2 := Lib.hid (H1.out.trans (hb.mono H1.out.size))
      rw [hi]
      clear hb hi
      go_wp2_with fail
      go_ret
      exact ⟨by rw [hp.out]; exact IsOut.mk (HR.out.below H2.out), H2.out⟩
    · have hi' : inA l a = false := by simpa using hi
      refine (ref_put_main p n cap l a w hr.len hm hr.row ha hi').mono ?_
      rintro e w' ⟨v, he, ho, hb⟩
      obtain ⟨p', c', rfl, hrow⟩ := ho.isRow encA_len (by omega)
      exact ⟨by rw [he, show putA a l = putPos a l from by simp [putA, ha, hi']]; exact IsOut.mk hrow, hb⟩
  · have ha' : atomB a = false := by simpa using ha
    have hp : Hid (putA a l = l) := by show putA a l = l; simp [putA, ha']
    have HR := Lib.hid hr
    clear hr
    clear ha
    go_enter Tryz.func63, Tryz.ntmps63
    go_wp2_with fail
    refine (ref_Atom_any a _).mono ?_
    rintro e w1 ⟨rfl, hb⟩
    have H1 : Hid (Below w.heap.size w w1) := ((Below.refl _ w).alloc (Nat.le_refl _) _).trans (hb.mono (by simp))
    rw [ha']
    clear hb ha'
    go_wp2_with fail
    go_ret
    exact ⟨by rw [hp.out]; exact IsOut.mk (HR.out.below H1.out), H1.out⟩

/-- an empty literal, as a row -/
theorem isRow_lit {α : Type} (enc : α → List Value) (k : Nat) (w : World) (t : TypeId) : IsRow enc k (w.alloc (.cells #[] t)) (some ⟨w.heap.size, 0, none⟩) 0 0 [] := ⟨rfl, by omega, by omega, (fun h => by cases h), .inl rfl⟩

theorem ref_Of_row {p : Option Addr} {n cap : Nat} {l : List Atom} {w : World} (hr : IsRow encA 3 w p n cap l) (hm : n ≤ 1000000) :
    Calls Tryz.prog 49 #[.slice p n cap] w fun e w' => IsOut encA 3 w' e (effL l) ∧ Below w.heap.size w w' := by
  have HE0 := Lib.hid (refOf_eq l)
  have HR := Lib.hid hr
  clear hr
  go_enter Tryz.func49, Tryz.ntmps49
  go_wp2_with fail
  go_loopw [3, 8] (fun u i wr => ∃ (k : Nat) (q : Option Addr) (m mc : Nat), k ≤ n ∧ i = .int .i64 k ∧ u = .slice q m mc ∧ m ≤ k ∧ IsRow encA 3 wr q m mc (refOf (l.take k)) ∧ Below w.heap.size w wr) (fun _ i _ => n - (intOf i).toNat)
  case atStart => exact ⟨0, _, _, _, by omega, rfl, rfl, by omega, isRow_lit _ _ _ _, (Below.refl _ _).alloc (Nat.le_refl _) _⟩
  case round =>
    obtain ⟨k, q, m, mc, hk, rfl, rfl, hmk, hrow, hb⟩ := hrel
    have HROW := Lib.hid hrow
    have HB := Lib.hid hb
    clear hrow hb
    by_cases hlt : k < n
    · obtain ⟨x, hx⟩ := get_of_lt (l := l) (j := k) (by rw [HR.out.len]; exact hlt)
      have HE := Lib.hid hx
      obtain ⟨b, o, rfl, hbl, d0, d1, d2⟩ := RowA.atom (HR.out.below HB.out).row hx
      clear hx hbl
      go_wp2_with fail
      refine (ref_put_row HROW.out (by omega) x).mono ?_
      rintro e w1 ⟨⟨q', m', mc', rfl, hr'⟩, hb⟩
      have HB1 := Lib.hid (HB.out.trans (hb.mono HB.out.size))
      have hm' : m' ≤ k + 1 := by have h1 := putA_length x (refOf (l.take k)); have h2 := hr'.len; have h3 := HROW.out.len; omega
      have HR' := Lib.hid hr'
      clear hb d0 d1 d2 hr'
      go_wp2_with fail
      go_roundw
      case rel => exact ⟨k + 1, q', m', mc', by omega, by go_num, rfl, hm', by rw [take_succ_get HE.out, refOf_snoc]; exact HR'.out, HB1.out⟩
      case measure => simp [intOf]; omega
    · have hkn : k = n := by omega
      subst hkn
      go_wp2_with fail
      go_ret
      have h2 := HROW.out
      rw [take_full (by rw [HR.out.len]; omega), HE0.out] at h2
      exact ⟨IsOut.mk h2, HB.out⟩
theorem effL_length (l : List Atom) : (effL l).length ≤ l.length := by
  have := refOf_length l
  rw [refOf_eq] at this; exact this


/-- filtered after or before -/
theorem filter_effL (q : Atom → Bool) (l : List Atom) : (effL l).filter q = effL (l.filter q) := by
  refine eq_sortA ?_ (fun x => ?_)
  · exact List.Pairwise.filter _ (rising_sortA _)
  · simp only [List.mem_filter, mem_sortA]
    constructor
    · rintro ⟨⟨h1, h2⟩, h3⟩; exact ⟨⟨h1, h3⟩, h2⟩
    · rintro ⟨⟨h1, h3⟩, h2⟩; exact ⟨⟨h1, h2⟩, h3⟩


end Go.Proofs.YtdlbjngpohkglaaGreatDoor
end
