/- Part 6: Comp, Eff7, Eff8. -/
import Derived.Test.YtkdjnegfnhldpaaGreatDoorH05
import Derived.Lib.SlicesCompact
import Derived.Lib.SliceRun
import Derived.Test.YtkdjnegfnhldpaaGreatDoorH03
set_option linter.unusedVariables false
set_option maxRecDepth 100000
set_option linter.unusedSimpArgs false
namespace Go.Proofs.YtkdjnegfnhldpaaGreatDoor
open Go.Lib (hid)
section
open Go.RowKit Go.Sort Go.Lib
theorem grown_drewN (w : World) (q : Nat) (row : Option Nat) : w.grownBy (w.drewN q) row := ⟨rfl, rfl, rfl, Nat.le_refl _, fun _ _ _ => rfl⟩
theorem heap_setCell1 {w : World} {g o : Nat} {cur : Array Value} {e : TypeId} {fr : Nat × Nat} (v : Value) (h : w.heap[g]? = some (.cells cur e fr)) :
    (w.setCell ⟨g, o, none⟩ v).heap[g]? = some (.cells (cur.setIfInBounds o v) e fr) := by
  simp [World.setCell, Array.getElem?_modify, h]
theorem grown_setCell1 (w : World) (g o : Nat) (v : Value) : w.grownBy (w.setCell ⟨g, o, none⟩ v) (some g) := by
  refine ⟨rfl, rfl, rfl, by simp [World.setCell], fun k hk hne => ?_⟩
  have : g ≠ k := fun e => hne (by rw [e])
  simp [World.setCell, Array.getElem?_modify, this]
theorem heap_setCellsK {g : Nat} {e : TypeId} {fr : Nat × Nat} : ∀ (vs : List Value) (o : Nat) (w : World) (cur : Array Value), w.heap[g]? = some (.cells cur e fr) →
    ∃ cur', (w.setCells g o vs).heap[g]? = some (.cells cur' e fr) ∧ cur'.size = cur.size ∧ ∀ j, j < o → cur'[j]? = cur[j]?
  | [], o, w, cur, h => ⟨cur, h, rfl, fun _ _ => rfl⟩
  | v :: r, o, w, cur, h => by
    obtain ⟨c', h1, h2, h3⟩ := heap_setCellsK r (o + 1) _ _ (heap_setCell1 (o := o) v h)
    refine ⟨c', h1, by simpa using h2, fun j hj => ?_⟩
    rw [h3 j (by omega), Array.getElem?_setIfInBounds, if_neg (by omega)]
theorem grown_setCells (g : Nat) : ∀ (vs : List Value) (o : Nat) (w : World), w.grownBy (w.setCells g o vs) (some g)
  | [], _, _ => World.grownBy.refl _ _
  | v :: r, o, w => (grown_setCell1 w g o v).trans (grown_setCells g r (o + 1) _)
section
variable {α : Type} {enc : α → List Value} {k : Nat}
theorem OwnE.at {w : World} {base e n g cap : Nat} {l : List α} (hk : ∀ x, (enc x).length = k) (h : OwnE enc k w base e (.slice (some ⟨g, 0, none⟩) n cap) n l) {j : Nat} {x : α} (hx : l[j]? = some x) {i : Nat} (hi : i < k) :
    w.cell? ⟨g, j * k + i, none⟩ = (enc x)[i]? ∧ w.frozen? ⟨g, j * k + i, none⟩ = false := by
  rcases h.2 with ⟨h0, _⟩ | ⟨g', cap', cur, hv, hb, hg, hn, hm, hs, ht⟩
  · cases h0
  · cases hv
    refine ⟨?_, by simp [World.frozen?, hg]⟩
    have hf := flat_get hk l j x i hx hi
    rw [← ht] at hf
    have hlt : j * k + i < n * k := by
      have hj := (List.getElem?_eq_some_iff.1 hx).1
      have hl : l.length * k = n * k := by rw [← flat_length hk, h.1]
      have : (j + 1) * k ≤ l.length * k := Nat.mul_le_mul_right k hj
      rw [Nat.add_mul] at this; omega
    rw [List.getElem?_take_of_lt hlt] at hf
    simp only [World.cell?, hg]
    simpa using hf
theorem OwnE.cellSome {w : World} {base e n g cap : Nat} {l : List α} (h : OwnE enc k w base e (.slice (some ⟨g, 0, none⟩) n cap) n l) {o : Nat} (ho : o < n * k) :
    (w.cell? ⟨g, o, none⟩).isSome = true ∧ w.frozen? ⟨g, o, none⟩ = false := by
  rcases h.2 with ⟨h0, _⟩ | ⟨g', cap', cur, hv, hb, hg, hn, hm, hs, ht⟩
  · cases h0
  · cases hv
    refine ⟨?_, by simp [World.frozen?, hg]⟩
    have : o < cur.size := by rw [hs]; exact Nat.lt_of_lt_of_le ho (Nat.mul_le_mul_right k hn)
    simp [World.cell?, hg, this]
theorem OwnE.cut {w : World} {base e n g cap m : Nat} {l : List α} (hk : ∀ x, (enc x).length = k) (h : OwnE enc k w base e (.slice (some ⟨g, 0, none⟩) n cap) n l) (hln : l.length = n) (hm : m ≤ n) :
    OwnE enc k w base e (.slice (some ⟨g, 0, none⟩) m cap) m (l.take m) := by
  rcases h.2 with ⟨h0, _⟩ | ⟨g', cap', cur, hv, hb, hg, hn, hm', hs, ht⟩
  · cases h0
  · cases hv
    have hl : ((l.take m).flatMap enc).length = m * k := by rw [flat_length hk, List.length_take, Nat.min_eq_left (by omega)]
    refine ⟨hl, .inr ⟨g, cap, cur, rfl, hb, hg, by omega, hm', hs, ?_⟩⟩
    apply List.ext_getElem?
    intro j
    by_cases hj : j < m * k
    · rw [List.getElem?_take_of_lt hj]
      have e1 : (l.flatMap enc)[j]? = ((l.take m).flatMap enc)[j]? := by
        conv => lhs; rw [← List.take_append_drop m l, List.flatMap_append]
        rw [List.getElem?_append_left (by rw [hl]; exact hj)]
      rw [← e1, ← ht, List.getElem?_take_of_lt (Nat.lt_of_lt_of_le hj (Nat.mul_le_mul_right k hm))]
    · rw [List.getElem?_take_eq_none (by omega), List.getElem?_eq_none (by omega)]
theorem OwnE.clearBehind {w : World} {base e g cap m : Nat} {l : List α} (hk : ∀ x, (enc x).length = k) (h : OwnE enc k w base e (.slice (some ⟨g, 0, none⟩) m cap) m l) (o : Nat) (vs : List Value) (ho : m * k ≤ o) :
    OwnE enc k (w.setCells g o vs) base e (.slice (some ⟨g, 0, none⟩) m cap) m l := by
  rcases h.2 with ⟨h0, _⟩ | ⟨g', cap', cur, hv, hb, hg, hn, hm', hs, ht⟩
  · cases h0
  · cases hv
    obtain ⟨c', h1, h2, h3⟩ := heap_setCellsK vs o w cur hg
    refine ⟨h.1, .inr ⟨g, cap, c', rfl, hb, h1, hn, hm', by rw [h2, hs], ?_⟩⟩
    rw [← ht]
    apply List.ext_getElem?
    intro j
    by_cases hj : j < m * k
    · rw [List.getElem?_take_of_lt hj, List.getElem?_take_of_lt hj, Array.getElem?_toList, Array.getElem?_toList, h3 j (by omega)]
    · rw [List.getElem?_take_eq_none (by omega), List.getElem?_take_eq_none (by omega)]
end
theorem OwnE.setA {w : World} {base e n g cap : Nat} {l : List Atom} (h : OwnE encA 3 w base e (.slice (some ⟨g, 0, none⟩) n cap) n l) (i : Nat) (x : Atom) (hi : i < n) :
    OwnE encA 3 (((w.setCell ⟨g, i * 3, none⟩ (.int .u8 x.kind)).setCell ⟨g, i * 3 + 1, none⟩ (.int .i64 x.rho)).setCell ⟨g, i * 3 + 2, none⟩ (.string x.exn)) base e (.slice (some ⟨g, 0, none⟩) n cap) n (l.set i x) := by
  have hln := h.len encA_len (by omega)
  rcases h.2 with ⟨h0, _⟩ | ⟨g', cap', cur, hv, hb, hg, hn, hm', hs, ht⟩
  · cases h0
  · cases hv
    have hl : ((l.set i x).flatMap encA).length = n * 3 := by rw [flat_length encA_len, List.length_set, hln]
    refine ⟨hl, .inr ⟨g, cap, _, rfl, hb, heap_setCell1 _ (heap_setCell1 _ (heap_setCell1 _ hg)), hn, hm', by simp [hs], ?_⟩⟩
    apply List.ext_getElem?
    intro j
    by_cases hj : j < n * 3
    · rw [List.getElem?_take_of_lt hj, Array.getElem?_toList]
      have hq : j / 3 < n := by omega
      obtain ⟨y, hy⟩ := get_of_lt (l := l) (j := j / 3) (by omega)
      have e0 : j / 3 * 3 + j % 3 = j := by omega
      have old := flat_get encA_len l (j / 3) y (j % 3) hy (by omega)
      rw [e0, ← ht, List.getElem?_take_of_lt hj, Array.getElem?_toList] at old
      have hcs : j < cur.size := by rw [hs]; have := Nat.mul_le_mul_right 3 hn; omega
      by_cases hji : j / 3 = i
      · have hx : (l.set i x)[j / 3]? = some x := by rw [hji, List.getElem?_set_self (by omega)]
        have new := flat_get encA_len _ (j / 3) x (j % 3) hx (by omega)
        rw [e0] at new
        rw [new]
        rcases (by omega : j % 3 = 0 ∨ j % 3 = 1 ∨ j % 3 = 2) with r | r | r
        · rw [r]; simp [Array.getElem?_setIfInBounds, show i * 3 + 2 ≠ j by omega, show i * 3 + 1 ≠ j by omega, show i * 3 = j by omega, hcs, encA]
        · rw [r]; simp [Array.getElem?_setIfInBounds, show i * 3 + 2 ≠ j by omega, show i * 3 + 1 = j by omega, show i * 3 ≠ j by omega, hcs, encA]
        · rw [r]; simp [Array.getElem?_setIfInBounds, show i * 3 + 2 = j by omega, show i * 3 + 1 ≠ j by omega, show i * 3 ≠ j by omega, hcs, encA]
      · have hx : (l.set i x)[j / 3]? = some y := by rw [List.getElem?_set_ne (by omega)]; exact hy
        have new := flat_get encA_len _ (j / 3) y (j % 3) hx (by omega)
        rw [e0] at new
        rw [new, ← old]
        simp [Array.getElem?_setIfInBounds, show i * 3 + 2 ≠ j by omega, show i * 3 + 1 ≠ j by omega, show i * 3 ≠ j by omega]
    · rw [List.getElem?_take_eq_none (by omega), List.getElem?_eq_none (by omega)]
theorem zero_rows (a b c : Value) : ∀ n, (List.range (n * 3)).map (fun i => (#[a, b, c] : Array Value)[i % 3]!) = (List.replicate n [a, b, c]).flatten
  | 0 => rfl
  | n + 1 => by
    rw [show (n + 1) * 3 = n * 3 + 1 + 1 + 1 by omega, List.range_succ, List.range_succ, List.range_succ, List.map_append, List.map_append, List.map_append, zero_rows a b c n, List.replicate_succ', List.flatten_append]
    simp [show (n * 3 + 1) % 3 = 1 by omega, show (n * 3 + 1 + 1) % 3 = 2 by omega]
theorem run_clear_atoms (w : World) (ty : TypeId) (b o n c : Nat) (hn : 0 < n) (hc : ∀ j, j < n * 3 → (w.cell? ⟨b, o + j, none⟩).isSome = true) (hf : ∀ j, j < n * 3 → w.frozen? ⟨b, o + j, none⟩ = false) :
    (Builtin.clear_ #[25] ty #[.slice (some ⟨b, o, none⟩) n c]).run Tryz.prog w = .ok (.tuple #[]) (w.setCells b o (List.replicate n [Value.int .u8 0, .int .i64 0, .string .empty]).flatten) := by
  have hz : ∀ w : World, (zeroValue 59).run Tryz.prog w = .ok (.agg #[.int .u8 0, .int .i64 0, .string .empty]) w := fun w => by rfl
  have hzc : (Builtin.zeroCells (Value.agg #[.int .u8 0, .int .i64 0, .string .empty]).cells n).toList = (List.replicate n [Value.int .u8 0, .int .i64 0, .string .empty]).flatten := by
    rw [← zero_rows]
    simp [Builtin.zeroCells, Value.cells]
  have hst := run_storeCells_cells (P := Tryz.prog) b o (List.replicate n [Value.int .u8 0, .int .i64 0, .string .empty]).flatten 0 w (by simpa using hc) (by simpa using hf) (by
    intro v hv
    obtain ⟨l, hl, hv⟩ := List.mem_flatten.1 hv
    rw [List.eq_of_mem_replicate hl] at hv
    simp at hv
    rcases hv with rfl | rfl | rfl <;> rfl)
  simp only [Nat.add_zero] at hst
  obtain ⟨m, rfl⟩ : ∃ m, n = m + 1 := ⟨n - 1, by omega⟩
  simp [Builtin.clear_, run_underlying (Tryz.underlying25), hz, hzc, hst]
theorem mem_compactUpTo {α : Type} [Inhabited α] [DecidableEq α] (d : Array α) (x : α) : ∀ m, x ∈ compactUpTo d m ↔ ∃ j, j < m ∧ d[j]! = x
  | 0 => by simp [compactUpTo]
  | m + 1 => by
    rw [compactUpTo_succ, List.mem_append, mem_compactUpTo d x m]
    constructor
    · rintro (⟨j, hj, rfl⟩ | h)
      · exact ⟨j, by omega, rfl⟩
      · by_cases c : keeps d m = true
        · rw [if_pos c] at h; exact ⟨m, by omega, (List.mem_singleton.1 h).symm⟩
        · rw [if_neg c] at h; simp at h
    · rintro ⟨j, hj, rfl⟩
      by_cases e : j = m
      · subst e
        by_cases c : keeps d j = true
        · rw [if_pos c]; exact .inr (by simp)
        · rw [if_neg c]
          have hc : ¬ (j = 0 ∨ d[j]! ≠ d[j - 1]!) := by simpa [keeps] using c
          have h0 : j ≠ 0 := fun h => hc (.inl h)
          have h1 : d[j]! = d[j - 1]! := by
            by_cases h1 : d[j]! = d[j - 1]!
            · exact h1
            · exact absurd (.inr h1) hc
          exact .inl ⟨j - 1, by omega, h1.symm⟩
      · exact .inl ⟨j, by omega, rfl⟩
theorem rising_compactUpTo {d : Array Atom} (h : ∀ i j, i < j → j < d.size → Atom.lt d[j]! d[i]! = false) : ∀ m, m ≤ d.size → Rising Atom.lt (compactUpTo d m)
  | 0, _ => by simp [compactUpTo, Rising]
  | m + 1, hm => by
    rw [compactUpTo_succ]
    by_cases c : keeps d m = true
    · rw [if_pos c]
      refine List.pairwise_append.2 ⟨rising_compactUpTo h m (by omega), by simp, ?_⟩
      intro x hx y hy
      obtain ⟨j, hj, rfl⟩ := (mem_compactUpTo d x m).1 hx
      have : y = d[m]! := by simpa using hy
      subst this
      have hc : m = 0 ∨ d[m]! ≠ d[m - 1]! := by simpa [keeps] using c
      have hne : d[m]! ≠ d[m - 1]! := hc.resolve_left (by omega)
      have hlt : Atom.lt d[m - 1]! d[m]! = true := by
        cases e : Atom.lt d[m - 1]! d[m]! with
        | true => rfl
        | false => exact absurd (Atom.lt_tri (h (m - 1) m (by omega) (by omega)) e) hne
      by_cases e : j = m - 1
      · subst e; exact hlt
      · cases e2 : Atom.lt d[j]! d[m - 1]! with
        | true => exact Atom.lt_trans e2 hlt
        | false => rw [Atom.lt_tri e2 (h j (m - 1) (by omega) (by omega))]; exact hlt
    · rw [if_neg c, List.append_nil]; exact rising_compactUpTo h m (by omega)
theorem msort_nofall (l : List Atom) : (msort l).Pairwise (fun a b => Atom.lt b a = false) := by
  have := List.pairwise_mergeSort (le := fun x y => !Atom.lt y x) (fun a b c h1 h2 => by
    simp only [Bool.not_eq_true', ] at *
    cases e : Atom.lt c a with
    | false => rfl
    | true =>
      cases e2 : Atom.lt b a with
      | true => rw [e2] at h1; cases h1
      | false =>
        cases e3 : Atom.lt a b with
        | true => rw [Atom.lt_trans e e3] at h2; cases h2
        | false => rw [Atom.lt_tri e2 e3] at h2; rw [e] at h2; cases h2) (fun a b => by
    cases e : Atom.lt a b with
    | false => simp
    | true =>
      cases e2 : Atom.lt b a with
      | false => simp
      | true => have := Atom.lt_trans e e2; rw [Atom.lt_irrefl] at this; cases this) l
  refine this.imp ?_
  intro a b h
  simpa using h
theorem compact_msort (l : List Atom) : compact (msort l) = sortA l := by
  refine eq_sortA ?_ ?_
  · unfold compact
    refine rising_compactUpTo ?_ _ (by simp)
    intro i j hij hj
    have hj' : j < (msort l).length := by simpa using hj
    rw [getElem!_pos _ j hj, getElem!_pos _ i (by omega)]
    simpa using List.pairwise_iff_getElem.1 (msort_nofall l) i j (by omega) hj' hij
  · intro a
    unfold compact
    rw [mem_compactUpTo]
    constructor
    · rintro ⟨j, hj, rfl⟩
      rw [getElem!_pos _ j (by simpa using hj)]
      exact List.mem_mergeSort.1 (List.getElem_mem (l := msort l) (by simpa using hj))
    · intro ha
      have : a ∈ msort l := by simpa [msort] using ha
      obtain ⟨j, hj, e⟩ := List.getElem_of_mem this
      exact ⟨j, hj, by rw [getElem!_pos _ j (by simpa using hj)]; simpa using e⟩
set_option maxHeartbeats 4000000 in
theorem compact_any (g cap n : Nat) (l : List Atom) (base : Nat) (w : World) (h : OwnE encA 3 w base 59 (.slice (some ⟨g, 0, none⟩) n cap) n l) (hcap : n ≤ cap) (hn : n ≤ 4611686018427387904) :
    Calls Tryz.prog 146 #[.slice (some ⟨g, 0, none⟩) n cap] w fun e w' =>
      ∃ m, e = .returned (.slice (some ⟨g, 0, none⟩) m cap) ∧ m ≤ n ∧ OwnE encA 3 w' base 59 (.slice (some ⟨g, 0, none⟩) m cap) m (compact l) ∧ w.grownBy w' (some g) := by
  have hl : l.length = n := h.len encA_len (by omega)
  generalize hd : l.toArray = d
  have hdn : d.size = n := by subst hd; simpa using hl
  have hget : ∀ j, j < n → l[j]? = some d[j]! := fun j hj => by subst hd; rw [getElem!_pos _ j (by simpa using (by omega : j < l.length))]; simp
  have same : (∀ j, j < n → keeps d j = true) → compact l = l := fun hall => by
    subst hd; exact compact_all l (fun j hj => hall j (by omega))
  have SAME := hid same
  have HO := hid h
  have HL := hid hl
  have HD := hid hd
  have HDN := hid hdn
  have HGET := hid hget
  clear h same hl hd hdn hget
  by_cases h2 : n < 2
  · go_enter Tryz.func146, Tryz.ntmps146
    go_wp2_with fail
    go_ret
    exact ⟨n, rfl, Nat.le_refl _, by rw [SAME.out (fun j hj => keeps_lt_one d j (by omega))]; exact HO.out, World.grownBy.refl _ _⟩
  · go_enter Tryz.func146, Tryz.ntmps146
    go_wp2_with fail
    go_loopw [3] (fun i wr => ∃ k q : Nat, 1 ≤ k ∧ k ≤ n ∧ i = .int .i64 k ∧ wr = w.drewN q ∧ ∀ j, j < k → keeps d j = true) (fun i _ => n - (intOf i).toNat)
    case atStart => exact ⟨1, 0, Nat.le_refl _, by omega, rfl, rfl, keeps_lt_one d⟩
    case round =>
      obtain ⟨k, q, hk1, hk, rfl, rfl, hall⟩ := hrel
      have ALL := hid hall
      clear hall
      by_cases hlt : k < n
      · have HOq := HO.out
        have hx := HGET.out k hlt
        have hy := HGET.out (k - 1) (by omega)
        generalize hx' : d[k]! = x at hx
        generalize hy' : d[k - 1]! = y at hy
        have B := hid (⟨hx', hy'⟩ : d[k]! = x ∧ d[k - 1]! = y)
        have c0 := (HOq.at encA_len hx (i := 0) (by omega)).1
        have c1 := (HOq.at encA_len hx (i := 1) (by omega)).1
        have c2 := (HOq.at encA_len hx (i := 2) (by omega)).1
        have b0 := (HOq.at encA_len hy (i := 0) (by omega)).1
        have b1 := (HOq.at encA_len hy (i := 1) (by omega)).1
        have b2 := (HOq.at encA_len hy (i := 2) (by omega)).1
        simp only [encA, List.getElem?_cons_zero, List.getElem?_cons_succ, Nat.add_zero] at c0 c1 c2 b0 b1 b2
        clear hx hy hx' hy' HOq
        have he := fun W => run_eqA x y W
        cases hq : eqA x y
        · go_wp2_with fail
          go_quiet (fail)
          go_wp2_with fail
          go_roundw
          case rel =>
            refine ⟨k + 1, _, by omega, by omega, by go_num, rfl, fun j hj => ?_⟩
            by_cases e : j = k
            · subst e
              exact keeps_pos (by rw [B.out.1, B.out.2]; simpa [eqA] using hq)
            · exact ALL.out j (by omega)
          case measure => simp [intOf]; omega
        · go_wp2_with fail
          go_quiet (fail)
          go_wp2_with fail
          clear c0 c1 c2 b0 b1 b2 he
          go_loopw [3, 5] (fun s3 s5 wr => ∃ (kk k2 : Nat) (dk : Array Atom), s3 = .int .i64 kk ∧ s5 = .int .i64 k2 ∧ 1 ≤ k2 ∧ k + k2 ≤ n ∧ OwnE encA 3 wr base 59 (.slice (some ⟨g, 0, none⟩) n cap) n dk.toList ∧ w.grownBy wr (some g) ∧ CompInv d (k + k2) kk dk) (fun _ s5 _ => n - k - (intOf s5).toNat)
          case atStart => exact ⟨k, 1, d, rfl, rfl, Nat.le_refl _, by omega, by have := HO.out; rw [← HD.out]; exact this.drewN _, grown_drewN w _ _, CompInv.start ALL.out (keeps_neg (by omega) (by rw [B.out.1, B.out.2]; simpa [eqA] using hq))⟩
          case round =>
            obtain ⟨kk, k2, dk, rfl, rfl, h1, hle, hown, hgr, hI⟩ := hrel
            have hkk := hI.lt
            have hds := hI.size
            have hhi := hI.high
            have HW := hid hown
            have HGR := hid hgr
            have HI := hid hI
            have hgd : ∀ j, j < n → dk.toList[j]? = some dk[j]! := fun j hj => by rw [getElem!_pos dk j (by have := HDN.out; omega)]; simp [show j < dk.size by have := HDN.out; omega]
            have hdn := HDN.out
            by_cases hlt2 : k + k2 < n
            · have hx := hgd (k + k2) hlt2
              have hy := hgd (k + k2 - 1) (by omega)
              rw [hhi _ (by omega)] at hx
              rw [hhi _ (by omega)] at hy
              generalize hx' : d[k + k2]! = x2 at hx
              generalize hy' : d[k + k2 - 1]! = y2 at hy
              have C := hid (⟨hx', hy'⟩ : d[k + k2]! = x2 ∧ d[k + k2 - 1]! = y2)
              have c0 := (hown.at encA_len hx (i := 0) (by omega)).1
              have c1 := (hown.at encA_len hx (i := 1) (by omega)).1
              have c2 := (hown.at encA_len hx (i := 2) (by omega)).1
              have b0 := (hown.at encA_len hy (i := 0) (by omega)).1
              have b1 := (hown.at encA_len hy (i := 1) (by omega)).1
              have b2 := (hown.at encA_len hy (i := 2) (by omega)).1
              simp only [encA, List.getElem?_cons_zero, List.getElem?_cons_succ, Nat.add_zero] at c0 c1 c2 b0 b1 b2
              rw [show (k + k2) * 3 = k * 3 + k2 * 3 by omega] at c0 c1 c2
              rw [show (k + k2 - 1) * 3 = k * 3 + (k2 - 1) * 3 by omega] at b0 b1 b2
              have he := fun W => run_neA x2 y2 W
              clear hx hy hx' hy' hgd hhi hI hds hdn
              cases hq2 : eqA x2 y2
              · have Q2 := hid hq2
                obtain ⟨o0, f0⟩ := hown.cellSome (o := kk * 3) (by omega)
                obtain ⟨o1, f1⟩ := hown.cellSome (o := kk * 3 + 1) (by omega)
                obtain ⟨o2, f2⟩ := hown.cellSome (o := kk * 3 + 2) (by omega)
                obtain ⟨u0, o0⟩ := Option.isSome_iff_exists.1 o0
                obtain ⟨u1, o1⟩ := Option.isSome_iff_exists.1 o1
                obtain ⟨u2, o2⟩ := Option.isSome_iff_exists.1 o2
                clear hown hgr
                go_wp2_with fail
                go_quiet (fail)
                go_wp2_with fail
                go_roundw
                case rel =>
                  refine ⟨kk + 1, k2 + 1, dk.setIfInBounds kk x2, by go_num, by go_num, by omega, by omega, ?_, ?_, ?_⟩
                  · rw [Array.toList_setIfInBounds]; exact (HW.out.drewN _).setA kk x2 (by omega)
                  · exact HGR.out.trans ((grown_drewN _ _ _).trans ((grown_setCell1 _ _ _ _).trans ((grown_setCell1 _ _ _ _).trans (grown_setCell1 _ _ _ _))))
                  · have := HI.out.keep (by rw [HDN.out]; omega) (keeps_pos (by rw [C.out.1, C.out.2]; simpa [eqA] using Q2.out))
                    rw [C.out.1] at this; exact this
                case measure => simp [intOf]; omega
              · have Q2 := hid hq2
                clear hown hgr
                go_wp2_with fail
                go_quiet (fail)
                go_wp2_with fail
                go_roundw
                case rel => exact ⟨kk, k2 + 1, dk, rfl, by go_num, by omega, by omega, HW.out.drewN _, HGR.out.trans (grown_drewN _ _ _), by have := HI.out.skip (keeps_neg (by omega) (by rw [C.out.1, C.out.2]; simpa [eqA] using Q2.out)); exact this⟩
                case measure => simp [intOf]; omega
            · have hend : k + k2 = n := by omega
              have hcl := fun ty => run_clear_atoms wr ty g (kk * 3) (n - kk) (cap - kk) (by omega) (fun j hj => (hown.cellSome (by omega)).1) (fun j hj => (hown.cellSome (by omega)).2)
              clear hown hgr hgd hhi hI hds hdn
              go_wp2_with fail
              go_ret
              have hI := HI.out
              have hdn := HDN.out
              have hlen := hI.len
              have hlow := hI.low
              have hkk' := hI.lt
              have hds' := hI.size
              rw [hend] at hlow hlen
              have hcomp : dk.toList.take kk = compact l := by
                have e1 : compact l = compactUpTo d n := by unfold compact; rw [HL.out, HD.out]
                rw [e1]
                apply List.ext_getElem?
                intro j
                by_cases hj : j < kk
                · rw [List.getElem?_take_of_lt hj, hlow j hj, getElem!_pos dk j (by omega), Array.getElem?_toList, Array.getElem?_eq_getElem]
                · rw [List.getElem?_take_eq_none (by omega), List.getElem?_eq_none (by omega)]
              refine ⟨kk, rfl, by omega, ?_, HGR.out.trans (grown_setCells _ _ _ _)⟩
              have := (OwnE.cut (n := n) (m := kk) encA_len HW.out (by simp; omega) (by omega)).clearBehind encA_len (kk * 3) (List.replicate (n - kk) [Value.int .u8 0, .int .i64 0, .string .empty]).flatten (Nat.le_refl _)
              rw [hcomp] at this
              exact this
      · have hkn : k = n := by omega
        subst hkn
        go_wp2_with fail
        go_ret
        exact ⟨k, rfl, Nat.le_refl _, by rw [SAME.out ALL.out]; exact HO.out.drewN q, grown_drewN w q _⟩
end
section
open Go.RowKit Go.Sort Go.Lib
theorem OwnE.split {α : Type} {enc : α → List Value} {k : Nat} {w : World} {base e n : Nat} {v : Value} {l : List α} (hk : ∀ x, (enc x).length = k) (hk0 : 0 < k) (h : OwnE enc k w base e v n l) :
    (v = .slice none 0 0 ∧ n = 0 ∧ l = []) ∨ ∃ g cap, v = .slice (some ⟨g, 0, none⟩) n cap ∧ n ≤ cap ∧ base ≤ g := by
  have hl := h.len hk hk0
  rcases h.2 with ⟨h0, h1⟩ | ⟨g, cap, cur, hv, hb, hg, hn, _⟩
  · refine .inl ⟨h0, ?_⟩
    obtain ⟨p, c, hv, hl', _⟩ := h.row hk hk0
    rw [h0] at hv; cases hv
    exact ⟨rfl, List.length_eq_zero_iff.1 hl⟩
  · exact .inr ⟨g, cap, hv, hn, hb⟩
theorem sortFunc_nil (w : World) :
    Calls Tryz.prog 145 #[.slice none 0 0, .func (.func 128) #[] #[]] w fun e w' => e = .returned (.tuple #[]) ∧ w' = w :=
  AnyF.slices_SortFunc_none { Tryz.sortAtoms with } none 0 _ w
theorem compact_nil (w : World) : Calls Tryz.prog 146 #[.slice none 0 0] w fun e w' => e = .returned (.slice none 0 0) ∧ w' = w := by
  go_enter Tryz.func146, Tryz.ntmps146
  go_wp2_with fail
  go_ret
  exact ⟨rfl, rfl⟩
theorem OwnE.drop_base {α : Type} {enc : α → List Value} {k : Nat} {w w' : World} {g base : Nat} {w0 : World} (hg : w.grownBy w' (some g)) (hbg : base ≤ g) (hb : Below base w0 w) (hs : base ≤ w.heap.size) : Below base w0 w' :=
  hb.grown hg hs (fun k hk => by cases hk; exact hbg)
set_option maxHeartbeats 1000000 in
theorem effect_Of_any (p : Option Addr) (n cap : Nat) (l : List Atom) (w : World) (hn : l.length = n) (hm : n ≤ 1000000) (hr : RowA w p l) :
    Calls Tryz.prog 100 #[.slice p n cap] w fun e w' => ∃ v m, e = .returned v ∧ m ≤ n ∧ OwnE encA 3 w' w.heap.size 59 v m (sortA (l.filter atomB)) ∧ Below w.heap.size w w' := by
  have HR := hid hr
  have HN := hid hn
  clear hr hn
  go_enter Tryz.func100, Tryz.ntmps100
  go_wp2_with fail
  go_loopw [3, 8] (fun u i wr => ∃ k m : Nat, k ≤ n ∧ i = .int .i64 k ∧ m ≤ k ∧ OwnE encA 3 wr w.heap.size 59 u m ((l.take k).filter atomB) ∧ Below w.heap.size w wr) (fun _ i _ => n - (intOf i).toNat)
  case atStart => exact ⟨0, 0, by omega, rfl, by omega, OwnE.nil _ _ _ _ _, Below.refl _ _⟩
  case round =>
    obtain ⟨k, m, hk, rfl, hmk, hown, hb⟩ := hrel
    have HOWN := hid hown
    have HB := hid hb
    clear hown hb
    by_cases hlt : k < n
    · obtain ⟨x, hx⟩ := get_of_lt (l := l) (j := k) (by rw [HN.out]; exact hlt)
      have HE := hid hx
      obtain ⟨b, o, rfl, hbl, d0, d1, d2⟩ := RowA.atom (HR.out.below HB.out) hx
      clear hx hbl
      go_wp2_with fail
      refine (atom_any x _).mono ?_
      rintro e w1 ⟨rfl, hb⟩
      have HB1 : Hid (Below w.heap.size w w1) := (HB.out.alloc HB.out.size _).trans (hb.mono (by have := HB.out.size; simp; omega))
      have HOWN1 := hid ((HOWN.out.below ((Below.refl _ wr).alloc (Nat.le_refl _) (.cells #[.int .u8 x.kind, .int .i64 x.rho, .string x.exn] 59))).below hb)
      have f0 : w1.cell? ⟨wr.heap.size, 0, none⟩ = some (.int .u8 x.kind) := by rw [hb.cell (by simp), cell_new]; rfl
      have f1 : w1.cell? ⟨wr.heap.size, 1, none⟩ = some (.int .i64 x.rho) := by rw [hb.cell (by simp), cell_new]; rfl
      have f2 : w1.cell? ⟨wr.heap.size, 2, none⟩ = some (.string x.exn) := by rw [hb.cell (by simp), cell_new]; rfl
      clear hb d0 d1 d2
      cases ha : atomB x
      · have HA := hid ha
        clear ha
        go_wp2_with fail
        go_roundw
        case rel => exact ⟨k + 1, m, by omega, by go_num, by omega, by rw [take_succ_get HE.out, List.filter_append]; simpa [HA.out] using HOWN1.out, HB1.out⟩
        case measure => simp [intOf]; omega
      · have HA := hid ha
        clear ha
        go_wp2_with (at_builtin; refine wpList_append1 rfl _ _ 25 rfl w.heap.size 59 _ 3 32 Tryz.underlying25 infoA rfl (by decide) encA encA_len encA_one x _ _ _ HOWN1.out rfl rfl ?c1 ?c2 ?c3 ?_)
        case c1 => omega
        case c2 => omega
        case c3 => exact HB1.out.size
        · intro v' w4 hown' hg
          have HO := hid hown'
          have HB4 := hid (Below.own HB1.out hg HB1.out.size HOWN1.out)
          clear hown' hg f0 f1 f2
          go_wp2_with fail
          go_roundw
          case rel => exact ⟨k + 1, m + 1, by omega, by go_num, by omega, by rw [take_succ_get HE.out, List.filter_append]; simpa [HA.out] using HO.out, HB4.out⟩
          case measure => simp [intOf]; omega
    · have hkn : k = n := by omega
      subst hkn
      have HT : Hid ((l.take k).filter atomB = l.filter atomB) := by show (l.take k).filter atomB = l.filter atomB; rw [take_full (by rw [HN.out]; omega)]
      rcases HOWN.out.split encA_len (by omega) with ⟨rfl, rfl, hnil⟩ | ⟨g, cp, rfl, hcp, hbg⟩
      · have HNIL := hid hnil
        clear hnil
        go_wp2_with fail
        refine (sortFunc_nil _).mono ?_
        rintro e w1 ⟨rfl, rfl⟩
        go_wp2_with fail
        refine (compact_nil _).mono ?_
        rintro e w2 ⟨rfl, rfl⟩
        go_wp2_with fail
        go_ret
        exact ⟨_, 0, rfl, by omega, by rw [← HT.out, HNIL.out]; exact OwnE.nil _ _ _ _ _, HB.out⟩
      · go_wp2_with fail
        refine (sortFunc_any g cp m _ w.heap.size wr HOWN.out (by omega)).mono ?_
        rintro e w1 ⟨rfl, ho1, hg1⟩
        have HB1 := hid (OwnE.drop_base (enc := encA) (k := 3) hg1 hbg HB.out HB.out.size)
        have HO1 := hid ho1
        clear ho1 hg1
        go_wp2_with fail
        refine (compact_any g cp m _ w.heap.size w1 HO1.out hcp (by omega)).mono ?_
        rintro e w2 ⟨m', rfl, hm', ho2, hg2⟩
        have HB2 := hid (OwnE.drop_base (enc := encA) (k := 3) hg2 hbg HB1.out HB1.out.size)
        have HO2 := hid ho2
        clear ho2 hg2
        go_wp2_with fail
        go_ret
        have h2 := HO2.out
        rw [compact_msort, HT.out] at h2
        exact ⟨_, m', rfl, by omega, h2, HB2.out⟩
theorem mem_putPos (a x : Atom) : ∀ l : List Atom, x ∈ putPos a l ↔ x = a ∨ x ∈ l
  | [] => by simp [putPos]
  | b :: l => by
    unfold putPos
    by_cases h : Atom.lt a b = true
    · rw [if_pos h]; simp
    · rw [if_neg h, List.mem_cons, mem_putPos a x l, List.mem_cons]
      constructor
      · rintro (h | h | h)
        · exact .inr (.inl h)
        · exact .inl h
        · exact .inr (.inr h)
      · rintro (h | h | h)
        · exact .inr (.inl h)
        · exact .inl h
        · exact .inr (.inr h)
theorem rising_putPos (a : Atom) : ∀ l : List Atom, Rising Atom.lt l → a ∉ l → Rising Atom.lt (putPos a l)
  | [], _, _ => by simp [putPos, Rising]
  | b :: l, hr, hn => by
    obtain ⟨hb, hl⟩ := List.pairwise_cons.1 hr
    unfold putPos
    by_cases h : Atom.lt a b = true
    · rw [if_pos h]
      refine List.pairwise_cons.2 ⟨fun x hx => ?_, hr⟩
      rcases List.mem_cons.1 hx with rfl | hx
      · exact h
      · exact Atom.lt_trans h (hb x hx)
    · rw [if_neg h]
      refine List.pairwise_cons.2 ⟨fun x hx => ?_, rising_putPos a l hl (fun h => hn (List.mem_cons_of_mem _ h))⟩
      rcases (mem_putPos a x l).1 hx with rfl | hx
      · cases e : Atom.lt b x with
        | true => rfl
        | false => exact absurd (List.mem_cons.2 (.inl (Atom.lt_tri (by simpa using h) e))) hn
      · exact hb x hx
theorem inA_iff (l : List Atom) (a : Atom) : inA l a = true ↔ a ∈ l := by
  unfold inA eqA
  simp
theorem mem_putA (a x : Atom) (l : List Atom) : x ∈ putA a l ↔ (x = a ∧ atomB a = true) ∨ x ∈ l := by
  unfold putA
  by_cases h : (atomB a && !inA l a) = true
  · rw [if_pos h, mem_putPos]
    have : atomB a = true := by simp at h; exact h.1
    simp [this]
  · rw [if_neg h]
    constructor
    · exact .inr
    · rintro (⟨rfl, ha⟩ | h')
      · have : inA l x = true := by simpa [ha] using h
        exact (inA_iff l x).1 this
      · exact h'
theorem rising_putA (a : Atom) (l : List Atom) (hr : Rising Atom.lt l) : Rising Atom.lt (putA a l) := by
  unfold putA
  by_cases h : (atomB a && !inA l a) = true
  · rw [if_pos h]
    refine rising_putPos a l hr (fun hm => ?_)
    rw [(inA_iff l a).2 hm] at h; simp at h
  · rw [if_neg h]; exact hr
theorem refOf_fold : ∀ (l e : List Atom), Rising Atom.lt e → Rising Atom.lt (l.foldl (fun e a => putA a e) e) ∧ ∀ x, x ∈ l.foldl (fun e a => putA a e) e ↔ x ∈ e ∨ (x ∈ l ∧ atomB x = true)
  | [], e, h => ⟨h, fun x => by simp⟩
  | a :: l, e, h => by
    obtain ⟨h1, h2⟩ := refOf_fold l (putA a e) (rising_putA a e h)
    refine ⟨h1, fun x => ?_⟩
    rw [List.foldl_cons, h2, mem_putA, List.mem_cons]
    constructor
    · rintro ((⟨rfl, h⟩ | h) | ⟨h, h'⟩)
      · exact .inr ⟨.inl rfl, h⟩
      · exact .inl h
      · exact .inr ⟨.inr h, h'⟩
    · rintro (h | ⟨rfl | h, h'⟩)
      · exact .inl (.inr h)
      · exact .inl (.inl ⟨rfl, h'⟩)
      · exact .inr ⟨h, h'⟩
theorem refOf_eq (l : List Atom) : refOf l = sortA (l.filter atomB) := by
  obtain ⟨h1, h2⟩ := refOf_fold l [] (by simp [Rising])
  refine eq_sortA h1 (fun x => ?_)
  show x ∈ l.foldl (fun e a => putA a e) [] ↔ _
  rw [h2, List.mem_filter]
  simp
end
section
open Go.RowKit
theorem eff_atom_is {a : Atom} {r : Bool} (h : atomB a = r) (w : World) :
    Calls Tryz.prog 127 #[.agg #[.int .u8 a.kind, .int .i64 a.rho, .string a.exn]] w fun e w' => e = .returned (.bool r) ∧ Below w.heap.size w w' := by
  subst h; exact atom_any a w
theorem below_grow (W : World) (q : Nat) (os' : Array Obj) : Below W.heap.size W (Go.Sort.grow (W.drewN q) os') :=
  ⟨rfl, rfl, rfl, by simp [Go.Sort.grow], fun k hk => by rw [Go.Sort.heap_grow_old _ _ (by simpa using hk)]; rfl⟩
theorem compare_is {a b : Atom} {r : Int} (h : cmpA a b = r) (w : World) : Calls Tryz.prog 128 #[.agg #[.int .u8 a.kind, .int .i64 a.rho, .string a.exn], .agg #[.int .u8 b.kind, .int .i64 b.rho, .string b.exn]] w fun e w' =>
    e = .returned (.int .i64 r) ∧ Below w.heap.size w w' := by
  subst h
  refine (compare_any a b w).mono ?_
  rintro e w' ⟨he, q, os', rfl⟩
  exact ⟨he, below_grow w q os'⟩
set_option maxHeartbeats 1000000 in
theorem effect_May_any (p : Option Addr) (n cap : Nat) (l : List Atom) (w : World) (hn : l.length = n) (hm : n ≤ 9223372036854775807) (hr : RowA w p l) :
    Calls Tryz.prog 93 #[.slice p n cap] w fun e w' => (∃ r, e = .returned (.bool r) ∧ (r = true ↔ MayTo l n)) ∧ Below w.heap.size w w' := by
  have HR := hid hr
  have HN := hid hn
  clear hr hn
  go_enter Tryz.func93, Tryz.ntmps93
  go_wp2_with fail
  go_loopw [7] (fun i wr => ∃ k : Nat, k ≤ n ∧ i = .int .i64 k ∧ MayTo l k ∧ Below w.heap.size w wr) (fun i _ => n - (intOf i).toNat)
  case atStart => exact ⟨0, by omega, rfl, ⟨by simp, fun j _ _ h => by omega⟩, Below.refl _ _⟩
  case round =>
    obtain ⟨k, hk, rfl, hno, hb⟩ := hrel
    have HNO := hid hno
    have HB := hid hb
    clear hno hb
    by_cases hlt : k < n
    · obtain ⟨x, hx⟩ := get_of_lt (l := l) (j := k) (by rw [HN.out]; exact hlt)
      have HE := hid hx
      obtain ⟨b, o, rfl, hbl, d0, d1, d2⟩ := RowA.atom (HR.out.below HB.out) hx
      have HBL := hid hbl
      clear hx hbl
      have v0 := fun g => gw_cell (a := ⟨wr.heap.size, 0, none⟩) (v := .int .u8 x.kind) (w := wr.alloc (.cells #[.int .u8 x.kind, .int .i64 x.rho, .string x.exn] 59)) (by rw [cell_new]; rfl) g
      have v1 := fun g => gw_cell (a := ⟨wr.heap.size, 1, none⟩) (v := .int .i64 x.rho) (w := wr.alloc (.cells #[.int .u8 x.kind, .int .i64 x.rho, .string x.exn] 59)) (by rw [cell_new]; rfl) g
      have v2 := fun g => gw_cell (a := ⟨wr.heap.size, 2, none⟩) (v := .string x.exn) (w := wr.alloc (.cells #[.int .u8 x.kind, .int .i64 x.rho, .string x.exn] 59)) (by rw [cell_new]; rfl) g
      cases ha : atomB x
      · have HA := hid ha
        clear ha
        have hW := gw_below (wr.alloc (.cells #[.int .u8 x.kind, .int .i64 x.rho, .string x.exn] 59))
        go_wp2_with fail
        refine wp_region_gw (by kernel_rfl) (by kernel_rfl) ?_
        repeat ((with_reducible refine wpQuiet_step (fun K hK => ?_)); go_simp; refine hK _ ?_; clear hK K)
        refine wpQuiet_step (fun K hK => ?_); go_simp; refine ⟨.bool false, fun _ => calls_gw (eff_atom_is HA.out _), hK _ ?_⟩; clear hK K
        repeat ((with_reducible refine wpQuiet_step (fun K hK => ?_)); go_simp; refine hK _ ?_; clear hK K)
        refine wpQuiet_nil ?_
        rintro w3 ⟨g, rfl⟩
        have HB3 := hid ((HB.out.alloc HB.out.size _).trans ((hW g).mono (by have := HB.out.size; simp; omega)))
        clear hW
        go_wp2_with fail
        go_ret
        exact ⟨⟨false, rfl, by
          constructor
          · intro h; cases h
          · intro h
            have h1 := h.1
            rw [take_full (by rw [HN.out]; omega), all_get HE.out HA.out] at h1
            cases h1⟩, HB3.out⟩
      · have HA := hid ha
        clear ha
        have hW := gw_below (wr.alloc (.cells #[.int .u8 x.kind, .int .i64 x.rho, .string x.exn] 59))
        by_cases hk0 : k = 0
        · have hd : decide ((0 : Int) < (k : Int)) = false := by simp; omega
          have hd' : decide (0 < k) = false := by simp; omega
          have HK0 := hid hk0
          clear hk0
          go_wp2_with fail
          refine wp_region_gw (by kernel_rfl) (by kernel_rfl) ?_
          repeat ((with_reducible refine wpQuiet_step (fun K hK => ?_)); go_simp; refine hK _ ?_; clear hK K)
          refine wpQuiet_step (fun K hK => ?_); go_simp; refine ⟨.bool true, fun _ => calls_gw (eff_atom_is HA.out _), hK _ ?_⟩; clear hK K
          repeat ((with_reducible refine wpQuiet_step (fun K hK => ?_)); go_simp; refine hK _ ?_; clear hK K)
          refine wpQuiet_nil ?_
          rintro w3 ⟨g, rfl⟩
          have HB3 := hid ((HB.out.alloc HB.out.size _).trans ((hW g).mono (by have := HB.out.size; simp; omega)))
          clear hW
          go_wp2_with fail
          go_roundw
          case rel => exact ⟨k + 1, by omega, by go_num, ⟨by rw [all_take_get HE.out, HNO.out.1, HA.out]; rfl, fun j _ _ h => by have := HK0.out; omega⟩, HB3.out⟩
          case measure => simp [intOf]; omega
        · obtain ⟨y, hy⟩ := get_of_lt (l := l) (j := k - 1) (by rw [HN.out]; omega)
          have HY := hid hy
          obtain ⟨b', o', hbo, _, e0, e1, e2⟩ := RowA.atom ((HR.out.below HB.out).alloc (.cells #[.int .u8 x.kind, .int .i64 x.rho, .string x.exn] 59)) hy
          cases hbo
          have he0 := fun g => gw_cell e0 g
          have he1 := fun g => gw_cell e1 g
          have he2 := fun g => gw_cell e2 g
          have hk1 : Hid (0 < k) := show 0 < k by omega
          have hd : decide ((0 : Int) < (k : Int)) = true := by simp; omega
          have hd' : decide (0 < k) = true := by simp; omega
          have hkp : 0 < k := hk1.out
          have a1 : IntKind.i64.wrap ((k : Int) - 1) = (k : Int) - 1 := IntWalk.i64_in _ (by omega)
          have a2 : (0 : Int) ≤ (k : Int) - 1 := by omega
          have a3 : ((k : Int) - 1).toNat = k - 1 := by omega
          have a4 : (k : Int) - 1 < (n : Int) := by omega
          have a5 : (1 : Int) ≤ (k : Int) := by omega
          clear hy hk0
          have hcl := cmpA_lt y x
          generalize hcc : cmpA y x = c at hcl
          have HCC := hid hcc
          clear hcc
          cases hl : Atom.lt y x
          · have HL := hid hl
            rw [hl] at hcl
            have hc5 : decide ((0 : Int) ≤ c) = true := by simp at hcl ⊢; omega
            clear hl hcl
            go_wp2_with fail
            refine wp_region_gw (by kernel_rfl) (by kernel_rfl) ?_
            repeat ((with_reducible refine wpQuiet_step (fun K hK => ?_)); go_simp; refine hK _ ?_; clear hK K)
            refine wpQuiet_step (fun K hK => ?_); go_simp; refine ⟨.bool true, fun _ => calls_gw (eff_atom_is HA.out _), hK _ ?_⟩; clear hK K
            repeat ((with_reducible refine wpQuiet_step (fun K hK => ?_)); go_simp; refine hK _ ?_; clear hK K)
            refine wpQuiet_step (fun K hK => ?_); go_simp; refine ⟨.int .i64 c, fun _ => calls_gw (compare_is HCC.out _), hK _ ?_⟩; clear hK K
            repeat ((with_reducible refine wpQuiet_step (fun K hK => ?_)); go_simp; refine hK _ ?_; clear hK K)
            refine wpQuiet_nil ?_
            rintro w3 ⟨g, rfl⟩
            have HB3 := hid ((HB.out.alloc HB.out.size _).trans ((hW g).mono (by have := HB.out.size; simp; omega)))
            clear hW
            go_wp2_with fail
            go_ret
            exact ⟨⟨false, rfl, by
              constructor
              · intro h; cases h
              · intro h
                have h1 := h.2 (k - 1) y x (by have := hk1.out; omega) HY.out (by rw [show k - 1 + 1 = k from by have := hk1.out; omega]; exact HE.out)
                rw [HL.out] at h1
                cases h1⟩, HB3.out⟩
          · have HL := hid hl
            rw [hl] at hcl
            have hc5 : decide ((0 : Int) ≤ c) = false := by simp at hcl ⊢; omega
            clear hl hcl
            go_wp2_with fail
            refine wp_region_gw (by kernel_rfl) (by kernel_rfl) ?_
            repeat ((with_reducible refine wpQuiet_step (fun K hK => ?_)); go_simp; refine hK _ ?_; clear hK K)
            refine wpQuiet_step (fun K hK => ?_); go_simp; refine ⟨.bool true, fun _ => calls_gw (eff_atom_is HA.out _), hK _ ?_⟩; clear hK K
            repeat ((with_reducible refine wpQuiet_step (fun K hK => ?_)); go_simp; refine hK _ ?_; clear hK K)
            refine wpQuiet_step (fun K hK => ?_); go_simp; refine ⟨.int .i64 c, fun _ => calls_gw (compare_is HCC.out _), hK _ ?_⟩; clear hK K
            repeat ((with_reducible refine wpQuiet_step (fun K hK => ?_)); go_simp; refine hK _ ?_; clear hK K)
            refine wpQuiet_nil ?_
            rintro w3 ⟨g, rfl⟩
            have HB3 := hid ((HB.out.alloc HB.out.size _).trans ((hW g).mono (by have := HB.out.size; simp; omega)))
            clear hW
            go_wp2_with fail
            go_roundw
            case rel => exact ⟨k + 1, by omega, by go_num, ⟨by rw [all_take_get HE.out, HNO.out.1, HA.out]; rfl, fun i u v hi hu hv => by
              have hk1 := hk1.out
              rcases (by omega : i = k - 1 ∨ i + 1 < k) with rfl | hlt'
              · rw [HY.out] at hu; cases hu; rw [show k - 1 + 1 = k from by omega, HE.out] at hv; cases hv; exact HL.out
              · exact HNO.out.2 i u v hlt' hu hv⟩, HB3.out⟩
            case measure => simp [intOf]; omega
    · go_wp2_with fail
      go_ret
      obtain rfl : k = n := by omega
      exact ⟨⟨true, rfl, by simp [HNO.out]⟩, HB.out⟩
end
end Go.Proofs.YtkdjnegfnhldpaaGreatDoor
