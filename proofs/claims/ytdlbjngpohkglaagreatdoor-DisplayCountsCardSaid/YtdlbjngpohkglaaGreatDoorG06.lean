/- Part 6 of the texts: Eff5, Sort. -/
import Derived.Test.YtdlbjngpohkglaaGreatDoorG05
import Derived.Test.YtdlbjngpohkglaaGreatDoorShelf
import Derived.Shelf.SlSortCmp.NoneTotal
import Derived.Sort.OwnSorted
section
set_option linter.unusedVariables false
set_option maxRecDepth 100000
set_option linter.unusedSimpArgs false
namespace Go.Proofs.YtdlbjngpohkglaaGreatDoor
open Go.RowKit

/-- a slice of those elements -/
def Sl {α : Type} (enc : α → List Value) (k : Nat) (w : World) (v : Value) (l : List α) : Prop := ∃ p n cap, v = .slice p n cap ∧ l.length = n ∧ n ≤ cap ∧ RowE enc k w p l
theorem Sl.below {α : Type} {enc : α → List Value} {k : Nat} {w w' : World} {v : Value} {l : List α} (h : Sl enc k w v l) (hb : Below w.heap.size w w') : Sl enc k w' v l := by
  obtain ⟨p, n, cap, hv, hl, hc, hr⟩ := h
  exact ⟨p, n, cap, hv, hl, hc, hr.below hb⟩
theorem OwnE.sl {α : Type} {enc : α → List Value} {k : Nat} {w : World} {base e n : Nat} {v : Value} {l : List α} (hk : ∀ x, (enc x).length = k) (hk0 : 0 < k) (h : OwnE enc k w base e v n l) : Sl enc k w v l := by
  obtain ⟨p, cap, hv, hl, hc, hr, _⟩ := h.row hk hk0
  exact ⟨p, n, cap, hv, hl, hc, hr⟩

theorem ref_put_any (p : Option Addr) (n cap : Nat) (l : List Atom) (a : Atom) (w : World) (hn : l.length = n) (hcap : n ≤ cap) (hm : n ≤ 1000000) (hr : RowA w p l) :
    Calls Tryz.prog 63 #[.slice p n cap, .agg #[.int .u8 a.kind, .int .i64 a.rho, .string a.exn]] w fun e w' =>
      ∃ v, e = .returned v ∧ Sl encA 3 w' v (putA a l) ∧ Below w.heap.size w w' := by
  by_cases ha : atomB a = true
  · by_cases hi : inA l a = true
    · have hp : Hid (putA a l = l) := by show putA a l = l; simp [putA, ha, hi]
      have HR := Lib.hid hr
      have HN := Lib.hid hn
      clear hr hn
      go_enter Tryz.func63, Tryz.ntmps63
      go_wp2_with fail
      refine (ref_Atom_any a _).mono ?_
      rintro e w1 ⟨rfl, hb⟩
      have H1 : Hid (Below w.heap.size w w1) := ((Below.refl _ w).alloc (Nat.le_refl _) _).trans (hb.mono (by simp))
      have c0 : w1.cell? ⟨w.heap.size, 0, none⟩ = some (.int .u8 a.kind) := by rw [hb.cell (by simp), cell_new]; rfl
      have c1 : w1.cell? ⟨w.heap.size, 1, none⟩ = some (.int .i64 a.rho) := by rw [hb.cell (by simp), cell_new]; rfl
      have c2 : w1.cell? ⟨w.heap.size, 2, none⟩ = some (.string a.exn) := by rw [hb.cell (by simp), cell_new]; rfl
      rw [ha]
      clear hb ha
      go_wp2_with fail
      refine (ref_In_any p n cap l a w1 HN.out (by omega) (HR.out.below H1.out)).mono ?_
      rintro e w2 ⟨rfl, hb⟩
      have H2 := Lib.hid (H1.out.trans (hb.mono H1.out.size))
      rw [hi]
      clear hb hi
      go_wp2_with fail
      go_ret
      exact ⟨_, rfl, by rw [hp.out]; exact ⟨p, n, cap, rfl, HN.out, hcap, HR.out.below H2.out⟩, H2.out⟩
    · have hi' : inA l a = false := by simpa using hi
      refine (ref_put_main p n cap l a w hn hm hr ha hi').mono ?_
      rintro e w' ⟨v, he, ho, hb⟩
      exact ⟨v, he, by rw [show putA a l = putPos a l from by simp [putA, ha, hi']]; exact ho.sl encA_len (by omega), hb⟩
  · have ha' : atomB a = false := by simpa using ha
    have hp : Hid (putA a l = l) := by show putA a l = l; simp [putA, ha']
    have HR := Lib.hid hr
    have HN := Lib.hid hn
    clear hr hn ha
    go_enter Tryz.func63, Tryz.ntmps63
    go_wp2_with fail
    refine (ref_Atom_any a _).mono ?_
    rintro e w1 ⟨rfl, hb⟩
    have H1 : Hid (Below w.heap.size w w1) := ((Below.refl _ w).alloc (Nat.le_refl _) _).trans (hb.mono (by simp))
    rw [ha']
    clear hb ha'
    go_wp2_with fail
    go_ret
    exact ⟨_, rfl, by rw [hp.out]; exact ⟨p, n, cap, rfl, HN.out, hcap, HR.out.below H1.out⟩, H1.out⟩

theorem putA_length (a : Atom) (l : List Atom) : (putA a l).length ≤ l.length + 1 := by
  unfold putA; split
  · rw [putPos_length]; omega
  · omega

/-- the reference's effect of some atoms -/
def refOf (l : List Atom) : List Atom := l.foldl (fun e a => putA a e) []
theorem refOf_snoc (l : List Atom) (x : Atom) : refOf (l ++ [x]) = putA x (refOf l) := by simp [refOf, List.foldl_append]
theorem refOf_length (l : List Atom) : (refOf l).length ≤ l.length := by
  suffices h : ∀ (l e : List Atom), (l.foldl (fun e a => putA a e) e).length ≤ e.length + l.length by simpa [refOf] using h l []
  intro l
  induction l with
  | nil => intro e; simp
  | cons a l ih =>
    intro e
    have h1 := ih (putA a e)
    have h2 := putA_length a e
    simp only [List.foldl_cons, List.length_cons]
    omega

set_option maxHeartbeats 400000 in
theorem ref_Of_any (p : Option Addr) (n cap : Nat) (l : List Atom) (w : World) (hn : l.length = n) (hm : n ≤ 1000000) (hr : RowA w p l) :
    Calls Tryz.prog 49 #[.slice p n cap] w fun e w' => ∃ v, e = .returned v ∧ Sl encA 3 w' v (refOf l) ∧ Below w.heap.size w w' := by
  have HR := Lib.hid hr
  have HN := Lib.hid hn
  clear hr hn
  go_enter Tryz.func49, Tryz.ntmps49
  go_wp2_with fail
  go_loopw [3, 8] (fun u i wr => ∃ (k : Nat) (q : Option Addr) (m mc : Nat), k ≤ n ∧ i = .int .i64 k ∧ u = .slice q m mc ∧ (refOf (l.take k)).length = m ∧ m ≤ mc ∧ RowA wr q (refOf (l.take k)) ∧ Below w.heap.size w wr) (fun _ i _ => n - (intOf i).toNat)
  case atStart => exact ⟨0, _, _, _, by omega, rfl, rfl, rfl, by omega, .inl rfl, (Below.refl _ _).alloc (Nat.le_refl _) _⟩
  case round =>
    obtain ⟨k, q, m, mc, hk, rfl, rfl, hlen, hmc, hrow, hb⟩ := hrel
    have HLEN := Lib.hid hlen
    have HROW := Lib.hid hrow
    have HB := Lib.hid hb
    have hmk : m ≤ k := by
      have := refOf_length (l.take k)
      rw [hlen, List.length_take] at this; omega
    clear hlen hrow hb
    by_cases hlt : k < n
    · obtain ⟨x, hx⟩ := get_of_lt (l := l) (j := k) (by rw [HN.out]; exact hlt)
      have HE := Lib.hid hx
      obtain ⟨b, o, rfl, hbl, d0, d1, d2⟩ := RowA.atom (HR.out.below HB.out) hx
      clear hx hbl
      go_wp2_with fail
      refine (ref_put_any q m mc (refOf (l.take k)) x wr HLEN.out hmc (by omega) HROW.out).mono ?_
      rintro e w1 ⟨v, rfl, ⟨q', m', mc', rfl, hl', hc', hr'⟩, hb⟩
      have HB1 := Lib.hid (HB.out.trans (hb.mono HB.out.size))
      have HL' := Lib.hid hl'
      have HR' := Lib.hid hr'
      clear hb d0 d1 d2 hl' hr'
      go_wp2_with fail
      go_roundw
      case rel => exact ⟨k + 1, q', m', mc', by omega, by go_num, rfl, by rw [take_succ_get HE.out, refOf_snoc]; exact HL'.out, hc', by rw [take_succ_get HE.out, refOf_snoc]; exact HR'.out, HB1.out⟩
      case measure => simp [intOf]; omega
    · have hkn : k = n := by omega
      subst hkn
      go_wp2_with fail
      go_ret
      have h1 := HLEN.out
      have h2 := HROW.out
      rw [take_full (by rw [HN.out]; omega)] at h1 h2
      exact ⟨_, rfl, ⟨q, m, mc, rfl, h1, hmc, h2⟩, HB.out⟩

/-- are all atoms of one the other one's? -/
def withinB (a b : List Atom) : Bool := a.all (fun x => !atomB x || inA b x)

set_option maxHeartbeats 400000 in
theorem ref_Within_any (p : Option Addr) (n cap : Nat) (l : List Atom) (q : Option Addr) (m mc : Nat) (l' : List Atom) (w : World) (hn : l.length = n) (hm : n ≤ 9223372036854775807) (hr : RowA w p l)
    (hn' : l'.length = m) (hm' : m ≤ 9223372036854775807) (hr' : RowA w q l') :
    Calls Tryz.prog 26 #[.slice p n cap, .slice q m mc] w fun e w' => e = .returned (.bool (withinB l l')) ∧ Below w.heap.size w w' := by
  have HR := Lib.hid hr
  have HN := Lib.hid hn
  have HR' := Lib.hid hr'
  have HN' := Lib.hid hn'
  clear hr hn hr' hn'
  go_enter Tryz.func26, Tryz.ntmps26
  go_wp2_with fail
  go_loopw [5, 8] (fun _ i wr => ∃ k : Nat, k ≤ n ∧ i = .int .i64 k ∧ (l.take k).all (fun x => !atomB x || inA l' x) = true ∧ Below w.heap.size w wr) (fun _ i _ => n - (intOf i).toNat)
  case atStart => exact ⟨0, by omega, rfl, by simp, Below.refl _ _⟩
  case round =>
    obtain ⟨k, hk, rfl, hno, hb⟩ := hrel
    have HNO := Lib.hid hno
    have HB := Lib.hid hb
    clear hno hb
    by_cases hlt : k < n
    · obtain ⟨x, hx⟩ := get_of_lt (l := l) (j := k) (by rw [HN.out]; exact hlt)
      have HE := Lib.hid hx
      obtain ⟨b, o, rfl, hbl, d0, d1, d2⟩ := RowA.atom (HR.out.below HB.out) hx
      go_wp2_with fail
      refine (ref_Atom_any x wr).mono ?_
      rintro e w1 ⟨rfl, hb⟩
      have HB1 := Lib.hid (HB.out.trans (hb.mono HB.out.size))
      have f0 : w1.cell? ⟨b, o + k * 3, none⟩ = some (.int .u8 x.kind) := by rw [hb.cell hbl]; exact d0
      have f1 : w1.cell? ⟨b, o + k * 3 + 1, none⟩ = some (.int .i64 x.rho) := by rw [hb.cell hbl]; exact d1
      have f2 : w1.cell? ⟨b, o + k * 3 + 2, none⟩ = some (.string x.exn) := by rw [hb.cell hbl]; exact d2
      clear hb d0 d1 d2 hx hbl
      cases ha : atomB x
      · have HA := Lib.hid ha
        clear ha
        go_wp2_with fail
        go_roundw
        case rel => exact ⟨k + 1, by omega, by go_num, by rw [all_take_get HE.out, HNO.out, HA.out]; rfl, HB1.out⟩
        case measure => simp [intOf]; omega
      · have HA := Lib.hid ha
        clear ha
        go_wp2_with fail
        refine (ref_In_any q m mc l' x w1 HN'.out hm' (HR'.out.below HB1.out)).mono ?_
        rintro e w2 ⟨rfl, hb⟩
        have HB2 := Lib.hid (HB1.out.trans (hb.mono HB1.out.size))
        clear hb f0 f1 f2
        cases hi : inA l' x
        · have HI := Lib.hid hi
          clear hi
          go_wp2_with fail
          go_ret
          exact ⟨ret_bool (by unfold withinB; rw [all_get HE.out (by rw [HA.out, HI.out]; rfl)]), HB2.out⟩
        · have HI := Lib.hid hi
          clear hi
          go_wp2_with fail
          go_roundw
          case rel => exact ⟨k + 1, by omega, by go_num, by rw [all_take_get HE.out, HNO.out, HA.out, HI.out]; rfl, HB2.out⟩
          case measure => simp [intOf]; omega
    · go_wp2_with fail
      go_ret
      have h := HNO.out
      rw [take_full (by rw [HN.out]; omega)] at h
      exact ⟨ret_bool h.symm, HB.out⟩

/-- does a row have a number? -/
def inN (l : List Int) (x : Int) : Bool := l.any (· == x)
theorem ref_Ints_any (p : Option Addr) (n cap : Nat) (l : List Int) (x : Int) (w : World) (hn : l.length = n) (hm : n ≤ 9223372036854775807) (hr : RowE encN 1 w p l) :
    Calls Tryz.prog 37 #[.slice p n cap, .int .i64 x] w fun e w' => e = .returned (.bool (inN l x)) ∧ w = w' := by
  have HR := Lib.hid hr
  have HN := Lib.hid hn
  clear hr hn
  go_enter Tryz.func37, Tryz.ntmps37
  go_wp2_with fail
  go_loop [5, 8] (fun _ i => ∃ k : Nat, k ≤ n ∧ i = .int .i64 k ∧ (l.take k).any (· == x) = false) (fun _ i => n - (intOf i).toNat)
  case atStart => exact ⟨0, by omega, rfl, by simp⟩
  case round =>
    obtain ⟨k, hk, rfl, hno⟩ := hrel
    have HNO := Lib.hid hno
    clear hno
    by_cases hlt : k < n
    · obtain ⟨y, hy⟩ := get_of_lt (l := l) (j := k) (by rw [HN.out]; exact hlt)
      have HE := Lib.hid hy
      obtain ⟨b, o, rfl, d0⟩ := HR.out.num hy
      clear hy
      cases hq : (y == x)
      · go_wp2_with fail
        go_round
        case rel => exact ⟨k + 1, by omega, by go_num, by rw [any_take_get HE.out, HNO.out, hq]; rfl⟩
        case measure => simp [intOf]; omega
      · go_wp2_with fail
        go_ret
        exact ⟨ret_bool (by unfold inN; rw [any_get HE.out hq]), rfl⟩
    · go_wp2_with fail
      go_ret
      have h := HNO.out
      rw [take_full (by rw [HN.out]; omega)] at h
      exact ⟨ret_bool h.symm, rfl⟩
end Go.Proofs.YtdlbjngpohkglaaGreatDoor
end
section
set_option linter.unusedVariables false
set_option maxRecDepth 100000
set_option linter.unusedSimpArgs false
namespace Go.Proofs.YtdlbjngpohkglaaGreatDoor
open Go.RowKit Go.Sort Go.Lib

theorem holds_vals {w : World} {g : Nat} {cur : Array Value} {e : TypeId} {ss : List Value} (hb : w.heap[g]? = some (.cells cur e (0, 0))) (ht : cur.toList.take ss.length = ss) : Holds id w g 0 ss.toArray := by
  intro j hj
  have hj' : j < ss.length := by simpa using hj
  refine ⟨?_, by simp [World.frozen?, hb]⟩
  have h1 : (cur.toList.take ss.length)[j]? = ss[j]? := by rw [ht]
  rw [List.getElem?_take_of_lt hj'] at h1
  simp only [World.cell?, hb, Nat.zero_add]
  simp only [Option.isSome_none, Bool.false_eq_true, if_false]
  rw [← Array.getElem?_toList, h1]
  simp [hj']

theorem take_putVals (cur : Array Value) (ts : List Value) (h : ts.length ≤ cur.size) : (putCells id 0 ts.toArray cur).toList.take ts.length = ts := by
  apply List.ext_getElem?
  intro j
  by_cases hj : j < ts.length
  · rw [List.getElem?_take_of_lt hj, Array.getElem?_toList]
    simp [putCells, hj, show j < cur.size by omega]
  · rw [List.getElem?_take_eq_none (by omega), List.getElem?_eq_none (by omega)]

theorem heap_putVals {w : World} {g n : Nat} {os : Array Obj} {cur : Array Value} {e : TypeId} {fr : Nat × Nat} (d : Array Value) (hb : w.heap[g]? = some (.cells cur e fr)) :
    (grow (putRow id (Sort.ahead w n) g 0 d) os).heap[g]? = some (.cells (putCells id 0 d cur) e fr) := by
  have hg : g < w.heap.size := (Array.getElem?_eq_some_iff.1 hb).1
  rw [heap_grow_old _ _ (by simpa using hg)]
  simp [putRow, mapBlock, Sort.ahead, Array.getElem?_modify, hb, onCells]

theorem grownBy_putVals {w : World} {g n : Nat} {os : Array Obj} (d : Array Value) : w.grownBy (grow (putRow id (Sort.ahead w n) g 0 d) os) (some g) := by
  refine ⟨rfl, rfl, rfl, by simp, fun k hk hne => ?_⟩
  rw [heap_grow_old _ _ (by simpa using hk)]
  have : g ≠ k := fun e => hne (by rw [e])
  simp [putRow, mapBlock, Sort.ahead, Array.getElem?_modify, this]

section
variable {α : Type} [Inhabited α]
theorem flatK_list {enc : α → List Value} {k : Nat} (hk : ∀ x, (enc x).length = k) (hk0 : 0 < k) (d : Array α) : flatK enc k d = (d.toList.flatMap enc).toArray := by
  apply Array.ext
  · simp only [size_flatK, List.size_toArray, flat_length hk, Array.length_toList]
  · intro t h1 h2
    have ht : t < d.size * k := by simpa using h1
    have hq : t / k < d.size := Nat.div_lt_of_lt_mul (by rwa [Nat.mul_comm])
    have hr : t % k < k := Nat.mod_lt _ hk0
    have hx : d.toList[t / k]? = some d[t / k]! := by
      rw [List.getElem?_eq_getElem (by simpa using hq)]; simp [hq]
    have hf := flat_get hk d.toList (t / k) _ (t % k) hx hr
    rw [show t / k * k + t % k = t from Nat.div_add_mod' t k] at hf
    rw [← getElem!_pos (flatK enc k d) t h1, get_flatK enc k d t ht]
    have e2 : (enc d[t / k]!)[t % k]! = (enc d[t / k]!)[t % k]'(by rw [hk]; exact hr) := getElem!_pos _ _ (by rw [hk]; exact hr)
    rw [e2]
    have e3 : (enc d[t / k]!)[t % k]? = some ((enc d[t / k]!)[t % k]'(by rw [hk]; exact hr)) := List.getElem?_eq_getElem (by rw [hk]; exact hr)
    rw [e3] at hf
    have := (List.getElem?_eq_some_iff.1 hf).2
    simpa using this.symm

/-- what a row of the call's own holds, for the sort -/
theorem OwnE.holdsK {enc : α → List Value} {k : Nat} (hk : ∀ x, (enc x).length = k) (hk0 : 0 < k) {w : World} {base e n : Nat} {g cap : Nat} {l : List α} (h : OwnE enc k w base e (.slice (some ⟨g, 0, none⟩) n cap) n l) :
    HoldsK enc k w g 0 l.toArray ∧ g < w.heap.size := by
  rcases h.2 with ⟨h0, _⟩ | ⟨g', cap', cur, hv, hb, hg, hn, hm, hs, ht⟩
  · cases h0
  · cases hv
    refine ⟨?_, (Array.getElem?_eq_some_iff.1 hg).1⟩
    unfold HoldsK
    rw [flatK_list hk hk0]
    refine holds_vals hg ?_
    rw [h.1]; exact ht

/-- behind the sort -/
theorem OwnE.sorted {enc : α → List Value} {k : Nat} (hk : ∀ x, (enc x).length = k) (hk0 : 0 < k) {w : World} {base e n : Nat} {g cap : Nat} {l l' : List α} (h : OwnE enc k w base e (.slice (some ⟨g, 0, none⟩) n cap) n l) (hl : l'.length = l.length) (m : Nat) (os : Array Obj) :
    OwnE enc k (sortWorldK enc k w g 0 m l'.toArray os) base e (.slice (some ⟨g, 0, none⟩) n cap) n l' ∧ w.grownBy (sortWorldK enc k w g 0 m l'.toArray os) (some g) := by
  rcases h.2 with ⟨h0, _⟩ | ⟨g', cap', cur, hv, hb, hg, hn, hm, hs, ht⟩
  · cases h0
  · cases hv
    have hlen : (l'.flatMap enc).length = n * k := by rw [flat_length hk, hl, ← flat_length hk, h.1]
    unfold sortWorldK putRowK
    rw [flatK_list hk hk0]
    refine ⟨⟨hlen, .inr ⟨g, cap, _, rfl, hb, heap_putVals _ hg, hn, hm, by simp [putCells, hs], ?_⟩⟩, grownBy_putVals _⟩
    rw [← hlen]
    refine take_putVals cur _ ?_
    rw [hlen, hs]
    exact Nat.mul_le_mul_right k hn
end

theorem cmpA_lt (a b : Atom) : decide (cmpA a b < 0) = Atom.lt a b := by
  unfold cmpA cmpZ cmpS Atom.lt
  rcases (by omega : a.kind < b.kind ∨ b.kind < a.kind ∨ a.kind = b.kind) with h | h | h
  · have : ¬ a.kind = b.kind := by omega
    simp [h, this]
  · have h1 : ¬ a.kind < b.kind := by omega
    have h2 : ¬ a.kind = b.kind := by omega
    simp [h, h1, h2]
  · have h1 : ¬ a.kind < b.kind := by omega
    have h2 : ¬ b.kind < a.kind := by omega
    rcases (by omega : a.rho < b.rho ∨ b.rho < a.rho ∨ a.rho = b.rho) with g | g | g
    · have : ¬ a.rho = b.rho := by omega
      simp [h, g, this]
    · have g1 : ¬ a.rho < b.rho := by omega
      have g2 : ¬ a.rho = b.rho := by omega
      simp [h, g, g1, g2]
    · cases hb : Op.bytesLess a.exn.toList b.exn.toList
      · cases hb' : Op.bytesLess b.exn.toList a.exn.toList <;> simp [h, g, hb, hb']
      · simp [h, g, hb]

theorem ltOf_cmpA : ltOf cmpA = Atom.lt := by funext a b; exact cmpA_lt a b
theorem swoA : SWO (ltOf cmpA) := by
  rw [ltOf_cmpA]
  refine ⟨Atom.lt_irrefl, fun _ _ _ => Atom.lt_trans, fun x y z h h' => ?_⟩
  cases hxz : Atom.lt x z with
  | false => rfl
  | true =>
    cases hyx : Atom.lt y x with
    | true => rw [Atom.lt_trans hyx hxz] at h'; cases h'
    | false =>
      have := Atom.lt_tri h hyx
      subst this
      rw [hxz] at h'; cases h'

theorem cmpLaysA (blk off size : Nat) (w : World) : CmpLays Tryz.prog 92 #[] encA 3 cmpA blk off size w :=
  fun _ _ _ _ x y => compare_any x y _

/-- the sorted list -/
def msort (l : List Atom) : List Atom := l.mergeSort (fun x y => !Atom.lt y x)

theorem sortFunc_any (g cap n : Nat) (l : List Atom) (base : Nat) (w : World) (h : OwnE encA 3 w base 78 (.slice (some ⟨g, 0, none⟩) n cap) n l) (hn : n < 4611686018427387904) :
    Calls Tryz.prog 175 #[.slice (some ⟨g, 0, none⟩) n cap, .func (.func 92) #[] #[]] w fun e w' =>
      e = .returned (.tuple #[]) ∧ OwnE encA 3 w' base 78 (.slice (some ⟨g, 0, none⟩) n cap) n (msort l) ∧ w.grownBy w' (some g) := by
  obtain ⟨hH, hblk⟩ := h.holdsK encA_len (by omega)
  have hl : l.length = n := h.len encA_len (by omega)
  have eg : ∀ args w, (callFunc 92 args).run Tryz.prog w = .ok (.enter 92 args) w := enters_of Tryz.func92 (by kernel_rfl) rfl
  have hc := AnyQ.slices_SortFunc_total Tryz.sortAtoms 3 Tryz.isAgg78 Tryz.sizeOf78 encA encA_len encA_one cmpA swoA 92 #[] g 0 cap l.toArray w eg (cmpLaysA g 0 _ w) hH hblk (by simp; omega)
    (by rw [ltOf_cmpA]; exact fun _ _ => Atom.lt_tri)
  have es : l.toArray.size = n := by simpa using hl
  rw [es] at hc
  refine hc.mono ?_
  rintro e w' ⟨he, m, os, rfl⟩
  have hs := h.sorted encA_len (by omega) (l' := msort l) (by simp [msort]) m os
  refine ⟨he, ?_, ?_⟩
  · have := hs.1
    rw [show msort l = l.mergeSort (fun x y => !ltOf cmpA y x) from by rw [ltOf_cmpA]; rfl] at this ⊢
    exact this
  · have := hs.2
    rw [show msort l = l.mergeSort (fun x y => !ltOf cmpA y x) from by rw [ltOf_cmpA]; rfl] at this
    exact this
end Go.Proofs.YtdlbjngpohkglaaGreatDoor
end
