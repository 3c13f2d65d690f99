/- Part 7: Eff15, Del, IsRow, Eff9, Eff10, Eff11, Eff17. -/
import Derived.Test.YtkdjnegfnhldpaaGreatDoorH04
import Derived.Test.YtkdjnegfnhldpaaGreatDoorH06
import Derived.Test.YtkdjnegfnhldpaaGreatDoorH03
import Derived.Lib.ItoaNum
import Derived.Lib.Join
import Derived.Lib.ItoaMem
import Derived.Lib.ItoaLen
set_option linter.unusedVariables false
set_option maxRecDepth 100000
set_option linter.unusedSimpArgs false
namespace Go.Proofs.YtkdjnegfnhldpaaGreatDoor
open Go.Lib (hid)
section
open Go.RowKit
theorem any_eqA_comm (l : List Atom) (a : Atom) : l.any (fun x => eqA a x) = inA l a := by
  unfold inA
  congr 1
  funext x
  unfold eqA
  exact decide_eq_decide.2 ⟨fun h => h.symm, fun h => h.symm⟩
theorem a_index_any (p : Option Addr) (n cap : Nat) (l : List Atom) (a : Atom) (w : World) (hn : l.length = n) (hm : n ≤ 9223372036854775807) (hr : RowA w p l) :
    Calls Tryz.prog 218 #[.slice p n cap, .agg #[.int .u8 a.kind, .int .i64 a.rho, .string a.exn]] w fun e w' =>
      (∃ r : Int, e = .returned (.int .i64 r) ∧ (inA l a = decide (0 ≤ r))) ∧ Below w.heap.size w w' := by
  have HR := hid (hr.alloc (.cells #[.int .u8 a.kind, .int .i64 a.rho, .string a.exn] 59))
  have HN := hid hn
  have HC : Hid (l.any (fun x => eqA a x) = inA l a) := any_eqA_comm l a
  clear hr hn
  go_enter Tryz.func218, Tryz.ntmps218
  go_wp2_with fail
  go_loopw [5, 8] (fun _ i wr => ∃ k : Nat, k ≤ n ∧ i = .int .i64 k ∧ (l.take k).any (fun x => eqA a x) = false ∧ ∃ q, wr = (w.alloc (.cells #[.int .u8 a.kind, .int .i64 a.rho, .string a.exn] 59)).drewN q) (fun _ i _ => n - (intOf i).toNat)
  case atStart => exact ⟨0, by omega, rfl, by simp, 0, rfl⟩
  case round =>
    obtain ⟨k, hk, rfl, hno, q, rfl⟩ := hrel
    have HNO := hid hno
    clear hno
    by_cases hlt : k < n
    · obtain ⟨x, hx⟩ := get_of_lt (l := l) (j := k) (by rw [HN.out]; exact hlt)
      obtain ⟨b, o, rfl, hb, c0, c1, c2⟩ := RowA.atom HR.out hx
      have HE := hid hx
      clear hx hb
      have he := fun W => run_eqA a x W
      cases hq : eqA a x
      · go_wp2_with fail
        go_quiet (fail)
        go_wp2_with fail
        go_roundw
        case rel => exact ⟨k + 1, by omega, by go_num, by rw [any_take_get HE.out, HNO.out, hq]; rfl, _, rfl⟩
        case measure => simp [intOf]; omega
      · go_wp2_with fail
        go_quiet (fail)
        go_wp2_with fail
        go_ret
        exact ⟨⟨k, rfl, by rw [← HC.out, any_get HE.out hq]; simp⟩, below_drewN (below_drewN ((Below.refl _ _).alloc (Nat.le_refl _) _) _) _⟩
    · go_wp2_with fail
      go_ret
      have h := HNO.out
      rw [take_full (by rw [HN.out]; omega)] at h
      exact ⟨⟨-1, rfl, by rw [← HC.out, h]; simp⟩, below_drewN ((Below.refl _ _).alloc (Nat.le_refl _) _) _⟩
theorem a_contains_any (p : Option Addr) (n cap : Nat) (l : List Atom) (a : Atom) (w : World) (hn : l.length = n) (hm : n ≤ 9223372036854775807) (hr : RowA w p l) :
    Calls Tryz.prog 189 #[.slice p n cap, .agg #[.int .u8 a.kind, .int .i64 a.rho, .string a.exn]] w fun e w' =>
      e = .returned (.bool (inA l a)) ∧ Below w.heap.size w w' := by
  have hc := fun W h => a_index_any p n cap l a W hn hm h
  have HR := hid (hr.alloc (.cells #[.int .u8 a.kind, .int .i64 a.rho, .string a.exn] 59))
  generalize inA l a = r at hc ⊢
  have HC := hid hc
  clear hr hn hc
  go_enter Tryz.func189, Tryz.ntmps189
  go_wp2_with fail
  refine (HC.out _ HR.out).mono ?_
  rintro e w1 ⟨⟨r', rfl, hr⟩, hb⟩
  have HRR := hid hr
  have HB := hid (((Below.refl _ w).alloc (Nat.le_refl _) _).trans (hb.mono (by simp)))
  clear hr hb
  go_wp2_with fail
  go_ret
  exact ⟨ret_bool HRR.out.symm, HB.out⟩
set_option maxHeartbeats 400000 in
theorem within1_any (x : Atom) (ad : Addr) (q : Option Addr) (m mc : Nat) (l : List Atom) (w : World) (hbox : w.cell? ad = some (.slice q m mc)) (hn : l.length = m) (hm : m ≤ 9223372036854775807) (hr : RowA w q l) :
    Calls Tryz.prog 188 #[aggA x, .pointer (some ad)] w fun e w' => e = .returned (.bool (atomB x && !inA l x)) ∧ Below w.heap.size w w' := by
  have HX := hid hbox
  have HR := hid hr
  have HN := hid hn
  clear hr hn
  clear hbox
  cases ha : atomB x
  · have HA := hid ha
    clear ha
    go_enter Tryz.func188, Tryz.ntmps188
    go_wp2_with fail
    refine (eff_atom_is HA.out _).mono ?_
    rintro e w1 ⟨rfl, hb⟩
    have HB := hid (((Below.refl _ w).alloc (Nat.le_refl _) _).trans (hb.mono (by simp)))
    clear hb
    go_wp2_with fail
    go_ret
    exact ⟨rfl, HB.out⟩
  · have HA := hid ha
    clear ha
    go_enter Tryz.func188, Tryz.ntmps188
    go_wp2_with fail
    refine (eff_atom_is HA.out _).mono ?_
    rintro e w1 ⟨rfl, hb⟩
    have HB := hid (((Below.refl _ w).alloc (Nat.le_refl _) (.cells #[.int .u8 x.kind, .int .i64 x.rho, .string x.exn] 59)).trans (hb.mono (by simp)))
    have f0 : w1.cell? ⟨w.heap.size, 0, none⟩ = some (.int .u8 x.kind) := by rw [hb.cell (by simp), cell_new]; rfl
    have f1 : w1.cell? ⟨w.heap.size, 1, none⟩ = some (.int .i64 x.rho) := by rw [hb.cell (by simp), cell_new]; rfl
    have f2 : w1.cell? ⟨w.heap.size, 2, none⟩ = some (.string x.exn) := by rw [hb.cell (by simp), cell_new]; rfl
    have hbx : w1.cell? ad = some (.slice q m mc) := by rw [HB.out.cell (cell_block HX.out)]; exact HX.out
    clear hb
    go_wp2_with fail
    refine (a_contains_any q m mc l x w1 HN.out hm (HR.out.below HB.out)).mono ?_
    rintro e w2 ⟨rfl, hb⟩
    have HB2 := hid (HB.out.trans (hb.mono HB.out.size))
    clear hb
    go_wp2_with fail
    go_ret
    exact ⟨rfl, HB2.out⟩
theorem effect_Within_any (p : Option Addr) (n cap : Nat) (l : List Atom) (q : Option Addr) (m mc : Nat) (l' : List Atom) (w : World) (hn : l.length = n) (hm : n ≤ 9223372036854775807) (hr : RowA w p l)
    (hn' : l'.length = m) (hm' : m ≤ 9223372036854775807) (hr' : RowA w q l') :
    Calls Tryz.prog 135 #[.slice p n cap, .slice q m mc] w fun e w' => e = .returned (.bool (withinB l l')) ∧ Below w.heap.size w w' := by
  have hc : ∀ t, Calls Tryz.prog 187 #[.slice p n cap, .func (.func 188) #[] #[.pointer (some ⟨w.heap.size, 0, none⟩)]] (w.alloc (.cells #[.slice q m mc] t)) fun e w' =>
      e = .returned (.bool (l.any (fun x => atomB x && !inA l' x))) ∧ Below (w.alloc (.cells #[.slice q m mc] t)).heap.size (w.alloc (.cells #[.slice q m mc] t)) w' := fun t =>
    a_containsFunc_any 188 #[.pointer (some ⟨w.heap.size, 0, none⟩)] (fun x => atomB x && !inA l' x) (fun a w => Tryz.call188 a w) p n cap l _ hn hm (hr.alloc _)
      (fun x _ W hW => by
        have := within1_any x ⟨w.heap.size, 0, none⟩ q m mc l' W (by rw [hW.cell (by simp), cell_new]; rfl) hn' hm' ((hr'.alloc _).below hW)
        simpa using this)
  have he : Hid (withinB l l' = !l.any (fun x => atomB x && !inA l' x)) := by
    show withinB l l' = _
    unfold withinB
    rw [List.all_eq_not_any_not]
    congr 2
    funext x
    cases atomB x <;> simp
  generalize l.any (fun x => atomB x && !inA l' x) = r at hc he
  have HC := hid hc
  clear hr hn hc hr' hn'
  go_enter Tryz.func135, Tryz.ntmps135
  go_wp2_with fail
  refine (HC.out _).mono ?_
  rintro e w1 ⟨rfl, hb⟩
  have HB := hid (((Below.refl _ w).alloc (Nat.le_refl _) _).trans (hb.mono (by simp)))
  clear hb
  go_wp2_with fail
  go_ret
  exact ⟨ret_bool he.out.symm, HB.out⟩
theorem effect_Within_is {p : Option Addr} {n cap : Nat} {l : List Atom} {q : Option Addr} {m mc : Nat} {l' : List Atom} {w : World} {r : Bool} (hq : withinB l l' = r) (hn : l.length = n) (hm : n ≤ 9223372036854775807) (hr : RowA w p l)
    (hn' : l'.length = m) (hm' : m ≤ 9223372036854775807) (hr' : RowA w q l') :
    Calls Tryz.prog 135 #[.slice p n cap, .slice q m mc] w fun e w' => e = .returned (.bool r) ∧ Below w.heap.size w w' := by
  subst hq; exact effect_Within_any p n cap l q m mc l' w hn hm hr hn' hm' hr'
theorem effect_Same_any (p : Option Addr) (n cap : Nat) (l : List Atom) (q : Option Addr) (m mc : Nat) (l' : List Atom) (w : World) (hn : l.length = n) (hm : n ≤ 9223372036854775807) (hr : RowA w p l)
    (hn' : l'.length = m) (hm' : m ≤ 9223372036854775807) (hr' : RowA w q l') :
    Calls Tryz.prog 191 #[.slice p n cap, .slice q m mc] w fun e w' => e = .returned (.bool (withinB l l' && withinB l' l)) ∧ Below w.heap.size w w' := by
  have HR := hid hr
  have HN := hid hn
  have HR' := hid hr'
  have HN' := hid hn'
  clear hr hn hr' hn'
  cases ha : withinB l l'
  · have HA := hid ha
    clear ha
    go_enter Tryz.func191, Tryz.ntmps191
    go_wp2_with fail
    refine (effect_Within_is HA.out HN.out hm HR.out HN'.out hm' HR'.out).mono ?_
    rintro e w1 ⟨rfl, hb⟩
    have HB := hid hb
    clear hb
    go_wp2_with fail
    go_ret
    exact ⟨rfl, HB.out⟩
  · have HA := hid ha
    clear ha
    go_enter Tryz.func191, Tryz.ntmps191
    go_wp2_with fail
    refine (effect_Within_is HA.out HN.out hm HR.out HN'.out hm' HR'.out).mono ?_
    rintro e w1 ⟨rfl, hb⟩
    have HB := hid hb
    clear hb
    go_wp2_with fail
    refine (effect_Within_any q m mc l' p n cap l w1 HN'.out hm' (HR'.out.below HB.out) HN.out hm (HR.out.below HB.out)).mono ?_
    rintro e w2 ⟨rfl, hb⟩
    have HB2 := hid (HB.out.trans (hb.mono HB.out.size))
    clear hb
    go_wp2_with fail
    go_ret
    exact ⟨rfl, HB2.out⟩
theorem effect_Union_any (p : Option Addr) (n cap : Nat) (rows : List (SlE Atom)) (w : World) (hn : rows.length = n) (hm : n ≤ 1000000) (hr : RowE encSl 1 w p rows) (hok : ∀ r ∈ rows, r.Ok encA 3 w) (htot : (rows.map (·.n)).sum ≤ 1000000) :
    Calls Tryz.prog 85 #[.slice p n cap] w fun e w' => ∃ v m, e = .returned v ∧ m ≤ (rows.map (·.n)).sum ∧ OwnE encA 3 w' w.heap.size 59 v m (sortA ((rows.flatMap (·.l)).filter atomB)) ∧ Below w.heap.size w w' := by
  have HT := hid htot
  have hc := concat_any p n cap rows w hn hm hr hok htot
  have HC := hid hc
  clear hr hn hok hc htot
  go_enter Tryz.func85, Tryz.ntmps85
  go_wp2_with fail
  refine HC.out.mono ?_
  rintro e w1 ⟨v, rfl, ho, hb⟩
  obtain ⟨q, mc, rfl, hl, hmc, hrow, _⟩ := ho.row encA_len (by omega)
  have HL := hid hl
  have HROW := hid hrow
  have HB := hid hb
  clear hb
  clear ho hl hrow
  generalize hSS : (rows.map (·.n)).sum = S at *
  have HSS := hid hSS
  clear hSS
  have hS := HT.out
  go_wp2_with fail
  refine (effect_Of_any q S mc _ w1 HL.out hS HROW.out).mono ?_
  rintro e w2 ⟨v, m, rfl, hmn, hown, hb⟩
  have HO := hid (hown.lower HB.out.size)
  have HB2 := hid (HB.out.trans (hb.mono HB.out.size))
  clear hb
  clear hown
  go_wp2_with fail
  go_ret
  exact ⟨_, m, rfl, by rw [HSS.out]; exact hmn, HO.out, HB2.out⟩
end
section
open Go.RowKit Go.Sort Go.Lib
structure DelInv (q : Atom → Bool) (l : List Atom) (j i : Nat) (dk : List Atom) : Prop where
  size : dk.length = l.length
  low : dk.take i = (l.take j).filter (fun x => !q x)
  high : ∀ t, j ≤ t → dk[t]? = l[t]?
  lt : i < j
theorem DelInv.start {q : Atom → Bool} {l : List Atom} {k : Nat} {x : Atom} (hx : l[k]? = some x) (hq : q x = true) (hno : (l.take k).any q = false) : DelInv q l (k + 1) k l := by
  refine ⟨rfl, ?_, fun _ _ => rfl, by omega⟩
  rw [take_succ_get hx, List.filter_append]
  have h1 : (l.take k).filter (fun x => !q x) = l.take k := by
    rw [List.filter_eq_self]
    intro a ha
    have := List.any_eq_false.1 hno a ha
    simpa using this
  rw [h1]
  simp [hq]
theorem DelInv.skip {q : Atom → Bool} {l dk : List Atom} {j i : Nat} {x : Atom} (h : DelInv q l j i dk) (hx : l[j]? = some x) (hq : q x = true) : DelInv q l (j + 1) i dk := by
  refine ⟨h.size, ?_, fun t ht => h.high t (by omega), by have := h.lt; omega⟩
  rw [take_succ_get hx, List.filter_append, h.low]
  simp [hq]
theorem DelInv.keep {q : Atom → Bool} {l dk : List Atom} {j i : Nat} {x : Atom} (h : DelInv q l j i dk) (hx : l[j]? = some x) (hq : q x = false) : DelInv q l (j + 1) (i + 1) (dk.set i x) := by
  have hj := get_lt hx
  have hi : i < dk.length := by have := h.lt; have := h.size; omega
  refine ⟨by rw [List.length_set]; exact h.size, ?_, fun t ht => ?_, by have := h.lt; omega⟩
  · rw [take_succ_get hx, List.filter_append, ← h.low]
    rw [take_succ_get (List.getElem?_set_self hi), List.take_set_of_le (Nat.le_refl _)]
    simp [hq]
  · rw [List.getElem?_set_ne (by have := h.lt; omega)]
    exact h.high t (by omega)
set_option maxHeartbeats 2000000 in
theorem deleteFunc_any (fid : FuncId) (caps : Array Value) (q : Atom → Bool) (hent : Enters fid) (g cap n : Nat) (l : List Atom) (base : Nat) (w : World) (h : OwnE encA 3 w base 59 (.slice (some ⟨g, 0, none⟩) n cap) n l) (hcap : n ≤ cap) (hn : n ≤ 1000000)
    (hbw : base ≤ w.heap.size) (hf : PredB fid caps base w l q) :
    Calls Tryz.prog 250 #[.slice (some ⟨g, 0, none⟩) n cap, .func (.func fid) #[] caps] w fun e w' =>
      ∃ m, e = .returned (.slice (some ⟨g, 0, none⟩) m cap) ∧ m ≤ n ∧ OwnE encA 3 w' base 59 (.slice (some ⟨g, 0, none⟩) m cap) m (l.filter (fun x => !q x)) ∧ Below base w w' := by
  have hl : l.length = n := h.len encA_len (by omega)
  have hrow : RowA w (some ⟨g, 0, none⟩) l := by
    obtain ⟨p', c', hv, _, _, hr, _⟩ := h.row encA_len (by omega)
    cases hv; exact hr
  have HIX := hid (a_indexFunc_any fid caps q hent (some ⟨g, 0, none⟩) n cap l w hl (by omega) hrow (hf.a (Below.refl _ _) hbw))
  have hent' := hent
  unfold Enters at hent'
  have HO := hid h
  have HL := hid hl
  have HF := hid hf
  clear h hl hf
  clear hrow
  go_enter Tryz.func250, Tryz.ntmps250
  go_wp2_with fail
  refine HIX.out.mono ?_
  rintro e w1 ⟨⟨r, rfl, hr⟩, hb⟩
  have HB1 := hid (hb.mono hbw)
  have HO1 := hid (HO.out.below hb)
  clear hb
  rcases hr with ⟨rfl, hno⟩ | ⟨k, x, rfl, hx, hq, hno⟩
  · have HNO := hid hno
    clear hno
    go_wp2_with fail
    go_ret
    refine ⟨n, rfl, Nat.le_refl _, ?_, HB1.out⟩
    have e1 : l.filter (fun x => !q x) = l := by
      rw [List.filter_eq_self]
      intro a ha
      have := List.any_eq_false.1 HNO.out a ha
      simpa using this
    rw [e1]; exact HO1.out
  · have hk := get_lt hx
    have hkn : k < n := by have := HL.out; omega
    have HST := hid (DelInv.start hx hq hno)
    have hkb : ((k : Int) == -1) = false := by rw [beq_eq_false_iff_ne]; omega
    clear hx hq hno hk
    go_wp2_with fail
    go_loopw [5, 6] (fun si sj wr => ∃ (i j : Nat) (dk : List Atom), si = .int .i64 i ∧ sj = .int .i64 j ∧ j ≤ n ∧ i < j ∧ DelInv q l j i dk ∧ OwnE encA 3 wr base 59 (.slice (some ⟨g, 0, none⟩) n cap) n dk ∧ Below base w wr) (fun _ sj _ => n - (intOf sj).toNat)
    case atStart => exact ⟨k, k + 1, l, rfl, by go_num, by omega, by omega, HST.out, HO1.out, HB1.out⟩
    case round =>
      obtain ⟨i, j, dk, rfl, rfl, hj, hij, hI, hown, hb⟩ := hrel
      have HI := hid hI
      have HOWN := hid hown
      have HB := hid hb
      clear hI hown hb
      by_cases hlt : j < n
      · obtain ⟨x, hx⟩ := get_of_lt (l := l) (j := j) (by rw [HL.out]; exact hlt)
        have HE := hid hx
        have hdx : dk[j]? = some x := by rw [HI.out.high j (Nat.le_refl _)]; exact hx
        have d0 := (HOWN.out.at encA_len hdx (i := 0) (by omega)).1
        have d1 := (HOWN.out.at encA_len hdx (i := 1) (by omega)).1
        have d2 := (HOWN.out.at encA_len hdx (i := 2) (by omega)).1
        simp only [encA, List.getElem?_cons_zero, List.getElem?_cons_succ, Nat.add_zero] at d0 d1 d2
        clear hx hdx
        have hwr : base ≤ wr.heap.size := Nat.le_trans hbw HB.out.size
        cases hq : q x
        · have HQ := hid hq
          clear hq
          go_wp2_with fail
          refine (HF.out.is (List.mem_of_getElem? HE.out) HQ.out (HB.out.alloc hwr _)).mono ?_
          rintro e w2 ⟨rfl, hb⟩
          have HB2 := hid ((HB.out.alloc hwr (.cells #[.int .u8 x.kind, .int .i64 x.rho, .string x.exn] 59)).trans (hb.mono (by simp; omega)))
          have HO2 := hid ((HOWN.out.below ((Below.refl _ wr).alloc (Nat.le_refl _) (.cells #[.int .u8 x.kind, .int .i64 x.rho, .string x.exn] 59))).below hb)
          have f0 : w2.cell? ⟨wr.heap.size, 0, none⟩ = some (.int .u8 x.kind) := by rw [hb.cell (by simp), cell_new]; rfl
          have f1 : w2.cell? ⟨wr.heap.size, 1, none⟩ = some (.int .i64 x.rho) := by rw [hb.cell (by simp), cell_new]; rfl
          have f2 : w2.cell? ⟨wr.heap.size, 2, none⟩ = some (.string x.exn) := by rw [hb.cell (by simp), cell_new]; rfl
          obtain ⟨o0, g0⟩ := HO2.out.cellSome (o := i * 3) (by omega)
          obtain ⟨o1, g1⟩ := HO2.out.cellSome (o := i * 3 + 1) (by omega)
          obtain ⟨o2, g2⟩ := HO2.out.cellSome (o := i * 3 + 2) (by omega)
          obtain ⟨u0, o0⟩ := Option.isSome_iff_exists.1 o0
          obtain ⟨u1, o1⟩ := Option.isSome_iff_exists.1 o1
          obtain ⟨u2, o2⟩ := Option.isSome_iff_exists.1 o2
          clear hb d0 d1 d2
          go_wp2_with fail
          go_roundw
          case rel =>
            refine ⟨i + 1, j + 1, dk.set i x, by go_num, by go_num, by omega, by omega, HI.out.keep HE.out HQ.out, HO2.out.setA i x (by omega), ?_⟩
            have hgb : base ≤ g := by
              rcases HO2.out.2 with ⟨h0, _⟩ | ⟨g', cap', cur, hv, hb, _⟩
              · cases h0
              · cases hv; exact hb
            exact ((HB2.out.setCell (p := ⟨g, i * 3, none⟩) hgb _).setCell (p := ⟨g, i * 3 + 1, none⟩) hgb _).setCell (p := ⟨g, i * 3 + 2, none⟩) hgb _
          case measure => simp [intOf]; omega
        · have HQ := hid hq
          clear hq
          go_wp2_with fail
          refine (HF.out.is (List.mem_of_getElem? HE.out) HQ.out (HB.out.alloc hwr _)).mono ?_
          rintro e w2 ⟨rfl, hb⟩
          have HB2 := hid ((HB.out.alloc hwr (.cells #[.int .u8 x.kind, .int .i64 x.rho, .string x.exn] 59)).trans (hb.mono (by simp; omega)))
          have HO2 := hid ((HOWN.out.below ((Below.refl _ wr).alloc (Nat.le_refl _) (.cells #[.int .u8 x.kind, .int .i64 x.rho, .string x.exn] 59))).below hb)
          clear hb d0 d1 d2
          go_wp2_with fail
          go_roundw
          case rel => exact ⟨i, j + 1, dk, rfl, by go_num, by omega, by omega, HI.out.skip HE.out HQ.out, HO2.out, HB2.out⟩
          case measure => simp [intOf]; omega
      · have hend : j = n := by omega
        have hcl := fun ty => run_clear_atoms wr ty g (i * 3) (n - i) (cap - i) (by omega) (fun t ht => (HOWN.out.cellSome (by omega)).1) (fun t ht => (HOWN.out.cellSome (by omega)).2)
        go_wp2_with fail
        go_ret
        have hlow := HI.out.low
        rw [hend, take_full (l := l) (by rw [HL.out]; omega)] at hlow
        refine ⟨i, rfl, by omega, ?_, ?_⟩
        · have := (OwnE.cut (n := n) (m := i) encA_len HOWN.out (by rw [HI.out.size, HL.out]) (by omega)).clearBehind encA_len (i * 3) (List.replicate (n - i) [Value.int .u8 0, .int .i64 0, .string .empty]).flatten (Nat.le_refl _)
          rw [hlow] at this
          exact this
        · have hgb : base ≤ g := by
            rcases HOWN.out.2 with ⟨h0, _⟩ | ⟨g', cap', cur, hv, hb, _⟩
            · cases h0
            · cases hv; exact hb
          exact OwnE.drop_base (enc := encA) (k := 3) (grown_setCells g _ _ _) hgb HB.out (Nat.le_trans hbw HB.out.size)
end
section
open Go.RowKit
structure IsRow {α : Type} (enc : α → List Value) (k : Nat) (w : World) (p : Option Addr) (n cap : Nat) (l : List α) : Prop where
  len : l.length = n
  max : n ≤ 9223372036854775807
  le : n ≤ cap
  nil : p = none → cap = 0
  row : RowE enc k w p l
section
variable {α : Type} {enc : α → List Value} {k : Nat} {w w' : World} {p : Option Addr} {n cap : Nat} {l : List α}
theorem IsRow.below (h : IsRow enc k w p n cap l) (hb : Below w.heap.size w w') : IsRow enc k w' p n cap l := ⟨h.1, h.2, h.3, h.4, h.5.below hb⟩
theorem IsRow.alloc (h : IsRow enc k w p n cap l) (o : Obj) : IsRow enc k (w.alloc o) p n cap l := h.below ((Below.refl _ _).alloc (Nat.le_refl _) _)
theorem OwnE.isRow {base e : Nat} {v : Value} (hk : ∀ x, (enc x).length = k) (hk0 : 0 < k) (h : OwnE enc k w base e v n l) : ∃ p cap, v = .slice p n cap ∧ IsRow enc k w p n cap l := by
  obtain ⟨p, cap, hv, hl, hc, hr, hm, hn, _⟩ := h.row hk hk0
  unfold maxLen at hm
  exact ⟨p, cap, hv, hl, by omega, hc, fun e => (hn e).2, hr⟩
theorem IsRow.none (enc : α → List Value) (k : Nat) (w : World) : IsRow enc k w Option.none 0 0 [] := ⟨rfl, by omega, by omega, fun _ => rfl, .inl rfl⟩
end
end
section
open Go.RowKit Go.Sort Go.Lib
end
section
open Go.RowKit Go.Sort Go.Lib
def turnI (r : Int) : List Int → List Int → Int
  | [], _ => r
  | f :: fs, t => if f = r then (t[0]?).getD r else turnI r fs (t.drop 1)
def swA (f t : List Int) (a : Atom) : Atom := if a.kind = 3 then a else { a with rho := turnI a.rho f t }
end
section
open Go.RowKit Go.Sort Go.Lib
theorem index_any (x : Int) (p : Option Addr) (n cap : Nat) (l : List Int) (w : World) (hn : l.length = n) (hm : n ≤ 9223372036854775807) (hr : RowE encN 1 w p l) :
    Calls Tryz.prog 67 #[.slice p n cap, .int .i64 x] w fun e w' => e = .returned (.int .i64 (Lib.idxOf l x)) ∧ w' = w := by
  by_cases h0 : n = 0
  · subst h0
    have : l = [] := List.length_eq_zero_iff.1 hn
    subst this
    exact Tryz.slices_Index_int_empty p cap x w
  · obtain ⟨b, o, rfl, _, hc⟩ := hr.at (by omega)
    have := Tryz.slices_Index_int b o n cap l x w (by omega) hm (fun j hj => by
      have := hc j (l[j]) (List.getElem?_eq_getElem hj) 0 _ rfl
      simpa [List.getD, hj] using this)
    rw [List.take_of_length_le (by omega)] at this
    exact this
theorem idxFrom_turn (x : Int) : ∀ (f t : List Int) (i : Nat), (Lib.idxFrom f x i = -1 ∧ turnI x f t = x) ∨ ∃ k : Nat, k < f.length ∧ Lib.idxFrom f x i = ((i + k : Nat) : Int) ∧ turnI x f t = (t[k]?).getD x
  | [], _, _ => .inl ⟨rfl, rfl⟩
  | y :: f, t, i => by
    unfold Lib.idxFrom turnI
    by_cases h : y = x
    · rw [if_pos h, if_pos h]
      exact .inr ⟨0, by simp, rfl, rfl⟩
    · rw [if_neg h, if_neg h]
      rcases idxFrom_turn x f (t.drop 1) (i + 1) with h1 | ⟨k, hk, h1, h2⟩
      · exact .inl h1
      · refine .inr ⟨k + 1, by simpa using hk, by rw [h1]; congr 1; omega, ?_⟩
        rw [h2]; simp [Nat.add_comm]
theorem idx_turn (x : Int) (f t : List Int) : (Lib.idxOf f x = -1 ∧ turnI x f t = x) ∨ ∃ k : Nat, k < f.length ∧ Lib.idxOf f x = k ∧ turnI x f t = (t[k]?).getD x := by
  have := idxFrom_turn x f t 0
  simpa [Lib.idxOf] using this
theorem index_is (x : Int) (p : Option Addr) (n cap : Nat) (l : List Int) (w : World) (i : Int) (hi : Lib.idxOf l x = i) (hn : l.length = n) (hm : n ≤ 9223372036854775807) (hr : RowE encN 1 w p l) :
    Calls Tryz.prog 67 #[.slice p n cap, .int .i64 x] w fun e w' => e = .returned (.int .i64 i) ∧ w' = w := by
  subst hi; exact index_any x p n cap l w hn hm hr
theorem swA_of {f t : List Int} {kd rr z : Int} {ss : ByteArray} (h3 : kd ≠ 3) (h : turnI rr f t = z) : swA f t ⟨kd, rr, ss⟩ = ⟨kd, z, ss⟩ := by
  subst h; unfold swA; rw [if_neg h3]
theorem swA_same {f t : List Int} {kd rr : Int} {ss : ByteArray} (h : kd = 3 ∨ turnI rr f t = rr) : swA f t ⟨kd, rr, ss⟩ = ⟨kd, rr, ss⟩ := by
  unfold swA
  by_cases h3 : kd = 3
  · rw [if_pos h3]
  · rw [if_neg h3, h.resolve_left h3]
def swL (f t : List Int) (l : List Atom) : List Atom := sortA (((sortA (l.filter atomB)).map (swA f t)).filter atomB)
set_option maxHeartbeats 2000000 in
theorem effect_Swap_any (p : Option Addr) (n cap : Nat) (l : List Atom) (p1 : Option Addr) (n1 c1 : Nat) (f : List Int) (p2 : Option Addr) (n2 c2 : Nat) (t : List Int) (w : World) (hn : l.length = n) (hm : n ≤ 1000000) (hr : RowA w p l)
    (hn1 : f.length = n1) (hm1 : n1 ≤ 1000000) (hr1 : RowE encN 1 w p1 f) (hn2 : t.length = n2) (hm2 : n2 ≤ 1000000) (hr2 : RowE encN 1 w p2 t) :
    Calls Tryz.prog 66 #[.slice p n cap, .slice p1 n1 c1, .slice p2 n2 c2] w fun e w' => ∃ v, e = .returned v ∧ Sl encA 3 w' v (swL f t l) ∧ Below w.heap.size w w' := by
  have HR := hid hr
  have HN := hid hn
  have HR1 := hid hr1
  have HN1 := hid hn1
  have HR2 := hid hr2
  have HN2 := hid hn2
  clear hr hn hr1 hn1 hr2 hn2
  go_enter Tryz.func66, Tryz.ntmps66
  go_wp2_with fail
  refine (effect_Of_any p n cap l _ HN.out hm HR.out).mono ?_
  rintro e w1 ⟨v, m, rfl, hmn, hown, hb⟩
  obtain ⟨q, mc, rfl, hSl, hmc, hrow, _⟩ := hown.row encA_len (by omega)
  have HROW := hid hrow
  have HSL := hid hSl
  have HB1 := hid hb
  generalize hS : sortA (l.filter atomB) = S at HROW HSL
  have HS := hid hS
  clear hown hb hrow hSl hS
  go_wp2_with fail
  go_loopw [7, 10, 14] (fun u _ i wr => ∃ k : Nat, k ≤ m ∧ i = .int .i64 k ∧ OwnE encA 3 wr w1.heap.size 59 u k ((S.take k).map (swA f t)) ∧ Below w1.heap.size w1 wr) (fun _ _ i _ => m - (intOf i).toNat)
  case atStart => exact ⟨0, by omega, rfl, OwnE.nil _ _ _ _ _, Below.refl _ _⟩
  case round =>
    obtain ⟨k, hk, rfl, hown, hb⟩ := hrel
    have HOWN := hid hown
    have HB := hid hb
    clear hown hb
    by_cases hlt : k < m
    · obtain ⟨x, hx⟩ := get_of_lt (l := S) (j := k) (by rw [HSL.out]; exact hlt)
      have HE := hid hx
      obtain ⟨b, o, rfl, hbl, d0, d1, d2⟩ := RowA.atom (HROW.out.below HB.out) hx
      clear hx hbl
      obtain ⟨kd, rr, ss⟩ := x
      simp only at d0 d1 d2
      have HW := hid (HB1.out.trans (HB.out.mono HB1.out.size))
      by_cases hk3 : kd = 3
      · subst hk3
        have HO2 := hid (HOWN.out.below ((Below.refl _ wr).alloc (Nat.le_refl _) (.cells #[.int .u8 3, .int .i64 rr, .string ss] 59)))
        have HB2 : Hid (Below w1.heap.size w1 (wr.alloc (.cells #[.int .u8 3, .int .i64 rr, .string ss] 59))) := HB.out.alloc HB.out.size _
        go_wp2_with fail
        refine (index_is rr p1 n1 c1 f _ _ rfl HN1.out (by omega) ((HR1.out.below HW.out).alloc _)).mono ?_
        rintro e w2 ⟨rfl, rfl⟩
        generalize Lib.idxOf f rr = c
        go_wp2_with (at_builtin; refine wpList_append1 rfl _ _ 25 rfl w1.heap.size 59 _ 3 32 Tryz.underlying25 infoA rfl (by decide) encA encA_len encA_one (⟨3, rr, ss⟩ : Atom) _ _ _ HO2.out rfl (by refine Eq.trans (b := Value.slice (some ⟨wr.heap.size + 1, 0, none⟩) 1 1) rfl ?_; simp) ?c1 ?c2 ?c3 ?_)
        case c1 => omega
        case c2 => omega
        case c3 => exact HB2.out.size
        · intro v' w4 hown' hg
          have HO := hid hown'
          have HB4 := hid (Below.own HB2.out hg HB2.out.size HO2.out)
          clear hown' hg
          go_wp2_with fail
          go_roundw
          case rel => exact ⟨k + 1, by omega, by go_num, by
            have e1 : (S.take (k + 1)).map (swA f t) = (S.take k).map (swA f t) ++ [(⟨3, rr, ss⟩ : Atom)] := by rw [take_succ_get HE.out, List.map_append]; simp only [List.map_cons, List.map_nil]; rw [swA_same (.inl rfl)]
            rw [e1, List.map_take]; exact HO.out, HB4.out⟩
          case measure => simp [intOf]; omega
      · have HK3 := hid hk3
        have hkd : decide (kd = 3) = false := by simp [hk3]
        rcases idx_turn rr f t with ⟨hi, ht⟩ | ⟨j, hj, hi, ht⟩
        · have HI := hid hi
          have HT := hid ht
          clear hi ht
          have HO2 := hid (HOWN.out.below ((Below.refl _ wr).alloc (Nat.le_refl _) (.cells #[.int .u8 kd, .int .i64 rr, .string ss] 59)))
          have HB2 : Hid (Below w1.heap.size w1 (wr.alloc (.cells #[.int .u8 kd, .int .i64 rr, .string ss] 59))) := HB.out.alloc HB.out.size _
          go_wp2_with fail
          refine (index_is rr p1 n1 c1 f _ (-1) HI.out HN1.out (by omega) ((HR1.out.below HW.out).alloc _)).mono ?_
          rintro e w2 ⟨rfl, rfl⟩
          go_wp2_with (at_builtin; refine wpList_append1 rfl _ _ 25 rfl w1.heap.size 59 _ 3 32 Tryz.underlying25 infoA rfl (by decide) encA encA_len encA_one (⟨kd, rr, ss⟩ : Atom) _ _ _ HO2.out rfl (by refine Eq.trans (b := Value.slice (some ⟨wr.heap.size + 1, 0, none⟩) 1 1) rfl ?_; simp) ?c1 ?c2 ?c3 ?_)
          case c1 => omega
          case c2 => omega
          case c3 => exact HB2.out.size
          · intro v' w4 hown' hg
            have HO := hid hown'
            have HB4 := hid (Below.own HB2.out hg HB2.out.size HO2.out)
            clear hown' hg
            go_wp2_with fail
            go_roundw
            case rel => exact ⟨k + 1, by omega, by go_num, by
              have e1 : (S.take (k + 1)).map (swA f t) = (S.take k).map (swA f t) ++ [(⟨kd, rr, ss⟩ : Atom)] := by rw [take_succ_get HE.out, List.map_append]; simp only [List.map_cons, List.map_nil]; rw [swA_same (.inr HT.out)]
              rw [e1, List.map_take]; exact HO.out, HB4.out⟩
            case measure => simp [intOf]; omega
        · have HI := hid hi
          have HT := hid ht
          clear hi ht
          have hj1 : j < n1 := by have := HN1.out; omega
          by_cases hjm : j < n2
          · obtain ⟨z, hz⟩ := get_of_lt (l := t) (j := j) (by rw [HN2.out]; exact hjm)
            have HTZ : Hid (turnI rr f t = z) := by show turnI rr f t = z; rw [HT.out, hz]; rfl
            obtain ⟨b', o', rfl, e0⟩ := (((HR2.out.below HW.out).alloc (.cells #[.int .u8 kd, .int .i64 rr, .string ss] 59))).num hz
            clear hz
            have HO2 := hid (HOWN.out.below ((Below.refl _ wr).alloc (Nat.le_refl _) (.cells #[.int .u8 kd, .int .i64 z, .string ss] 59)))
            have HB2 : Hid (Below w1.heap.size w1 (wr.alloc (.cells #[.int .u8 kd, .int .i64 z, .string ss] 59))) := HB.out.alloc HB.out.size _
            go_wp2_with fail
            refine (index_is rr p1 n1 c1 f _ (j : Int) HI.out HN1.out (by omega) ((HR1.out.below HW.out).alloc _)).mono ?_
            rintro e w2 ⟨rfl, rfl⟩
            go_wp2_with (at_builtin; refine wpList_append1 rfl _ _ 25 rfl w1.heap.size 59 _ 3 32 Tryz.underlying25 infoA rfl (by decide) encA encA_len encA_one (⟨kd, z, ss⟩ : Atom) _ _ _ HO2.out rfl (by refine Eq.trans (b := Value.slice (some ⟨wr.heap.size + 1, 0, none⟩) 1 1) rfl ?_; simp) ?c1 ?c2 ?c3 ?_)
            case c1 => omega
            case c2 => omega
            case c3 => exact HB2.out.size
            · intro v' w4 hown' hg
              have HO := hid hown'
              have HB4 := hid (Below.own HB2.out hg HB2.out.size HO2.out)
              clear hown' hg
              go_wp2_with fail
              go_roundw
              case rel => exact ⟨k + 1, by omega, by go_num, by
                have e1 : (S.take (k + 1)).map (swA f t) = (S.take k).map (swA f t) ++ [(⟨kd, z, ss⟩ : Atom)] := by rw [take_succ_get HE.out, List.map_append]; simp only [List.map_cons, List.map_nil]; rw [swA_of HK3.out HTZ.out]
                rw [e1, List.map_take]; exact HO.out, HB4.out⟩
              case measure => simp [intOf]; omega
          · have HZ : Hid (turnI rr f t = rr) := by show turnI rr f t = rr; rw [HT.out, List.getElem?_eq_none (by rw [HN2.out]; omega)]; rfl
            have HO2 := hid (HOWN.out.below ((Below.refl _ wr).alloc (Nat.le_refl _) (.cells #[.int .u8 kd, .int .i64 rr, .string ss] 59)))
            have HB2 : Hid (Below w1.heap.size w1 (wr.alloc (.cells #[.int .u8 kd, .int .i64 rr, .string ss] 59))) := HB.out.alloc HB.out.size _
            go_wp2_with fail
            refine (index_is rr p1 n1 c1 f _ (j : Int) HI.out HN1.out (by omega) ((HR1.out.below HW.out).alloc _)).mono ?_
            rintro e w2 ⟨rfl, rfl⟩
            go_wp2_with (at_builtin; refine wpList_append1 rfl _ _ 25 rfl w1.heap.size 59 _ 3 32 Tryz.underlying25 infoA rfl (by decide) encA encA_len encA_one (⟨kd, rr, ss⟩ : Atom) _ _ _ HO2.out rfl (by refine Eq.trans (b := Value.slice (some ⟨wr.heap.size + 1, 0, none⟩) 1 1) rfl ?_; simp) ?c1 ?c2 ?c3 ?_)
            case c1 => omega
            case c2 => omega
            case c3 => exact HB2.out.size
            · intro v' w4 hown' hg
              have HO := hid hown'
              have HB4 := hid (Below.own HB2.out hg HB2.out.size HO2.out)
              clear hown' hg
              go_wp2_with fail
              go_roundw
              case rel => exact ⟨k + 1, by omega, by go_num, by
                have e1 : (S.take (k + 1)).map (swA f t) = (S.take k).map (swA f t) ++ [(⟨kd, rr, ss⟩ : Atom)] := by rw [take_succ_get HE.out, List.map_append]; simp only [List.map_cons, List.map_nil]; rw [swA_same (.inr HZ.out)]
                rw [e1, List.map_take]; exact HO.out, HB4.out⟩
              case measure => simp [intOf]; omega
    · obtain rfl : k = m := by omega
      have hown := HOWN.out
      have HE : Hid (sortA ((S.map (swA f t)).filter atomB) = swL f t l) := by show _ = swL f t l; unfold swL; rw [HS.out]
      rw [take_full (by rw [HSL.out]; exact Nat.le_refl _)] at hown
      obtain ⟨q', c', rfl, hl', hc', hr', _⟩ := hown.row encA_len (by omega)
      have HL' := hid hl'
      have HR' := hid hr'
      clear hown hl' hr'
      go_wp2_with fail
      refine (effect_Of_any q' k c' (S.map (swA f t)) wr HL'.out (by omega) HR'.out).mono ?_
      rintro e w3 ⟨v, m', rfl, _, hown, hb⟩
      rw [HE.out] at hown
      have HO := hid (hown.sl encA_len (by omega))
      have HB3 := hid ((HB1.out.trans (HB.out.mono HB1.out.size)).trans (hb.mono (HB1.out.trans (HB.out.mono HB1.out.size)).size))
      clear hown hb
      go_wp2_with fail
      go_ret
      exact ⟨_, rfl, HO.out, HB3.out⟩
end
section
open Go.RowKit Go.Sort Go.Lib
def inS (l : List ByteArray) (x : ByteArray) : Bool := l.any (fun y => decide (y = x))
theorem inS_mem (l : List ByteArray) (x : ByteArray) : inS l x = true ↔ x ∈ l := by
  unfold inS
  rw [List.any_eq_true]
  constructor
  · rintro ⟨y, hy, h⟩
    have : y = x := by simpa using h
    subst this; exact hy
  · intro h
    exact ⟨x, h, by simp⟩
theorem inN_mem (l : List Int) (x : Int) : inN l x = true ↔ x ∈ l := by
  unfold inN
  rw [List.any_eq_true]
  constructor
  · rintro ⟨y, hy, h⟩
    have : y = x := by simpa using h
    subst this; exact hy
  · intro h
    exact ⟨x, h, by simp⟩
theorem n_contains_any {p : Option Addr} {n cap : Nat} {l : List Int} {w : World} (h : IsRow encN 1 w p n cap l) (x : Int) :
    Calls Tryz.prog 183 #[.slice p n cap, .int .i64 x] w fun e w' => e = .returned (.bool (inN l x)) ∧ w = w' := by
  have e1 : inN l x = l.contains x := by rw [Bool.eq_iff_iff, inN_mem]; simp
  by_cases h0 : n = 0
  · subst h0
    have : l = [] := List.length_eq_zero_iff.1 h.len
    subst this
    exact (Tryz.slices_Contains_int_empty p cap x w).mono fun _ _ ⟨he, hw⟩ => ⟨he, hw.symm⟩
  · obtain ⟨b, o, rfl, _, hc⟩ := h.row.at (by rw [h.len]; omega)
    have := Tryz.slices_Contains_int b o n cap l x w (by rw [h.len]; omega) h.max (fun j hj => by
      have := hc j (l[j]) (List.getElem?_eq_getElem hj) 0 _ rfl
      simpa [List.getD, hj] using this)
    rw [List.take_of_length_le (by rw [h.len]; omega), ← e1] at this
    exact this.mono fun _ _ ⟨he, hw⟩ => ⟨he, hw.symm⟩
theorem s_contains_any {p : Option Addr} {n cap : Nat} {l : List ByteArray} {w : World} (h : IsRow encS 1 w p n cap l) (x : ByteArray) :
    Calls Tryz.prog 222 #[.slice p n cap, .string x] w fun e w' => e = .returned (.bool (inS l x)) ∧ w = w' := by
  have e1 : inS l x = Lib.containsS l x := by rw [Bool.eq_iff_iff, Lib.containsS_iff, inS_mem]
  by_cases h0 : n = 0
  · subst h0
    have : l = [] := List.length_eq_zero_iff.1 h.len
    subst this
    exact (Tryz.slices_Contains_string_empty p cap x w).mono fun _ _ ⟨he, hw⟩ => ⟨he, hw.symm⟩
  · obtain ⟨b, o, rfl, _, hc⟩ := h.row.at (by rw [h.len]; omega)
    have := Tryz.slices_Contains_string b o n cap l x w (by rw [h.len]; omega) h.max (fun j hj => by
      have := hc j (l[j]) (List.getElem?_eq_getElem hj) 0 _ rfl
      simpa [List.getD, hj] using this)
    rw [List.take_of_length_le (by rw [h.len]; omega), ← e1] at this
    exact this.mono fun _ _ ⟨he, hw⟩ => ⟨he, hw.symm⟩
theorem deleteFunc_nil (fid : FuncId) (caps : Array Value) (hent : Enters fid) (w : World) :
    Calls Tryz.prog 250 #[.slice none 0 0, .func (.func fid) #[] caps] w fun e w' => e = .returned (.slice none 0 0) ∧ Below w.heap.size w w' := by
  have HIX := hid (a_indexFunc_any fid caps (fun _ => true) hent none 0 0 [] w rfl (by omega) (.inl rfl) (fun x hx => by cases hx))
  clear hent
  go_enter Tryz.func250, Tryz.ntmps250
  go_wp2_with fail
  refine HIX.out.mono ?_
  rintro e w1 ⟨⟨r, rfl, hr⟩, hb⟩
  have hr1 : r = -1 := by
    rcases hr with ⟨h, _⟩ | ⟨k, x, _, hx, _⟩
    · exact h
    · simp at hx
  subst hr1
  have HB := hid hb
  clear hb
  clear hr
  go_wp2_with fail
  go_ret
  exact ⟨rfl, HB.out⟩
theorem PredB.trans {fid : FuncId} {caps : Array Value} {B : Nat} {w w' : World} {l : List Atom} {q : Atom → Bool} (h : PredB fid caps B w l q) (hb : Below B w w') : PredB fid caps B w' l q :=
  fun x hx W hW => h x hx W (hb.trans hW)
theorem drop_any (fid : FuncId) (caps : Array Value) (q : Atom → Bool) (hent : Enters fid) {p : Option Addr} {n cap : Nat} {l : List Atom} {w : World} (hr : IsRow encA 3 w p n cap l) (hm : n ≤ 1000000) (hf : PredB fid caps w.heap.size w (sortA (l.filter atomB)) q) :
    Calls Tryz.prog 220 #[.slice p n cap, .func (.func fid) #[] caps] w fun e w' => ∃ v m, e = .returned v ∧ m ≤ n ∧ OwnE encA 3 w' w.heap.size 59 v m ((sortA (l.filter atomB)).filter (fun x => !q x)) ∧ Below w.heap.size w w' := by
  have HR := hid hr
  have HF := hid hf
  clear hr hf
  have HD0 := hid (fun W => deleteFunc_nil fid caps hent W)
  have HD := hid (fun (g c m : Nat) (W : World) (h : OwnE encA 3 W w.heap.size 59 (.slice (some ⟨g, 0, none⟩) m c) m (sortA (l.filter atomB))) (h1 : m ≤ c) (h2 : m ≤ 1000000) (hb : Below w.heap.size w W) =>
    deleteFunc_any fid caps q hent g c m _ w.heap.size W h h1 h2 hb.size (HF.out.trans hb))
  clear hent
  go_enter Tryz.func220, Tryz.ntmps220
  go_wp2_with fail
  refine (effect_Of_any p n cap l _ HR.out.len hm HR.out.row).mono ?_
  rintro e w1 ⟨v, m, rfl, hmn, hown, hb⟩
  rcases hown.split encA_len (by omega) with ⟨rfl, rfl, hnil⟩ | ⟨g, cp, rfl, hcp, hbg⟩
  · have HNIL := hid hnil
    have HB := hid hb
    clear hb
    clear hown hnil
    go_wp2_with fail
    refine (HD0.out _).mono ?_
    rintro e w2 ⟨rfl, hb⟩
    have HB2 := hid (HB.out.trans (hb.mono HB.out.size))
    clear hb
    go_wp2_with fail
    go_ret
    exact ⟨_, 0, rfl, by omega, by rw [HNIL.out]; exact OwnE.nil _ _ _ _ _, HB2.out⟩
  · have HO := hid hown
    have HB := hid hb
    clear hb
    clear hown
    go_wp2_with fail
    refine (HD.out g cp m _ HO.out hcp (by omega) HB.out).mono ?_
    rintro e w2 ⟨m', rfl, hm', ho2, hb⟩
    have HO2 := hid ho2
    have HB2 := hid (HB.out.trans hb)
    clear hb ho2
    go_wp2_with fail
    go_ret
    exact ⟨_, m', rfl, by omega, HO2.out, HB2.out⟩
def goesR (rhos : List Int) (x : Atom) : Bool := decide (x.kind ≠ 3) && inN rhos x.rho
set_option maxHeartbeats 400000 in
theorem without1_any (x : Atom) (ad : Addr) (q : Option Addr) (m mc : Nat) (l : List Int) (w : World) (hbox : w.cell? ad = some (.slice q m mc)) (hr : IsRow encN 1 w q m mc l) :
    Calls Tryz.prog 223 #[aggA x, .pointer (some ad)] w fun e w' => e = .returned (.bool (goesR l x)) ∧ Below w.heap.size w w' := by
  have hbx : (w.alloc (.cells #[.int .u8 x.kind, .int .i64 x.rho, .string x.exn] 59)).cell? ad = some (.slice q m mc) := by rw [cell_alloc_old (cell_block hbox)]; exact hbox
  obtain ⟨kd, rr, ss⟩ := x
  have HR := hid hr
  clear hr
  clear hbox
  by_cases h3 : kd = 3
  · subst h3
    go_enter Tryz.func223, Tryz.ntmps223
    go_wp2_with fail
    go_ret
    exact ⟨rfl, (Below.refl _ _).alloc (Nat.le_refl _) _⟩
  · have h3' : (kd != 3) = true := by simpa using h3
    have HG : Hid (goesR l ⟨kd, rr, ss⟩ = inN l rr) := by show _ = _; simp [goesR, h3]
    clear h3
    go_enter Tryz.func223, Tryz.ntmps223
    go_wp2_with fail
    refine (n_contains_any (HR.out.alloc _) rr).mono ?_
    rintro e w1 ⟨rfl, rfl⟩
    go_wp2_with fail
    go_ret
    exact ⟨ret_bool HG.out.symm, (Below.refl _ _).alloc (Nat.le_refl _) _⟩
def withoutL (l : List Atom) (rhos : List Int) : List Atom := (sortA (l.filter atomB)).filter (fun x => !goesR rhos x)
theorem effect_Without_any {p : Option Addr} {n cap : Nat} {l : List Atom} {q : Option Addr} {m mc : Nat} {rhos : List Int} {w : World} (hr : IsRow encA 3 w p n cap l) (hm : n ≤ 1000000) (hr' : IsRow encN 1 w q m mc rhos) :
    Calls Tryz.prog 196 #[.slice p n cap, .slice q m mc] w fun e w' => ∃ v k, e = .returned v ∧ k ≤ n ∧ OwnE encA 3 w' w.heap.size 59 v k (withoutL l rhos) ∧ Below w.heap.size w w' := by
  have HD := hid (fun t => drop_any 223 #[.pointer (some ⟨w.heap.size, 0, none⟩)] (goesR rhos) (fun a w => Tryz.call223 a w) (hr.alloc (.cells #[.slice q m mc] t)) hm
    (fun x _ W hW => by
      have := without1_any x ⟨w.heap.size, 0, none⟩ q m mc rhos W (by rw [hW.cell (by simp), cell_new]; rfl) ((hr'.alloc _).below hW)
      simpa using this))
  clear hr hr'
  go_enter Tryz.func196, Tryz.ntmps196
  go_wp2_with fail
  refine (HD.out _).mono ?_
  rintro e w1 ⟨v, k, rfl, hk, hown, hb⟩
  have HB := hid (((Below.refl _ w).alloc (Nat.le_refl _) _).trans (hb.mono (by simp)))
  have HO := hid (hown.lower (base' := w.heap.size) (by simp))
  clear hb hown
  go_wp2_with fail
  go_ret
  exact ⟨_, k, rfl, hk, HO.out, HB.out⟩
def goesX (exns : List ByteArray) (x : Atom) : Bool := decide (x.kind = 3) && inS exns x.exn
set_option maxHeartbeats 400000 in
theorem handled1_any (x : Atom) (ad : Addr) (q : Option Addr) (m mc : Nat) (l : List ByteArray) (w : World) (hbox : w.cell? ad = some (.slice q m mc)) (hr : IsRow encS 1 w q m mc l) :
    Calls Tryz.prog 221 #[aggA x, .pointer (some ad)] w fun e w' => e = .returned (.bool (goesX l x)) ∧ Below w.heap.size w w' := by
  have hbx : (w.alloc (.cells #[.int .u8 x.kind, .int .i64 x.rho, .string x.exn] 59)).cell? ad = some (.slice q m mc) := by rw [cell_alloc_old (cell_block hbox)]; exact hbox
  obtain ⟨kd, rr, ss⟩ := x
  have HR := hid hr
  clear hr
  clear hbox
  by_cases h3 : kd = 3
  · subst h3
    have HG : Hid (goesX l ⟨3, rr, ss⟩ = inS l ss) := by show _ = _; simp [goesX]
    go_enter Tryz.func221, Tryz.ntmps221
    go_wp2_with fail
    refine (s_contains_any (HR.out.alloc _) ss).mono ?_
    rintro e w1 ⟨rfl, rfl⟩
    go_wp2_with fail
    go_ret
    exact ⟨ret_bool HG.out.symm, (Below.refl _ _).alloc (Nat.le_refl _) _⟩
  · have h3' : (kd == 3) = false := by rw [beq_eq_false_iff_ne]; exact h3
    have HG : Hid (goesX l ⟨kd, rr, ss⟩ = false) := by show _ = _; simp [goesX, h3]
    clear h3
    go_enter Tryz.func221, Tryz.ntmps221
    go_wp2_with fail
    go_ret
    exact ⟨ret_bool HG.out.symm, (Below.refl _ _).alloc (Nat.le_refl _) _⟩
def handledL (l : List Atom) (exns : List ByteArray) : List Atom := (sortA (l.filter atomB)).filter (fun x => !goesX exns x)
theorem effect_Handled_any {p : Option Addr} {n cap : Nat} {l : List Atom} {q : Option Addr} {m mc : Nat} {exns : List ByteArray} {w : World} (hr : IsRow encA 3 w p n cap l) (hm : n ≤ 1000000) (hr' : IsRow encS 1 w q m mc exns) :
    Calls Tryz.prog 195 #[.slice p n cap, .slice q m mc] w fun e w' => ∃ v k, e = .returned v ∧ k ≤ n ∧ OwnE encA 3 w' w.heap.size 59 v k (handledL l exns) ∧ Below w.heap.size w w' := by
  have HD := hid (fun t => drop_any 221 #[.pointer (some ⟨w.heap.size, 0, none⟩)] (goesX exns) (fun a w => Tryz.call221 a w) (hr.alloc (.cells #[.slice q m mc] t)) hm
    (fun x _ W hW => by
      have := handled1_any x ⟨w.heap.size, 0, none⟩ q m mc exns W (by rw [hW.cell (by simp), cell_new]; rfl) ((hr'.alloc _).below hW)
      simpa using this))
  clear hr hr'
  go_enter Tryz.func195, Tryz.ntmps195
  go_wp2_with fail
  refine (HD.out _).mono ?_
  rintro e w1 ⟨v, k, rfl, hk, hown, hb⟩
  have HB := hid (((Below.refl _ w).alloc (Nat.le_refl _) _).trans (hb.mono (by simp)))
  have HO := hid (hown.lower (base' := w.heap.size) (by simp))
  clear hb hown
  go_wp2_with fail
  go_ret
  exact ⟨_, k, rfl, hk, HO.out, HB.out⟩
end
end Go.Proofs.YtkdjnegfnhldpaaGreatDoor
