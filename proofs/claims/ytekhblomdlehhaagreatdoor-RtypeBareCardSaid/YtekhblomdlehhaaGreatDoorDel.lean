/- slices.DeleteFunc at atoms; effect.drop, Without, Handled. -/
import Derived.Test.YtekhblomdlehhaaGreatDoorEff15
set_option linter.unusedVariables false
set_option maxRecDepth 100000
set_option linter.unusedSimpArgs false
namespace Go.Proofs.YtekhblomdlehhaaGreatDoor
open Go.RowKit Go.Sort Go.Lib

/-- so far: the kept ones of the first j at the head, the rest as it was -/
structure DelInv (q : Atom → Bool) (l : List Atom) (j i : Nat) (dk : List Atom) : Prop where
  size : dk.length = l.length
  low : dk.take i = (l.take j).filter (fun x => !q x)
  high : ∀ t, j ≤ t → dk[t]? = l[t]?
  lt : i < j
theorem DelInv.start {q : Atom → Bool} {l : List Atom} {k : Nat} {x : Atom} (hx : l[k]? = some x) (hq : q x = true) (hno : (l.take k).any q = false) : DelInv q l (k + 1) k l := by
  refine ⟨rfl, ?_, fun _ _ => rfl, by omega⟩
  rw [take_succ_get hx, List.filter_append]
  have h1 : (l.take k).filter (fun x => !q x) = l.take k := by
    rw [List.filter_eq_self]
    intro a ha
    have := List.any_eq_false.1 hno a ha
    simpa using this
  rw [h1]
  simp [hq]
theorem DelInv.skip {q : Atom → Bool} {l dk : List Atom} {j i : Nat} {x : Atom} (h : DelInv q l j i dk) (hx : l[j]? = some x) (hq : q x = true) : DelInv q l (j + 1) i dk := by
  refine ⟨h.size, ?_, fun t ht => h.high t (by omega), by have := h.lt; omega⟩
  rw [take_succ_get hx, List.filter_append, h.low]
  simp [hq]
theorem DelInv.keep {q : Atom → Bool} {l dk : List Atom} {j i : Nat} {x : Atom} (h : DelInv q l j i dk) (hx : l[j]? = some x) (hq : q x = false) : DelInv q l (j + 1) (i + 1) (dk.set i x) := by
  have hj := get_lt hx
  have hi : i < dk.length := by have := h.lt; have := h.size; omega
  refine ⟨by rw [List.length_set]; exact h.size, ?_, fun t ht => ?_, by have := h.lt; omega⟩
  · rw [take_succ_get hx, List.filter_append, ← h.low]
    rw [take_succ_get (List.getElem?_set_self hi), List.take_set_of_le (Nat.le_refl _)]
    simp [hq]
  · rw [List.getElem?_set_ne (by have := h.lt; omega)]
    exact h.high t (by omega)

set_option maxHeartbeats 2000000 in
theorem deleteFunc_any (fid : FuncId) (caps : Array Value) (q : Atom → Bool) (hent : Enters fid) (g cap n : Nat) (l : List Atom) (base : Nat) (w : World) (h : OwnE encA 3 w base 70 (.slice (some ⟨g, 0, none⟩) n cap) n l) (hcap : n ≤ cap) (hn : n ≤ 1000000)
    (hbw : base ≤ w.heap.size) (hf : PredB fid caps base w l q) :
    Calls Tryz.prog 85 #[.slice (some ⟨g, 0, none⟩) n cap, .func (.func fid) #[] caps] w fun e w' =>
      ∃ m, e = .returned (.slice (some ⟨g, 0, none⟩) m cap) ∧ m ≤ n ∧ OwnE encA 3 w' base 70 (.slice (some ⟨g, 0, none⟩) m cap) m (l.filter (fun x => !q x)) ∧ Below base w w' := by
  have hl : l.length = n := h.len encA_len (by omega)
  have hrow : RowA w (some ⟨g, 0, none⟩) l := by
    obtain ⟨p', c', hv, _, _, hr, _⟩ := h.row encA_len (by omega)
    cases hv; exact hr
  have HIX := Lib.hid (a_indexFunc_any fid caps q hent (some ⟨g, 0, none⟩) n cap l w hl (by omega) hrow (hf.a (Below.refl _ _) hbw))
  have hent' := hent
  unfold Enters at hent'
  have HO := Lib.hid h
  have HL := Lib.hid hl
  have HF := Lib.hid hf
  clear h hl hf
  clear hrow
  go_enter Tryz.func85, Tryz.ntmps85
  go_wp2_with fail
  refine HIX.out.mono ?_
  rintro e w1 ⟨⟨r, rfl, hr⟩, hb⟩
  have HB1 := Lib.hid (hb.mono hbw)
  have HO1 := Lib.hid (HO.out.below hb)
  clear hb
  rcases hr with ⟨rfl, hno⟩ | ⟨k, x, rfl, hx, hq, hno⟩
  · have HNO := Lib.hid hno
    clear hno
    go_wp2_with fail
    go_ret
    refine ⟨n, rfl, Nat.le_refl _, ?_, HB1.out⟩
    have e1 : l.filter (fun x => !q x) = l := by
      rw [List.filter_eq_self]
      intro a ha
      have := List.any_eq_false.1 HNO.out a ha
      simpa using this
    rw [e1]; exact HO1.out
  · have hk := get_lt hx
    have hkn : k < n := by have := HL.out; omega
    have HST := Lib.hid (DelInv.start hx hq hno)
    have hkb : ((k : Int) == -1) = false := by rw [beq_eq_false_iff_ne]; omega
    clear hx hq hno hk
    go_wp2_with fail
    go_loopw [5, 6] (fun si sj wr => ∃ (i j : Nat) (dk : List Atom), si = .int .i64 i ∧ sj = .int .i64 j ∧ j ≤ n ∧ i < j ∧ DelInv q l j i dk ∧ OwnE encA 3 wr base 70 (.slice (some ⟨g, 0, none⟩) n cap) n dk ∧ Below base w wr) (fun _ sj _ => n - (intOf sj).toNat)
    case atStart => exact ⟨k, k + 1, l, rfl, by go_num, by omega, by omega, HST.out, HO1.out, HB1.out⟩
    case round =>
      obtain ⟨i, j, dk, rfl, rfl, hj, hij, hI, hown, hb⟩ := hrel
      have HI := Lib.hid hI
      have HOWN := Lib.hid hown
      have HB := Lib.hid hb
      clear hI hown hb
      by_cases hlt : j < n
      · obtain ⟨x, hx⟩ := get_of_lt (l := l) (j := j) (by rw [HL.out]; exact hlt)
        have HE := Lib.hid hx
        have hdx : dk[j]? = some x := by rw [HI.out.high j (Nat.le_refl _)]; exact hx
        have d0 := (HOWN.out.at encA_len hdx (i := 0) (by omega)).1
        have d1 := (HOWN.out.at encA_len hdx (i := 1) (by omega)).1
        have d2 := (HOWN.out.at encA_len hdx (i := 2) (by omega)).1
        simp only [encA, List.getElem?_cons_zero, List.getElem?_cons_succ, Nat.add_zero] at d0 d1 d2
        clear hx hdx
        have hwr : base ≤ wr.heap.size := Nat.le_trans hbw HB.out.size
        cases hq : q x
        · have HQ := Lib.hid hq
          clear hq
          go_wp2_with fail
          refine (HF.out.is (List.mem_of_getElem? HE.out) HQ.out (HB.out.alloc hwr _)).mono ?_
          rintro e w2 ⟨rfl, hb⟩
          have HB2 := Lib.hid ((HB.out.alloc hwr (.cells #[.int .u8 x.kind, .int .i64 x.rho, .string x.exn] 70)).trans (hb.mono (by simp; omega)))
          have HO2 := Lib.hid ((HOWN.out.below ((Below.refl _ wr).alloc (Nat.le_refl _) (.cells #[.int .u8 x.kind, .int .i64 x.rho, .string x.exn] 70))).below hb)
          have f0 : w2.cell? ⟨wr.heap.size, 0, none⟩ = some (.int .u8 x.kind) := by rw [hb.cell (by simp), cell_new]; rfl
          have f1 : w2.cell? ⟨wr.heap.size, 1, none⟩ = some (.int .i64 x.rho) := by rw [hb.cell (by simp), cell_new]; rfl
          have f2 : w2.cell? ⟨wr.heap.size, 2, none⟩ = some (.string x.exn) := by rw [hb.cell (by simp), cell_new]; rfl
          obtain ⟨o0, g0⟩ := HO2.out.cellSome (o := i * 3) (by omega)
          obtain ⟨o1, g1⟩ := HO2.out.cellSome (o := i * 3 + 1) (by omega)
          obtain ⟨o2, g2⟩ := HO2.out.cellSome (o := i * 3 + 2) (by omega)
          obtain ⟨u0, o0⟩ := Option.isSome_iff_exists.1 o0
          obtain ⟨u1, o1⟩ := Option.isSome_iff_exists.1 o1
          obtain ⟨u2, o2⟩ := Option.isSome_iff_exists.1 o2
          clear hb d0 d1 d2
          go_wp2_with fail
          go_roundw
          case rel =>
            refine ⟨i + 1, j + 1, dk.set i x, by go_num, by go_num, by omega, by omega, HI.out.keep HE.out HQ.out, HO2.out.setA i x (by omega), ?_⟩
            have hgb : base ≤ g := by
              rcases HO2.out.2 with ⟨h0, _⟩ | ⟨g', cap', cur, hv, hb, _⟩
              · cases h0
              · cases hv; exact hb
            exact ((HB2.out.setCell (p := ⟨g, i * 3, none⟩) hgb _).setCell (p := ⟨g, i * 3 + 1, none⟩) hgb _).setCell (p := ⟨g, i * 3 + 2, none⟩) hgb _
          case measure => simp [intOf]; omega
        · have HQ := Lib.hid hq
          clear hq
          go_wp2_with fail
          refine (HF.out.is (List.mem_of_getElem? HE.out) HQ.out (HB.out.alloc hwr _)).mono ?_
          rintro e w2 ⟨rfl, hb⟩
          have HB2 := Lib.hid ((HB.out.alloc hwr (.cells #[.int .u8 x.kind, .int .i64 x.rho, .string x.exn] 70)).trans (hb.mono (by simp; omega)))
          have HO2 := Lib.hid ((HOWN.out.below ((Below.refl _ wr).alloc (Nat.le_refl _) (.cells #[.int .u8 x.kind, .int .i64 x.rho, .string x.exn] 70))).below hb)
          clear hb d0 d1 d2
          go_wp2_with fail
          go_roundw
          case rel => exact ⟨i, j + 1, dk, rfl, by go_num, by omega, by omega, HI.out.skip HE.out HQ.out, HO2.out, HB2.out⟩
          case measure => simp [intOf]; omega
      · have hend : j = n := by omega
        have hcl := fun ty => run_clear_atoms wr ty g (i * 3) (n - i) (cap - i) (by omega) (fun t ht => (HOWN.out.cellSome (by omega)).1) (fun t ht => (HOWN.out.cellSome (by omega)).2)
        go_wp2_with fail
        go_ret
        have hlow := HI.out.low
        rw [hend, take_full (l := l) (by rw [HL.out]; omega)] at hlow
        refine ⟨i, rfl, by omega, ?_, ?_⟩
        · have := (OwnE.cut (n := n) (m := i) encA_len HOWN.out (by rw [HI.out.size, HL.out]) (by omega)).clearBehind encA_len (i * 3) (List.replicate (n - i) [Value.int .u8 0, .int .i64 0, .string .empty]).flatten (Nat.le_refl _)
          rw [hlow] at this
          exact this
        · have hgb : base ≤ g := by
            rcases HOWN.out.2 with ⟨h0, _⟩ | ⟨g', cap', cur, hv, hb, _⟩
            · cases h0
            · cases hv; exact hb
          exact OwnE.drop_base (enc := encA) (k := 3) (grown_setCells g _ _ _) hgb HB.out (Nat.le_trans hbw HB.out.size)
end Go.Proofs.YtekhblomdlehhaaGreatDoor
