/- enclaveref11.put, Of, Union, Without, Handled, Rhos, Exns over rows; enclavelaw11.great; effect.Rhos. -/
import Derived.Test.YtekhblomdlehhaaGreatDoorFacts
import Derived.Test.YtekhblomdlehhaaGreatDoorSets
import Derived.Test.YtekhblomdlehhaaGreatDoorIntSort
set_option linter.unusedVariables false
set_option maxRecDepth 100000
set_option linter.unusedSimpArgs false
namespace Go.Proofs.YtekhblomdlehhaaGreatDoor
open Go.RowKit Go.Sort Go.Lib

/-- the result is a row -/
def IsOut {α : Type} (enc : α → List Value) (k : Nat) (w : World) (e : Ending) (l : List α) : Prop := ∃ p n c, e = .returned (.slice p n c) ∧ IsRow enc k w p n c l
theorem IsOut.mk {α : Type} {enc : α → List Value} {k : Nat} {w : World} {p : Option Addr} {n c : Nat} {l : List α} (h : IsRow enc k w p n c l) : IsOut enc k w (.returned (.slice p n c)) l := ⟨p, n, c, rfl, h⟩

theorem ref_put_row {p : Option Addr} {n cap : Nat} {l : List Atom} {w : World} (hr : IsRow encA 3 w p n cap l) (hm : n ≤ 1000000) (a : Atom) :
    Calls Tryz.prog 48 #[.slice p n cap, .agg #[.int .u8 a.kind, .int .i64 a.rho, .string a.exn]] w fun e w' => IsOut encA 3 w' e (putA a l) ∧ Below w.heap.size w w' := by
  by_cases ha : atomB a = true
  · by_cases hi : inA l a = true
    · have hp : Hid (putA a l = l) := by show putA a l = l; simp [putA, ha, hi]
      have HR := Lib.hid hr
      clear hr
      go_enter Tryz.func48, Tryz.ntmps48
      go_wp2_with fail
      refine (ref_Atom_any a _).mono ?_
      rintro e w1 ⟨rfl, hb⟩
      have H1 : Hid (Below w.heap.size w w1) := ((Below.refl _ w).alloc (Nat.le_refl _) _).trans (hb.mono (by simp))
      have c0 : w1.cell? ⟨w.heap.size, 0, none⟩ = some (.int .u8 a.kind) := by rw [hb.cell (by simp), cell_new]; rfl
      have c1 : w1.cell? ⟨w.heap.size, 1, none⟩ = some (.int .i64 a.rho) := by rw [hb.cell (by simp), cell_new]; rfl
      have c2 : w1.cell? ⟨w.heap.size, 2, none⟩ = some (.string a.exn) := by rw [hb.cell (by simp), cell_new]; rfl
      rw [ha]
      clear hb ha
      go_wp2_with fail
      refine (ref_In_any p n cap l a w1 HR.out.len (by omega) (HR.out.below H1.out).row).mono ?_
      rintro e w2 ⟨rfl, hb⟩
      have H2 := Lib.hid (H1.out.trans (hb.mono H1.out.size))
      rw [hi]
      clear hb hi
      go_wp2_with fail
      go_ret
      exact ⟨by rw [hp.out]; exact IsOut.mk (HR.out.below H2.out), H2.out⟩
    · have hi' : inA l a = false := by simpa using hi
      refine (ref_put_main p n cap l a w hr.len hm hr.row ha hi').mono ?_
      rintro e w' ⟨v, he, ho, hb⟩
      obtain ⟨p', c', rfl, hrow⟩ := ho.isRow encA_len (by omega)
      exact ⟨by rw [he, show putA a l = putPos a l from by simp [putA, ha, hi']]; exact IsOut.mk hrow, hb⟩
  · have ha' : atomB a = false := by simpa using ha
    have hp : Hid (putA a l = l) := by show putA a l = l; simp [putA, ha']
    have HR := Lib.hid hr
    clear hr
    clear ha
    go_enter Tryz.func48, Tryz.ntmps48
    go_wp2_with fail
    refine (ref_Atom_any a _).mono ?_
    rintro e w1 ⟨rfl, hb⟩
    have H1 : Hid (Below w.heap.size w w1) := ((Below.refl _ w).alloc (Nat.le_refl _) _).trans (hb.mono (by simp))
    rw [ha']
    clear hb ha'
    go_wp2_with fail
    go_ret
    exact ⟨by rw [hp.out]; exact IsOut.mk (HR.out.below H1.out), H1.out⟩

/-- an empty literal, as a row -/
theorem isRow_lit {α : Type} (enc : α → List Value) (k : Nat) (w : World) (t : TypeId) : IsRow enc k (w.alloc (.cells #[] t)) (some ⟨w.heap.size, 0, none⟩) 0 0 [] := ⟨rfl, by omega, by omega, (fun h => by cases h), .inl rfl⟩

theorem ref_Of_row {p : Option Addr} {n cap : Nat} {l : List Atom} {w : World} (hr : IsRow encA 3 w p n cap l) (hm : n ≤ 1000000) :
    Calls Tryz.prog 53 #[.slice p n cap] w fun e w' => IsOut encA 3 w' e (effL l) ∧ Below w.heap.size w w' := by
  have HE0 := Lib.hid (refOf_eq l)
  have HR := Lib.hid hr
  clear hr
  go_enter Tryz.func53, Tryz.ntmps53
  go_wp2_with fail
  go_loopw [3, 8] (fun u i wr => ∃ (k : Nat) (q : Option Addr) (m mc : Nat), k ≤ n ∧ i = .int .i64 k ∧ u = .slice q m mc ∧ m ≤ k ∧ IsRow encA 3 wr q m mc (refOf (l.take k)) ∧ Below w.heap.size w wr) (fun _ i _ => n - (intOf i).toNat)
  case atStart => exact ⟨0, _, _, _, by omega, rfl, rfl, by omega, isRow_lit _ _ _ _, (Below.refl _ _).alloc (Nat.le_refl _) _⟩
  case round =>
    obtain ⟨k, q, m, mc, hk, rfl, rfl, hmk, hrow, hb⟩ := hrel
    have HROW := Lib.hid hrow
    have HB := Lib.hid hb
    clear hrow hb
    by_cases hlt : k < n
    · obtain ⟨x, hx⟩ := get_of_lt (l := l) (j := k) (by rw [HR.out.len]; exact hlt)
      have HE := Lib.hid hx
      obtain ⟨b, o, rfl, hbl, d0, d1, d2⟩ := RowA.atom (HR.out.below HB.out).row hx
      clear hx hbl
      go_wp2_with fail
      refine (ref_put_row HROW.out (by omega) x).mono ?_
      rintro e w1 ⟨⟨q', m', mc', rfl, hr'⟩, hb⟩
      have HB1 := Lib.hid (HB.out.trans (hb.mono HB.out.size))
      have hm' : m' ≤ k + 1 := by have h1 := putA_length x (refOf (l.take k)); have h2 := hr'.len; have h3 := HROW.out.len; omega
      have HR' := Lib.hid hr'
      clear hb d0 d1 d2 hr'
      go_wp2_with fail
      go_roundw
      case rel => exact ⟨k + 1, q', m', mc', by omega, by go_num, rfl, hm', by rw [take_succ_get HE.out, refOf_snoc]; exact HR'.out, HB1.out⟩
      case measure => simp [intOf]; omega
    · have hkn : k = n := by omega
      subst hkn
      go_wp2_with fail
      go_ret
      have h2 := HROW.out
      rw [take_full (by rw [HR.out.len]; omega), HE0.out] at h2
      exact ⟨IsOut.mk h2, HB.out⟩
theorem effL_length (l : List Atom) : (effL l).length ≤ l.length := by
  have := refOf_length l
  rw [refOf_eq] at this; exact this

theorem flat_take_succ {rows : List (SlE Atom)} {j : Nat} {x : SlE Atom} (hx : rows[j]? = some x) : (rows.take (j + 1)).flatMap (·.l) = (rows.take j).flatMap (·.l) ++ x.l := by
  rw [take_succ_get hx, List.flatMap_append]; simp
set_option maxHeartbeats 1000000 in
theorem ref_Union_any {p : Option Addr} {n cap : Nat} {rows : List (SlE Atom)} {w : World} (hr : IsRow encSl 1 w p n cap rows) (hm : n ≤ 1000000) (hok : ∀ r ∈ rows, r.Ok encA 3 w) (htot : (rows.map (·.n)).sum ≤ 1000000) :
    Calls Tryz.prog 11 #[.slice p n cap] w fun e w' => IsOut encA 3 w' e (effL (rows.flatMap (·.l))) ∧ Below w.heap.size w w' := by
  have HE0 := Lib.hid (refOf_eq (rows.flatMap (·.l)))
  have HR := Lib.hid hr
  have HOK := Lib.hid hok
  have HT := Lib.hid htot
  clear hr hok htot
  go_enter Tryz.func11, Tryz.ntmps11
  go_wp2_with fail
  go_loopw [3, 4, 5, 9, 17] (fun u _ _ i _ wr => ∃ (k S : Nat) (q : Option Addr) (m mc : Nat), k ≤ n ∧ i = .int .i64 k ∧ u = .slice q m mc ∧ ((rows.take k).map (·.n)).sum = S ∧ m ≤ S ∧ S ≤ 1000000 ∧ IsRow encA 3 wr q m mc (refOf ((rows.take k).flatMap (·.l))) ∧ Below w.heap.size w wr) (fun _ _ _ i _ _ => n - (intOf i).toNat)
  case atStart => exact ⟨0, 0, _, _, _, by omega, rfl, rfl, rfl, by omega, by omega, isRow_lit _ _ _ _, (Below.refl _ _).alloc (Nat.le_refl _) _⟩
  case round =>
    obtain ⟨k, S, q, m, mc, hk, rfl, rfl, hS, hmS, hS1, hrow, hb⟩ := hrel
    have HROW := Lib.hid hrow
    have HB := Lib.hid hb
    have HS := Lib.hid hS
    clear hrow hb hS
    by_cases hlt : k < n
    · obtain ⟨x, hx⟩ := get_of_lt (l := rows) (j := k) (by rw [HR.out.len]; exact hlt)
      have HE := Lib.hid hx
      obtain ⟨b, o, rfl, hbl, hc⟩ := (HR.out.below HB.out).row.elem hx
      have d0 := hc 0 _ rfl
      simp only [Nat.mul_one, Nat.add_zero] at d0
      have HD : Hid (∀ W, Below wr.heap.size wr W → W.cell? ⟨b, o + k, none⟩ = some (.slice x.p x.n x.cap)) := fun W h => by rw [h.cell hbl]; exact d0
      have HSS := Lib.hid (sum_take_get (·.n) rows k x hx)
      have hb1 : S + x.n ≤ 1000000 := by have := HSS.out.2; have := HT.out; have := HS.out; omega
      have HX := Lib.hid ((HOK.out x (List.mem_of_getElem? hx)).below HB.out)
      clear hx hbl hc
      obtain ⟨wo, rfl⟩ : ∃ wo : World, wo = wr := ⟨_, rfl⟩
      go_wp2_with fail
      go_loopw [3, 5, 17] (fun u _ i wi => ∃ (j : Nat) (q' : Option Addr) (m' mc' : Nat), j ≤ x.n ∧ i = .int .i64 j ∧ u = .slice q' m' mc' ∧ m' ≤ S + j ∧ IsRow encA 3 wi q' m' mc' (refOf ((rows.take k).flatMap (·.l) ++ x.l.take j)) ∧ Below wo.heap.size wo wi) (fun _ _ i _ => x.n - (intOf i).toNat)
      case atStart => exact ⟨0, q, m, mc, by omega, rfl, rfl, by omega, by simpa using HROW.out, Below.refl _ _⟩
      case round =>
        obtain ⟨j, q', m', mc', hj, rfl, rfl, hmj, hrow', hb'⟩ := hrel
        have HROW' := Lib.hid hrow'
        have HB' := Lib.hid hb'
        clear hrow' hb'
        by_cases hlt' : j < x.n
        · obtain ⟨y, hy⟩ := get_of_lt (l := x.l) (j := j) (by rw [HX.out.len]; exact hlt')
          have HY := Lib.hid hy
          obtain ⟨b2, o2, hb2, hbl2, e0, e1, e2⟩ := RowA.atom (HX.out.below HB'.out).row hy
          have d0' := HD.out _ HB'.out
          rw [hb2] at d0'
          clear d0 hy hb2 hbl2
          go_wp2_with fail
          refine (ref_put_row HROW'.out (by omega) y).mono ?_
          rintro e w1 ⟨⟨q2, m2, mc2, rfl, hr2⟩, hb⟩
          have HB1 := Lib.hid (HB'.out.trans (hb.mono HB'.out.size))
          have hm2 : m2 ≤ S + j + 1 := by have h1 := putA_length y (refOf ((rows.take k).flatMap (·.l) ++ x.l.take j)); have h2 := hr2.len; have h3 := HROW'.out.len; omega
          have HR2 := Lib.hid hr2
          clear hb e0 e1 e2 hr2 d0'
          go_wp2_with fail
          go_roundw
          case rel => exact ⟨j + 1, q2, m2, mc2, by omega, by go_num, rfl, by omega, by rw [take_succ_get HY.out, ← List.append_assoc, refOf_snoc]; exact HR2.out, HB1.out⟩
          case measure => simp [intOf]; omega
        · have hjn : j = x.n := by omega
          have HR2 : Hid (IsRow encA 3 wr q' m' mc' (refOf ((rows.take (k + 1)).flatMap (·.l)))) := by
            show IsRow _ _ _ _ _ _ _
            have h := HROW'.out
            rw [take_full (l := x.l) (by rw [HX.out.len]; omega), ← flat_take_succ HE.out] at h
            exact h
          go_wp2_with fail
          go_roundw
          case rel => exact ⟨k + 1, S + x.n, q', m', mc', by omega, by go_num, rfl, by have := HSS.out.1; have := HS.out; omega, by omega, hb1, HR2.out, HB.out.trans (HB'.out.mono HB.out.size)⟩
          case measure => simp [intOf]; omega
    · have hkn : k = n := by omega
      subst hkn
      go_wp2_with fail
      go_ret
      have h2 := HROW.out
      rw [take_full (by rw [HR.out.len]; omega), HE0.out] at h2
      exact ⟨IsOut.mk h2, HB.out⟩

/-- filtered after or before -/
theorem filter_effL (q : Atom → Bool) (l : List Atom) : (effL l).filter q = effL (l.filter q) := by
  refine eq_sortA ?_ (fun x => ?_)
  · exact List.Pairwise.filter _ (rising_sortA _)
  · simp only [List.mem_filter, mem_sortA]
    constructor
    · rintro ⟨⟨h1, h2⟩, h3⟩; exact ⟨⟨h1, h3⟩, h2⟩
    · rintro ⟨⟨h1, h3⟩, h2⟩; exact ⟨⟨h1, h2⟩, h3⟩

set_option maxHeartbeats 1000000 in
theorem ref_Without_any {p : Option Addr} {n cap : Nat} {l : List Atom} {p1 : Option Addr} {n1 c1 : Nat} {rhos : List Int} {w : World} (hr : IsRow encA 3 w p n cap l) (hm : n ≤ 1000000) (hr1 : IsRow encN 1 w p1 n1 c1 rhos) :
    Calls Tryz.prog 23 #[.slice p n cap, .slice p1 n1 c1] w fun e w' => IsOut encA 3 w' e (withoutL l rhos) ∧ Below w.heap.size w w' := by
  have HE0 : Hid (refOf (l.filter (fun x => !goesR rhos x)) = withoutL l rhos) := by show _ = _; rw [refOf_eq]; exact (filter_effL _ l).symm
  have HR := Lib.hid hr
  have HR1 := Lib.hid hr1
  clear hr hr1
  go_enter Tryz.func23, Tryz.ntmps23
  go_wp2_with fail
  go_loopw [5, 6, 10] (fun u _ i wr => ∃ (k : Nat) (q : Option Addr) (m mc : Nat), k ≤ n ∧ i = .int .i64 k ∧ u = .slice q m mc ∧ m ≤ k ∧ IsRow encA 3 wr q m mc (refOf ((l.take k).filter (fun x => !goesR rhos x))) ∧ Below w.heap.size w wr) (fun _ _ i _ => n - (intOf i).toNat)
  case atStart => exact ⟨0, _, _, _, by omega, rfl, rfl, by omega, isRow_lit _ _ _ _, (Below.refl _ _).alloc (Nat.le_refl _) _⟩
  case round =>
    obtain ⟨k, q, m, mc, hk, rfl, rfl, hmk, hrow, hb⟩ := hrel
    have HROW := Lib.hid hrow
    have HB := Lib.hid hb
    clear hrow hb
    by_cases hlt : k < n
    · obtain ⟨x, hx⟩ := get_of_lt (l := l) (j := k) (by rw [HR.out.len]; exact hlt)
      have HE := Lib.hid hx
      obtain ⟨b, o, rfl, hbl, d0, d1, d2⟩ := RowA.atom (HR.out.below HB.out).row hx
      clear hx hbl
      by_cases h3 : x.kind = 3
      · have h3' : (x.kind == 3) = true := by simpa using h3
        have HQ : Hid ((!goesR rhos x) = true) := by show _ = _; simp [goesR, h3]
        clear h3
        go_wp2_with fail
        refine (ref_put_row HROW.out (by omega) x).mono ?_
        rintro e w1 ⟨⟨q', m', mc', rfl, hr'⟩, hb⟩
        have HB1 := Lib.hid (HB.out.trans (hb.mono HB.out.size))
        have hm' : m' ≤ k + 1 := by have h1 := putA_length x (refOf ((l.take k).filter (fun x => !goesR rhos x))); have h2 := hr'.len; have h3 := HROW.out.len; omega
        have HR' := Lib.hid hr'
        clear hb d0 d1 d2 hr'
        go_wp2_with fail
        go_roundw
        case rel => exact ⟨k + 1, q', m', mc', by omega, by go_num, rfl, hm', by rw [take_succ_get HE.out, List.filter_append]; simp only [List.filter_cons, List.filter_nil, HQ.out, if_true]; rw [refOf_snoc]; exact HR'.out, HB1.out⟩
        case measure => simp [intOf]; omega
      · have h3' : (x.kind == 3) = false := by rw [beq_eq_false_iff_ne]; exact h3
        cases hi : inN rhos x.rho
        · have HI := Lib.hid hi
          have HQ : Hid ((!goesR rhos x) = true) := by show _ = _; simp [goesR, h3, hi]
          clear h3 hi
          go_wp2_with fail
          refine (ref_Ints_of HI.out (HR1.out.below HB.out)).mono ?_
          rintro e w0 ⟨rfl, rfl⟩
          go_wp2_with fail
          refine (ref_put_row HROW.out (by omega) x).mono ?_
          rintro e w1 ⟨⟨q', m', mc', rfl, hr'⟩, hb⟩
          have HB1 := Lib.hid (HB.out.trans (hb.mono HB.out.size))
          have hm' : m' ≤ k + 1 := by have h1 := putA_length x (refOf ((l.take k).filter (fun x => !goesR rhos x))); have h2 := hr'.len; have h3 := HROW.out.len; omega
          have HR' := Lib.hid hr'
          clear hb d0 d1 d2 hr'
          go_wp2_with fail
          go_roundw
          case rel => exact ⟨k + 1, q', m', mc', by omega, by go_num, rfl, hm', by rw [take_succ_get HE.out, List.filter_append]; simp only [List.filter_cons, List.filter_nil, HQ.out, if_true]; rw [refOf_snoc]; exact HR'.out, HB1.out⟩
          case measure => simp [intOf]; omega
        · have HI := Lib.hid hi
          have HQ : Hid ((!goesR rhos x) = false) := by show _ = _; simp [goesR, h3, hi]
          clear h3 hi
          go_wp2_with fail
          refine (ref_Ints_of HI.out (HR1.out.below HB.out)).mono ?_
          rintro e w0 ⟨rfl, rfl⟩
          go_wp2_with fail
          go_roundw
          case rel => exact ⟨k + 1, q, m, mc, by omega, by go_num, rfl, by omega, by rw [take_succ_get HE.out, List.filter_append]; simp only [List.filter_cons, List.filter_nil, HQ.out, List.append_nil, Bool.false_eq_true, if_false]; exact HROW.out, HB.out⟩
          case measure => simp [intOf]; omega
    · have hkn : k = n := by omega
      subst hkn
      go_wp2_with fail
      go_ret
      have h2 := HROW.out
      rw [take_full (by rw [HR.out.len]; omega), HE0.out] at h2
      exact ⟨IsOut.mk h2, HB.out⟩

theorem goesX_take {exns : List ByteArray} {j : Nat} {s : ByteArray} (h : exns[j]? = some s) (x : Atom) : goesX (exns.take (j + 1)) x = (goesX (exns.take j) x || (decide (x.kind = 3) && decide (s = x.exn))) := by
  unfold goesX inS
  rw [any_take_get h]
  cases decide (x.kind = 3) <;> rfl
set_option maxHeartbeats 2000000 in
theorem ref_Handled_any {p : Option Addr} {n cap : Nat} {l : List Atom} {p1 : Option Addr} {n1 c1 : Nat} {exns : List ByteArray} {w : World} (hr : IsRow encA 3 w p n cap l) (hm : n ≤ 1000000) (hr1 : IsRow encS 1 w p1 n1 c1 exns) :
    Calls Tryz.prog 24 #[.slice p n cap, .slice p1 n1 c1] w fun e w' => IsOut encA 3 w' e (handledL l exns) ∧ Below w.heap.size w w' := by
  have HE0 : Hid (refOf (l.filter (fun x => !goesX exns x)) = handledL l exns) := by show _ = _; rw [refOf_eq]; exact (filter_effL _ l).symm
  have hn1 := hr1.max
  have HR := Lib.hid hr
  have HR1 := Lib.hid hr1
  clear hr hr1
  go_enter Tryz.func24, Tryz.ntmps24
  go_wp2_with fail
  go_loopw [5, 6, 7, 8, 12, 17] (fun u _ _ _ i _ wr => ∃ (k : Nat) (q : Option Addr) (m mc : Nat), k ≤ n ∧ i = .int .i64 k ∧ u = .slice q m mc ∧ m ≤ k ∧ IsRow encA 3 wr q m mc (refOf ((l.take k).filter (fun x => !goesX exns x))) ∧ Below w.heap.size w wr) (fun _ _ _ _ i _ _ => n - (intOf i).toNat)
  case atStart => exact ⟨0, _, _, _, by omega, rfl, rfl, by omega, isRow_lit _ _ _ _, (Below.refl _ _).alloc (Nat.le_refl _) _⟩
  case round =>
    obtain ⟨k, q, m, mc, hk, rfl, rfl, hmk, hrow, hb⟩ := hrel
    have HROW := Lib.hid hrow
    have HB := Lib.hid hb
    clear hrow hb
    by_cases hlt : k < n
    · obtain ⟨x, hx⟩ := get_of_lt (l := l) (j := k) (by rw [HR.out.len]; exact hlt)
      have HE := Lib.hid hx
      obtain ⟨b, o, rfl, hbl, d0, d1, d2⟩ := RowA.atom (HR.out.below HB.out).row hx
      obtain ⟨kd, rr, ss⟩ := x
      simp only at d0 d1 d2
      clear hx hbl
      obtain ⟨wo, rfl⟩ : ∃ wo : World, wo = wr := ⟨_, rfl⟩
      go_wp2_with fail
      go_loopw [7, 8, 17] (fun t _ i wi => ∃ (j : Nat), j ≤ n1 ∧ i = .int .i64 j ∧ t = .bool (goesX (exns.take j) ⟨kd, rr, ss⟩) ∧ ∃ z, wi = wo.drewN z) (fun _ _ i _ => n1 - (intOf i).toNat)
      case atStart => exact ⟨0, by omega, rfl, by simp [goesX, inS], 0, rfl⟩
      case round =>
        obtain ⟨j, hj, rfl, rfl, z, rfl⟩ := hrel
        by_cases hlt' : j < n1
        · obtain ⟨s, hs⟩ := get_of_lt (l := exns) (j := j) (by rw [HR1.out.len]; exact hlt')
          have HS := Lib.hid hs
          have HT := Lib.hid (goesX_take hs ⟨kd, rr, ss⟩)
          obtain ⟨b2, o2, rfl, e0⟩ := (HR1.out.below HB.out).row.str hs
          clear hs
          cases hg : goesX (exns.take j) ⟨kd, rr, ss⟩
          · have HG := Lib.hid hg
            clear hg
            by_cases h3 : kd = 3
            · subst h3
              by_cases hss : s = ss
              · have hb : (s.toList == ss.toList) = true := by rw [bytes_beq]; simpa using hss
                have HN : Hid (goesX (exns.take (j + 1)) ⟨3, rr, ss⟩ = true) := by show _ = _; rw [HT.out]; simp [hss]
                clear hss
                go_wp2_with fail
                go_quiet (fail)
                go_wp2_with fail
                go_roundw
                case rel => exact ⟨j + 1, by omega, by go_num, by rw [HN.out], _, rfl⟩
                case measure => simp [intOf]; omega
              · have hb : (s.toList == ss.toList) = false := by rw [bytes_beq]; simpa using hss
                have HN : Hid (goesX (exns.take (j + 1)) ⟨3, rr, ss⟩ = false) := by show _ = _; rw [HT.out, HG.out]; simp [hss]
                clear hss
                go_wp2_with fail
                go_quiet (fail)
                go_wp2_with fail
                go_roundw
                case rel => exact ⟨j + 1, by omega, by go_num, by rw [HN.out], _, rfl⟩
                case measure => simp [intOf]; omega
            · have h3' : (kd == 3) = false := by rw [beq_eq_false_iff_ne]; exact h3
              have HN : Hid (goesX (exns.take (j + 1)) ⟨kd, rr, ss⟩ = false) := by show _ = _; rw [HT.out, HG.out]; simp [h3]
              clear h3
              go_wp2_with fail
              go_quiet (fail)
              go_wp2_with fail
              go_roundw
              case rel => exact ⟨j + 1, by omega, by go_num, by rw [HN.out], _, rfl⟩
              case measure => simp [intOf]; omega
          · have HN : Hid (goesX (exns.take (j + 1)) ⟨kd, rr, ss⟩ = true) := by show _ = _; rw [HT.out, hg]; rfl
            clear hg
            go_wp2_with fail
            go_quiet (fail)
            go_wp2_with fail
            go_roundw
            case rel => exact ⟨j + 1, by omega, by go_num, by rw [HN.out], _, rfl⟩
            case measure => simp [intOf]; omega
        · have hjn : j = n1 := by omega
          have HT : Hid (exns.take j = exns) := take_full (by rw [HR1.out.len]; omega)
          rw [HT.out]
          generalize hwz : wo.drewN z = wz
          have HBZ : Hid (Below w.heap.size w wz) := by show Below _ _ _; rw [← hwz]; exact below_drewN HB.out z
          have HROWz : Hid (IsRow encA 3 wz q m mc (refOf ((l.take k).filter (fun x => !goesX exns x)))) := by show IsRow _ _ _ _ _ _ _; rw [← hwz]; exact HROW.out.below (below_drewN (Below.refl _ _) z)
          have e0 : wz.cell? ⟨b, o + k * 3, none⟩ = some (.int .u8 kd) := by rw [← hwz]; exact d0
          have e1 : wz.cell? ⟨b, o + k * 3 + 1, none⟩ = some (.int .i64 rr) := by rw [← hwz]; exact d1
          have e2 : wz.cell? ⟨b, o + k * 3 + 2, none⟩ = some (.string ss) := by rw [← hwz]; exact d2
          clear d0 d1 d2 hwz
          cases hg : goesX exns ⟨kd, rr, ss⟩
          · have HQ : Hid ((!goesX exns ⟨kd, rr, ss⟩) = true) := by show _ = _; rw [hg]; rfl
            clear hg
            go_wp2_with fail
            refine (ref_put_row HROWz.out (by omega) ⟨kd, rr, ss⟩).mono ?_
            rintro e w1 ⟨⟨q', m', mc', rfl, hr'⟩, hb⟩
            have HB1 := Lib.hid (HBZ.out.trans (hb.mono HBZ.out.size))
            have hm' : m' ≤ k + 1 := by have h1 := putA_length ⟨kd, rr, ss⟩ (refOf ((l.take k).filter (fun x => !goesX exns x))); have h2 := hr'.len; have h3 := HROWz.out.len; omega
            have HR' := Lib.hid hr'
            clear hb e0 e1 e2 hr'
            go_wp2_with fail
            go_roundw
            case rel => exact ⟨k + 1, q', m', mc', by omega, by go_num, rfl, hm', by rw [take_succ_get HE.out, List.filter_append]; simp only [List.filter_cons, List.filter_nil, HQ.out, if_true]; rw [refOf_snoc]; exact HR'.out, HB1.out⟩
            case measure => simp [intOf]; omega
          · have HQ : Hid ((!goesX exns ⟨kd, rr, ss⟩) = false) := by show _ = _; rw [hg]; rfl
            clear hg
            go_wp2_with fail
            go_roundw
            case rel => exact ⟨k + 1, q, m, mc, by omega, by go_num, rfl, by omega, by rw [take_succ_get HE.out, List.filter_append]; simp only [List.filter_cons, List.filter_nil, HQ.out, List.append_nil, Bool.false_eq_true, if_false]; exact HROWz.out, HBZ.out⟩
            case measure => simp [intOf]; omega
    · have hkn : k = n := by omega
      subst hkn
      go_wp2_with fail
      go_ret
      have h2 := HROW.out
      rw [take_full (by rw [HR.out.len]; omega), HE0.out] at h2
      exact ⟨IsOut.mk h2, HB.out⟩
end Go.Proofs.YtekhblomdlehhaaGreatDoor
