/- EffectJoins, EffectDrops: the walks. -/
import Derived.Test.YtekhblomdlehhaaGreatDoorEff22
import Derived.Test.YtekhblomdlehhaaGreatDoorEff12
import Derived.Test.YtekhblomdlehhaaGreatDoorOpenG
set_option linter.unusedVariables false
set_option maxRecDepth 100000
set_option linter.unusedSimpArgs false
namespace Go.Proofs.YtekhblomdlehhaaGreatDoor
open Go.RowKit Go.Sort Go.Lib

theorem ref_Equal_row {p : Option Addr} {n cap : Nat} {l : List Atom} {q : Option Addr} {m mc : Nat} {w : World} (hr : IsRow encA 3 w p n cap l) (hr' : IsRow encA 3 w q m mc l) :
    Calls Tryz.prog 12 #[.slice p n cap, .slice q m mc] w fun e w' => e = .returned (.bool true) ∧ Below w.heap.size w w' := by
  refine (ref_Equal_any p n cap l q m mc l w hr.len hr.max hr.row hr'.len hr'.max hr'.row).mono ?_
  rintro e w' ⟨rfl, j, rfl⟩
  exact ⟨by simp [eqL], below_drewN (Below.refl _ _) _⟩
theorem ref_EqualInts_row {p : Option Addr} {n cap : Nat} {l : List Int} {q : Option Addr} {m mc : Nat} {w : World} (hr : IsRow encN 1 w p n cap l) (hr' : IsRow encN 1 w q m mc l) :
    Calls Tryz.prog 14 #[.slice p n cap, .slice q m mc] w fun e w' => e = .returned (.bool true) ∧ Below w.heap.size w w' := by
  refine (ref_EqualInts_any hr hr').mono ?_
  rintro e w' ⟨rfl, j, rfl⟩
  exact ⟨by simp [eqN], below_drewN (Below.refl _ _) _⟩
theorem ref_SameS_row {p : Option Addr} {n cap : Nat} {l : List ByteArray} {q : Option Addr} {m mc : Nat} {w : World} (hr : IsRow encS 1 w p n cap l) (hr' : IsRow encS 1 w q m mc l) :
    Calls Tryz.prog 17 #[.slice p n cap, .slice q m mc] w fun e w' => e = .returned (.bool true) ∧ Below w.heap.size w w' := by
  refine (ref_SameS_any hr hr').mono ?_
  rintro e w' ⟨rfl, j, rfl⟩
  exact ⟨by rw [(eqS_iff l l).2 rfl], below_drewN (Below.refl _ _) _⟩
theorem greatR_not {rows : List (SlE Atom)} {w : World} (h : greatR rows = false) (hok : ∀ r ∈ rows, r.Ok encA 3 w) : rows.length ≤ 10 ∧ (rows.map (·.n)).sum ≤ 1000 := by
  unfold greatR at h
  simp only [Bool.or_eq_false_iff, decide_eq_false_iff_not] at h
  have h1 : rows.length ≤ 10 := by omega
  refine ⟨h1, ?_⟩
  have h2 : ∀ r ∈ rows, r.n ≤ 100 := by
    intro r hr
    have := List.any_eq_false.1 h.2 r hr
    have := greatB_len (by simpa using this)
    rw [← (hok r hr).len]; exact this
  have h3 : ∀ l : List (SlE Atom), (∀ r ∈ l, r.n ≤ 100) → (l.map (·.n)).sum ≤ 100 * l.length := by
    intro l
    induction l with
    | nil => intro _; simp
    | cons a l ih =>
      intro h
      have i1 := ih (fun r hr => h r (List.mem_cons_of_mem _ hr))
      have i2 := h a (List.mem_cons_self ..)
      simp only [List.map_cons, List.sum_cons, List.length_cons]; omega
  have := h3 rows h2
  omega

set_option maxHeartbeats 2000000 in
theorem effectJoins_walk {w : World} (p : Option Addr) (n cap : Nat) (rows : List (SlE Atom)) (h : IsRow encSl 1 w p n cap rows ∧ ∀ r ∈ rows, r.Ok encA 3 w ∧ r.n ≤ 9223372036854775807 ∧ ∀ x ∈ r.l, okAt x) :
    Calls Tryz.prog 3 #[.slice p n cap] w fun e w' => e = .returned (.bool true) ∧ Below w.heap.size w w' := by
  obtain ⟨hr, hok0⟩ := h
  have HGR := Lib.hid (great_any hr (fun r hr => ⟨(hok0 r hr).1, (hok0 r hr).2.1⟩))
  have hok : ∀ r ∈ rows, r.Ok encA 3 w := fun r hr => (hok0 r hr).1
  clear hok0
  cases hg : greatR rows
  · obtain ⟨hl, ht⟩ := greatR_not hg hok
    have hn : n ≤ 10 := by have := hr.len; omega
    have HT := Lib.hid ht
    have HG := Lib.hid hg
    have HR := Lib.hid hr
    have HOK := Lib.hid hok
    clear hr hok
    have HEX : Hid (exnsL (effL (effL (rows.flatMap (·.l)))) = exnsL (effL (rows.flatMap (·.l)))) := by
      show _ = _
      congr 1
      exact sortA_congr (fun x => by rw [List.mem_filter, mem_sortA, List.mem_filter]; exact ⟨fun h => h.1, fun h => ⟨h, h.2⟩⟩)
    have HRX := Lib.hid (rhosOf_effL (rows.flatMap (·.l)))
    clear hg hl ht
    go_enter Tryz.func3, Tryz.ntmps3
    go_wp2_with fail
    refine HGR.out.mono ?_
    rintro e w1 ⟨rfl, rfl⟩
    rw [HG.out]
    go_wp2_with fail
    refine (ref_Union_any HR.out (by omega) HOK.out (by have := HT.out; omega)).mono ?_
    rintro e w1 ⟨⟨q, m, mc, rfl, hrow⟩, hb⟩
    have HALL := Lib.hid hrow
    have HB1 := Lib.hid hb
    have hm : m ≤ 1000 := by
      have h1 := effL_length (rows.flatMap (·.l))
      have h2 := hrow.len
      have h3 : (rows.flatMap (·.l)).length = (rows.map (·.n)).sum := by
        rw [List.length_flatMap]
        congr 1
        exact List.map_congr_left (fun r hr => (HOK.out r hr).len)
      have := HT.out
      omega
    clear hb hrow
    go_wp2_with fail
    refine (effect_Union_any p n cap rows w1 HR.out.len (by omega) (HR.out.below HB1.out).row (fun r hr => (HOK.out r hr).below HB1.out) (by have := HT.out; omega)).mono ?_
    rintro e w2 ⟨v, k, rfl, hk, hown, hb⟩
    obtain ⟨u, uc, rfl, hur⟩ := hown.isRow encA_len (by omega)
    have HU : Hid (IsRow encA 3 w2 u k uc (effL (rows.flatMap (·.l)))) := hur
    have HB2 := Lib.hid (HB1.out.trans (hb.mono HB1.out.size))
    have HALL2 := Lib.hid (HALL.out.below hb)
    clear hb hown hur hk
    go_wp2_with fail
    refine (ref_Equal_row HU.out HALL2.out).mono ?_
    rintro e w3 ⟨rfl, hb⟩
    have HB3 := Lib.hid (HB2.out.trans (hb.mono HB2.out.size))
    have HALL3 := Lib.hid (HALL2.out.below hb)
    clear hb
    go_wp2_with fail
    refine (effect_Rhos_any p n cap rows w3 HR.out.len (by omega) (HR.out.below HB3.out).row (fun r hr => (HOK.out r hr).below HB3.out) (by have := HT.out; omega)).mono ?_
    rintro e w4 ⟨q4, m4, c4, rfl, hm4, hr4, hb⟩
    have HR4 := Lib.hid hr4
    have HB4 := Lib.hid (HB3.out.trans (hb.mono HB3.out.size))
    have HALL4 := Lib.hid (HALL3.out.below hb)
    clear hb hr4
    go_wp2_with fail
    refine (ref_Rhos_any HALL4.out (by omega)).mono ?_
    rintro e w5 ⟨⟨q5, m5, c5, rfl, hr5⟩, hb⟩
    rw [HRX.out] at hr5
    have HR5 := Lib.hid hr5
    have HR45 := Lib.hid (HR4.out.below hb)
    have HB5 := Lib.hid (HB4.out.trans (hb.mono HB4.out.size))
    have HALL5 := Lib.hid (HALL4.out.below hb)
    clear hb hr5
    go_wp2_with fail
    refine (ref_EqualInts_row HR45.out HR5.out).mono ?_
    rintro e w6 ⟨rfl, hb⟩
    have HB6 := Lib.hid (HB5.out.trans (hb.mono HB5.out.size))
    have HALL6 := Lib.hid (HALL5.out.below hb)
    clear hb
    go_wp2_with fail
    refine (effect_Exns_any p n cap rows w6 HR.out.len (by omega) (HR.out.below HB6.out).row (fun r hr => (HOK.out r hr).below HB6.out) (by have := HT.out; omega)).mono ?_
    rintro e w7 ⟨v, m7, rfl, hm7, hown, hb⟩
    obtain ⟨q7, c7, rfl, hr7⟩ := hown.isRow encS_len (by omega)
    have HR7 : Hid (IsRow encS 1 w7 q7 m7 c7 (exnsL (effL (rows.flatMap (·.l))))) := hr7
    have HB7 := Lib.hid (HB6.out.trans (hb.mono HB6.out.size))
    have HALL7 := Lib.hid (HALL6.out.below hb)
    clear hb hown hr7
    go_wp2_with fail
    refine (ref_Exns_any HALL7.out (by omega)).mono ?_
    rintro e w8 ⟨⟨q8, m8, c8, rfl, hr8⟩, hb⟩
    rw [HEX.out] at hr8
    have HR8 := Lib.hid hr8
    have HR78 := Lib.hid (HR7.out.below hb)
    have HB8 := Lib.hid (HB7.out.trans (hb.mono HB7.out.size))
    clear hb hr8
    go_wp2_with fail
    refine (ref_SameS_row HR78.out HR8.out).mono ?_
    rintro e w9 ⟨rfl, hb⟩
    have HB9 := Lib.hid (HB8.out.trans (hb.mono HB8.out.size))
    clear hb
    go_wp2_with fail
    refine (awake_any w9).mono ?_
    rintro e w10 ⟨rfl, hb⟩
    have HB10 := Lib.hid (HB9.out.trans (hb.mono HB9.out.size))
    clear hb
    go_wp2_with fail
    go_ret
    exact ⟨rfl, HB10.out⟩
  · have HG := Lib.hid hg
    clear hg hr hok
    go_enter Tryz.func3, Tryz.ntmps3
    go_wp2_with fail
    refine HGR.out.mono ?_
    rintro e w1 ⟨rfl, rfl⟩
    rw [HG.out]
    go_wp2_with fail
    refine (awake_any w).mono ?_
    rintro e w2 ⟨rfl, hb⟩
    have HB := Lib.hid hb
    clear hb
    go_wp2_with fail
    go_ret
    exact ⟨rfl, HB.out⟩

theorem ref_InS_is {p : Option Addr} {n cap : Nat} {l : List ByteArray} {w : World} (hr : IsRow encS 1 w p n cap l) {s : ByteArray} {r : Bool} (hq : inS l s = r) :
    Calls Tryz.prog 26 #[.slice p n cap, .string s] w fun e w' => e = .returned (.bool r) ∧ w = w' := by
  subst hq; exact ref_InS_any hr s

set_option maxHeartbeats 4000000 in
theorem effectDrops_walk {w : World} (p : Option Addr) (n cap : Nat) (l : List Atom) (hr : IsRow encA 3 w p n cap l) (p1 : Option Addr) (n1 c1 : Nat) (rhos : List Int) (hr1 : IsRow encN 1 w p1 n1 c1 rhos) (p2 : Option Addr) (n2 c2 : Nat) (exns : List ByteArray) (hr2 : IsRow encS 1 w p2 n2 c2 exns ∧ ∀ s ∈ exns, s.size ≤ 9223372036854775807) :
    Calls Tryz.prog 4 #[.slice p n cap, .slice p1 n1 c1, .slice p2 n2 c2] w fun e w' => e = .returned (.bool true) ∧ Below w.heap.size w w' := by
  obtain ⟨hr2, hsz⟩ := hr2
  have HB0 := Lib.hid (Below.refl w.heap.size w)
  have hx1 := hr1.max
  have hx2 := hr2.max
  have HR := Lib.hid hr
  have HR1 := Lib.hid hr1
  have HR2 := Lib.hid hr2
  have HSZ := Lib.hid hsz
  clear hr hr1 hr2 hsz
  cases hg : greatB l
  · have HG := Lib.hid hg
    have hn : n ≤ 100 := by have := greatB_len hg; have := HR.out.len; omega
    clear hg
    by_cases h1 : 100 < n1
    · go_enter Tryz.func4, Tryz.ntmps4
      go_wp2_with fail
      refine (ref_Great_is HG.out HR.out).mono ?_
      rintro e w1 ⟨rfl, rfl⟩
      go_wp2_with fail
      refine (awake_any w).mono ?_
      rintro e wz ⟨rfl, hb⟩
      have HBZ := Lib.hid (HB0.out.trans (hb.mono HB0.out.size))
      clear hb
      go_wp2_with fail
      go_ret
      exact ⟨rfl, HBZ.out⟩
    by_cases h2 : 100 < n2
    · go_enter Tryz.func4, Tryz.ntmps4
      go_wp2_with fail
      refine (ref_Great_is HG.out HR.out).mono ?_
      rintro e w1 ⟨rfl, rfl⟩
      go_wp2_with fail
      refine (awake_any w).mono ?_
      rintro e wz ⟨rfl, hb⟩
      have HBZ := Lib.hid (HB0.out.trans (hb.mono HB0.out.size))
      clear hb
      go_wp2_with fail
      go_ret
      exact ⟨rfl, HBZ.out⟩
    have hn1 : n1 ≤ 100 := by omega
    have hn2 : n2 ≤ 100 := by omega
    clear h1 h2 hx1 hx2
    go_enter Tryz.func4, Tryz.ntmps4
    go_wp2_with fail
    refine (ref_Great_is HG.out HR.out).mono ?_
    rintro e w1 ⟨rfl, rfl⟩
    go_wp2_with fail
    go_loop [7] (fun i => ∃ k : Nat, k ≤ n2 ∧ i = .int .i64 k) (fun i => n2 - (intOf i).toNat)
    case atStart => exact ⟨0, by omega, rfl⟩
    case round =>
      obtain ⟨k, hk, rfl⟩ := hrel
      by_cases hlt : k < n2
      · obtain ⟨x, hx⟩ := get_of_lt (l := exns) (j := k) (by rw [HR2.out.len]; exact hlt)
        obtain ⟨b, o, rfl, d0⟩ := HR2.out.row.str hx
        have hs := HSZ.out x (List.mem_of_getElem? hx)
        clear hx
        by_cases h100 : 100 < x.size
        · go_wp2_with fail
          refine (awake_any w).mono ?_
          rintro e wz ⟨rfl, hb⟩
          have HBZ := Lib.hid (HB0.out.trans (hb.mono HB0.out.size))
          clear hb
          go_wp2_with fail
          go_ret
          exact ⟨rfl, HBZ.out⟩
        · go_wp2_with fail
          go_round
          case rel => exact ⟨k + 1, by omega, by go_num⟩
          case measure => simp [intOf]; omega
      · go_wp2_with fail
        refine (effect_Without_any HR.out (by omega) HR1.out).mono ?_
        rintro e w1 ⟨v, k1, rfl, hk1, hown, hb⟩
        obtain ⟨u, uc, rfl, hur⟩ := hown.isRow encA_len (by omega)
        have HA := Lib.hid hur
        have HB1 := Lib.hid hb
        clear hb
        clear hown hur
        go_wp2_with fail
        refine (effect_Handled_any (HR.out.below HB1.out) (by omega) (HR2.out.below HB1.out)).mono ?_
        rintro e w2 ⟨v, k2, rfl, hk2, hown, hb⟩
        obtain ⟨u2, uc2, rfl, hur⟩ := hown.isRow encA_len (by omega)
        have HH2 := Lib.hid hur
        have HA2 := Lib.hid (HA.out.below hb)
        have HB2 := Lib.hid (HB1.out.trans (hb.mono HB1.out.size))
        clear hown hur hb
        go_wp2_with fail
        refine (ref_Without_any (HR.out.below HB2.out) (by omega) (HR1.out.below HB2.out)).mono ?_
        rintro e w3 ⟨⟨q3, m3, c3, rfl, hr3⟩, hb⟩
        have HW3 := Lib.hid hr3
        have HA3 := Lib.hid (HA2.out.below hb)
        have HH3 := Lib.hid (HH2.out.below hb)
        have HB3 := Lib.hid (HB2.out.trans (hb.mono HB2.out.size))
        clear hr3 hb
        go_wp2_with fail
        refine (ref_Equal_row HA3.out HW3.out).mono ?_
        rintro e w4 ⟨rfl, hb⟩
        have HA4 := Lib.hid (HA3.out.below hb)
        have HH4 := Lib.hid (HH3.out.below hb)
        have HB4 := Lib.hid (HB3.out.trans (hb.mono HB3.out.size))
        clear hb
        go_wp2_with fail
        refine (ref_Handled_any (HR.out.below HB4.out) (by omega) (HR2.out.below HB4.out)).mono ?_
        rintro e w5 ⟨⟨q5, m5, c5, rfl, hr5⟩, hb⟩
        have HW5 := Lib.hid hr5
        have HA5 := Lib.hid (HA4.out.below hb)
        have HH5 := Lib.hid (HH4.out.below hb)
        have HB5 := Lib.hid (HB4.out.trans (hb.mono HB4.out.size))
        clear hr5 hb
        go_wp2_with fail
        refine (ref_Equal_row HH5.out HW5.out).mono ?_
        rintro e w6 ⟨rfl, hb⟩
        have HA6 := Lib.hid (HA5.out.below hb)
        have HH6 := Lib.hid (HH5.out.below hb)
        have HB6 := Lib.hid (HB5.out.trans (hb.mono HB5.out.size))
        clear hb
        go_wp2_with fail
        refine (effect_Rhos_any _ 1 1 [⟨u, k1, uc, withoutL l rhos⟩] _ rfl (by omega) (one_row _ _) (by exact one_ok (HA6.out.alloc _)) (by simp; omega)).mono ?_
        rintro e w7 ⟨q7, m7, c7, rfl, hm7, hr7, hb⟩
        simp only [List.flatMap_cons, List.flatMap_nil, List.append_nil] at hr7
        have HRR := Lib.hid hr7
        have HB7 : Hid (Below w.heap.size w w7) := (HB6.out.alloc HB6.out.size _).trans (hb.mono (by have := HB6.out.size; simp; omega))
        have HH7 := Lib.hid ((HH6.out.alloc _).below hb)
        have HNO : Hid (∀ r ∈ rhosOf (withoutL l rhos), inN rhos r = false) := by
          show ∀ r ∈ _, _
          intro r hr
          obtain ⟨x, hx, ha, hk, rfl⟩ := (mem_rhosOf _ _).1 hr
          have := ((mem_withoutL l rhos x).1 hx).2.2
          unfold goesR at this
          rw [decide_eq_true hk, Bool.true_and] at this
          exact this
        clear hr7 hb
        generalize rhosOf (withoutL l rhos) = RL at HRR HNO
        go_wp2_with fail
        go_loop [11] (fun i => ∃ k : Nat, k ≤ m7 ∧ i = .int .i64 k) (fun i => m7 - (intOf i).toNat)
        case atStart => exact ⟨0, by omega, rfl⟩
        case round =>
          obtain ⟨j, hj, rfl⟩ := hrel
          by_cases hlt : j < m7
          · obtain ⟨x, hx⟩ := get_of_lt (l := RL) (j := j) (by rw [HRR.out.len]; exact hlt)
            obtain ⟨b, o, rfl, d0⟩ := HRR.out.row.num hx
            have HI := Lib.hid (HNO.out x (List.mem_of_getElem? hx))
            clear hx
            go_wp2_with fail
            refine (ref_Ints_of HI.out (HR1.out.below HB7.out)).mono ?_
            rintro e w8 ⟨rfl, rfl⟩
            go_wp2_with fail
            go_round
            case rel => exact ⟨j + 1, by omega, by go_num⟩
            case measure => simp [intOf]; omega
          · go_wp2_with fail
            refine (effect_Exns_any _ 1 1 [⟨u2, k2, uc2, handledL l exns⟩] _ rfl (by omega) (one_row _ _) (by exact one_ok (HH7.out.alloc _)) (by simp; omega)).mono ?_
            rintro e w8 ⟨v, m8, rfl, hm8, hown, hb⟩
            simp only [List.flatMap_cons, List.flatMap_nil, List.append_nil] at hown
            obtain ⟨q8, c8, rfl, hr8⟩ := hown.isRow encS_len (by omega)
            have HRS : Hid (IsRow encS 1 w8 q8 m8 c8 (exnsL (effL (handledL l exns)))) := hr8
            have HB8 : Hid (Below w.heap.size w w8) := (HB7.out.alloc HB7.out.size _).trans (hb.mono (by have := HB7.out.size; simp; omega))
            have HNS : Hid (∀ s ∈ exnsL (effL (handledL l exns)), inS exns s = false) := by
              show ∀ s ∈ _, _
              intro s hs
              obtain ⟨x, hx, hk, rfl⟩ := (mem_exnsL _ _).1 hs
              rw [mem_sortA, List.mem_filter] at hx
              have := ((mem_handledL l exns x).1 hx.1).2.2
              unfold goesX at this
              rw [decide_eq_true hk, Bool.true_and] at this
              exact this
            clear hown hr8 hb
            generalize exnsL (effL (handledL l exns)) = SL at HRS HNS
            go_wp2_with fail
            go_loop [13] (fun i => ∃ k : Nat, k ≤ m8 ∧ i = .int .i64 k) (fun i => m8 - (intOf i).toNat)
            case atStart => exact ⟨0, by omega, rfl⟩
            case round =>
              obtain ⟨i, hi, rfl⟩ := hrel
              by_cases hlt : i < m8
              · obtain ⟨x, hx⟩ := get_of_lt (l := SL) (j := i) (by rw [HRS.out.len]; exact hlt)
                obtain ⟨b, o, rfl, d0⟩ := HRS.out.row.str hx
                have HI := Lib.hid (HNS.out x (List.mem_of_getElem? hx))
                clear hx
                go_wp2_with fail
                refine (ref_InS_is (HR2.out.below HB8.out) HI.out).mono ?_
                rintro e w9 ⟨rfl, rfl⟩
                go_wp2_with fail
                go_round
                case rel => exact ⟨i + 1, by omega, by go_num⟩
                case measure => simp [intOf]; omega
              · go_wp2_with fail
                refine (awake_any w8).mono ?_
                rintro e wz ⟨rfl, hb⟩
                have HBZ := Lib.hid (HB8.out.trans (hb.mono HB8.out.size))
                clear hb
                go_wp2_with fail
                go_ret
                exact ⟨rfl, HBZ.out⟩
  · have HG := Lib.hid hg
    clear hg
    go_enter Tryz.func4, Tryz.ntmps4
    go_wp2_with fail
    refine (ref_Great_is HG.out HR.out).mono ?_
    rintro e w1 ⟨rfl, rfl⟩
    go_wp2_with fail
    refine (awake_any w).mono ?_
    rintro e wz ⟨rfl, hb⟩
    have HBZ := Lib.hid (HB0.out.trans (hb.mono HB0.out.size))
    clear hb
    go_wp2_with fail
    go_ret
    exact ⟨rfl, HBZ.out⟩
end Go.Proofs.YtekhblomdlehhaaGreatDoor
