/- The walk of RtypeBare: types without regions, with other regions; rtype.Swap, Bare; enclaveref08.Size, May, Same; the law. -/
import Derived.Test.YtekhblomdlehhaaGreatDoorRtA
import Derived.Deep.RegionLaw
import Derived.Test.YtekhblomdlehhaaGreatDoorEff19
import Derived.Deep.CutRange
set_option linter.unusedVariables false
set_option maxRecDepth 100000
set_option linter.unusedSimpArgs false
namespace Go.Proofs.YtekhblomdlehhaaGreatDoor
section
open Go.RowKit Go.Sort Go.Lib

theorem ref_May12_is {t : PT} {w : World} {r : Bool} (hr : mayT t.er = r) (hl : LR.lies w t) : Calls Tryz.prog 28 #[aggR t.head] w fun e w' => e = .returned (.bool r) ∧ Below w.heap.size w w' := by
  subst hr; exact ref_May12_any t w hl
theorem boxT {w : World} {t : PT} : Below w.heap.size w (w.alloc (.cells #[.int .u8 t.head.kind, .int .i64 t.head.rho, .slice t.head.ep t.head.en t.head.ec, .slice t.head.kp t.head.kn t.head.kc] 47)) := (Below.refl w.heap.size w).alloc (Nat.le_refl _) _
/-- the box's cells, later -/
theorem boxT_cells {w w1 : World} {t : PT} (hb : Below (w.heap.size + 1) (w.alloc (.cells #[.int .u8 t.head.kind, .int .i64 t.head.rho, .slice t.head.ep t.head.en t.head.ec, .slice t.head.kp t.head.kn t.head.kc] 47)) w1) :
    w1.cell? ⟨w.heap.size, 0, none⟩ = some (.int .u8 t.head.kind) ∧ w1.cell? ⟨w.heap.size, 1, none⟩ = some (.int .i64 t.head.rho) ∧ w1.cell? ⟨w.heap.size, 2, none⟩ = some (.slice t.head.ep t.head.en t.head.ec) ∧ w1.cell? ⟨w.heap.size, 3, none⟩ = some (.slice t.head.kp t.head.kn t.head.kc) := by
  refine ⟨?_, ?_, ?_, ?_⟩ <;> (rw [hb.cell (by simp), cell_new]; rfl)

theorem eqInts_true {p : Option Addr} {n cap : Nat} {l : List Int} {q : Option Addr} {m mc : Nat} {w : World} (hr : IsRow encN 1 w p n cap l) (hr' : IsRow encN 1 w q m mc l) :
    Calls Tryz.prog 14 #[.slice p n cap, .slice q m mc] w fun e w' => e = .returned (.bool true) ∧ Below w.heap.size w w' := by
  refine (ref_EqualInts_any hr hr').mono ?_
  rintro e w' ⟨rfl, j, rfl⟩
  exact ⟨by rw [eqN_refl], below_drewN (Below.refl _ _) _⟩
set_option maxHeartbeats 4000000 in
theorem rtypeParts_walk {w : World} (hT : Tab w) (t : PT) (hl : LR.lies w t) :
    Calls Tryz.prog 5 #[aggR t.head] w fun e w' => e = .returned (.bool true) ∧ Below w.heap.size w w' := by
  have HTAB := Lib.hid hT
  have HBX := Lib.hid (boxT (w := w) (t := t))
  have HL := Lib.hid (fun W (h : Below w.heap.size w W) => LR.lies_below h t hl)
  have HSM := Lib.hid (fun h : SmallT t.er 100 => smallP hl h)
  have hkm : t.head.kn ≤ 9223372036854775807 := by obtain ⟨a, l⟩ := t; exact (nodeIn hl).own.kmax
  have HKS := Lib.hid (fun h : mayT t.er = true => show t.kids.all (fun x => mayT (PT.er x)) = true by obtain ⟨a, l⟩ := t; rw [mayT_er, Bool.and_eq_true] at h; exact h.2)
  have HN : Hid (∀ W, Below w.heap.size w W → NodeIn W t.head t.kids) := fun W h => nodeIn ((Rose.eta t) ▸ LR.lies_below h t hl)
  clear hT
  go_enter Tryz.func5, Tryz.ntmps5
  go_wp2_with fail
  refine (ref_Great12_any (HL.out _ HBX.out)).mono ?_
  rintro e w1 ⟨⟨r, rfl, hsm⟩, hb⟩
  have HB1 := Lib.hid (HBX.out.trans (hb.mono HBX.out.size))
  have HC1 := Lib.hid (show Below (w.heap.size + 1) (w.alloc (.cells #[.int .u8 t.head.kind, .int .i64 t.head.rho, .slice t.head.ep t.head.en t.head.ec, .slice t.head.kp t.head.kn t.head.kc] 47)) w1 by simpa using hb)
  have HG := Lib.hid hsm
  clear hb hsm
  cases r
  · have HP := Lib.hid (HSM.out (HG.out rfl))
    obtain ⟨d0, d1, d2, d3⟩ := boxT_cells HC1.out
    cases hm : mayT t.er
    · have HM := Lib.hid hm
      clear hm
      go_wp2_with fail
      refine (ref_May12_is HM.out (HL.out _ HB1.out)).mono ?_
      rintro e w2 ⟨rfl, hb⟩
      have HB2 := Lib.hid (HB1.out.trans (hb.mono HB1.out.size))
      clear hb d0 d1 d2 d3
      go_wp2_with fail
      refine (awake12_any (HTAB.out.below HB2.out)).mono ?_
      rintro e w3 ⟨rfl, hb⟩
      have HB3 := Lib.hid (HB2.out.trans (hb.mono HB2.out.size))
      clear hb
      go_wp2_with fail
      go_ret
      exact ⟨rfl, HB3.out⟩
    · have HM := Lib.hid hm
      have HKM := Lib.hid (HKS.out hm)
      clear hm
      go_wp2_with fail
      refine (ref_May12_is HM.out (HL.out _ HB1.out)).mono ?_
      rintro e w2 ⟨rfl, hb⟩
      have HB2 := Lib.hid (HB1.out.trans (hb.mono HB1.out.size))
      have HC2 := Lib.hid (HC1.out.trans (hb.mono (by have := HC1.out.size; simpa using this)))
      clear hb d0 d1 d2 d3
      obtain ⟨d0, d1, d2, d3⟩ := boxT_cells HC2.out
      go_wp2_with fail
      refine (rtype_Rhos_any (HN.out _ HB2.out).rowT (Nat.le_trans HP.out.gath (by omega)) HP.out.en).mono ?_
      rintro e w3 ⟨q, m, c, rfl, hm, hrow, hb⟩
      have HB3 := Lib.hid (HB2.out.trans (hb.mono HB2.out.size))
      have HC3 := Lib.hid (HC2.out.trans (hb.mono (by have := HC2.out.size; simpa using this)))
      have HR3 := Lib.hid hrow
      clear hb d0 d1 d2 d3 hrow
      obtain ⟨d0, d1, d2, d3⟩ := boxT_cells HC3.out
      by_cases h1 : t.head.kind = 1
      · have hb1 : (t.head.kind != 1) = false := by simp [h1]
        have HEQ := Lib.hid (parts_eq1 t h1)
        clear h1
        go_wp2_with fail
        rw [HEQ.out] at HR3
        clear d0 d1 d2 d3
        have HSS : Hid (∀ W, Below w3.heap.size w3 W → W.cell? ⟨w.heap.size, 0, none⟩ = some (.int .u8 t.head.kind) ∧ W.cell? ⟨w.heap.size, 1, none⟩ = some (.int .i64 t.head.rho) ∧ W.cell? ⟨w.heap.size, 2, none⟩ = some (.slice t.head.ep t.head.en t.head.ec) ∧ W.cell? ⟨w.heap.size, 3, none⟩ = some (.slice t.head.kp t.head.kn t.head.kc) ∧ Below w3.heap.size w3 W) := fun W h => by
          obtain ⟨a0, a1, a2, a3⟩ := boxT_cells (HC3.out.trans (h.mono (by have := HC3.out.size; simpa using this)))
          exact ⟨a0, a1, a2, a3, h⟩
        have HBZ : Hid (∀ W, Below w3.heap.size w3 W → Below w.heap.size w W) := fun W h => HB3.out.trans (h.mono HB3.out.size)
        have HRT : Hid (∀ W g, Below w3.heap.size w3 W → W.cell? ⟨g, 0, none⟩ = some (.int .u8 t.head.kind) ∧ W.cell? ⟨g, 1, none⟩ = some (.int .i64 t.head.rho) ∧ W.cell? ⟨g, 2, none⟩ = some (.slice t.head.ep t.head.en t.head.ec) ∧ W.cell? ⟨g, 3, none⟩ = some (.slice t.head.kp t.head.kn t.head.kc) → RowT W (some ⟨g, 0, none⟩) 1 1 [t]) := fun W g h hc => rowT_cells (HL.out _ (HBZ.out _ h)) hc.1 hc.2.1 hc.2.2.1 hc.2.2.2
        have HMK : Hid (∀ W, Below w3.heap.size w3 W → Calls Tryz.prog 32 #[.slice t.head.kp t.head.kn t.head.kc] W fun e w' => e = .returned (.bool true) ∧ Below W.heap.size W w') := fun W h => by
          have := rtype_May_any (HN.out W (HBZ.out _ h)).rowT
          rw [HKM.out] at this
          exact this
        generalize hK : sizes t.kids = K at *
        have hN1 : sizes [t] = K + 1 := by have h1 := HP.out.sizes; rw [hK] at h1; have h2 : sizes [t] = t.size := by simp [sizes]
                                           omega
        have hK1 : K ≤ 100 := by have h1 := HP.out.sizes; rw [hK] at h1; have := HP.out.size; omega
        obtain ⟨Z, hz⟩ : ∃ Z : Int, 1 + (K : Int) = Z := ⟨_, rfl⟩
        have hz0 : 0 ≤ Z := by omega
        have hz1 : Z ≤ 101 := by omega
        have HS1 : Hid (∀ W g, RowT W (some ⟨g, 0, none⟩) 1 1 [t] → Calls Tryz.prog 33 #[.slice (some ⟨g, 0, none⟩) 1 1] W fun e w' => e = .returned (.int .i64 Z) ∧ Below W.heap.size W w') := fun W g h => by
          have := rtype_Size_any h (by omega)
          rw [hN1, show ((K + 1 : Nat) : Int) = Z by omega] at this
          exact this
        have HS2 : Hid (∀ W, Below w3.heap.size w3 W → Calls Tryz.prog 33 #[.slice t.head.kp t.head.kn t.head.kc] W fun e w' => e = .returned (.int .i64 (K : Int)) ∧ Below W.heap.size W w') := fun W h => by
          have := rtype_Size_any (HN.out W (HBZ.out _ h)).rowT (by omega)
          rw [hK] at this
          exact this
        have hw : IntKind.i64.wrap (1 + (K : Int)) = Z := by rw [← hz]; exact IntWalk.i64_in _ (by omega)
        clear hK hN1 hl hz
        go_region_held3 (fun W => W.cell? ⟨w.heap.size, 0, none⟩ = some (.int .u8 t.head.kind) ∧ W.cell? ⟨w.heap.size, 1, none⟩ = some (.int .i64 t.head.rho) ∧ W.cell? ⟨w.heap.size, 2, none⟩ = some (.slice t.head.ep t.head.en t.head.ec) ∧ W.cell? ⟨w.heap.size, 3, none⟩ = some (.slice t.head.kp t.head.kn t.head.kc) ∧ Below w3.heap.size w3 W)
          (first
            | exact HSS.out _ (bel_drew _)
            | exact HSS.out _ (bel_alloc (by go_split_ands; assumption) _)
            | exact HSS.out _ hZ)
          (first
            | (go_at_call 30; refine (rtype_Rhos_any (HRT.out _ _ (by go_split_ands; assumption) (by refine ⟨?_, ?_, ?_, ?_⟩ <;> go_simp)) (Nat.le_trans HP.out.gath1 (by omega)) HP.out.en1).mono ?_; rintro e w8 ⟨q8, m8, c8, rfl, hm8, hrow8, hb8⟩; have hZ := bel_step (w0 := w3) (by go_split_ands; assumption) hb8)
            | (go_at_call 14; refine (eqInts_true hrow8 (HR3.out.below (by go_split_ands; assumption))).mono ?_; rintro e w8 ⟨rfl, hb8⟩; have hZ := bel_step (w0 := w3) (by go_split_ands; assumption) hb8)
            | (go_at_call 32; refine (HMK.out _ (by go_split_ands; assumption)).mono ?_; rintro e w8 ⟨rfl, hb8⟩; have hZ := bel_step (w0 := w3) (by go_split_ands; assumption) hb8)
            | (go_at_call 33; (fail_if_success (have := hSz)); refine (HS1.out _ _ (HRT.out _ _ (by go_split_ands; assumption) (by refine ⟨?_, ?_, ?_, ?_⟩ <;> go_simp))).mono ?_; rintro e w8 ⟨rfl, hSz⟩; have hZ := bel_step (w0 := w3) (by go_split_ands; assumption) hSz)
            | (go_at_call 33; refine (HS2.out _ (by go_split_ands; assumption)).mono ?_; rintro e w8 ⟨rfl, hb8⟩; have hZ := bel_step (w0 := w3) (by go_split_ands; assumption) hb8)
            | (go_at_call 29; refine (awake12_any (HTAB.out.below (HBZ.out _ (by go_split_ands; assumption)))).mono ?_; rintro e w8 ⟨rfl, hb8⟩; have hZ := bel_step (w0 := w3) (by go_split_ands; assumption) hb8))
        rename_i hH
        clear hH
        have HBE := Lib.hid (HBZ.out _ hZ)
        clear hZ
        go_wp2_with fail
        go_ret
        exact ⟨rfl, HBE.out⟩
      · have hb1 : (t.head.kind != 1) = true := by simpa using h1
        have HEQ := Lib.hid (parts_eq t h1)
        clear h1
        have hlk : (sortI (gathL t.kids)).length ≤ 10100 := Nat.le_trans (sortR_length ltI _) HP.out.gath
        have HPL := Lib.hid (putI_len (a := t.head.rho) hlk)
        have HRL : Hid ((rhosOf t.head.eff).length ≤ 100) := Nat.le_trans (rhosOf_length _) (greatB_len' HP.out.eff)
        have hen : t.head.en ≤ 100 := by have h1 := (HN.out _ (Below.refl _ _)).own.eff.len; have h2 := greatB_len' HP.out.eff; omega
        clear hlk
        go_wp2_with fail
        refine (ref_PutInt_any HR3.out (by omega) t.head.rho).mono ?_
        rintro e w4 ⟨v4, q4, m4, c4, rfl, rfl, hr4, hb⟩
        have HB4 := Lib.hid (HB3.out.trans (hb.mono HB3.out.size))
        have HC4 := Lib.hid (HC3.out.trans (hb.mono (by have := HC3.out.size; simpa using this)))
        have HR4 := Lib.hid hr4
        have hm4 : m4 ≤ 10101 := by have h1 := hr4.len; have h2 := HPL.out; omega
        clear hb d0 d1 d2 d3 hr4
        obtain ⟨d0, d1, d2, d3⟩ := boxT_cells HC4.out
        go_wp2_with fail
        refine (ref_Rhos_any (HN.out _ HB4.out).own.eff (by omega)).mono ?_
        rintro e w5 ⟨⟨q5, m5, c5, rfl, hrow5⟩, hb⟩
        have HB5 := Lib.hid (HB4.out.trans (hb.mono HB4.out.size))
        have HC5 := Lib.hid (HC4.out.trans (hb.mono (by have := HC4.out.size; simpa using this)))
        have HR5 := Lib.hid (HR4.out.below hb)
        have HL5 := Lib.hid hrow5
        have hm5 : m5 ≤ 100 := by have h1 := hrow5.len; have h2 := HRL.out; omega
        clear hb d0 d1 d2 d3 hrow5
        go_wp2_with fail
        go_loopw [3, 5] (fun u i wr => ∃ (k : Nat) (q' : Option Addr) (m' mc' : Nat), k ≤ m5 ∧ i = .int .i64 k ∧ u = .slice q' m' mc' ∧ m' ≤ 10101 + k ∧ IsRow encN 1 wr q' m' mc' (((rhosOf t.head.eff).take k).foldl (fun e a => putI a e) (putI t.head.rho (sortI (gathL t.kids)))) ∧ Below w5.heap.size w5 wr) (fun _ i _ => m5 - (intOf i).toNat)
        case atStart => exact ⟨0, q4, m4, c4, by omega, rfl, rfl, by omega, HR5.out, Below.refl _ _⟩
        case round =>
          obtain ⟨k, q', m', mc', hk, rfl, rfl, hmk, hrow, hb⟩ := hrel
          have HROW := Lib.hid hrow
          have HBL := Lib.hid hb
          clear hrow hb
          by_cases hlt : k < m5
          · obtain ⟨y, hy⟩ := get_of_lt (l := rhosOf t.head.eff) (j := k) (by rw [HL5.out.len]; exact hlt)
            have HE := Lib.hid hy
            obtain ⟨b, o, rfl, c0⟩ := (HL5.out.below HBL.out).row.num hy
            clear hy
            go_wp2_with fail
            refine (ref_PutInt_any HROW.out (by omega) y).mono ?_
            rintro e w6 ⟨v6, q6, m6, c6, rfl, rfl, hr6, hb⟩
            have HB6 := Lib.hid (HBL.out.trans (hb.mono HBL.out.size))
            have hm6 : m6 ≤ 10101 + k + 1 := by have h1 := hr6.len; have h2 := putI_length y (((rhosOf t.head.eff).take k).foldl (fun e a => putI a e) (putI t.head.rho (sortI (gathL t.kids)))); have h3 := HROW.out.len; omega
            have HR6 := Lib.hid hr6
            clear hb c0 hr6
            go_wp2_with fail
            go_roundw
            case rel => exact ⟨k + 1, q6, m6, c6, by omega, by go_num, rfl, by omega, by rw [take_succ_get HE.out, List.foldl_append]; exact HR6.out, HB6.out⟩
            case measure => simp [intOf]; omega
          · have hkn : k = m5 := by omega
            have HRW : Hid (IsRow encN 1 wr q' m' mc' (sortI (gathL [t]))) := by
              show IsRow _ _ _ _ _ _ _
              have h := HROW.out
              rw [take_full (by rw [HL5.out.len]; omega), HEQ.out] at h
              exact h
            have HBW := Lib.hid (HB5.out.trans (HBL.out.mono HB5.out.size))
            have HCW := Lib.hid (HC5.out.trans (HBL.out.mono (by have := HC5.out.size; simpa using this)))
            go_wp2_with fail
            have HSS : Hid (∀ W, Below wr.heap.size wr W → W.cell? ⟨w.heap.size, 0, none⟩ = some (.int .u8 t.head.kind) ∧ W.cell? ⟨w.heap.size, 1, none⟩ = some (.int .i64 t.head.rho) ∧ W.cell? ⟨w.heap.size, 2, none⟩ = some (.slice t.head.ep t.head.en t.head.ec) ∧ W.cell? ⟨w.heap.size, 3, none⟩ = some (.slice t.head.kp t.head.kn t.head.kc) ∧ Below wr.heap.size wr W) := fun W h => by
              obtain ⟨a0, a1, a2, a3⟩ := boxT_cells (HCW.out.trans (h.mono (by have := HCW.out.size; simpa using this)))
              exact ⟨a0, a1, a2, a3, h⟩
            have HBZ : Hid (∀ W, Below wr.heap.size wr W → Below w.heap.size w W) := fun W h => HBW.out.trans (h.mono HBW.out.size)
            have HRT : Hid (∀ W g, Below wr.heap.size wr W → W.cell? ⟨g, 0, none⟩ = some (.int .u8 t.head.kind) ∧ W.cell? ⟨g, 1, none⟩ = some (.int .i64 t.head.rho) ∧ W.cell? ⟨g, 2, none⟩ = some (.slice t.head.ep t.head.en t.head.ec) ∧ W.cell? ⟨g, 3, none⟩ = some (.slice t.head.kp t.head.kn t.head.kc) → RowT W (some ⟨g, 0, none⟩) 1 1 [t]) := fun W g h hc => rowT_cells (HL.out _ (HBZ.out _ h)) hc.1 hc.2.1 hc.2.2.1 hc.2.2.2
            have HMK : Hid (∀ W, Below wr.heap.size wr W → Calls Tryz.prog 32 #[.slice t.head.kp t.head.kn t.head.kc] W fun e w' => e = .returned (.bool true) ∧ Below W.heap.size W w') := fun W h => by
              have := rtype_May_any (HN.out W (HBZ.out _ h)).rowT
              rw [HKM.out] at this
              exact this
            generalize hK : sizes t.kids = K at *
            have hN1 : sizes [t] = K + 1 := by have h1 := HP.out.sizes; rw [hK] at h1; have h2 : sizes [t] = t.size := by simp [sizes]
                                               omega
            have hK1 : K ≤ 100 := by have h1 := HP.out.sizes; rw [hK] at h1; have := HP.out.size; omega
            obtain ⟨Z, hz⟩ : ∃ Z : Int, 1 + (K : Int) = Z := ⟨_, rfl⟩
            have hz0 : 0 ≤ Z := by omega
            have hz1 : Z ≤ 101 := by omega
            have HS1 : Hid (∀ W g, RowT W (some ⟨g, 0, none⟩) 1 1 [t] → Calls Tryz.prog 33 #[.slice (some ⟨g, 0, none⟩) 1 1] W fun e w' => e = .returned (.int .i64 Z) ∧ Below W.heap.size W w') := fun W g h => by
              have := rtype_Size_any h (by omega)
              rw [hN1, show ((K + 1 : Nat) : Int) = Z by omega] at this
              exact this
            have HS2 : Hid (∀ W, Below wr.heap.size wr W → Calls Tryz.prog 33 #[.slice t.head.kp t.head.kn t.head.kc] W fun e w' => e = .returned (.int .i64 (K : Int)) ∧ Below W.heap.size W w') := fun W h => by
              have := rtype_Size_any (HN.out W (HBZ.out _ h)).rowT (by omega)
              rw [hK] at this
              exact this
            have hw : IntKind.i64.wrap (1 + (K : Int)) = Z := by rw [← hz]; exact IntWalk.i64_in _ (by omega)
            clear hK hN1 hl hz
            go_region_held3 (fun W => W.cell? ⟨w.heap.size, 0, none⟩ = some (.int .u8 t.head.kind) ∧ W.cell? ⟨w.heap.size, 1, none⟩ = some (.int .i64 t.head.rho) ∧ W.cell? ⟨w.heap.size, 2, none⟩ = some (.slice t.head.ep t.head.en t.head.ec) ∧ W.cell? ⟨w.heap.size, 3, none⟩ = some (.slice t.head.kp t.head.kn t.head.kc) ∧ Below wr.heap.size wr W)
              (first
                | exact HSS.out _ (bel_drew _)
                | exact HSS.out _ (bel_alloc (by go_split_ands; assumption) _)
                | exact HSS.out _ hZ)
              (first
                | (go_at_call 30; refine (rtype_Rhos_any (HRT.out _ _ (by go_split_ands; assumption) (by refine ⟨?_, ?_, ?_, ?_⟩ <;> go_simp)) (Nat.le_trans HP.out.gath1 (by omega)) HP.out.en1).mono ?_; rintro e w8 ⟨q8, m8, c8, rfl, hm8, hrow8, hb8⟩; have hZ := bel_step (w0 := wr) (by go_split_ands; assumption) hb8)
                | (go_at_call 14; refine (eqInts_true hrow8 (HRW.out.below (by go_split_ands; assumption))).mono ?_; rintro e w8 ⟨rfl, hb8⟩; have hZ := bel_step (w0 := wr) (by go_split_ands; assumption) hb8)
                | (go_at_call 32; refine (HMK.out _ (by go_split_ands; assumption)).mono ?_; rintro e w8 ⟨rfl, hb8⟩; have hZ := bel_step (w0 := wr) (by go_split_ands; assumption) hb8)
                | (go_at_call 33; (fail_if_success (have := hSz)); refine (HS1.out _ _ (HRT.out _ _ (by go_split_ands; assumption) (by refine ⟨?_, ?_, ?_, ?_⟩ <;> go_simp))).mono ?_; rintro e w8 ⟨rfl, hSz⟩; have hZ := bel_step (w0 := wr) (by go_split_ands; assumption) hSz)
                | (go_at_call 33; refine (HS2.out _ (by go_split_ands; assumption)).mono ?_; rintro e w8 ⟨rfl, hb8⟩; have hZ := bel_step (w0 := wr) (by go_split_ands; assumption) hb8)
                | (go_at_call 29; refine (awake12_any (HTAB.out.below (HBZ.out _ (by go_split_ands; assumption)))).mono ?_; rintro e w8 ⟨rfl, hb8⟩; have hZ := bel_step (w0 := wr) (by go_split_ands; assumption) hb8))
            rename_i hH
            clear hH
            have HBE := Lib.hid (HBZ.out _ hZ)
            clear hZ
            go_wp2_with fail
            go_ret
            exact ⟨rfl, HBE.out⟩
  · clear HG
    go_wp2_with fail
    refine (awake12_any (HTAB.out.below HB1.out)).mono ?_
    rintro e w2 ⟨rfl, hb⟩
    have HB2 := Lib.hid (HB1.out.trans (hb.mono HB1.out.size))
    clear hb
    go_wp2_with fail
    go_ret
    exact ⟨rfl, HB2.out⟩
end

section
open Go.RowKit Go.Sort Go.Lib

structure LBH where
  kind : Int
  var : Int
structure BH where
  kind : Int
  var : Int
  kp : Option Addr
  kn : Nat
  kc : Nat
abbrev PB := Rose BH
abbrev BT := Rose LBH
def BH.plain (a : BH) : LBH := ⟨a.kind, a.var⟩
def PB.er (t : PB) : BT := Rose.map BH.plain t
theorem PB.er_node (a : BH) (l : List PB) : PB.er (.node a l) = .node a.plain (l.map PB.er) := Rose.map_node _ a l
def encBH (a : BH) : List Value := [.int .u8 a.kind, .int .i64 a.var, .slice a.kp a.kn a.kc]
structure BH.Own (a : BH) : Prop where
  kmax : a.kn ≤ 9223372036854775807
  kle : a.kn ≤ a.kc
  knil : a.kp = none → a.kc = 0
def LB : Laid BH where
  enc := encBH
  k := 3
  own := fun _ => BH.Own
  kp := BH.kp
  kn := BH.kn
  len := fun _ => rfl
  below := fun h _ => h
theorem LBlen : ∀ t : PB, (LB.encT t).length = 3 := fun _ => rfl
theorem LBone : ∀ t : PB, ∀ u ∈ LB.encT t, u.oneCell' = true := by
  intro t u hu
  have : u ∈ encBH t.head := hu
  simp [encBH] at this
  rcases this with rfl | rfl | rfl <;> rfl
abbrev aggB (a : BH) : Value := .agg #[.int .u8 a.kind, .int .i64 a.var, .slice a.kp a.kn a.kc]
/-- all rows of t lie in blocks from B on, below E -/
def Span (B E : Nat) (t : PB) : Prop := ∀ a ∈ t.nodes, ∀ ad, a.kp = some ad → B ≤ ad.block ∧ ad.block < E
theorem Span.mono {B E B' E' : Nat} {t : PB} (h : Span B E t) (hB : B' ≤ B) (hE : E ≤ E') : Span B' E' t := fun a ha ad hp => by have := h a ha ad hp; omega
theorem Span.node {B E : Nat} {a : BH} {l : List PB} (ha : ∀ ad, a.kp = some ad → B ≤ ad.block ∧ ad.block < E) (hl : ∀ t ∈ l, Span B E t) : Span B E (.node a l) := by
  intro x hx
  rw [Rose.nodes_node, List.mem_cons] at hx
  rcases hx with rfl | hx
  · exact ha
  · rw [List.mem_flatten] at hx
    obtain ⟨m, hm, hx⟩ := hx
    obtain ⟨t, ht, rfl⟩ := List.mem_map.1 hm
    exact hl t ht x hx
/-- no row of t lies in block r -/
def Off (r : Option Nat) (t : PB) : Prop := ∀ a ∈ t.nodes, ∀ ad, a.kp = some ad → r ≠ some ad.block
theorem rowE_grown {α : Type} {enc : α → List Value} {k : Nat} {w w' : World} {r : Option Nat} {p : Option Addr} {l : List α} (hg : w.grownBy w' r) (hne : ∀ ad, p = some ad → r ≠ some ad.block) (h : RowE enc k w p l) : RowE enc k w' p l := by
  rcases h with h | ⟨b, o, rfl, hb, hc⟩
  · exact .inl h
  · refine .inr ⟨b, o, rfl, Nat.lt_of_lt_of_le hb hg.size, fun j x hx i u hi => held_cell hg (by exact hne ⟨b, o, none⟩ rfl) (hc j x hx i u hi)⟩
theorem liesB_grown {w w' : World} {r : Option Nat} (hg : w.grownBy w' r) (t : PB) : Off r t → LB.lies w t → LB.lies w' t := by
  refine Rose.ind (P := fun (t : PB) => Off r t → LB.lies w t → LB.lies w' t) (fun a l ih ho h => ?_) t
  rw [Laid.lies_node] at h ⊢
  refine ⟨h.1, h.2.1, rowE_grown hg (fun ad hp => ho a (by rw [Rose.nodes_node]; simp) ad hp) h.2.2.1, fun t ht => ih t ht (fun x hx => ho x ?_) (h.2.2.2 t ht)⟩
  rw [Rose.nodes_node, List.mem_cons, List.mem_flatten]
  exact .inr ⟨t.nodes, List.mem_map_of_mem ht, hx⟩
/-- without regions -/
def bareT : RT → BT := Rose.map (fun a => ⟨a.kind, 0⟩)
theorem bareT_er (a : RH) (l : List PT) : bareT (PT.er (.node a l)) = .node ⟨a.kind, 0⟩ (l.map (fun t => bareT (PT.er t))) := by
  rw [PT.er_node]
  unfold bareT
  rw [Rose.map_node, List.map_map]; rfl
/-- what Bare answers: a tree of new blocks -/
def BareOut (x : PT) (W : World) (e : Ending) (w' : World) : Prop := (∃ y : PB, e = .returned (aggB y.head) ∧ LB.lies w' y ∧ Span W.heap.size w'.heap.size y ∧ PB.er y = bareT (PT.er x)) ∧ Below W.heap.size W w'
def BareAt (f : FuncId) (x : PT) (W : World) : Prop := Calls Tryz.prog f #[aggR x.head] W (BareOut x W)
theorem infoB : (Tryz.prog.info? 60).map (fun i => (i.zero, i.size, i.bytes)) = some (some (.agg #[.int .u8 0, .int .i64 0, .slice none 0 0]), 3, 40) := by kernel_rfl

/-- a block of three cells, as it lies -/
structure Box3 (w : World) (g : Nat) (x y z : Value) : Prop where
  blk : w.heap[g]? = some (.cells #[x, y, z] 60 (0, 0))
theorem Box3.cells {w : World} {g : Nat} {x y z : Value} (h : Box3 w g x y z) : w.cell? ⟨g, 0, none⟩ = some x ∧ w.cell? ⟨g, 1, none⟩ = some y ∧ w.cell? ⟨g, 2, none⟩ = some z ∧ w.frozen? ⟨g, 0, none⟩ = false ∧ w.frozen? ⟨g, 1, none⟩ = false ∧ w.frozen? ⟨g, 2, none⟩ = false := by
  have hb := h.blk
  refine ⟨?_, ?_, ?_, ?_, ?_, ?_⟩ <;> simp [World.cell?, World.frozen?, hb]
theorem Box3.lt {w : World} {g : Nat} {x y z : Value} (h : Box3 w g x y z) : g < w.heap.size := (Array.getElem?_eq_some_iff.1 h.blk).1
theorem Box3.grown {w w' : World} {g : Nat} {x y z : Value} {r : Option Nat} (h : Box3 w g x y z) (hg : w.grownBy w' r) (hr : r ≠ some g) : Box3 w' g x y z := ⟨by rw [hg.block g h.lt hr.symm]; exact h.blk⟩
theorem Box3.below {w w' : World} {g : Nat} {x y z : Value} (h : Box3 w g x y z) (hb : Below w.heap.size w w') : Box3 w' g x y z := ⟨by rw [hb.block g h.lt]; exact h.blk⟩
theorem box3_new (w : World) (x y z : Value) : Box3 (w.alloc (.cells #[x, y, z] 60)) w.heap.size x y z := ⟨heap_alloc_new w _⟩

theorem OwnE.other {α : Type} {enc : α → List Value} {k : Nat} {w w' : World} {base e n : Nat} {v : Value} {l : List α} {r : Option Nat} (h : OwnE enc k w base e v n l) (hg : w.grownBy w' r) (hr : ∀ b, v.ownBlock = some b → r ≠ some b) : OwnE enc k w' base e v n l := by
  refine ⟨h.1, ?_⟩
  rcases h.2 with hn | ⟨g, cap, cur, rfl, hb', hgg, rest⟩
  · exact .inl hn
  · refine .inr ⟨g, cap, cur, rfl, hb', ?_, rest⟩
    rw [hg.block g (Array.getElem?_eq_some_iff.1 hgg).1 (hr g rfl).symm]; exact hgg
theorem box3_set {w : World} {g : Nat} {x y z : Value} (h : Box3 w g x y z) (x' y' z' : Value) :
    Box3 (((w.setCell ⟨g, 0, none⟩ x').setCell ⟨g, 1, none⟩ y').setCell ⟨g, 2, none⟩ z') g x' y' z' ∧ w.grownBy (((w.setCell ⟨g, 0, none⟩ x').setCell ⟨g, 1, none⟩ y').setCell ⟨g, 2, none⟩ z') (some g) := by
  have h1 := heap_setCell1 (o := 2) z' (heap_setCell1 (o := 1) y' (heap_setCell1 (o := 0) x' h.blk))
  refine ⟨⟨by simpa using h1⟩, ?_⟩
  exact held_own (held_own (grown_setCell1 w g 0 x') (grown_setCell1 _ g 1 y') (fun b _ h => h)) (grown_setCell1 _ g 2 z') (fun b _ h => h)
theorem bare_end {x : PT} {a : RH} {l : List PT} {w wr : World} {k : Nat} {p : Option Addr} {c : Nat} {ys : List PB} {W : World} (hx : x = .node a l) (hk : k ≤ 1000) (hlk : l.length = k)
    (hown : OwnE LB.encT 3 wr (w.heap.size + 3) 60 (.slice p k c) k ys) (hrow : IsRow LB.encT 3 wr p k c ys) (hb : Below w.heap.size w wr)
    (hys : ∀ t ∈ ys, LB.lies wr t ∧ Off (Value.slice p k c).ownBlock t ∧ Span (w.heap.size + 3) wr.heap.size t) (her : ys.map PB.er = (l.take k).map (fun t => bareT (PT.er t))) (hg : wr.grownBy W (some (w.heap.size + 1))) :
    BareOut x w (.returned (aggB ⟨a.kind, 0, p, k, c⟩)) W := by
  subst hx
  have hsp : ∀ ad, p = some ad → w.heap.size + 3 ≤ ad.block ∧ ad.block < wr.heap.size := fun ad hp => by
    subst hp
    exact World.ownsRow.lt hown ad.block rfl
  refine ⟨⟨.node ⟨a.kind, 0, p, k, c⟩ ys, rfl, ?_, Span.node (fun ad hp => by have := hsp ad hp; have := hg.size; omega) (fun t ht => (hys t ht).2.2.mono (by omega) hg.size), ?_⟩, ?_⟩
  · rw [Laid.lies_node]
    refine ⟨⟨by show k ≤ _; omega, hrow.le, hrow.nil⟩, hrow.len, rowE_grown hg (fun ad hp e => by have := hsp ad hp; injection e with e; omega) hrow.row, fun t ht => liesB_grown hg t (fun a' ha ad hp e => ?_) (hys t ht).1⟩
    have := (hys t ht).2.2 a' ha ad hp
    injection e with e
    omega
  · rw [PB.er_node, bareT_er, her, take_full (by omega)]; rfl
  · exact hb.grown hg hb.size (fun j hj => by injection hj with hj; omega)
theorem bare_step {B : Nat} {w w1 w3 : World} {v : Value} {k : Nat} {ys : List PB} {y : PB} {kd z : Value} {p3 : Option Addr} {c3 : Nat} {x0 x1 x2 : Value}
    (hown : OwnE LB.encT 3 w1 (B + 3) 60 v k ys) (hown3 : OwnE LB.encT 3 w3 (B + 3) 60 (.slice p3 (k + 1) c3) (k + 1) (ys ++ [y]))
    (hg3 : w1.grownBy w3 v.ownBlock) (hf3 : ∀ b, b < w1.heap.size → (Value.slice p3 (k + 1) c3).ownBlock = some b → v.ownBlock = some b) (hB : B + 3 ≤ w1.heap.size)
    (hx1 : Box3 w1 (B + 1) x0 x1 x2) (hx2 : Box3 w1 (B + 1 + 1) kd z v) (hys : ∀ t ∈ ys ++ [y], LB.lies w1 t ∧ Off v.ownBlock t ∧ Span (B + 3) w1.heap.size t) (hb : Below B w w1) {W : World} (hW : W = w3.setCell ⟨B + 1 + 1, 2, none⟩ (.slice p3 (k + 1) c3)) :
    OwnE LB.encT 3 W (B + 3) 60 (.slice p3 (k + 1) c3) (k + 1) (ys ++ [y]) ∧ Box3 W (B + 1) x0 x1 x2 ∧ Box3 W (B + 1 + 1) kd z (.slice p3 (k + 1) c3) ∧ B + 3 ≤ W.heap.size ∧ Below B w W ∧
      (∀ t ∈ ys ++ [y], LB.lies W t ∧ Off (Value.slice p3 (k + 1) c3).ownBlock t ∧ Span (B + 3) W.heap.size t) := by
  have hgs : w3.grownBy W (some (B + 1 + 1)) := by rw [hW]; exact grown_setCell1 _ _ _ _
  have hne : ∀ g, g < B + 3 → v.ownBlock ≠ some g := fun g hg h => by have := OwnE.from hown g h; omega
  have hx2' := hx2.grown hg3 (hne _ (by omega))
  have hb3 : Below B w w3 := ⟨hg3.os.trans hb.os, hg3.tape.trans hb.tape, hg3.output.trans hb.output, Nat.le_trans hb.size hg3.size, fun j hj => (hg3.block j (by omega) (fun e => hne j (by omega) e.symm)).trans (hb.block j hj)⟩
  refine ⟨hown3.other hgs (fun b h e => ?_), (hx1.grown hg3 (hne _ (by omega))).grown hgs (by simp), ⟨?_⟩, by have h1 := hg3.size; have h2 := hgs.size; omega, ?_, fun t ht => ?_⟩
  · have := OwnE.from hown3 b h
    cases e; omega
  · have := heap_setCell1 (o := 2) (.slice p3 (k + 1) c3) hx2'.blk
    rw [hW]; simpa using this
  · exact ⟨hgs.os.trans hb3.os, hgs.tape.trans hb3.tape, hgs.output.trans hb3.output, Nat.le_trans hb3.size hgs.size, fun j hj => (hgs.block j (by have := hg3.size; omega) (fun e => by cases e; omega)).trans (hb3.block j hj)⟩
  · obtain ⟨h1, h2, h3⟩ := hys t ht
    refine ⟨liesB_grown hgs t (fun a ha ad hp e => ?_) (liesB_grown hg3 t h2 h1), fun a ha ad hp e => ?_, h3.mono (Nat.le_refl _) (Nat.le_trans hg3.size hgs.size)⟩
    · have := h3 a ha ad hp
      injection e with e
      omega
    · have h4 := h3 a ha ad hp
      exact h2 a ha ad hp (hf3 _ h4.2 e)
set_option maxHeartbeats 4000000 in
theorem rtype_Bare_of {a : RH} {l : List PT} {w : World} (hN : NodeIn w a l) (hl : a.kn ≤ 1000) (hf : ∀ x ∈ l, ∀ W, Below w.heap.size w W → BareAt 37 x W) : BareAt 37 (.node a l) w := by
  have HN := Lib.hid hN
  have HF := Lib.hid hf
  have hkm := hN.own.kmax
  show Calls _ _ #[aggR a] w _
  clear hN hf
  go_enter Tryz.func37, Tryz.ntmps37
  go_wp2_with fail
  go_loopw [5, 12] (fun _ i wr => ∃ (k : Nat) (v : Value) (ys : List PB), k ≤ a.kn ∧ i = .int .i64 k ∧ OwnE LB.encT 3 wr (w.heap.size + 3) 60 v k ys ∧
      Box3 wr (w.heap.size + 1) (.int .u8 0) (.int .i64 0) (.slice none 0 0) ∧ Box3 wr (w.heap.size + 1 + 1) (.int .u8 a.kind) (.int .i64 0) v ∧
      w.heap.size + 3 ≤ wr.heap.size ∧ Below w.heap.size w wr ∧ (∀ y ∈ ys, LB.lies wr y ∧ Off v.ownBlock y ∧ Span (w.heap.size + 3) wr.heap.size y) ∧ ys.map PB.er = (l.take k).map (fun t => bareT (PT.er t))) (fun _ i _ => a.kn - (intOf i).toNat)
  case atStart =>
    refine ⟨0, .slice none 0 0, [], by omega, rfl, OwnE.nil _ _ _ _ _, ?_, ?_, by simp, ((((Below.refl w.heap.size w).alloc (Nat.le_refl _) _).alloc (by simp) _).alloc (by simp; omega) _), (fun y hy => by cases hy), by simp⟩
    · refine Box3.below (w := (w.alloc (.cells #[.int .u8 a.kind, .int .i64 a.rho, .slice a.ep a.en a.ec, .slice a.kp a.kn a.kc] 47)).alloc (.cells #[.int .u8 0, .int .i64 0, .slice none 0 0] 60)) ?_ ((Below.refl _ _).alloc (Nat.le_refl _) _)
      have := box3_new (w.alloc (.cells #[.int .u8 a.kind, .int .i64 a.rho, .slice a.ep a.en a.ec, .slice a.kp a.kn a.kc] 47)) (.int .u8 0) (.int .i64 0) (.slice none 0 0)
      simpa using this
    · have := box3_new ((w.alloc (.cells #[.int .u8 a.kind, .int .i64 a.rho, .slice a.ep a.en a.ec, .slice a.kp a.kn a.kc] 47)).alloc (.cells #[.int .u8 0, .int .i64 0, .slice none 0 0] 60)) (.int .u8 a.kind) (.int .i64 0) (.slice none 0 0)
      simpa using this
  case round =>
    obtain ⟨k, v, ys, hk, rfl, hown, hb1, hb2, hsz, hb, hys, her⟩ := hrel
    have HOWN := Lib.hid hown
    have HB := Lib.hid hb
    have HYS := Lib.hid hys
    have HER := Lib.hid her
    have HX1 := Lib.hid hb1
    have HX2 := Lib.hid hb2
    clear hown hb hys her hb1 hb2
    obtain ⟨r0, r1, r2, s0, s1, s2⟩ := HX1.out.cells
    obtain ⟨c0, c1, c2, t0, t1, t2⟩ := HX2.out.cells
    by_cases hlt : k < a.kn
    · obtain ⟨x, hx⟩ := HN.out.rowT.at (j := k) hlt
      have HE := Lib.hid hx
      obtain ⟨g, o, hbo, hbl, d0, d1, d2, d3⟩ := (HN.out.rowT.below HB.out).kid hx
      have HBO := Lib.hid hbo
      have HWX := Lib.hid (boxT (w := wr) (t := x))
      have hBA : Below wr.heap.size wr (wr.alloc (.cells #[.int .u8 x.head.kind, .int .i64 x.head.rho, .slice x.head.ep x.head.en x.head.ec, .slice x.head.kp x.head.kn x.head.kc] 47)) := (Below.refl _ wr).alloc (Nat.le_refl _) _
      have HOA := Lib.hid (own_alloc HOWN.out (.cells #[.int .u8 x.head.kind, .int .i64 x.head.rho, .slice x.head.ep x.head.en x.head.ec, .slice x.head.kp x.head.kn x.head.kc] 47))
      have HX2A := Lib.hid (HX2.out.below hBA)
      have HX1A := Lib.hid (HX1.out.below hBA)
      have HBA := Lib.hid (HB.out.trans (hBA.mono HB.out.size))
      have HFA : Hid (∀ W, Below (wr.heap.size + 1) (wr.alloc (.cells #[.int .u8 x.head.kind, .int .i64 x.head.rho, .slice x.head.ep x.head.en x.head.ec, .slice x.head.kp x.head.kn x.head.kc] 47)) W → BareAt 37 x W) := fun W h => HF.out x (List.mem_of_getElem? hx) W (HBA.out.trans (h.mono (by have := HB.out.size; omega)))
      have HYS0 : Hid (∀ t ∈ ys, LB.lies (wr.alloc (.cells #[.int .u8 x.head.kind, .int .i64 x.head.rho, .slice x.head.ep x.head.en x.head.ec, .slice x.head.kp x.head.kn x.head.kc] 47)) t) := fun t ht => LB.lies_below hBA t (HYS.out t ht).1
      have hsA : (wr.alloc (.cells #[.int .u8 x.head.kind, .int .i64 x.head.rho, .slice x.head.ep x.head.en x.head.ec, .slice x.head.kp x.head.kn x.head.kc] 47)).heap.size = wr.heap.size + 1 := by simp
      obtain ⟨e0, e1, e2, e3⟩ := boxT_cells (w := wr) (t := x) (Below.refl _ _)
      rw [hbo]
      clear hx
      go_wp2_with fail
      clear d0 d1 d2 d3 r0 r1 r2 s0 s1 s2 c0 c1 c2 t0 t1 t2 hbo hBA
      obtain ⟨c0, c1, c2, t0, t1, t2⟩ := HX2A.out.cells
      generalize wr.alloc (.cells #[.int .u8 x.head.kind, .int .i64 x.head.rho, .slice x.head.ep x.head.en x.head.ec, .slice x.head.kp x.head.kn x.head.kc] 47) = W0 at *
      have HNE : Hid (∀ g, g < w.heap.size + 3 → v.ownBlock ≠ some g) := fun g hg h => by have := OwnE.from HOWN.out g h; omega
      go_region_law (first
        | (refine step_appendR (by rfl) _ _ 58 (by rfl) (w.heap.size + 3) 60 _ 3 40 Tryz.underlying58 infoB rfl (by decide) LB.encT LBlen LBone [y] ys k v (own_alloc HO2.out _) _ 1 _ (by rfl) (by rfl) rfl (by intro h; cases h) HRY.out.row (by omega) (by omega) (by simp; have := HZ2.out; omega) ?_
           intro v3 w3 hown3 hg3 hf3
           obtain ⟨p3, c3, rfl, hrow3⟩ := OwnE.isRow LBlen (by omega) hown3
           obtain ⟨c0, c1, c2, t0, t1, t2⟩ := ((HXB.out.below ((Below.refl _ w2).alloc (Nat.le_refl _) _)).grown hg3 (HNE.out _ (by omega))).cells)
        | (go_simp; go_at_call 37; refine (HFA.out _ (by first | exact ⟨rfl, rfl, rfl, Nat.le_refl _, fun _ _ => rfl⟩)).mono ?_
           rintro e w2 ⟨⟨y, rfl, hly, hsy, hey⟩, hb2⟩
           have hb2' : Below W0.heap.size W0 w2 := bel_step (bel_drew W0) hb2
           have HXB := Lib.hid (HX2A.out.below hb2')
           have HO2 := Lib.hid (OwnE.below HOA.out hb2')
           have HRY := Lib.hid (row_made LBlen (by omega) w2 60 [y] 1 #[.int .u8 y.head.kind, .int .i64 y.head.var, .slice y.head.kp y.head.kn y.head.kc] rfl rfl (by decide))
           have HZ2 : Hid (w.heap.size + 3 ≤ w2.heap.size) := by have := hb2'.size; show _ ≤ _; omega
           have hlt2 : w.heap.size + 1 + 1 < w2.heap.size := by have := hb2'.size; omega
           obtain ⟨c0, c1, c2, t0, t1, t2⟩ := HXB.out.cells
           go_wp2_with fail))
      all_goals (
        have HST := Lib.hid (bare_step (w := w) (own_alloc HO2.out _) hown3 hg3 hf3 (by simp; have := HZ2.out; omega) ((HX1A.out.below hb2').below ((Below.refl _ w2).alloc (Nat.le_refl _) _)) (HXB.out.below ((Below.refl _ w2).alloc (Nat.le_refl _) _)) (by
          intro t ht
          rcases List.mem_append.1 ht with ht | ht
          · obtain ⟨h1, h2, h3⟩ := HYS.out t ht
            exact ⟨LB.lies_below ((Below.refl _ w2).alloc (Nat.le_refl _) _) t (LB.lies_below hb2' t (HYS0.out t ht)), h2, h3.mono (Nat.le_refl _) (by have := hb2'.size; simp; omega)⟩
          · have : t = y := by simpa using ht
            subst this
            refine ⟨LB.lies_below ((Below.refl _ w2).alloc (Nat.le_refl _) _) t hly, fun a ha ad hp e => ?_, hsy.mono (by simp; omega) (by simp)⟩
            have h4 := (hsy a ha ad hp).1
            have h5 := OwnE.under HOWN.out _ e
            simp at h4; omega) ((HBA.out.trans (hb2'.mono (by omega))).alloc (by have := HZ2.out; omega) _) rfl)
        have HER2 : Hid ((ys ++ [y]).map PB.er = (l.take (k + 1)).map (fun t => bareT (PT.er t))) := by show _ = _; rw [take_succ_get HE.out, List.map_append, List.map_append, HER.out]; simp [hey]
        clear hown3 hg3 hf3 hb2 hb2' hly hsy hey hrow3 c0 c1 c2 t0 t1 t2)
      all_goals (
        go_wp2_with fail
        go_roundw
        case rel => exact ⟨k + 1, _, ys ++ [y], by omega, by go_num, HST.out.1, HST.out.2.1, HST.out.2.2.1, HST.out.2.2.2.1, HST.out.2.2.2.2.1, HST.out.2.2.2.2.2, HER2.out⟩
        case measure => simp [intOf]; omega)
    · obtain ⟨p', c', rfl, hrow⟩ := HOWN.out.isRow LBlen (by omega)
      have HROW := Lib.hid hrow
      have hkn : k = a.kn := by omega
      have HS := Lib.hid (box3_set HX1.out (.int .u8 a.kind) (.int .i64 0) (.slice p' k c'))
      have HEND := Lib.hid (bare_end (x := .node a l) rfl (by omega) (by rw [hkn]; exact HN.out.kids.len) HOWN.out HROW.out HB.out HYS.out HER.out HS.out.2)
      clear hrow hkn
      go_wp2_with fail
      (try simp only [Exit.inBlock, Exit.then])
      refine bodyPost_ret (results_cell_row rfl _ _ _ _ _ _ _ rfl HS.out.1.blk Tryz.underlying60 rfl (by kernel_rfl)) rfl ?_
      exact HEND.out
theorem bareAt_any (t : PT) : ∀ w, LR.lies w t → t.size ≤ 1000 → BareAt 37 t w := by
  refine Rose.ind (P := fun (t : PT) => ∀ w, LR.lies w t → t.size ≤ 1000 → BareAt 37 t w) (fun a l ih => ?_) t
  intro w hl hs
  have HN := nodeIn hl
  have hsz : sizes l + 1 = (Rose.node a l).size := sizes_kids (.node a l)
  refine rtype_Bare_of HN ?_ (fun x hx W hW => ih x hx W (LR.lies_below hW x (HN.each x hx)) ?_)
  · have h1 : l.length ≤ sizes l := by
      unfold sizes
      have : ∀ l : List PT, l.length ≤ (l.map Rose.size).sum := by
        intro l
        induction l with
        | nil => simp
        | cons x l ih => have := Rose.size_pos x; simp only [List.length_cons, List.map_cons, List.sum_cons]; omega
      exact this l
    have h2 := HN.kids.len
    omega
  · have h2 : x.size ≤ sizes l := le_sum_of_mem (List.mem_map_of_mem hx)
    omega

set_option maxHeartbeats 4000000 in
theorem ref_Bare12_of {a : RH} {l : List PT} {w : World} (hN : NodeIn w a l) (hl : a.kn ≤ 1000) (hf : ∀ x ∈ l, ∀ W, Below w.heap.size w W → BareAt 38 x W) : BareAt 38 (.node a l) w := by
  have HN := Lib.hid hN
  have HF := Lib.hid hf
  have hkm := hN.own.kmax
  show Calls _ _ #[aggR a] w _
  clear hN hf
  go_enter Tryz.func38, Tryz.ntmps38
  go_wp2_with fail
  go_loopw [4, 11] (fun _ i wr => ∃ (k : Nat) (v : Value) (ys : List PB), k ≤ a.kn ∧ i = .int .i64 k ∧ OwnE LB.encT 3 wr (w.heap.size + 3) 60 v k ys ∧ wr.cell? ⟨w.heap.size, 3, none⟩ = some (.slice a.kp a.kn a.kc) ∧
      Box3 wr (w.heap.size + 1) (.int .u8 0) (.int .i64 0) (.slice none 0 0) ∧ Box3 wr (w.heap.size + 1 + 1) (.int .u8 a.kind) (.int .i64 0) v ∧
      w.heap.size + 3 ≤ wr.heap.size ∧ Below w.heap.size w wr ∧ (∀ y ∈ ys, LB.lies wr y ∧ Off v.ownBlock y ∧ Span (w.heap.size + 3) wr.heap.size y) ∧ ys.map PB.er = (l.take k).map (fun t => bareT (PT.er t))) (fun _ i _ => a.kn - (intOf i).toNat)
  case atStart =>
    refine ⟨0, .slice none 0 0, [], by omega, rfl, OwnE.nil _ _ _ _ _, by go_simp, ?_, ?_, by simp, ((((Below.refl w.heap.size w).alloc (Nat.le_refl _) _).alloc (by simp) _).alloc (by simp; omega) _), (fun y hy => by cases hy), by simp⟩
    · refine Box3.below (w := (w.alloc (.cells #[.int .u8 a.kind, .int .i64 a.rho, .slice a.ep a.en a.ec, .slice a.kp a.kn a.kc] 47)).alloc (.cells #[.int .u8 0, .int .i64 0, .slice none 0 0] 60)) ?_ ((Below.refl _ _).alloc (Nat.le_refl _) _)
      have := box3_new (w.alloc (.cells #[.int .u8 a.kind, .int .i64 a.rho, .slice a.ep a.en a.ec, .slice a.kp a.kn a.kc] 47)) (.int .u8 0) (.int .i64 0) (.slice none 0 0)
      simpa using this
    · have := box3_new ((w.alloc (.cells #[.int .u8 a.kind, .int .i64 a.rho, .slice a.ep a.en a.ec, .slice a.kp a.kn a.kc] 47)).alloc (.cells #[.int .u8 0, .int .i64 0, .slice none 0 0] 60)) (.int .u8 a.kind) (.int .i64 0) (.slice none 0 0)
      simpa using this
  case round =>
    obtain ⟨k, v, ys, hk, rfl, hown, hbx, hb1, hb2, hsz, hb, hys, her⟩ := hrel
    have HOWN := Lib.hid hown
    have HB := Lib.hid hb
    have HYS := Lib.hid hys
    have HER := Lib.hid her
    have HX1 := Lib.hid hb1
    have HX2 := Lib.hid hb2
    have HBX := Lib.hid hbx
    clear hown hb hys her hb1 hb2 hbx
    obtain ⟨r0, r1, r2, s0, s1, s2⟩ := HX1.out.cells
    obtain ⟨c0, c1, c2, t0, t1, t2⟩ := HX2.out.cells
    by_cases hlt : k < a.kn
    · obtain ⟨x, hx⟩ := HN.out.rowT.at (j := k) hlt
      have HE := Lib.hid hx
      obtain ⟨g, o, hbo, hbl, d0, d1, d2, d3⟩ := (HN.out.rowT.below HB.out).kid hx
      have hcx := HBX.out
      rw [hbo] at hcx
      have i0 : (0 : Int) ≤ (k : Int) := by omega
      have i1 : (k : Int) < (a.kn : Int) := by omega
      have HFA : Hid (∀ W, Below wr.heap.size wr W → BareAt 38 x W) := fun W h => HF.out x (List.mem_of_getElem? hx) W (HB.out.trans (h.mono HB.out.size))
      have HNE : Hid (∀ g, g < w.heap.size + 3 → v.ownBlock ≠ some g) := fun g hg h => by have := OwnE.from HOWN.out g h; omega
      clear hx hbo r0 r1 r2 s0 s1 s2
      go_wp2_with fail
      go_region_law (first
        | (refine step_appendR (by rfl) _ _ 58 (by rfl) (w.heap.size + 3) 60 _ 3 40 Tryz.underlying58 infoB rfl (by decide) LB.encT LBlen LBone [y] ys k v (own_alloc HO2.out _) _ 1 _ (by rfl) (by rfl) rfl (by intro h; cases h) HRY.out.row (by omega) (by omega) (by simp; have := HZ2.out; omega) ?_
           intro v3 w3 hown3 hg3 hf3
           obtain ⟨p3, c3, rfl, hrow3⟩ := OwnE.isRow LBlen (by omega) hown3
           obtain ⟨c0, c1, c2, t0, t1, t2⟩ := ((HXB.out.below ((Below.refl _ w2).alloc (Nat.le_refl _) _)).grown hg3 (HNE.out _ (by omega))).cells)
        | (go_simp; go_at_call 38; refine (HFA.out _ (by first | exact ⟨rfl, rfl, rfl, Nat.le_refl _, fun _ _ => rfl⟩)).mono ?_
           rintro e w2 ⟨⟨y, rfl, hly, hsy, hey⟩, hb2⟩
           have hb2' : Below wr.heap.size wr w2 := bel_step (bel_drew wr) hb2
           have HXB := Lib.hid (HX2.out.below hb2')
           have HO2 := Lib.hid (OwnE.below HOWN.out hb2')
           have HRY := Lib.hid (row_made LBlen (by omega) w2 60 [y] 1 #[.int .u8 y.head.kind, .int .i64 y.head.var, .slice y.head.kp y.head.kn y.head.kc] rfl rfl (by decide))
           have HZ2 : Hid (w.heap.size + 3 ≤ w2.heap.size) := by have := hb2'.size; show _ ≤ _; omega
           have hlt2 : w.heap.size + 1 + 1 < w2.heap.size := by have := hb2'.size; omega
           obtain ⟨c0, c1, c2, t0, t1, t2⟩ := HXB.out.cells
           go_wp2_with fail))
      all_goals (
        have HST := Lib.hid (bare_step (w := w) (own_alloc HO2.out _) hown3 hg3 hf3 (by simp; have := HZ2.out; omega) ((HX1.out.below hb2').below ((Below.refl _ w2).alloc (Nat.le_refl _) _)) (HXB.out.below ((Below.refl _ w2).alloc (Nat.le_refl _) _)) (by
          intro t ht
          rcases List.mem_append.1 ht with ht | ht
          · obtain ⟨h1, h2, h3⟩ := HYS.out t ht
            exact ⟨LB.lies_below ((Below.refl _ w2).alloc (Nat.le_refl _) _) t (LB.lies_below hb2' t h1), h2, h3.mono (Nat.le_refl _) (by have := hb2'.size; simp; omega)⟩
          · have : t = y := by simpa using ht
            subst this
            refine ⟨LB.lies_below ((Below.refl _ w2).alloc (Nat.le_refl _) _) t hly, fun a ha ad hp e => ?_, hsy.mono (by simp; omega) (by simp)⟩
            have h4 := (hsy a ha ad hp).1
            have h5 := OwnE.under HOWN.out _ e
            simp at h4; omega) ((HB.out.trans (hb2'.mono (by omega))).alloc (by have := HZ2.out; omega) _) rfl)
        have HER2 : Hid ((ys ++ [y]).map PB.er = (l.take (k + 1)).map (fun t => bareT (PT.er t))) := by show _ = _; rw [take_succ_get HE.out, List.map_append, List.map_append, HER.out]; simp [hey]
        have HCX : Hid ((w3.setCell ⟨w.heap.size + 1 + 1, 2, none⟩ (.slice p3 (k + 1) c3)).cell? ⟨w.heap.size, 3, none⟩ = some (.slice a.kp a.kn a.kc)) := (held_cell (a := ⟨w.heap.size, 3, none⟩) (grown_setCell1 w3 (w.heap.size + 1 + 1) 2 (.slice p3 (k + 1) c3)) (fun e => by injection e with e; have e' : w.heap.size + 1 + 1 = w.heap.size := e; omega) (held_cell hg3 (by exact HNE.out _ (by show w.heap.size < _; omega)) (show (w2.alloc _).cell? ⟨w.heap.size, 3, none⟩ = _ from by rw [((bel_alloc hb2' _).cell (by show w.heap.size < _; omega))]; exact HBX.out)))
        clear hown3 hg3 hf3 hb2 hb2' hly hsy hey hrow3 c0 c1 c2 t0 t1 t2)
      all_goals (
        go_wp2_with fail
        go_roundw
        case rel => exact ⟨k + 1, _, ys ++ [y], by omega, by go_num, HST.out.1, HCX.out, HST.out.2.1, HST.out.2.2.1, HST.out.2.2.2.1, HST.out.2.2.2.2.1, HST.out.2.2.2.2.2, HER2.out⟩
        case measure => simp [intOf]; omega)
    · obtain ⟨p', c', rfl, hrow⟩ := HOWN.out.isRow LBlen (by omega)
      have HROW := Lib.hid hrow
      have hkn : k = a.kn := by omega
      have HS := Lib.hid (box3_set HX1.out (.int .u8 a.kind) (.int .i64 0) (.slice p' k c'))
      have HEND := Lib.hid (bare_end (x := .node a l) rfl (by omega) (by rw [hkn]; exact HN.out.kids.len) HOWN.out HROW.out HB.out HYS.out HER.out HS.out.2)
      clear hrow hkn
      go_wp2_with fail
      (try simp only [Exit.inBlock, Exit.then])
      refine bodyPost_ret (results_cell_row rfl _ _ _ _ _ _ _ rfl HS.out.1.blk Tryz.underlying60 rfl (by kernel_rfl)) rfl ?_
      exact HEND.out
end

section
open Go.RowKit Go.Sort Go.Lib

theorem kids_le (l : List PT) : l.length ≤ sizes l := by
  unfold sizes
  induction l with
  | nil => simp
  | cons x l ih => have := Rose.size_pos x; simp only [List.length_cons, List.map_cons, List.sum_cons]; omega
theorem refBareAt_any (t : PT) : ∀ w, LR.lies w t → t.size ≤ 1000 → BareAt 38 t w := by
  refine Rose.ind (P := fun (t : PT) => ∀ w, LR.lies w t → t.size ≤ 1000 → BareAt 38 t w) (fun a l ih => ?_) t
  intro w hl hs
  have HN := nodeIn hl
  have hsz : sizes l + 1 = (Rose.node a l).size := sizes_kids (.node a l)
  refine ref_Bare12_of HN ?_ (fun x hx W hW => ih x hx W (LR.lies_below hW x (HN.each x hx)) ?_)
  · have h1 := kids_le l
    have h2 := HN.kids.len
    omega
  · have h2 : x.size ≤ sizes l := le_sum_of_mem (List.mem_map_of_mem hx)
    omega

structure NodeB (w : World) (a : BH) (l : List PB) : Prop where
  own : BH.Own a
  len : l.length = a.kn
  row : RowE LB.encT 3 w a.kp l
  each : ∀ t ∈ l, LB.lies w t
theorem nodeB_in {w : World} {a : BH} {l : List PB} (h : LB.lies w (.node a l)) : NodeB w a l := by
  rw [Laid.lies_node] at h
  exact ⟨h.1, h.2.1, h.2.2.1, h.2.2.2⟩
theorem NodeB.below {w w' : World} {a : BH} {l : List PB} (h : NodeB w a l) (hb : Below w.heap.size w w') : NodeB w' a l := ⟨h.own, h.len, h.row.below hb, fun t ht => LB.lies_below hb t (h.each t ht)⟩
theorem NodeB.kid {w : World} {a : BH} {l : List PB} (h : NodeB w a l) {j : Nat} {t : PB} (hx : l[j]? = some t) :
    ∃ b o, a.kp = some ⟨b, o, none⟩ ∧ b < w.heap.size ∧ w.cell? ⟨b, o + j * 3, none⟩ = some (.int .u8 t.head.kind) ∧ w.cell? ⟨b, o + j * 3 + 1, none⟩ = some (.int .i64 t.head.var) ∧ w.cell? ⟨b, o + j * 3 + 2, none⟩ = some (.slice t.head.kp t.head.kn t.head.kc) := by
  obtain ⟨b, o, hp, hb, hc⟩ := h.row.elem hx
  exact ⟨b, o, hp, hb, by simpa using hc 0 _ rfl, hc 1 _ rfl, hc 2 _ rfl⟩
/-- two boxes of types -/
abbrev boxesB (w : World) (a b : BH) : World := (w.alloc (.cells #[.int .u8 a.kind, .int .i64 a.var, .slice a.kp a.kn a.kc] 60)).alloc (.cells #[.int .u8 b.kind, .int .i64 b.var, .slice b.kp b.kn b.kc] 60)
theorem boxesB_below (w : World) (a b : BH) : Below w.heap.size w (boxesB w a b) := ((Below.refl w.heap.size w).alloc (Nat.le_refl _) _).alloc (by simp) _
theorem boxesB_cells {w w1 : World} {a b : BH} (hb : Below (w.heap.size + 2) (boxesB w a b) w1) :
    w1.cell? ⟨w.heap.size, 2, none⟩ = some (.slice a.kp a.kn a.kc) ∧ w1.cell? ⟨w.heap.size + 1, 2, none⟩ = some (.slice b.kp b.kn b.kc) := by
  refine ⟨?_, ?_⟩ <;> (rw [hb.cell (by simp)]; go_simp)
/-- the same types, as they lie in two places -/
def SameB (x y : PB) (W : World) : Prop := Calls Tryz.prog 36 #[aggB x.head, aggB y.head] W fun e w' => e = .returned (.bool true) ∧ Below W.heap.size W w'
set_option maxHeartbeats 4000000 in
theorem ref_Same08_of {a b : BH} {l m : List PB} {w : World} (ha : NodeB w a l) (hb : NodeB w b m) (hk : a.kind = b.kind) (hv : a.var = b.var) (hn : a.kn = b.kn)
    (hf : ∀ (j : Nat) (x y : PB), l[j]? = some x → m[j]? = some y → ∀ W, Below w.heap.size w W → SameB x y W) : SameB (.node a l) (.node b m) w := by
  have HBX := Lib.hid (boxesB_below w a b)
  have HNA := Lib.hid ha
  have HNB := Lib.hid hb
  have HF := Lib.hid hf
  have HNK := Lib.hid hn
  have hma := ha.own.kmax
  have hmb := hb.own.kmax
  have b1 : (a.kind != b.kind) = false := by simpa using hk
  have b2 : (a.var != b.var) = false := by simpa using hv
  have b3 : ((a.kn : Int) != (b.kn : Int)) = false := by rw [hn]; simp
  have HC : Hid (Below (w.heap.size + 2) (boxesB w a b) (boxesB w a b)) := Below.refl _ _
  show Calls _ _ #[aggB a, aggB b] w _
  clear ha hb hf hk hv hn
  go_enter Tryz.func36, Tryz.ntmps36
  go_wp2_with fail
  generalize hWW : (w.alloc (.cells #[.int .u8 a.kind, .int .i64 a.var, .slice a.kp a.kn a.kc] 60)).alloc (.cells #[.int .u8 b.kind, .int .i64 b.var, .slice b.kp b.kn b.kc] 60) = w2
  have HB2 : Hid (Below w.heap.size w w2) := by show Below _ _ _; rw [← hWW]; exact HBX.out
  have HC2 : Hid (Below (w.heap.size + 2) (boxesB w a b) w2) := by show Below _ _ _; rw [← hWW]; exact HC.out
  clear hWW
  go_loopw [5, 30] (fun _ i wr => ∃ k : Nat, k ≤ a.kn ∧ i = .int .i64 k ∧ Below w2.heap.size w2 wr) (fun _ i _ => a.kn - (intOf i).toNat)
  case atStart => exact ⟨0, by omega, rfl, Below.refl _ _⟩
  case round =>
    obtain ⟨k, hk, rfl, hb⟩ := hrel
    have HB := Lib.hid hb
    clear hb
    have HBW := Lib.hid (HB2.out.trans (HB.out.mono HB2.out.size))
    have HCW := Lib.hid (HC2.out.trans (HB.out.mono (by have := HC2.out.size; simpa using this)))
    by_cases hlt : k < a.kn
    · obtain ⟨x, hx⟩ := get_of_lt (l := l) (j := k) (by rw [HNA.out.len]; exact hlt)
      have hltb : k < b.kn := by have := HNK.out; omega
      obtain ⟨y, hy⟩ := get_of_lt (l := m) (j := k) (by rw [HNB.out.len]; exact hltb)
      have HX := Lib.hid hx
      have HY := Lib.hid hy
      obtain ⟨g, o, hbo, hbl, d0, d1, d2⟩ := (HNA.out.below HBW.out).kid hx
      obtain ⟨g', o', hbo', hbl', e0, e1, e2⟩ := (HNB.out.below HBW.out).kid hy
      obtain ⟨c3, c3'⟩ := boxesB_cells HCW.out
      rw [hbo] at c3
      rw [hbo'] at c3'
      have i0 : (0 : Int) ≤ (k : Int) := by omega
      have i1 : (k : Int) < (a.kn : Int) := by omega
      have i2 : (k : Int) < (b.kn : Int) := by omega
      have HSS : Hid (∀ W, Below wr.heap.size wr W → W.cell? ⟨w.heap.size, 2, none⟩ = some (.slice (some ⟨g, o, none⟩) a.kn a.kc) ∧ W.cell? ⟨w.heap.size + 1, 2, none⟩ = some (.slice (some ⟨g', o', none⟩) b.kn b.kc) ∧ W.cell? ⟨g, o + k * 3, none⟩ = some (.int .u8 x.head.kind) ∧ W.cell? ⟨g, o + k * 3 + 1, none⟩ = some (.int .i64 x.head.var) ∧ W.cell? ⟨g, o + k * 3 + 2, none⟩ = some (.slice x.head.kp x.head.kn x.head.kc) ∧
          W.cell? ⟨g', o' + k * 3, none⟩ = some (.int .u8 y.head.kind) ∧ W.cell? ⟨g', o' + k * 3 + 1, none⟩ = some (.int .i64 y.head.var) ∧ W.cell? ⟨g', o' + k * 3 + 2, none⟩ = some (.slice y.head.kp y.head.kn y.head.kc) ∧ Below wr.heap.size wr W) := fun W h =>
        ⟨by rw [h.cell (cell_block c3)]; exact c3, by rw [h.cell (cell_block c3')]; exact c3', by rw [h.cell hbl]; exact d0, by rw [h.cell hbl]; exact d1, by rw [h.cell hbl]; exact d2, by rw [h.cell hbl']; exact e0, by rw [h.cell hbl']; exact e1, by rw [h.cell hbl']; exact e2, h⟩
      clear hx hy hbo hbo' hbl hbl' c3 c3' d0 d1 d2 e0 e1 e2
      go_wp2_with fail
      go_region_held3 (fun W => W.cell? ⟨w.heap.size, 2, none⟩ = some (.slice (some ⟨g, o, none⟩) a.kn a.kc) ∧ W.cell? ⟨w.heap.size + 1, 2, none⟩ = some (.slice (some ⟨g', o', none⟩) b.kn b.kc) ∧ W.cell? ⟨g, o + k * 3, none⟩ = some (.int .u8 x.head.kind) ∧ W.cell? ⟨g, o + k * 3 + 1, none⟩ = some (.int .i64 x.head.var) ∧ W.cell? ⟨g, o + k * 3 + 2, none⟩ = some (.slice x.head.kp x.head.kn x.head.kc) ∧
          W.cell? ⟨g', o' + k * 3, none⟩ = some (.int .u8 y.head.kind) ∧ W.cell? ⟨g', o' + k * 3 + 1, none⟩ = some (.int .i64 y.head.var) ∧ W.cell? ⟨g', o' + k * 3 + 2, none⟩ = some (.slice y.head.kp y.head.kn y.head.kc) ∧ Below wr.heap.size wr W)
        (first
          | exact HSS.out _ (bel_drew _)
          | exact HSS.out _ hZ)
        ((go_at_call 36; refine Calls.mono (HF.out k x y HX.out HY.out _ (HBW.out.trans (Below.mono (by go_split_ands; assumption) HBW.out.size))) ?_; rintro e w8 ⟨rfl, hb8⟩; have hZ := bel_step (w0 := wr) (by go_split_ands; assumption) hb8))
      rename_i hH
      clear hH hb8
      have hb8 := hZ
      clear hZ
      go_wp2_with fail
      go_roundw
      case rel => exact ⟨k + 1, by omega, by go_num, HB.out.trans (hb8.mono HB.out.size)⟩
      case measure => simp [intOf]; omega
    · have hkn : k = a.kn := by omega
      clear hkn
      go_wp2_with fail
      go_ret
      exact ⟨rfl, HBW.out⟩
theorem sameB_any (x : PB) : ∀ y w, LB.lies w x → LB.lies w y → PB.er x = PB.er y → SameB x y w := by
  refine Rose.ind (P := fun (x : PB) => ∀ y w, LB.lies w x → LB.lies w y → PB.er x = PB.er y → SameB x y w) (fun a l ih => ?_) x
  intro y w hx hy he
  obtain ⟨b, m⟩ := y
  have HX := nodeB_in hx
  have HY := nodeB_in hy
  rw [PB.er_node, PB.er_node] at he
  injection he with h1 h2
  injection h1 with h3 h4
  have hlen : l.length = m.length := by simpa using congrArg List.length h2
  refine ref_Same08_of HX HY h3 h4 (by rw [← HX.len, ← HY.len]; exact hlen) (fun j x y hxj hyj W hW => ih x (List.mem_of_getElem? hxj) y W (LB.lies_below hW x (HX.each x (List.mem_of_getElem? hxj))) (LB.lies_below hW y (HY.each y (List.mem_of_getElem? hyj))) ?_)
  have := congrArg (fun l => l[j]?) h2
  simp only [List.getElem?_map, hxj, hyj, Option.map_some] at this
  exact Option.some.inj this

theorem join2 (tx ty dd : ByteArray) : joinB ([⟨#[40]⟩, tx, ⟨#[42]⟩, ty] ++ [⟨#[64]⟩, dd, ⟨#[41]⟩]) = ⟨#[40, 32]⟩ ++ tx ++ ⟨#[32, 42, 32]⟩ ++ ty ++ (⟨#[32, 64, 32]⟩ ++ dd ++ ⟨#[32, 41]⟩) := by
  apply ByteArray.ext
  simp [joinB, Lib.join_cons, Lib.joinTail]
theorem join3 (tx dd : ByteArray) : joinB ([⟨#[40, 32, 114, 101, 102]⟩, tx] ++ [⟨#[64]⟩, dd, ⟨#[41]⟩]) = ⟨#[40, 32, 114, 101, 102, 32]⟩ ++ tx ++ (⟨#[32, 64, 32]⟩ ++ dd ++ ⟨#[32, 41]⟩) := by
  apply ByteArray.ext
  simp [joinB, Lib.join_cons, Lib.joinTail]
theorem join4 (tx ty ta dd : ByteArray) : joinB ([⟨#[40]⟩, tx, ⟨#[45, 62]⟩, ty, ⟨#[33]⟩, ta] ++ [⟨#[64]⟩, dd, ⟨#[41]⟩]) = ⟨#[40, 32]⟩ ++ tx ++ ⟨#[32, 45, 62, 32]⟩ ++ ty ++ ⟨#[32, 33, 32]⟩ ++ ta ++ (⟨#[32, 64, 32]⟩ ++ dd ++ ⟨#[32, 41]⟩) := by
  apply ByteArray.ext
  simp [joinB, Lib.join_cons, Lib.joinTail]
/-- what the reference's Text answers -/
def RTextAt (x : PT) (W : World) : Prop := Calls Tryz.prog 39 #[aggR x.head] W fun e w' => e = .returned (.string (textT x.er)) ∧ Below W.heap.size W w'
def REffTextAt (a : RH) (w : World) : Prop := ∀ W, Below w.heap.size w W → Calls Tryz.prog 67 #[.slice a.ep a.en a.ec] W fun e w' => e = .returned (.string (textA (effL a.eff))) ∧ Below W.heap.size W w'
theorem boxR_cells {w w1 : World} {a : RH} (hb : Below (w.heap.size + 1) (w.alloc (.cells #[.int .u8 a.kind, .int .i64 a.rho, .slice a.ep a.en a.ec, .slice a.kp a.kn a.kc] 47)) w1) :
    w1.cell? ⟨w.heap.size, 0, none⟩ = some (.int .u8 a.kind) ∧ w1.cell? ⟨w.heap.size, 1, none⟩ = some (.int .i64 a.rho) ∧ w1.cell? ⟨w.heap.size, 2, none⟩ = some (.slice a.ep a.en a.ec) ∧ w1.cell? ⟨w.heap.size, 3, none⟩ = some (.slice a.kp a.kn a.kc) := by
  refine ⟨?_, ?_, ?_, ?_⟩ <;> (rw [hb.cell (by simp), cell_new]; rfl)
set_option maxHeartbeats 4000000 in
theorem ref_Text12_of {a : RH} {l : List PT} {w : World} (hN : NodeIn w a l) (hn : nodeB a.plain a.kn = true) (he : REffTextAt a w) (hs : (textT (PT.er (.node a l))).size ≤ 1000000000000) (hf : ∀ x ∈ l, ∀ W, Below w.heap.size w W → RTextAt x W) :
    RTextAt (.node a l) w := by
  have HBX := Lib.hid ((Below.refl w.heap.size w).alloc (Nat.le_refl _) (.cells #[.int .u8 a.kind, .int .i64 a.rho, .slice a.ep a.en a.ec, .slice a.kp a.kn a.kc] 47))
  have hkm := hN.own.kmax
  have hr1 := hN.own.r1
  have HDS := Lib.hid (decB_size a.rho hN.own.r0 hN.own.r1)
  have HN := Lib.hid hN
  have HEF := Lib.hid he
  have HS := Lib.hid hs
  have HF := Lib.hid hf
  have HTX := Lib.hid (textT_er a l)
  have hnl := hN.kids.len
  have HKS : Hid (∀ x ∈ l, (textT (PT.er x)).size ≤ 1000000000000) := fun x hx => Nat.le_trans (nodeText_mem (by rw [hnl]; exact hn) hx) hs
  show Calls _ _ #[aggR a] w _
  clear hN he hs hf
  obtain ⟨kd, rr, ep, en, ec, eff, kp, kn, kc⟩ := a
  simp only at hkm hnl hr1
  have hds : (decB rr).size ≤ 21 := HDS.out
  by_cases h1 : kd = 1
  · subst h1
    have HR : Hid (textT (PT.er (.node ⟨1, rr, ep, en, ec, eff, kp, kn, kc⟩ l)) = ⟨#[105, 110, 116]⟩) := by show _ = _; rw [HTX.out]; rfl
    clear hn
    go_enter Tryz.func39, Tryz.ntmps39
    go_wp2_with fail
    go_ret
    exact ⟨ret_str HR.out.symm, HBX.out⟩
  by_cases h2 : kd = 2
  · subst h2
    obtain rfl : kn = 2 := by unfold nodeB at hn; simp [RH.plain] at hn; exact hn.2
    obtain ⟨x, y, rfl⟩ : ∃ x y, l = [x, y] := by match l, hnl with | [y, z], _ => exact ⟨y, z, rfl⟩
    have h0 : 0 ≤ rr := by unfold nodeB at hn; simp [RH.plain] at hn; first | exact of_decide_eq_true hn.1 | exact hn.1
    have HJ : Hid (textT (PT.er (.node ⟨2, rr, ep, en, ec, eff, kp, 2, kc⟩ [x, y])) = ⟨#[40, 32]⟩ ++ textT (PT.er x) ++ ⟨#[32, 42, 32]⟩ ++ textT (PT.er y) ++ (⟨#[32, 64, 32]⟩ ++ decB rr ++ ⟨#[32, 41]⟩)) := by show _ = _; rw [HTX.out]; exact (join2 _ _ _)
    have hsx := HKS.out x (by simp)
    have hsy := HKS.out y (by simp)
    clear hn
    obtain ⟨b, o, rfl, hbl, d0, d1, d2, d3⟩ := HN.out.rowT.kid (j := 0) rfl
    obtain ⟨b', o', hbo, hbl', e0, e1, e2, e3⟩ := HN.out.rowT.kid (j := 1) rfl
    cases hbo
    simp only [Nat.zero_mul, Nat.add_zero, Nat.one_mul] at d0 d1 d2 d3 e0 e1 e2 e3
    have HKC : Hid (∀ W, Below w.heap.size w W → (W.cell? ⟨b, o, none⟩ = some (.int .u8 x.head.kind) ∧ W.cell? ⟨b, o + 1, none⟩ = some (.int .i64 x.head.rho) ∧ W.cell? ⟨b, o + 2, none⟩ = some (.slice x.head.ep x.head.en x.head.ec) ∧ W.cell? ⟨b, o + 3, none⟩ = some (.slice x.head.kp x.head.kn x.head.kc)) ∧
        (W.cell? ⟨b, o + 4, none⟩ = some (.int .u8 y.head.kind) ∧ W.cell? ⟨b, o + 4 + 1, none⟩ = some (.int .i64 y.head.rho) ∧ W.cell? ⟨b, o + 4 + 2, none⟩ = some (.slice y.head.ep y.head.en y.head.ec) ∧ W.cell? ⟨b, o + 4 + 3, none⟩ = some (.slice y.head.kp y.head.kn y.head.kc))) := fun W h =>
      ⟨⟨by rw [h.cell hbl]; exact d0, by rw [h.cell hbl]; exact d1, by rw [h.cell hbl]; exact d2, by rw [h.cell hbl]; exact d3⟩, ⟨by rw [h.cell hbl]; exact e0, by rw [h.cell hbl]; exact e1, by rw [h.cell hbl]; exact e2, by rw [h.cell hbl]; exact e3⟩⟩
    have HK : Hid (∀ t ∈ [x, y], ∀ W, Below w.heap.size w W → Calls Tryz.prog 39 #[aggR t.head] W fun e w' => e = .returned (.string (textT (PT.er t))) ∧ Below W.heap.size W w') := fun t ht W h => HF.out t ht W h
    have H0 := Lib.hid h0
    go_enter Tryz.func39, Tryz.ntmps39
    go_wp2_with fail
    refine (ref_Digits_pos H0.out hr1 _).mono ?_
    rintro e w1 ⟨rfl, hb⟩
    have HB1 := Lib.hid (HBX.out.trans (hb.mono HBX.out.size))
    have HC1 : Hid (Below (w.heap.size + 1) (w.alloc (.cells #[.int .u8 2, .int .i64 rr, .slice ep en ec, .slice (some ⟨b, o, none⟩) 2 kc] 47)) w1) := by show Below _ _ _; simpa using hb
    clear hb d0 d1 d2 d3 e0 e1 e2 e3
    have HBC := Lib.hid (fun w1 => boxR_cells (w := w) (w1 := w1) (a := ⟨2, rr, ep, en, ec, eff, some ⟨b, o, none⟩, 2, kc⟩))
    obtain ⟨c0, c1, c2, c3⟩ := HBC.out _ HC1.out
    obtain ⟨⟨d0, d1, d2, d3⟩, e0, e1, e2, e3⟩ := HKC.out _ HB1.out
    go_wp2_with fail
    refine ((HK.out x (by simp) _ HB1.out)).mono ?_
    rintro e w2 ⟨rfl, hb⟩
    have HB2 := Lib.hid (HB1.out.trans (hb.mono HB1.out.size))
    have HC2 := Lib.hid (HC1.out.trans (hb.mono (by have := HC1.out.size; simpa using this)))
    clear hb d0 d1 d2 d3 e0 e1 e2 e3 c0 c1 c2 c3
    obtain ⟨c0, c1, c2, c3⟩ := HBC.out _ HC2.out
    obtain ⟨⟨d0, d1, d2, d3⟩, e0, e1, e2, e3⟩ := HKC.out _ HB2.out
    go_wp2_with fail
    refine ((HK.out y (by simp) _ HB2.out)).mono ?_
    rintro e w3 ⟨rfl, hb⟩
    have HB3 := Lib.hid (HB2.out.trans (hb.mono HB2.out.size))
    have HC3 := Lib.hid (HC2.out.trans (hb.mono (by have := HC2.out.size; simpa using this)))
    clear hb d0 d1 d2 d3 e0 e1 e2 e3 c0 c1 c2 c3
    obtain ⟨c0, c1, c2, c3⟩ := HBC.out _ HC3.out
    obtain ⟨⟨d0, d1, d2, d3⟩, e0, e1, e2, e3⟩ := HKC.out _ HB3.out
    go_wp2_with fail
    go_ret
    exact ⟨ret_str HJ.out.symm, HB3.out⟩
  by_cases h4 : kd = 4
  · subst h4
    have hta : (textA (effL eff)).size ≤ 1000000000000 := by
      have h := HS.out
      rw [HTX.out] at h
      refine Nat.le_trans (joinB_mem ?_) h
      show textA (effL eff) ∈ partsL (RH.plain ⟨4, rr, ep, en, ec, eff, kp, kn, kc⟩) _ _ ++ _
      simp [partsL, RH.plain]
    obtain rfl : kn = 2 := by unfold nodeB at hn; simp [RH.plain] at hn; exact hn.2
    obtain ⟨x, y, rfl⟩ : ∃ x y, l = [x, y] := by match l, hnl with | [y, z], _ => exact ⟨y, z, rfl⟩
    have h0 : 0 ≤ rr := by unfold nodeB at hn; simp [RH.plain] at hn; first | exact of_decide_eq_true hn.1 | exact hn.1
    have HJ : Hid (textT (PT.er (.node ⟨4, rr, ep, en, ec, eff, kp, 2, kc⟩ [x, y])) = ⟨#[40, 32]⟩ ++ textT (PT.er x) ++ ⟨#[32, 45, 62, 32]⟩ ++ textT (PT.er y) ++ ⟨#[32, 33, 32]⟩ ++ textA (effL eff) ++ (⟨#[32, 64, 32]⟩ ++ decB rr ++ ⟨#[32, 41]⟩)) := by show _ = _; rw [HTX.out]; exact (join4 _ _ _ _)
    have hsx := HKS.out x (by simp)
    have hsy := HKS.out y (by simp)
    clear hn
    obtain ⟨b, o, rfl, hbl, d0, d1, d2, d3⟩ := HN.out.rowT.kid (j := 0) rfl
    obtain ⟨b', o', hbo, hbl', e0, e1, e2, e3⟩ := HN.out.rowT.kid (j := 1) rfl
    cases hbo
    simp only [Nat.zero_mul, Nat.add_zero, Nat.one_mul] at d0 d1 d2 d3 e0 e1 e2 e3
    have HKC : Hid (∀ W, Below w.heap.size w W → (W.cell? ⟨b, o, none⟩ = some (.int .u8 x.head.kind) ∧ W.cell? ⟨b, o + 1, none⟩ = some (.int .i64 x.head.rho) ∧ W.cell? ⟨b, o + 2, none⟩ = some (.slice x.head.ep x.head.en x.head.ec) ∧ W.cell? ⟨b, o + 3, none⟩ = some (.slice x.head.kp x.head.kn x.head.kc)) ∧
        (W.cell? ⟨b, o + 4, none⟩ = some (.int .u8 y.head.kind) ∧ W.cell? ⟨b, o + 4 + 1, none⟩ = some (.int .i64 y.head.rho) ∧ W.cell? ⟨b, o + 4 + 2, none⟩ = some (.slice y.head.ep y.head.en y.head.ec) ∧ W.cell? ⟨b, o + 4 + 3, none⟩ = some (.slice y.head.kp y.head.kn y.head.kc))) := fun W h =>
      ⟨⟨by rw [h.cell hbl]; exact d0, by rw [h.cell hbl]; exact d1, by rw [h.cell hbl]; exact d2, by rw [h.cell hbl]; exact d3⟩, ⟨by rw [h.cell hbl]; exact e0, by rw [h.cell hbl]; exact e1, by rw [h.cell hbl]; exact e2, by rw [h.cell hbl]; exact e3⟩⟩
    have HK : Hid (∀ t ∈ [x, y], ∀ W, Below w.heap.size w W → Calls Tryz.prog 39 #[aggR t.head] W fun e w' => e = .returned (.string (textT (PT.er t))) ∧ Below W.heap.size W w') := fun t ht W h => HF.out t ht W h
    have H0 := Lib.hid h0
    go_enter Tryz.func39, Tryz.ntmps39
    go_wp2_with fail
    refine (ref_Digits_pos H0.out hr1 _).mono ?_
    rintro e w1 ⟨rfl, hb⟩
    have HB1 := Lib.hid (HBX.out.trans (hb.mono HBX.out.size))
    have HC1 : Hid (Below (w.heap.size + 1) (w.alloc (.cells #[.int .u8 4, .int .i64 rr, .slice ep en ec, .slice (some ⟨b, o, none⟩) 2 kc] 47)) w1) := by show Below _ _ _; simpa using hb
    clear hb d0 d1 d2 d3 e0 e1 e2 e3
    have HBC := Lib.hid (fun w1 => boxR_cells (w := w) (w1 := w1) (a := ⟨4, rr, ep, en, ec, eff, some ⟨b, o, none⟩, 2, kc⟩))
    obtain ⟨c0, c1, c2, c3⟩ := HBC.out _ HC1.out
    obtain ⟨⟨d0, d1, d2, d3⟩, e0, e1, e2, e3⟩ := HKC.out _ HB1.out
    go_wp2_with fail
    refine ((HK.out x (by simp) _ HB1.out)).mono ?_
    rintro e w2 ⟨rfl, hb⟩
    have HB2 := Lib.hid (HB1.out.trans (hb.mono HB1.out.size))
    have HC2 := Lib.hid (HC1.out.trans (hb.mono (by have := HC1.out.size; simpa using this)))
    clear hb d0 d1 d2 d3 e0 e1 e2 e3 c0 c1 c2 c3
    obtain ⟨c0, c1, c2, c3⟩ := HBC.out _ HC2.out
    obtain ⟨⟨d0, d1, d2, d3⟩, e0, e1, e2, e3⟩ := HKC.out _ HB2.out
    go_wp2_with fail
    refine ((HK.out y (by simp) _ HB2.out)).mono ?_
    rintro e w3 ⟨rfl, hb⟩
    have HB3 := Lib.hid (HB2.out.trans (hb.mono HB2.out.size))
    have HC3 := Lib.hid (HC2.out.trans (hb.mono (by have := HC2.out.size; simpa using this)))
    clear hb d0 d1 d2 d3 e0 e1 e2 e3 c0 c1 c2 c3
    obtain ⟨c0, c1, c2, c3⟩ := HBC.out _ HC3.out
    obtain ⟨⟨d0, d1, d2, d3⟩, e0, e1, e2, e3⟩ := HKC.out _ HB3.out
    go_wp2_with fail
    refine (HEF.out _ HB3.out).mono ?_
    rintro e w4 ⟨rfl, hb⟩
    have HB4 := Lib.hid (HB3.out.trans (hb.mono HB3.out.size))
    clear hb d0 d1 d2 d3 e0 e1 e2 e3 c0 c1 c2 c3
    go_wp2_with fail
    go_ret
    exact ⟨ret_str HJ.out.symm, HB4.out⟩
  by_cases h3 : kd = 3
  · subst h3
    obtain rfl : kn = 1 := by unfold nodeB at hn; simp [RH.plain] at hn; exact hn.2
    obtain ⟨x, rfl⟩ := List.length_eq_one_iff.1 hnl
    have h0 : 0 ≤ rr := by unfold nodeB at hn; simp [RH.plain] at hn; first | exact of_decide_eq_true hn.1 | exact hn.1
    have HJ : Hid (textT (PT.er (.node ⟨3, rr, ep, en, ec, eff, kp, 1, kc⟩ [x])) = ⟨#[40, 32, 114, 101, 102, 32]⟩ ++ textT (PT.er x) ++ (⟨#[32, 64, 32]⟩ ++ decB rr ++ ⟨#[32, 41]⟩)) := by show _ = _; rw [HTX.out]; exact (join3 _ _)
    have hsx := HKS.out x (by simp)
    clear hn
    obtain ⟨b, o, rfl, hbl, d0, d1, d2, d3⟩ := HN.out.rowT.kid (j := 0) rfl
    simp only [Nat.zero_mul, Nat.add_zero] at d0 d1 d2 d3
    have HKC : Hid (∀ W, Below w.heap.size w W → (W.cell? ⟨b, o, none⟩ = some (.int .u8 x.head.kind) ∧ W.cell? ⟨b, o + 1, none⟩ = some (.int .i64 x.head.rho) ∧ W.cell? ⟨b, o + 2, none⟩ = some (.slice x.head.ep x.head.en x.head.ec) ∧ W.cell? ⟨b, o + 3, none⟩ = some (.slice x.head.kp x.head.kn x.head.kc))) := fun W h =>
      ⟨by rw [h.cell hbl]; exact d0, by rw [h.cell hbl]; exact d1, by rw [h.cell hbl]; exact d2, by rw [h.cell hbl]; exact d3⟩
    have H0 := Lib.hid h0
    go_enter Tryz.func39, Tryz.ntmps39
    go_wp2_with fail
    refine (ref_Digits_pos H0.out hr1 _).mono ?_
    rintro e w1 ⟨rfl, hb⟩
    have HB1 := Lib.hid (HBX.out.trans (hb.mono HBX.out.size))
    have HC1 : Hid (Below (w.heap.size + 1) (w.alloc (.cells #[.int .u8 3, .int .i64 rr, .slice ep en ec, .slice (some ⟨b, o, none⟩) 1 kc] 47)) w1) := by show Below _ _ _; simpa using hb
    clear hb d0 d1 d2 d3
    have HBC := Lib.hid (fun w1 => boxR_cells (w := w) (w1 := w1) (a := ⟨3, rr, ep, en, ec, eff, some ⟨b, o, none⟩, 1, kc⟩))
    obtain ⟨c0, c1, c2, c3⟩ := HBC.out _ HC1.out
    obtain ⟨d0, d1, d2, d3⟩ := HKC.out _ HB1.out
    go_wp2_with fail
    refine ((show Calls Tryz.prog 39 #[aggR x.head] _ fun e w' => e = .returned (.string (textT (PT.er x))) ∧ Below _ _ w' from HF.out x (by simp) _ HB1.out)).mono ?_
    rintro e w2 ⟨rfl, hb⟩
    have HB2 := Lib.hid (HB1.out.trans (hb.mono HB1.out.size))
    have HC2 := Lib.hid (HC1.out.trans (hb.mono (by have := HC1.out.size; simpa using this)))
    clear hb d0 d1 d2 d3 c0 c1 c2 c3
    obtain ⟨c0, c1, c2, c3⟩ := HBC.out _ HC2.out
    go_wp2_with fail
    go_ret
    exact ⟨ret_str HJ.out.symm, HB2.out⟩
  · exfalso
    simp [nodeB, RH.plain, h1, h2, h3, h4] at hn

theorem joinB_le (l : List ByteArray) : (joinB l).size ≤ (l.map ByteArray.size).sum + l.length := by
  rw [joinB_size]
  cases l with
  | nil => simp [Lib.join]
  | cons x r =>
    rw [List.map_cons, Lib.join_cons, List.length_append, Lib.joinTail_length]
    have e : Lib.lens (r.map (·.data.toList)) = (r.map ByteArray.size).sum := by
      unfold Lib.lens
      rw [List.map_map]
      congr 1
    rw [e]
    simp only [List.map_cons, List.sum_cons, List.length_cons, List.length_nil, List.length_map, Array.length_toList]
    have : x.data.size = x.size := rfl
    omega
theorem textA_le {l : List Atom} (hg : greatB l = false) (hok : ∀ x ∈ l, okAt x) : (textA (effL l)).size ≤ 100000400 := by
  unfold textA
  split
  · decide
  · have h := join_len 1000000 [32, 44, 32] (((effL l).map textOne).map (·.data.toList)) (by
      intro y hy
      simp only [List.mem_map] at hy
      obtain ⟨z, ⟨a, ha, rfl⟩, rfl⟩ := hy
      have ha' : a ∈ l ∧ atomB a = true := by
        unfold effL at ha
        rw [mem_sortA, List.mem_filter] at ha; exact ha
      have := textOne_size hg hok a ha'.1 ha'.2
      show (textOne a).data.toList.length ≤ _
      rw [Array.length_toList]; exact this)
    have h2 := effL_length l
    have h3 := greatB_len' hg
    simp only [List.length_map] at h
    show (Lib.join _ _).toArray.size ≤ _
    rw [List.size_toArray]
    refine Nat.le_trans h ?_
    refine Nat.le_trans (Nat.mul_le_mul_right _ (show (effL l).length ≤ 100 by omega)) (by decide)
theorem getD_sum : ∀ l : List ByteArray, (l.getD 0 .empty).size + (l.getD 1 .empty).size ≤ (l.map ByteArray.size).sum
  | [] => by simp
  | [x] => by simp
  | x :: y :: l => by simp
theorem text_le (t : PT) {w : World} : LR.lies w t → effsOK t.er = true → (textT t.er).size ≤ 100000500 * t.size := by
  refine Rose.ind (P := fun (t : PT) => LR.lies w t → effsOK t.er = true → (textT t.er).size ≤ 100000500 * t.size) (fun a l ih hl h => ?_) t
  have HN := nodeIn hl
  rw [PT.er_node, effsOK_node, Bool.and_eq_true, List.all_map, List.all_eq_true] at h
  have hta : (textA (effL a.plain.eff)).size ≤ 100000400 := textA_le (show greatB a.eff = false by simpa [RH.plain] using h.1) HN.own.ok
  have hd : (decB a.plain.rho).size ≤ 21 := decB_size a.rho HN.own.r0 HN.own.r1
  have hk := getD_sum (l.map (fun t => textT (PT.er t)))
  have hsum := sum_le_mul (fun t => (textT (PT.er t)).size) Rose.size 100000500 l (fun x hx => ih x hx (HN.each x hx) (h.2 x hx))
  rw [List.map_map] at hk
  rw [textT_er, Rose.size_node]
  have hk' : ((l.map (fun t => textT (PT.er t))).getD 0 .empty).size + ((l.map (fun t => textT (PT.er t))).getD 1 .empty).size ≤ (l.map (fun t => (textT (PT.er t)).size)).sum := hk
  unfold nodeText
  generalize (l.map (fun t => textT (PT.er t))).getD 0 .empty = k0 at hk' ⊢
  generalize (l.map (fun t => textT (PT.er t))).getD 1 .empty = k1 at hk' ⊢
  have z0 : bInt.size = 3 := rfl
  have z1 : (⟨#[40]⟩ : ByteArray).size = 1 := rfl
  have z2 : (⟨#[42]⟩ : ByteArray).size = 1 := rfl
  have z3 : (⟨#[40, 32, 114, 101, 102]⟩ : ByteArray).size = 5 := rfl
  have z4 : (⟨#[45, 62]⟩ : ByteArray).size = 2 := rfl
  have z5 : (⟨#[33]⟩ : ByteArray).size = 1 := rfl
  have z6 : (⟨#[64]⟩ : ByteArray).size = 1 := rfl
  have z7 : (⟨#[41]⟩ : ByteArray).size = 1 := rfl
  split
  · omega
  · refine Nat.le_trans (joinB_le _) ?_
    unfold partsL atL
    split
    · simp only [List.map_append, List.map_cons, List.map_nil, List.sum_append_nat, List.sum_cons, List.sum_nil, List.length_append, List.length_cons, List.length_nil]; omega
    · split
      · simp only [List.map_append, List.map_cons, List.map_nil, List.sum_append_nat, List.sum_cons, List.sum_nil, List.length_append, List.length_cons, List.length_nil]; omega
      · simp only [List.map_append, List.map_cons, List.map_nil, List.sum_append_nat, List.sum_cons, List.sum_nil, List.length_append, List.length_cons, List.length_nil]; omega
theorem text_small {t : PT} {w : World} (hl : LR.lies w t) (hp : SmallP t) : (textT t.er).size ≤ 1000000000000 := by
  have h := text_le t hl hp.effs
  have := hp.size
  omega
theorem rtextAt_any (t : PT) : ∀ w, LR.lies w t → textOK t = true → (textT t.er).size ≤ 1000000000000 → RTextAt t w := by
  refine Rose.ind (P := fun (t : PT) => ∀ w, LR.lies w t → textOK t = true → (textT t.er).size ≤ 1000000000000 → RTextAt t w) (fun a l ih => ?_) t
  intro w hl ho hs
  have HN := nodeIn hl
  rw [textOK_node, Bool.and_eq_true, Bool.and_eq_true, List.all_eq_true] at ho
  obtain ⟨⟨hn, hg⟩, hk⟩ := ho
  have hg : greatB a.eff = false := by simpa using hg
  have hsz := textOne_size hg HN.own.ok
  have hlen := greatB_len' hg
  refine ref_Text12_of HN (by rw [← HN.kids.len]; exact hn) ?_ hs ?_
  · intro W hW
    exact ref_Text_any (HN.own.eff.below hW) (by have := HN.own.eff.len; omega) (fun x hx => (HN.own.ok x hx).r1) hsz
  · intro x hx W hW
    exact ih x hx W (LR.lies_below hW x (HN.each x hx)) (hk x hx) (Nat.le_trans (nodeText_mem hn hx) hs)
end

section
open Go.RowKit Go.Sort Go.Lib

set_option maxHeartbeats 2000000 in
theorem effect_Swap_own (p : Option Addr) (n cap : Nat) (l : List Atom) (p1 : Option Addr) (n1 c1 : Nat) (f : List Int) (p2 : Option Addr) (n2 c2 : Nat) (t : List Int) (w : World) (hn : l.length = n) (hm : n ≤ 1000000) (hr : RowA w p l)
    (hn1 : f.length = n1) (hm1 : n1 ≤ 1000000) (hr1 : RowE encN 1 w p1 f) (hn2 : t.length = n2) (hm2 : n2 ≤ 1000000) (hr2 : RowE encN 1 w p2 t) :
    Calls Tryz.prog 71 #[.slice p n cap, .slice p1 n1 c1, .slice p2 n2 c2] w fun e w' => ∃ v m, e = .returned v ∧ m ≤ n ∧ OwnE encA 3 w' w.heap.size 70 v m (swL f t l) ∧ Below w.heap.size w w' := by
  have HR := Lib.hid hr
  have HN := Lib.hid hn
  have HR1 := Lib.hid hr1
  have HN1 := Lib.hid hn1
  have HR2 := Lib.hid hr2
  have HN2 := Lib.hid hn2
  clear hr hn hr1 hn1 hr2 hn2
  go_enter Tryz.func71, Tryz.ntmps71
  go_wp2_with fail
  refine (effect_Of_any p n cap l _ HN.out hm HR.out).mono ?_
  rintro e w1 ⟨v, m, rfl, hmn, hown, hb⟩
  obtain ⟨q, mc, rfl, hSl, hmc, hrow, _⟩ := hown.row encA_len (by omega)
  have HROW := Lib.hid hrow
  have HSL := Lib.hid hSl
  have HB1 := Lib.hid hb
  generalize hS : sortA (l.filter atomB) = S at HROW HSL
  have HS := Lib.hid hS
  clear hown hb hrow hSl hS
  go_wp2_with fail
  go_loopw [7, 10, 14] (fun u _ i wr => ∃ k : Nat, k ≤ m ∧ i = .int .i64 k ∧ OwnE encA 3 wr w1.heap.size 70 u k ((S.take k).map (swA f t)) ∧ Below w1.heap.size w1 wr) (fun _ _ i _ => m - (intOf i).toNat)
  case atStart => exact ⟨0, by omega, rfl, OwnE.nil _ _ _ _ _, Below.refl _ _⟩
  case round =>
    obtain ⟨k, hk, rfl, hown, hb⟩ := hrel
    have HOWN := Lib.hid hown
    have HB := Lib.hid hb
    clear hown hb
    by_cases hlt : k < m
    · obtain ⟨x, hx⟩ := get_of_lt (l := S) (j := k) (by rw [HSL.out]; exact hlt)
      have HE := Lib.hid hx
      obtain ⟨b, o, rfl, hbl, d0, d1, d2⟩ := RowA.atom (HROW.out.below HB.out) hx
      clear hx hbl
      obtain ⟨kd, rr, ss⟩ := x
      simp only at d0 d1 d2
      have HW := Lib.hid (HB1.out.trans (HB.out.mono HB1.out.size))
      by_cases hk3 : kd = 3
      · subst hk3
        have HO2 := Lib.hid (HOWN.out.below ((Below.refl _ wr).alloc (Nat.le_refl _) (.cells #[.int .u8 3, .int .i64 rr, .string ss] 70)))
        have HB2 : Hid (Below w1.heap.size w1 (wr.alloc (.cells #[.int .u8 3, .int .i64 rr, .string ss] 70))) := HB.out.alloc HB.out.size _
        go_wp2_with fail
        refine (index_is rr p1 n1 c1 f _ _ rfl HN1.out (by omega) ((HR1.out.below HW.out).alloc _)).mono ?_
        rintro e w2 ⟨rfl, rfl⟩
        generalize Lib.idxOf f rr = c
        go_wp2_with (at_builtin; refine wpList_append1 rfl _ _ 25 rfl w1.heap.size 70 _ 3 32 Tryz.underlying25 infoA rfl (by decide) encA encA_len encA_one (⟨3, rr, ss⟩ : Atom) _ _ _ HO2.out rfl (by refine Eq.trans (b := Value.slice (some ⟨wr.heap.size + 1, 0, none⟩) 1 1) rfl ?_; simp) ?c1 ?c2 ?c3 ?_)
        case c1 => omega
        case c2 => omega
        case c3 => exact HB2.out.size
        · intro v' w4 hown' hg
          have HO := Lib.hid hown'
          have HB4 := Lib.hid (Below.own HB2.out hg HB2.out.size HO2.out)
          clear hown' hg
          go_wp2_with fail
          go_roundw
          case rel => exact ⟨k + 1, by omega, by go_num, by
            have e1 : (S.take (k + 1)).map (swA f t) = (S.take k).map (swA f t) ++ [(⟨3, rr, ss⟩ : Atom)] := by rw [take_succ_get HE.out, List.map_append]; simp only [List.map_cons, List.map_nil]; rw [swA_same (.inl rfl)]
            rw [e1, List.map_take]; exact HO.out, HB4.out⟩
          case measure => simp [intOf]; omega
      · have HK3 := Lib.hid hk3
        have hkd : decide (kd = 3) = false := by simp [hk3]
        rcases idx_turn rr f t with ⟨hi, ht⟩ | ⟨j, hj, hi, ht⟩
        · have HI := Lib.hid hi
          have HT := Lib.hid ht
          clear hi ht
          have HO2 := Lib.hid (HOWN.out.below ((Below.refl _ wr).alloc (Nat.le_refl _) (.cells #[.int .u8 kd, .int .i64 rr, .string ss] 70)))
          have HB2 : Hid (Below w1.heap.size w1 (wr.alloc (.cells #[.int .u8 kd, .int .i64 rr, .string ss] 70))) := HB.out.alloc HB.out.size _
          go_wp2_with fail
          refine (index_is rr p1 n1 c1 f _ (-1) HI.out HN1.out (by omega) ((HR1.out.below HW.out).alloc _)).mono ?_
          rintro e w2 ⟨rfl, rfl⟩
          go_wp2_with (at_builtin; refine wpList_append1 rfl _ _ 25 rfl w1.heap.size 70 _ 3 32 Tryz.underlying25 infoA rfl (by decide) encA encA_len encA_one (⟨kd, rr, ss⟩ : Atom) _ _ _ HO2.out rfl (by refine Eq.trans (b := Value.slice (some ⟨wr.heap.size + 1, 0, none⟩) 1 1) rfl ?_; simp) ?c1 ?c2 ?c3 ?_)
          case c1 => omega
          case c2 => omega
          case c3 => exact HB2.out.size
          · intro v' w4 hown' hg
            have HO := Lib.hid hown'
            have HB4 := Lib.hid (Below.own HB2.out hg HB2.out.size HO2.out)
            clear hown' hg
            go_wp2_with fail
            go_roundw
            case rel => exact ⟨k + 1, by omega, by go_num, by
              have e1 : (S.take (k + 1)).map (swA f t) = (S.take k).map (swA f t) ++ [(⟨kd, rr, ss⟩ : Atom)] := by rw [take_succ_get HE.out, List.map_append]; simp only [List.map_cons, List.map_nil]; rw [swA_same (.inr HT.out)]
              rw [e1, List.map_take]; exact HO.out, HB4.out⟩
            case measure => simp [intOf]; omega
        · have HI := Lib.hid hi
          have HT := Lib.hid ht
          clear hi ht
          have hj1 : j < n1 := by have := HN1.out; omega
          by_cases hjm : j < n2
          · obtain ⟨z, hz⟩ := get_of_lt (l := t) (j := j) (by rw [HN2.out]; exact hjm)
            have HTZ : Hid (turnI rr f t = z) := by show turnI rr f t = z; rw [HT.out, hz]; rfl
            obtain ⟨b', o', rfl, e0⟩ := (((HR2.out.below HW.out).alloc (.cells #[.int .u8 kd, .int .i64 rr, .string ss] 70))).num hz
            clear hz
            have HO2 := Lib.hid (HOWN.out.below ((Below.refl _ wr).alloc (Nat.le_refl _) (.cells #[.int .u8 kd, .int .i64 z, .string ss] 70)))
            have HB2 : Hid (Below w1.heap.size w1 (wr.alloc (.cells #[.int .u8 kd, .int .i64 z, .string ss] 70))) := HB.out.alloc HB.out.size _
            go_wp2_with fail
            refine (index_is rr p1 n1 c1 f _ (j : Int) HI.out HN1.out (by omega) ((HR1.out.below HW.out).alloc _)).mono ?_
            rintro e w2 ⟨rfl, rfl⟩
            go_wp2_with (at_builtin; refine wpList_append1 rfl _ _ 25 rfl w1.heap.size 70 _ 3 32 Tryz.underlying25 infoA rfl (by decide) encA encA_len encA_one (⟨kd, z, ss⟩ : Atom) _ _ _ HO2.out rfl (by refine Eq.trans (b := Value.slice (some ⟨wr.heap.size + 1, 0, none⟩) 1 1) rfl ?_; simp) ?c1 ?c2 ?c3 ?_)
            case c1 => omega
            case c2 => omega
            case c3 => exact HB2.out.size
            · intro v' w4 hown' hg
              have HO := Lib.hid hown'
              have HB4 := Lib.hid (Below.own HB2.out hg HB2.out.size HO2.out)
              clear hown' hg
              go_wp2_with fail
              go_roundw
              case rel => exact ⟨k + 1, by omega, by go_num, by
                have e1 : (S.take (k + 1)).map (swA f t) = (S.take k).map (swA f t) ++ [(⟨kd, z, ss⟩ : Atom)] := by rw [take_succ_get HE.out, List.map_append]; simp only [List.map_cons, List.map_nil]; rw [swA_of HK3.out HTZ.out]
                rw [e1, List.map_take]; exact HO.out, HB4.out⟩
              case measure => simp [intOf]; omega
          · have HZ : Hid (turnI rr f t = rr) := by show turnI rr f t = rr; rw [HT.out, List.getElem?_eq_none (by rw [HN2.out]; omega)]; rfl
            have HO2 := Lib.hid (HOWN.out.below ((Below.refl _ wr).alloc (Nat.le_refl _) (.cells #[.int .u8 kd, .int .i64 rr, .string ss] 70)))
            have HB2 : Hid (Below w1.heap.size w1 (wr.alloc (.cells #[.int .u8 kd, .int .i64 rr, .string ss] 70))) := HB.out.alloc HB.out.size _
            go_wp2_with fail
            refine (index_is rr p1 n1 c1 f _ (j : Int) HI.out HN1.out (by omega) ((HR1.out.below HW.out).alloc _)).mono ?_
            rintro e w2 ⟨rfl, rfl⟩
            go_wp2_with (at_builtin; refine wpList_append1 rfl _ _ 25 rfl w1.heap.size 70 _ 3 32 Tryz.underlying25 infoA rfl (by decide) encA encA_len encA_one (⟨kd, rr, ss⟩ : Atom) _ _ _ HO2.out rfl (by refine Eq.trans (b := Value.slice (some ⟨wr.heap.size + 1, 0, none⟩) 1 1) rfl ?_; simp) ?c1 ?c2 ?c3 ?_)
            case c1 => omega
            case c2 => omega
            case c3 => exact HB2.out.size
            · intro v' w4 hown' hg
              have HO := Lib.hid hown'
              have HB4 := Lib.hid (Below.own HB2.out hg HB2.out.size HO2.out)
              clear hown' hg
              go_wp2_with fail
              go_roundw
              case rel => exact ⟨k + 1, by omega, by go_num, by
                have e1 : (S.take (k + 1)).map (swA f t) = (S.take k).map (swA f t) ++ [(⟨kd, rr, ss⟩ : Atom)] := by rw [take_succ_get HE.out, List.map_append]; simp only [List.map_cons, List.map_nil]; rw [swA_same (.inr HZ.out)]
                rw [e1, List.map_take]; exact HO.out, HB4.out⟩
              case measure => simp [intOf]; omega
    · obtain rfl : k = m := by omega
      have hown := HOWN.out
      have HE : Hid (sortA ((S.map (swA f t)).filter atomB) = swL f t l) := by show _ = swL f t l; unfold swL; rw [HS.out]
      rw [take_full (by rw [HSL.out]; exact Nat.le_refl _)] at hown
      obtain ⟨q', c', rfl, hl', hc', hr', _⟩ := hown.row encA_len (by omega)
      have HL' := Lib.hid hl'
      have HR' := Lib.hid hr'
      clear hown hl' hr'
      go_wp2_with fail
      refine (effect_Of_any q' k c' (S.map (swA f t)) wr HL'.out (by omega) HR'.out).mono ?_
      rintro e w3 ⟨v, m', rfl, hm2, hown, hb⟩
      rw [HE.out] at hown
      have HO := Lib.hid (hown.lower (HB1.out.trans (HB.out.mono HB1.out.size)).size)
      have HB3 := Lib.hid ((HB1.out.trans (HB.out.mono HB1.out.size)).trans (hb.mono (HB1.out.trans (HB.out.mono HB1.out.size)).size))
      clear hown hb
      go_wp2_with fail
      go_ret
      exact ⟨_, _, rfl, by omega, HO.out, HB3.out⟩

/-- a node with other regions -/
def swH (f t : List Int) (a : LH) : LH := if a.kind = 1 then a else ⟨a.kind, turnI a.rho f t, swL f t a.eff⟩
/-- a type with other regions -/
def swapT (f t : List Int) : RT → RT := Rose.map (swH f t)
theorem swapT_er (f t : List Int) (a : RH) (l : List PT) : swapT f t (PT.er (.node a l)) = .node (swH f t a.plain) (l.map (fun x => swapT f t (PT.er x))) := by
  rw [PT.er_node]
  unfold swapT
  rw [Rose.map_node, List.map_map]; rfl
theorem bareT_swapT (f t : List Int) (x : RT) : bareT (swapT f t x) = bareT x := by
  refine Rose.ind (P := fun x => bareT (swapT f t x) = bareT x) (fun a l ih => ?_) x
  unfold swapT bareT at ih ⊢
  rw [Rose.map_node, Rose.map_node, Rose.map_node, List.map_map]
  congr 1
  · unfold swH; split <;> rfl
  · exact List.map_congr_left ih
theorem turnI_in (r : Int) (f t : List Int) : turnI r f t = r ∨ turnI r f t ∈ t := by
  rcases idx_turn r f t with ⟨_, h⟩ | ⟨k, _, _, h⟩
  · exact .inl h
  · cases hk : t[k]? with
    | none => left; rw [h, hk]; rfl
    | some z => right; rw [h, hk]; exact List.mem_of_getElem? hk
/-- a number in range -/
def okI (z : Int) : Prop := -9223372036854775808 ≤ z ∧ z ≤ 9223372036854775807
theorem turnI_ok {r : Int} {f t : List Int} (hr : okI r) (ht : ∀ z ∈ t, okI z) : okI (turnI r f t) := by
  rcases turnI_in r f t with h | h
  · rw [h]; exact hr
  · exact ht _ h
theorem swL_ok {f t : List Int} {l : List Atom} (hl : ∀ x ∈ l, okAt x) (ht : ∀ z ∈ t, okI z) : ∀ x ∈ swL f t l, okAt x := by
  intro x hx
  unfold swL at hx
  rw [mem_sortA, List.mem_filter, List.mem_map] at hx
  obtain ⟨⟨y, hy, rfl⟩, _⟩ := hx
  rw [mem_sortA, List.mem_filter] at hy
  have h := hl y hy.1
  unfold swA
  split
  · exact h
  · have := turnI_ok (f := f) ⟨h.r0, h.r1⟩ ht
    exact ⟨h.k0, h.k1, this.1, this.2, h.s1⟩
theorem swH_ok {f t : List Int} {a : LH} (hr : okI a.rho) (ha : ∀ x ∈ a.eff, okAt x) (ht : ∀ z ∈ t, okI z) : okI (swH f t a).rho ∧ ∀ x ∈ (swH f t a).eff, okAt x := by
  unfold swH
  split
  · exact ⟨hr, ha⟩
  · exact ⟨turnI_ok hr ht, swL_ok ha ht⟩
theorem swH_kind (f t : List Int) (a : LH) : (swH f t a).kind = a.kind := by unfold swH; split <;> rfl

/-- all rows of t that are new lie in blocks from B on; the others lie below N; all below E -/
def SpanR (N B E : Nat) (t : PT) : Prop := ∀ a ∈ t.nodes, (∀ ad, a.kp = some ad → B ≤ ad.block ∧ ad.block < E) ∧ (a.eff ≠ [] → ∀ ad, a.ep = some ad → (ad.block < N ∨ B ≤ ad.block) ∧ ad.block < E)
theorem SpanR.mono {N B E B' E' : Nat} {t : PT} (h : SpanR N B E t) (hB : B' ≤ B) (hE : E ≤ E') : SpanR N B' E' t := fun a ha =>
  ⟨fun ad hp => by have := (h a ha).1 ad hp; omega, fun he ad hp => by have := (h a ha).2 he ad hp; omega⟩
theorem SpanR.node {N B E : Nat} {a : RH} {l : List PT} (ha : ∀ ad, a.kp = some ad → B ≤ ad.block ∧ ad.block < E) (he : a.eff ≠ [] → ∀ ad, a.ep = some ad → (ad.block < N ∨ B ≤ ad.block) ∧ ad.block < E) (hl : ∀ t ∈ l, SpanR N B E t) : SpanR N B E (.node a l) := by
  intro x hx
  rw [Rose.nodes_node, List.mem_cons] at hx
  rcases hx with rfl | hx
  · exact ⟨ha, he⟩
  · rw [List.mem_flatten] at hx
    obtain ⟨m, hm, hx⟩ := hx
    obtain ⟨t, ht, rfl⟩ := List.mem_map.1 hm
    exact hl t ht x hx
/-- no row of t lies in block r -/
def OffR (r : Option Nat) (t : PT) : Prop := ∀ a ∈ t.nodes, (∀ ad, a.kp = some ad → r ≠ some ad.block) ∧ (a.eff ≠ [] → ∀ ad, a.ep = some ad → r ≠ some ad.block)
theorem isRow_grown {α : Type} {enc : α → List Value} {k : Nat} {w w' : World} {r : Option Nat} {p : Option Addr} {n c : Nat} {l : List α} (hg : w.grownBy w' r) (hne : l ≠ [] → ∀ ad, p = some ad → r ≠ some ad.block) (h : IsRow enc k w p n c l) : IsRow enc k w' p n c l := by
  refine ⟨h.len, h.max, h.le, h.nil, ?_⟩
  by_cases hl : l = []
  · exact .inl hl
  · exact rowE_grown hg (hne hl) h.row
theorem liesR_grown {w w' : World} {r : Option Nat} (hg : w.grownBy w' r) (t : PT) : OffR r t → LR.lies w t → LR.lies w' t := by
  refine Rose.ind (P := fun (t : PT) => OffR r t → LR.lies w t → LR.lies w' t) (fun a l ih ho h => ?_) t
  have hn := nodeIn h
  have h0 := ho a (by rw [Rose.nodes_node]; simp)
  refine NodeIn.lies ⟨⟨isRow_grown hg h0.2 hn.own.eff, hn.own.ok, hn.own.k0, hn.own.k1, hn.own.r0, hn.own.r1, hn.own.kmax, hn.own.kle, hn.own.knil⟩, isRow_grown hg (fun _ => h0.1) hn.kids, fun t ht => ih t ht (fun x hx => ho x ?_) (hn.each t ht)⟩
  rw [Rose.nodes_node, List.mem_cons, List.mem_flatten]
  exact .inr ⟨t.nodes, List.mem_map_of_mem ht, hx⟩
theorem SpanR.off {N B E : Nat} {r : Nat} {t : PT} (h : SpanR N B E t) (hr : N ≤ r ∧ r < B ∨ E ≤ r) (hNE : N ≤ E) : OffR (some r) t := fun a ha =>
  ⟨fun ad hp e => by have := (h a ha).1 ad hp; injection e with e; omega, fun he ad hp e => by have := (h a ha).2 he ad hp; injection e with e; omega⟩
/-- what Swap answers: a tree of new blocks, but for the effects of numbers -/
def SwapOut (N : Nat) (f t : List Int) (x : PT) (W : World) (e : Ending) (w' : World) : Prop := (∃ y : PT, e = .returned (aggR y.head) ∧ LR.lies w' y ∧ SpanR N W.heap.size w'.heap.size y ∧ PT.er y = swapT f t (PT.er x)) ∧ Below W.heap.size W w'
/-- the regions, as they lie -/
structure Two (w : World) (p1 : Option Addr) (n1 c1 : Nat) (f : List Int) (p2 : Option Addr) (n2 c2 : Nat) (t : List Int) : Prop where
  rf : IsRow encN 1 w p1 n1 c1 f
  rt : IsRow encN 1 w p2 n2 c2 t
  m1 : n1 ≤ 1000000
  m2 : n2 ≤ 1000000
  ok : ∀ z ∈ t, okI z
theorem Two.below {w w' : World} {p1 : Option Addr} {n1 c1 : Nat} {f : List Int} {p2 : Option Addr} {n2 c2 : Nat} {t : List Int} (h : Two w p1 n1 c1 f p2 n2 c2 t) (hb : Below w.heap.size w w') : Two w' p1 n1 c1 f p2 n2 c2 t := ⟨h.rf.below hb, h.rt.below hb, h.m1, h.m2, h.ok⟩
theorem infoR : (Tryz.prog.info? 47).map (fun i => (i.zero, i.size, i.bytes)) = some (some (.agg #[.int .u8 0, .int .i64 0, .slice none 0 0, .slice none 0 0]), 4, 64) := by kernel_rfl
theorem LRone : ∀ t : PT, ∀ u ∈ LR.encT t, u.oneCell' = true := by
  intro t u hu
  have : u ∈ encRH t.head := hu
  simp [encRH] at this
  rcases this with rfl | rfl | rfl | rfl <;> rfl

/-- a block of four cells, as it lies -/
structure Box4 (w : World) (g : Nat) (x y z u : Value) : Prop where
  blk : w.heap[g]? = some (.cells #[x, y, z, u] 47 (0, 0))
theorem Box4.cells {w : World} {g : Nat} {x y z u : Value} (h : Box4 w g x y z u) : w.cell? ⟨g, 0, none⟩ = some x ∧ w.cell? ⟨g, 1, none⟩ = some y ∧ w.cell? ⟨g, 2, none⟩ = some z ∧ w.cell? ⟨g, 3, none⟩ = some u ∧ w.frozen? ⟨g, 0, none⟩ = false ∧ w.frozen? ⟨g, 1, none⟩ = false ∧ w.frozen? ⟨g, 2, none⟩ = false ∧ w.frozen? ⟨g, 3, none⟩ = false := by
  have hb := h.blk
  refine ⟨?_, ?_, ?_, ?_, ?_, ?_, ?_, ?_⟩ <;> simp [World.cell?, World.frozen?, hb]
theorem Box4.lt {w : World} {g : Nat} {x y z u : Value} (h : Box4 w g x y z u) : g < w.heap.size := (Array.getElem?_eq_some_iff.1 h.blk).1
theorem Box4.grown {w w' : World} {g : Nat} {x y z u : Value} {r : Option Nat} (h : Box4 w g x y z u) (hg : w.grownBy w' r) (hr : r ≠ some g) : Box4 w' g x y z u := ⟨by rw [hg.block g h.lt hr.symm]; exact h.blk⟩
theorem Box4.below {w w' : World} {g : Nat} {x y z u : Value} (h : Box4 w g x y z u) (hb : Below w.heap.size w w') : Box4 w' g x y z u := ⟨by rw [hb.block g h.lt]; exact h.blk⟩
theorem box4_new (w : World) (x y z u : Value) : Box4 (w.alloc (.cells #[x, y, z, u] 47)) w.heap.size x y z u := ⟨heap_alloc_new w _⟩
theorem box4_set {w : World} {g : Nat} {x y z u : Value} (h : Box4 w g x y z u) (x' y' z' u' : Value) :
    Box4 ((((w.setCell ⟨g, 0, none⟩ x').setCell ⟨g, 1, none⟩ y').setCell ⟨g, 2, none⟩ z').setCell ⟨g, 3, none⟩ u') g x' y' z' u' ∧ w.grownBy ((((w.setCell ⟨g, 0, none⟩ x').setCell ⟨g, 1, none⟩ y').setCell ⟨g, 2, none⟩ z').setCell ⟨g, 3, none⟩ u') (some g) := by
  have h1 := heap_setCell1 (o := 3) u' (heap_setCell1 (o := 2) z' (heap_setCell1 (o := 1) y' (heap_setCell1 (o := 0) x' h.blk)))
  refine ⟨⟨by simpa using h1⟩, ?_⟩
  exact held_own (held_own (held_own (grown_setCell1 w g 0 x') (grown_setCell1 _ g 1 y') (fun b _ h => h)) (grown_setCell1 _ g 2 z') (fun b _ h => h)) (grown_setCell1 _ g 3 u') (fun b _ h => h)
theorem box4_one {w : World} {g : Nat} {x y z u : Value} (h : Box4 w g x y z u) (v : Value) : Box4 (w.setCell ⟨g, 1, none⟩ v) g x v z u := ⟨by simpa using heap_setCell1 (o := 1) v h.blk⟩
theorem box4_two {w : World} {g : Nat} {x y z u : Value} (h : Box4 w g x y z u) (v : Value) : Box4 (w.setCell ⟨g, 2, none⟩ v) g x y v u := ⟨by simpa using heap_setCell1 (o := 2) v h.blk⟩
theorem box4_three {w : World} {g : Nat} {x y z u : Value} (h : Box4 w g x y z u) (v : Value) : Box4 (w.setCell ⟨g, 3, none⟩ v) g x y z v := ⟨by simpa using heap_setCell1 (o := 3) v h.blk⟩

/-- how the new node's head lies ahead of its kids -/
structure SwR (N B : Nat) (w wx : World) (a : RH) (f t : List Int) (z : Int) (ep : Option Addr) (en ec : Nat) (eff : List Atom) : Prop where
  b0 : Box4 wx B (.int .u8 a.kind) (.int .i64 a.rho) (.slice a.ep a.en a.ec) (.slice a.kp a.kn a.kc)
  b1 : Box4 wx (B + 1) (.int .u8 0) (.int .i64 0) (.slice none 0 0) (.slice none 0 0)
  size : B + 3 ≤ wx.heap.size
  below : Below B w wx
  row : IsRow encA 3 wx ep en ec eff
  span : eff ≠ [] → ∀ ad, ep = some ad → (ad.block < N ∨ B + 3 ≤ ad.block) ∧ ad.block < wx.heap.size
  is : (⟨a.kind, z, eff⟩ : LH) = swH f t a.plain
theorem SwR.grown {N B : Nat} {w wx w' : World} {a : RH} {f t : List Int} {z : Int} {ep : Option Addr} {en ec : Nat} {eff : List Atom} {r : Option Nat} (h : SwR N B w wx a f t z ep en ec eff) (hg : wx.grownBy w' r) (hr : ∀ b, r = some b → B + 1 + 1 ≤ b)
    (heff : eff ≠ [] → ∀ ad, ep = some ad → r ≠ some ad.block) : SwR N B w w' a f t z ep en ec eff :=
  ⟨h.b0.grown hg (fun e => by have := hr _ e; omega), h.b1.grown hg (fun e => by have := hr _ e; omega), Nat.le_trans h.size hg.size, h.below.grown hg (by have := h.size; omega) (fun j hj => by have := hr _ hj; omega), isRow_grown hg heff h.row, fun he ad hp => by have := h.span he ad hp; have := hg.size; omega, h.is⟩
theorem SwR.drop {N B : Nat} {w wx w' : World} {a : RH} {f t : List Int} {z : Int} {ep : Option Addr} {en ec : Nat} {eff : List Atom} (h : SwR N B w wx a f t z ep en ec eff) (hb : Below wx.heap.size wx w') : SwR N B w w' a f t z ep en ec eff :=
  ⟨h.b0.below hb, h.b1.below hb, Nat.le_trans h.size hb.size, h.below.trans (hb.mono (by have := h.size; omega)), h.row.below hb, fun he ad hp => by have := h.span he ad hp; have := hb.size; omega, h.is⟩
/-- the new node ahead of its k-th kid -/
structure SwI (N B : Nat) (w wx : World) (a : RH) (f t : List Int) (z : Int) (ep : Option Addr) (en ec : Nat) (eff : List Atom) (v : Value) (k : Nat) (ys : List PT) : Prop where
  own : OwnE LR.encT 4 wx (B + 3) 47 v k ys
  r : SwR N B w wx a f t z ep en ec eff
  b2 : Box4 wx (B + 1 + 1) (.int .u8 a.kind) (.int .i64 z) (.slice ep en ec) v
  eoff : eff ≠ [] → ∀ ad, ep = some ad → v.ownBlock ≠ some ad.block
  ys : ∀ y ∈ ys, LR.lies wx y ∧ OffR v.ownBlock y ∧ SpanR N (B + 3) wx.heap.size y
section
variable {N B : Nat} {w wx w' w3 : World} {a : RH} {f t : List Int} {z : Int} {ep : Option Addr} {en ec : Nat} {eff : List Atom} {v : Value} {k : Nat} {ys : List PT}
theorem SwI.drop (h : SwI N B w wx a f t z ep en ec eff v k ys) (hb : Below wx.heap.size wx w') : SwI N B w w' a f t z ep en ec eff v k ys :=
  ⟨h.own.below hb, h.r.drop hb, h.b2.below hb, h.eoff, fun y hy => ⟨LR.lies_below hb y (h.ys y hy).1, (h.ys y hy).2.1, (h.ys y hy).2.2.mono (Nat.le_refl _) hb.size⟩⟩
theorem SwI.add (h : SwI N B w wx a f t z ep en ec eff v k ys) {y : PT} (hl : LR.lies wx y) (ho : OffR v.ownBlock y) (hs : SpanR N (B + 3) wx.heap.size y) {p3 : Option Addr} {c3 : Nat}
    (hown3 : OwnE LR.encT 4 w3 (B + 3) 47 (.slice p3 (k + 1) c3) (k + 1) (ys ++ [y])) (hg3 : wx.grownBy w3 v.ownBlock) (hf3 : ∀ b, b < wx.heap.size → (Value.slice p3 (k + 1) c3).ownBlock = some b → v.ownBlock = some b) (hN : N ≤ B) :
    SwI N B w (w3.setCell ⟨B + 1 + 1, 3, none⟩ (.slice p3 (k + 1) c3)) a f t z ep en ec eff (.slice p3 (k + 1) c3) (k + 1) (ys ++ [y]) := by
  have hgs : w3.grownBy (w3.setCell ⟨B + 1 + 1, 3, none⟩ (.slice p3 (k + 1) c3)) (some (B + 1 + 1)) := grown_setCell1 _ _ _ _
  have hfr : ∀ b, v.ownBlock = some b → B + 3 ≤ b := fun b hb => OwnE.from h.own b hb
  have hfr3 : ∀ b, (Value.slice p3 (k + 1) c3).ownBlock = some b → B + 3 ≤ b := fun b hb => OwnE.from hown3 b hb
  have hall : ∀ y' ∈ ys ++ [y], LR.lies wx y' ∧ OffR v.ownBlock y' ∧ SpanR N (B + 3) wx.heap.size y' := fun y' hy' => by
    rcases List.mem_append.1 hy' with hy' | hy'
    · exact h.ys y' hy'
    · rw [List.mem_singleton] at hy'; subst hy'; exact ⟨hl, ho, hs⟩
  refine ⟨hown3.other hgs (fun b hb e => by have := hfr3 b hb; cases e; omega), (h.r.grown hg3 (fun b hb => by have := hfr b hb; omega) h.eoff).grown hgs (fun b hb => by cases hb; omega) (fun he ad hp e => ?_), box4_three (h.b2.grown hg3 (fun e => by have := hfr _ e; omega)) _, fun he ad hp e => ?_, fun y' hy' => ?_⟩
  · have := h.r.span he ad hp
    injection e with e; omega
  · exact h.eoff he ad hp (hf3 _ (h.r.span he ad hp).2 e)
  · obtain ⟨h1, h2, h3⟩ := hall y' hy'
    have hsz := Nat.le_trans hg3.size hgs.size
    have hB := h.r.size
    refine ⟨liesR_grown hgs y' (SpanR.off h3 (by omega) (by omega)) (liesR_grown hg3 y' h2 h1), fun a' ha => ⟨fun ad hp e => ?_, fun he ad hp e => ?_⟩, h3.mono (Nat.le_refl _) hsz⟩
    · exact (h2 a' ha).1 ad hp (hf3 _ ((h3 a' ha).1 ad hp).2 e)
    · exact (h2 a' ha).2 he ad hp (hf3 _ ((h3 a' ha).2 he ad hp).2 e)
theorem swap_end {l : List PT} {W : World} {p : Option Addr} {c : Nat} (hI : SwI N w.heap.size w wx a f t z ep en ec eff (.slice p k c) k ys) (hN : N ≤ w.heap.size) (hk : k = l.length) (ha : RH.Own w a) (ht : ∀ z ∈ t, okI z) (hm : k ≤ 1000)
    (her : ys.map PT.er = (l.take k).map (fun x => swapT f t (PT.er x))) (hg : wx.grownBy W (some (w.heap.size + 1))) : SwapOut N f t (.node a l) w (.returned (aggR ⟨a.kind, z, ep, en, ec, eff, p, k, c⟩)) W := by
  obtain ⟨q, c', hq, hrow⟩ := hI.own.isRow LRlen (by omega)
  cases hq
  have hsp : ∀ ad, p = some ad → w.heap.size + 3 ≤ ad.block ∧ ad.block < wx.heap.size := fun ad hp => by
    subst hp
    exact World.ownsRow.lt hI.own ad.block rfl
  have hB := hI.r.size
  have his := hI.r.is
  obtain ⟨hz, hok⟩ := swH_ok (f := f) (a := a.plain) ⟨ha.r0, ha.r1⟩ ha.ok ht
  rw [← his] at hz hok
  refine ⟨⟨.node ⟨a.kind, z, ep, en, ec, eff, p, k, c⟩ ys, rfl, ?_, SpanR.node (fun ad hp => by have := hsp ad hp; have := hg.size; omega) (fun he ad hp => by have := hI.r.span he ad hp; have := hg.size; omega) (fun y hy => (hI.ys y hy).2.2.mono (by omega) hg.size), ?_⟩, ?_⟩
  · refine NodeIn.lies ⟨⟨isRow_grown hg (fun he ad hp e => by have := hI.r.span he ad hp; injection e with e; omega) hI.r.row, hok, ha.k0, ha.k1, hz.1, hz.2, by show k ≤ _; omega, hrow.le, hrow.nil⟩, isRow_grown hg (fun _ ad hp e => by have := hsp ad hp; injection e with e; omega) hrow, fun y hy => ?_⟩
    exact liesR_grown hg y (SpanR.off (hI.ys y hy).2.2 (by omega) (by omega)) (hI.ys y hy).1
  · rw [PT.er_node, swapT_er, her, take_full (by omega)]
    show Rose.node (⟨a.kind, z, eff⟩ : LH) _ = _
    rw [his]
  · exact hI.r.below.grown hg (by omega) (fun j hj => by injection hj with hj; omega)
end

abbrev cellsR (a : RH) : Obj := .cells #[.int .u8 a.kind, .int .i64 a.rho, .slice a.ep a.en a.ec, .slice a.kp a.kn a.kc] 47
abbrev cellsZ : Obj := .cells #[.int .u8 0, .int .i64 0, .slice none 0 0, .slice none 0 0] 47
/-- the three boxes of Swap -/
abbrev boxes3 (w : World) (a : RH) : World := ((w.alloc (cellsR a)).alloc cellsZ).alloc (cellsR a)
theorem boxes3_below (w : World) (a : RH) : Below w.heap.size w (boxes3 w a) := (((Below.refl w.heap.size w).alloc (Nat.le_refl _) _).alloc (by simp) _).alloc (by simp; omega) _
theorem boxes3_0 (w : World) (a : RH) : Box4 (boxes3 w a) w.heap.size (.int .u8 a.kind) (.int .i64 a.rho) (.slice a.ep a.en a.ec) (.slice a.kp a.kn a.kc) := by
  refine Box4.below (w := w.alloc (cellsR a)) ?_ (((Below.refl _ _).alloc (Nat.le_refl _) _).alloc (by simp) _)
  exact box4_new w _ _ _ _
theorem boxes3_1 (w : World) (a : RH) : Box4 (boxes3 w a) (w.heap.size + 1) (.int .u8 0) (.int .i64 0) (.slice none 0 0) (.slice none 0 0) := by
  refine Box4.below (w := (w.alloc (cellsR a)).alloc cellsZ) ?_ ((Below.refl _ _).alloc (Nat.le_refl _) _)
  have := box4_new (w.alloc (cellsR a)) (.int .u8 0) (.int .i64 0) (.slice none 0 0) (.slice none 0 0)
  simpa using this
theorem boxes3_2 (w : World) (a : RH) : Box4 (boxes3 w a) (w.heap.size + 1 + 1) (.int .u8 a.kind) (.int .i64 a.rho) (.slice a.ep a.en a.ec) (.slice a.kp a.kn a.kc) := by
  have := box4_new ((w.alloc (cellsR a)).alloc cellsZ) (.int .u8 a.kind) (.int .i64 a.rho) (.slice a.ep a.en a.ec) (.slice a.kp a.kn a.kc)
  simpa using this
def SwapAt (N : Nat) (p1 : Option Addr) (n1 c1 : Nat) (f : List Int) (p2 : Option Addr) (n2 c2 : Nat) (t : List Int) (x : PT) (W : World) : Prop :=
  Calls Tryz.prog 44 #[aggR x.head, .slice p1 n1 c1, .slice p2 n2 c2] W (SwapOut N f t x W)
set_option maxHeartbeats 4000000 in
theorem rtype_Swap_of {N : Nat} {a : RH} {l : List PT} {w : World} {p1 : Option Addr} {n1 c1 : Nat} {f : List Int} {p2 : Option Addr} {n2 c2 : Nat} {t : List Int} (hN : NodeIn w a l) (hNw : N ≤ w.heap.size) (he : a.eff ≠ [] → ∀ ad, a.ep = some ad → ad.block < N)
    (hge : a.en ≤ 1000) (h2 : Two w p1 n1 c1 f p2 n2 c2 t) (hl : a.kn ≤ 1000) (hf : ∀ x ∈ l, ∀ W, Below w.heap.size w W → SwapAt N p1 n1 c1 f p2 n2 c2 t x W) : SwapAt N p1 n1 c1 f p2 n2 c2 t (.node a l) w := by
  have HN := Lib.hid hN
  have HF := Lib.hid hf
  have H2 := Lib.hid h2
  have HE := Lib.hid he
  have HNW := Lib.hid hNw
  have hkm := hN.own.kmax
  have hm1 := h2.m1
  have hm2 := h2.m2
  have HB1 := Lib.hid (boxes3_below w a)
  have HX0 := Lib.hid (boxes3_0 w a)
  have HX1 := Lib.hid (boxes3_1 w a)
  have HX2 := Lib.hid (boxes3_2 w a)
  show Calls _ _ #[aggR a, .slice p1 n1 c1, .slice p2 n2 c2] w _
  clear hN hf h2 he hNw
  go_enter Tryz.func44, Tryz.ntmps44
  go_upto_if 14 with fail
  go_cut [] from 8 to 37 (fun wx => ∃ (z : Int) (ep : Option Addr) (en ec : Nat) (eff : List Atom), SwR N w.heap.size w wx a f t z ep en ec eff ∧ Box4 wx (w.heap.size + 1 + 1) (.int .u8 a.kind) (.int .i64 z) (.slice ep en ec) (.slice a.kp a.kn a.kc))
  case first =>
    by_cases hk1 : a.kind = 1
    · have HK1 := Lib.hid hk1
      have b1 : (a.kind != 1) = false := by simpa using hk1
      clear hk1
      go_wp2_with fail
      go_meet
      case rel => exact ⟨a.rho, a.ep, a.en, a.ec, a.eff, ⟨HX0.out, HX1.out, by simp, HB1.out, HN.out.own.eff.below HB1.out, fun he ad hp => ⟨.inl (HE.out he ad hp), by have := HE.out he ad hp; have := HNW.out; simp; omega⟩, by unfold swH; rw [if_pos (show a.plain.kind = 1 from HK1.out)]; rfl⟩, HX2.out⟩
    · have HK1 := Lib.hid hk1
      have b1 : (a.kind != 1) = true := by simpa using hk1
      have HEF := Lib.hid (HN.out.own.eff.below HB1.out)
      have H21 := Lib.hid (H2.out.below HB1.out)
      clear hk1
      go_wp2_with fail
      refine (effect_Swap_own a.ep a.en a.ec a.eff p1 n1 c1 f p2 n2 c2 t (boxes3 w a) HEF.out.len (by omega) HEF.out.row H21.out.rf.len hm1 H21.out.rf.row H21.out.rt.len hm2 H21.out.rt.row).mono ?_
      rintro e w2 ⟨v, m, rfl, hm, hown, hb⟩
      obtain ⟨q, qc, rfl, hrow⟩ := hown.isRow encA_len (by omega)
      have hB2 : Below w.heap.size w w2 := HB1.out.trans (hb.mono HB1.out.size)
      have HX3 := Lib.hid (HX2.out.below hb)
      have hlt2 := HX3.out.lt
      have hgs := grown_setCell1 w2 (w.heap.size + 1 + 1) 2 (.slice q m qc)
      have hsp : ∀ ad, q = some ad → w.heap.size + 3 ≤ ad.block ∧ ad.block < w2.heap.size := fun ad hp => by
        subst hp
        have := World.ownsRow.lt hown ad.block rfl
        simpa using this
      have HSW : Hid (SwR N w.heap.size w (w2.setCell ⟨w.heap.size + 1 + 1, 2, none⟩ (.slice q m qc)) a f t (turnI a.rho f t) q m qc (swL f t a.eff)) := SwR.grown
        ⟨HX0.out.below hb, HX1.out.below hb, by omega, hB2, hrow, fun _ ad hp => by have := hsp ad hp; omega, by unfold swH; rw [if_neg (show ¬ a.plain.kind = 1 from HK1.out)]; rfl⟩ hgs (fun b hb => by cases hb; omega) (fun _ ad hp e => by have := hsp ad hp; injection e with e; omega)
      have HX4 := Lib.hid (box4_two HX3.out (.slice q m qc))
      obtain ⟨x0, x1, x2, x3, x4, x5, x6, x7⟩ := HX3.out.cells
      obtain ⟨y0, y1, y2, y3, y4, y5, y6, y7⟩ := (HX0.out.below hb).cells
      clear hb hown hrow hB2 hgs hsp
      go_wp2_with fail
      clear x0 x1 x2 x3 x4 x5 x6 x7 y0 y1 y2 y3 y4 y5 y6 y7
      generalize w2.setCell ⟨w.heap.size + 1 + 1, 2, none⟩ (.slice q m qc) = W3 at *
      have H23 := Lib.hid (H2.out.below HSW.out.below)
      obtain ⟨x0, x1, x2, x3, x4, x5, x6, x7⟩ := HX4.out.cells
      obtain ⟨y0, y1, y2, y3, y4, y5, y6, y7⟩ := HSW.out.b0.cells
      have hlt3 := HX4.out.lt
      rcases idx_turn a.rho f t with ⟨hi, ht⟩ | ⟨j, hj, hi, ht⟩
      · have HI := Lib.hid hi
        have HT := Lib.hid ht
        clear hi ht
        refine (index_is a.rho p1 n1 c1 f _ (-1) HI.out H23.out.rf.len (by omega) H23.out.rf.row).mono ?_
        rintro e w3 ⟨rfl, rfl⟩
        go_wp2_with fail
        go_meet
        case rel => exact ⟨_, _, _, _, _, HSW.out, by rw [HT.out]; exact HX4.out⟩
      · have HI := Lib.hid hi
        have HT := Lib.hid ht
        clear hi ht
        have hj1 : j < n1 := by have := H23.out.rf.len; omega
        by_cases hjm : j < n2
        · obtain ⟨z, hz⟩ := get_of_lt (l := t) (j := j) (by rw [H23.out.rt.len]; exact hjm)
          have HTZ : Hid (turnI a.rho f t = z) := by show turnI a.rho f t = z; rw [HT.out, hz]; rfl
          obtain ⟨b', o', rfl, e0⟩ := H23.out.rt.row.num hz
          clear hz
          refine (index_is a.rho p1 n1 c1 f _ (j : Int) HI.out H23.out.rf.len (by omega) H23.out.rf.row).mono ?_
          rintro e w3 ⟨rfl, rfl⟩
          go_wp2_with fail
          go_meet
          case rel => exact ⟨z, _, _, _, _, by have := HSW.out; rw [HTZ.out] at this; exact this.grown (grown_setCell1 _ _ _ _) (fun b hb => by cases hb; omega) (fun he ad hp e => by have h := HSW.out.span he ad hp; have := HNW.out; injection e with e; omega), box4_one HX4.out _⟩
        · have HTR : Hid (turnI a.rho f t = a.rho) := by show turnI a.rho f t = a.rho; rw [HT.out, List.getElem?_eq_none (by rw [H23.out.rt.len]; omega)]; rfl
          refine (index_is a.rho p1 n1 c1 f _ (j : Int) HI.out H23.out.rf.len (by omega) H23.out.rf.row).mono ?_
          rintro e w3 ⟨rfl, rfl⟩
          go_wp2_with fail
          go_meet
          case rel => exact ⟨_, _, _, _, _, HSW.out, by rw [HTR.out]; exact HX4.out⟩
  case rest =>
    obtain ⟨z, ep, en, ec, eff, hr, hb2⟩ := hcut
    have HR := Lib.hid hr
    have HB2 := Lib.hid hb2
    clear hr hb2
    obtain ⟨x0, x1, x2, x3, x4, x5, x6, x7⟩ := HB2.out.cells
    obtain ⟨y0, y1, y2, y3, y4, y5, y6, y7⟩ := HR.out.b0.cells
    have hlt2 := HB2.out.lt
    go_wp2_with fail
    have HSI : Hid (SwI N w.heap.size w (wc.setCell ⟨w.heap.size + 1 + 1, 3, none⟩ (.slice none 0 0)) a f t z ep en ec eff (.slice none 0 0) 0 []) :=
      ⟨OwnE.nil _ _ _ _ _, HR.out.grown (grown_setCell1 _ _ _ _) (fun b hb => by cases hb; omega) (fun he ad hp e => by have h := HR.out.span he ad hp; have := HNW.out; injection e with e; omega), box4_three HB2.out _, (fun _ _ _ e => by cases e), (fun y hy => by cases hy)⟩
    clear x0 x1 x2 x3 x4 x5 x6 x7 y0 y1 y2 y3 y4 y5 y6 y7 hlt2
    generalize wc.setCell ⟨w.heap.size + 1 + 1, 3, none⟩ (.slice none 0 0) = W1 at *
    go_loopw [10, 42] (fun _ i wr => ∃ (k : Nat) (v : Value) (ys : List PT), k ≤ a.kn ∧ i = .int .i64 k ∧ SwI N w.heap.size w wr a f t z ep en ec eff v k ys ∧ ys.map PT.er = (l.take k).map (fun x => swapT f t (PT.er x))) (fun _ i _ => a.kn - (intOf i).toNat)
    case atStart => exact ⟨0, _, [], by omega, rfl, HSI.out, by simp⟩
    case round =>
      obtain ⟨k, v, ys, hk, rfl, hsi, her⟩ := hrel
      have HSW := Lib.hid hsi
      have HER := Lib.hid her
      clear hsi her
      have HB := Lib.hid HSW.out.r.below
      by_cases hlt : k < a.kn
      · obtain ⟨x, hx⟩ := HN.out.rowT.at (j := k) hlt
        have HEX := Lib.hid hx
        obtain ⟨g, o, hbo, hbl, d0, d1, d2, d3⟩ := (HN.out.rowT.below HB.out).kid hx
        have hBA : Below wr.heap.size wr (wr.alloc (.cells #[.int .u8 x.head.kind, .int .i64 x.head.rho, .slice x.head.ep x.head.en x.head.ec, .slice x.head.kp x.head.kn x.head.kc] 47)) := (Below.refl _ wr).alloc (Nat.le_refl _) _
        have HSA := Lib.hid (HSW.out.drop hBA)
        have HFA : Hid (∀ W, Below (wr.heap.size + 1) (wr.alloc (.cells #[.int .u8 x.head.kind, .int .i64 x.head.rho, .slice x.head.ep x.head.en x.head.ec, .slice x.head.kp x.head.kn x.head.kc] 47)) W → SwapAt N p1 n1 c1 f p2 n2 c2 t x W) := fun W h => HF.out x (List.mem_of_getElem? hx) W (HSA.out.r.below.trans (h.mono (by have := HB.out.size; omega)))
        have hsA : (wr.alloc (.cells #[.int .u8 x.head.kind, .int .i64 x.head.rho, .slice x.head.ep x.head.en x.head.ec, .slice x.head.kp x.head.kn x.head.kc] 47)).heap.size = wr.heap.size + 1 := by simp
        obtain ⟨e0, e1, e2, e3⟩ := boxT_cells (w := wr) (t := x) (Below.refl _ _)
        rw [hbo]
        clear hx
        go_wp2_with fail
        clear d0 d1 d2 d3 hbo hBA
        obtain ⟨x0, x1, x2, x3, x4, x5, x6, x7⟩ := HSA.out.b2.cells
        generalize wr.alloc (.cells #[.int .u8 x.head.kind, .int .i64 x.head.rho, .slice x.head.ep x.head.en x.head.ec, .slice x.head.kp x.head.kn x.head.kc] 47) = W0 at *
        have HNE : Hid (∀ g, g < w.heap.size + 3 → v.ownBlock ≠ some g) := fun g hg h => by have := OwnE.from HSA.out.own g h; omega
        go_region_law (first
          | (refine step_appendR (by rfl) _ _ 45 (by rfl) (w.heap.size + 3) 47 _ 4 64 Tryz.underlying45 infoR rfl (by decide) LR.encT LRlen LRone [y] ys k v (own_alloc HS2.out.own _) _ 1 _ (by rfl) (by rfl) rfl (by intro h; cases h) HRY.out.row (by omega) (by omega) (by simp; have := HS2.out.r.size; omega) ?_
             intro v3 w3 hown3 hg3 hf3
             obtain ⟨p3, c3, rfl, hrow3⟩ := OwnE.isRow LRlen (by omega) hown3
             obtain ⟨x0, x1, x2, x3, x4, x5, x6, x7⟩ := ((HS2.out.b2.below ((Below.refl _ w2).alloc (Nat.le_refl _) _)).grown hg3 (HNE.out _ (by omega))).cells)
          | (go_simp; go_at_call 44; refine (HFA.out _ (by first | exact ⟨rfl, rfl, rfl, Nat.le_refl _, fun _ _ => rfl⟩)).mono ?_
             rintro e w2 ⟨⟨y, rfl, hly, hsy, hey⟩, hb2⟩
             have hb2' : Below W0.heap.size W0 w2 := bel_step (bel_drew W0) hb2
             have HS2 := Lib.hid (HSA.out.drop hb2')
             have HRY := Lib.hid (row_made LRlen (by omega) w2 47 [y] 1 #[.int .u8 y.head.kind, .int .i64 y.head.rho, .slice y.head.ep y.head.en y.head.ec, .slice y.head.kp y.head.kn y.head.kc] rfl rfl (by decide))
             have hlt2 : w.heap.size + 1 + 1 < w2.heap.size := HS2.out.b2.lt
             obtain ⟨x0, x1, x2, x3, x4, x5, x6, x7⟩ := HS2.out.b2.cells
             go_wp2_with fail))
        all_goals (
          have hA := (Below.refl _ w2).alloc (Nat.le_refl _) (.cells #[.int .u8 y.head.kind, .int .i64 y.head.rho, .slice y.head.ep y.head.en y.head.ec, .slice y.head.kp y.head.kn y.head.kc] 47)
          have HST := Lib.hid ((HS2.out.drop hA).add (LR.lies_below hA y hly) (fun a ha => ⟨fun ad hp e => by have h1 := ((hsy a ha).1 ad hp).1; have h5 := OwnE.under HSW.out.own _ e; simp at h1; omega, fun he ad hp e => by
            have h1 := ((hsy a ha).2 he ad hp).1; have h5 := OwnE.under HSW.out.own _ e; have h6 := OwnE.from HSW.out.own _ e; have := HNW.out; simp at h1; omega⟩) (hsy.mono (by have := HSW.out.r.size; simp; omega) (by simp)) hown3 hg3 hf3 HNW.out)
          have HER2 : Hid ((ys ++ [y]).map PT.er = (l.take (k + 1)).map (fun x => swapT f t (PT.er x))) := by show _ = _; rw [take_succ_get HEX.out, List.map_append, List.map_append, HER.out]; simp [hey]
          clear hA hown3 hg3 hf3 hb2 hb2' hly hsy hey hrow3 x0 x1 x2 x3 x4 x5 x6 x7)
        all_goals (
          go_wp2_with fail
          go_roundw
          case rel => exact ⟨k + 1, _, ys ++ [y], by omega, by go_num, HST.out, HER2.out⟩
          case measure => simp [intOf]; omega)
      · obtain ⟨p', c', rfl, hrow⟩ := HSW.out.own.isRow LRlen (by omega)
        have hkn : k = a.kn := by omega
        have HS := Lib.hid (box4_set HSW.out.r.b1 (.int .u8 a.kind) (.int .i64 z) (.slice ep en ec) (.slice p' k c'))
        have HEND := Lib.hid (swap_end (l := l) HSW.out HNW.out (by rw [hkn]; exact HN.out.kids.len.symm) HN.out.own H2.out.ok (by omega) HER.out HS.out.2)
        obtain ⟨x0, x1, x2, x3, x4, x5, x6, x7⟩ := HSW.out.b2.cells
        obtain ⟨y0, y1, y2, y3, y4, y5, y6, y7⟩ := HSW.out.r.b1.cells
        clear hrow hkn
        go_wp2_with fail
        (try simp only [Exit.inBlock, Exit.then])
        refine bodyPost_ret (results_cell_row rfl _ _ _ _ _ _ _ rfl HS.out.1.blk Tryz.underlying47 rfl (by kernel_rfl)) rfl ?_
        exact HEND.out
theorem swapAt_any {w0 : World} {p1 : Option Addr} {n1 c1 : Nat} {f : List Int} {p2 : Option Addr} {n2 c2 : Nat} {t : List Int} (h2 : Two w0 p1 n1 c1 f p2 n2 c2 t) (x : PT) :
    LR.lies w0 x → effsOK x.er = true → x.size ≤ 1000 → ∀ W, Below w0.heap.size w0 W → SwapAt w0.heap.size p1 n1 c1 f p2 n2 c2 t x W := by
  refine Rose.ind (P := fun (x : PT) => LR.lies w0 x → effsOK x.er = true → x.size ≤ 1000 → ∀ W, Below w0.heap.size w0 W → SwapAt w0.heap.size p1 n1 c1 f p2 n2 c2 t x W) (fun a l ih => ?_) x
  intro hl he hs W hW
  have HN := nodeIn hl
  rw [PT.er_node, effsOK_node, Bool.and_eq_true, List.all_map, List.all_eq_true] at he
  have hsz : sizes l + 1 = (Rose.node a l).size := sizes_kids (.node a l)
  have hlen := greatB_len' (show greatB a.eff = false by simpa [RH.plain] using he.1)
  refine rtype_Swap_of (HN.below hW) hW.size (fun hne ad hp => ?_) (by have := HN.own.eff.len; omega) (h2.below hW) ?_ (fun x hx W' hW' => ih x hx (HN.each x hx) (he.2 x hx) ?_ W' (hW.trans (hW'.mono hW.size)))
  · rcases HN.own.eff.row with h | ⟨b, o, hp', hb, _⟩
    · exact absurd h hne
    · rw [hp'] at hp; cases hp; exact hb
  · have h1 := kids_le l
    have h2 := HN.kids.len
    omega
  · have h2 : x.size ≤ sizes l := le_sum_of_mem (List.mem_map_of_mem hx)
    omega
end

section
open Go.RowKit Go.Sort Go.Lib

def sizesB (l : List PB) : Nat := (l.map Rose.size).sum
theorem sizesB_take {l : List PB} {k : Nat} {x : PB} (h : l[k]? = some x) : sizesB (l.take (k + 1)) = sizesB (l.take k) + x.size ∧ sizesB (l.take (k + 1)) ≤ sizesB l := by
  refine ⟨by unfold sizesB; rw [take_succ_get h]; simp, ?_⟩
  have : ∀ (m : Nat) (l : List PB), sizesB (l.take m) ≤ sizesB l := by
    intro m
    induction m with
    | zero => intro l; simp [sizesB]
    | succ m ih => intro l; cases l with
      | nil => simp
      | cons y l => have := ih l; simp only [sizesB, List.take_succ_cons, List.map_cons, List.sum_cons] at this ⊢; omega
  exact this _ _
theorem boxB_cell {w w1 : World} {a : BH} (hb : Below (w.heap.size + 1) (w.alloc (.cells #[.int .u8 a.kind, .int .i64 a.var, .slice a.kp a.kn a.kc] 60)) w1) :
    w1.cell? ⟨w.heap.size, 0, none⟩ = some (.int .u8 a.kind) ∧ w1.cell? ⟨w.heap.size, 1, none⟩ = some (.int .i64 a.var) ∧ w1.cell? ⟨w.heap.size, 2, none⟩ = some (.slice a.kp a.kn a.kc) := by
  refine ⟨?_, ?_, ?_⟩ <;> (rw [hb.cell (by simp), cell_new]; rfl)
set_option maxHeartbeats 1000000 in
theorem ref_Size08_any (t : PB) : ∀ w, LB.lies w t → t.size ≤ 1000000 → Calls Tryz.prog 42 #[aggB t.head] w fun e w' => e = .returned (.int .i64 t.size) ∧ Below w.heap.size w w' := by
  refine Rose.ind (P := fun (t : PB) => ∀ w, LB.lies w t → t.size ≤ 1000000 → Calls Tryz.prog 42 #[aggB t.head] w fun e w' => e = .returned (.int .i64 t.size) ∧ Below w.heap.size w w') (fun a l ih => ?_) t
  intro w hl hs
  have HN := Lib.hid (nodeB_in hl)
  have IH := Lib.hid ih
  have HSK : Hid (sizesB l + 1 = (Rose.node a l).size) := by show _ = _; rw [Rose.size_node]; unfold sizesB; omega
  generalize hz : (Rose.node a l).size = z at *
  have HZ := Lib.hid hz
  have hkm := HN.out.own.kmax
  have hc3 : (w.alloc (.cells #[.int .u8 a.kind, .int .i64 a.var, .slice a.kp a.kn a.kc] 60)).cell? ⟨w.heap.size, 2, none⟩ = some (.slice a.kp a.kn a.kc) := by rw [cell_new]; rfl
  have HBX := Lib.hid ((Below.refl w.heap.size w).alloc (Nat.le_refl _) (.cells #[.int .u8 a.kind, .int .i64 a.var, .slice a.kp a.kn a.kc] 60))
  have HNW := Lib.hid (HN.out.below HBX.out)
  show Calls _ _ #[aggB a] w _
  clear hl ih hz
  obtain ⟨kd, rr, kp, kn, kc⟩ := a
  simp only at hkm hc3 HBX HNW
  go_enter Tryz.func42, Tryz.ntmps42
  go_wp2_with fail
  generalize w.alloc (.cells #[.int .u8 kd, .int .i64 rr, .slice kp kn kc] 60) = W at *
  have HC3 : Hid (∀ wr, Below W.heap.size W wr → wr.cell? ⟨w.heap.size, 2, none⟩ = some (.slice kp kn kc)) := fun wr hb => by rw [hb.cell (cell_block hc3)]; exact hc3
  clear hc3
  go_loopw [3, 4, 8] (fun s _ i wr => ∃ k S : Nat, k ≤ kn ∧ i = .int .i64 k ∧ sizesB (l.take k) + 1 = S ∧ S ≤ 1000000 ∧ s = .int .i64 S ∧ Below W.heap.size W wr) (fun _ _ i _ => kn - (intOf i).toNat)
  case atStart => exact ⟨0, 1, by omega, rfl, rfl, by omega, rfl, Below.refl _ _⟩
  case round =>
    obtain ⟨k, S, hk, rfl, hS, hS1, rfl, hb⟩ := hrel
    have HSk := Lib.hid hS
    have HB := Lib.hid hb
    clear hS hb
    have hc3 := HC3.out wr HB.out
    by_cases hlt : k < kn
    · obtain ⟨x, hx⟩ := get_of_lt (l := l) (j := k) (by rw [HNW.out.len]; exact hlt)
      have HE := Lib.hid hx
      obtain ⟨b, o, hbo, hbl, d0, d1, d2⟩ := (HNW.out.below HB.out).kid hx
      simp only at hbo
      subst hbo
      have HX := Lib.hid ((HNW.out.below HB.out).each x (List.mem_of_getElem? hx))
      have HST := Lib.hid (sizesB_take hx)
      have hb1 : S + x.size ≤ 1000000 := by have := HST.out.1; have := HST.out.2; have := HSK.out; have := HSk.out; omega
      clear hx hbl
      go_wp2_with fail
      refine (IH.out x (List.mem_of_getElem? HE.out) wr HX.out (by omega)).mono ?_
      rintro e w1 ⟨rfl, hb⟩
      have HB1 := Lib.hid (HB.out.trans (hb.mono HB.out.size))
      clear hb d0 d1 d2 hc3
      generalize hxz : x.size = xz at *
      have HXZ := Lib.hid hxz
      clear hxz
      go_wp2_with fail
      go_roundw
      case rel => exact ⟨k + 1, S + xz, by omega, by go_num, by have := HST.out.1; have := HSk.out; omega, hb1, by go_num, HB1.out⟩
      case measure => simp [intOf]; omega
    · have hkn : k = kn := by omega
      subst hkn
      go_wp2_with fail
      go_ret
      have h := HSk.out
      rw [take_full (by have := HNW.out.len; simp only at this; omega)] at h
      have hz : S = z := by have := HSK.out; omega
      subst hz
      exact ⟨rfl, HBX.out.trans (HB.out.mono HBX.out.size)⟩

/-- may a node alone be, that has n kids and no number? -/
def nodeTB (a : LBH) (n : Nat) : Bool := decide (a.var = 0) && (decide (a.kind = 1 ∧ n = 0) || decide (a.kind = 2 ∧ n = 2) || decide (a.kind = 3 ∧ n = 1) || decide (a.kind = 4 ∧ n = 2))
def mayTB : BT → Bool := Rose.all nodeTB
theorem mayTB_er (a : BH) (l : List PB) : mayTB (PB.er (.node a l)) = (nodeTB a.plain l.length && l.all (fun t => mayTB (PB.er t))) := by
  rw [PB.er_node]; unfold mayTB; rw [Rose.all_node, List.length_map, List.all_map]; rfl
theorem mayTB_bare (t : RT) : mayT t = true → mayTB (bareT t) = true := by
  refine Rose.ind (P := fun t => mayT t = true → mayTB (bareT t) = true) (fun a l ih h => ?_) t
  rw [mayT_node, Bool.and_eq_true, List.all_eq_true] at h
  unfold bareT mayTB at ih ⊢
  rw [Rose.map_node, Rose.all_node, Bool.and_eq_true, List.length_map, List.all_map, List.all_eq_true]
  refine ⟨?_, fun t ht => ih t ht (h.2 t ht)⟩
  have h1 := h.1
  unfold nodeB at h1
  unfold nodeTB
  split at h1
  · rename_i hk; simp only [Bool.and_eq_true, decide_eq_true_eq] at h1; simp [hk, h1.2]
  · split at h1
    · rename_i hk; simp only [Bool.and_eq_true, decide_eq_true_eq] at h1; simp [hk, h1.2]
    · split at h1
      · rename_i hk; simp only [Bool.and_eq_true, decide_eq_true_eq] at h1; simp [hk, h1.2]
      · split at h1
        · rename_i hk; simp only [Bool.and_eq_true, decide_eq_true_eq] at h1; simp [hk, h1.2]
        · simp at h1
set_option maxHeartbeats 2000000 in
theorem ref_May08_yes (t : PB) : ∀ w, LB.lies w t → mayTB (PB.er t) = true → Calls Tryz.prog 43 #[aggB t.head] w fun e w' => e = .returned (.bool true) ∧ Below w.heap.size w w' := by
  refine Rose.ind (P := fun (t : PB) => ∀ w, LB.lies w t → mayTB (PB.er t) = true → Calls Tryz.prog 43 #[aggB t.head] w fun e w' => e = .returned (.bool true) ∧ Below w.heap.size w w') (fun a l ih => ?_) t
  intro w hl hm
  have HN := Lib.hid (nodeB_in hl)
  have IH := Lib.hid ih
  rw [mayTB_er, Bool.and_eq_true, List.all_eq_true] at hm
  have HK := Lib.hid hm.2
  have hn := hm.1
  unfold nodeTB at hn
  rw [Bool.and_eq_true, Bool.or_eq_true, Bool.or_eq_true, Bool.or_eq_true] at hn
  have hv : a.var = 0 := of_decide_eq_true hn.1
  have hk : ((a.kind = 1 ∧ l.length = 0 ∨ a.kind = 2 ∧ l.length = 2) ∨ a.kind = 3 ∧ l.length = 1) ∨ a.kind = 4 ∧ l.length = 2 := by
    rcases hn.2 with ((h | h) | h) | h
    · exact .inl (.inl (.inl (of_decide_eq_true h)))
    · exact .inl (.inl (.inr (of_decide_eq_true h)))
    · exact .inl (.inr (of_decide_eq_true h))
    · exact .inr (of_decide_eq_true h)
  have hkm := HN.out.own.kmax
  have HBX := Lib.hid ((Below.refl w.heap.size w).alloc (Nat.le_refl _) (.cells #[.int .u8 a.kind, .int .i64 a.var, .slice a.kp a.kn a.kc] 60))
  have HNW := Lib.hid (HN.out.below HBX.out)
  obtain ⟨c0, c1, hc3⟩ := boxB_cell (w := w) (a := a) (w1 := w.alloc (.cells #[.int .u8 a.kind, .int .i64 a.var, .slice a.kp a.kn a.kc] 60)) (Below.refl _ _)
  show Calls _ _ #[aggB a] w _
  clear hl ih hm
  rcases hk with ((hk | hk) | hk) | hk
  · obtain ⟨kd, rr, kp, kn, kc⟩ := a
    simp only at hkm hk hc3 HBX HNW hv
    subst hv
    obtain ⟨rfl, hkn⟩ := hk
    have hkn' : kn = 0 := by have := HN.out.len; simp only at this; omega
    subst hkn'
    clear hkn
    go_enter Tryz.func43, Tryz.ntmps43
    go_wp2_with fail
    clear c0 c1
    generalize w.alloc (.cells #[.int .u8 1, .int .i64 0, .slice kp 0 kc] 60) = W at *
    have HC3 : Hid (∀ wr, Below W.heap.size W wr → wr.cell? ⟨w.heap.size, 2, none⟩ = some (.slice kp 0 kc)) := fun wr hb => by rw [hb.cell (cell_block hc3)]; exact hc3
    clear hc3
    go_loopw [4, 38] (fun _ i wr => ∃ k : Nat, k ≤ 0 ∧ i = .int .i64 k ∧ Below W.heap.size W wr) (fun _ i _ => 0 - (intOf i).toNat)
    case atStart => exact ⟨0, by omega, rfl, Below.refl _ _⟩
    case round =>
      obtain ⟨k, hk, rfl, hb⟩ := hrel
      have HB := Lib.hid hb
      clear hb
      have hc3 := HC3.out wr HB.out
      by_cases hlt : k < 0
      · omega
      · have hkn : k = 0 := by omega
        subst hkn
        go_wp2_with fail
        go_ret
        exact ⟨rfl, HBX.out.trans (HB.out.mono HBX.out.size)⟩
  · obtain ⟨kd, rr, kp, kn, kc⟩ := a
    simp only at hkm hk hc3 HBX HNW hv
    subst hv
    obtain ⟨rfl, hkn⟩ := hk
    have hkn' : kn = 2 := by have := HN.out.len; simp only at this; omega
    subst hkn'
    clear hkn
    go_enter Tryz.func43, Tryz.ntmps43
    go_wp2_with fail
    clear c0 c1
    generalize w.alloc (.cells #[.int .u8 2, .int .i64 0, .slice kp 2 kc] 60) = W at *
    have HC3 : Hid (∀ wr, Below W.heap.size W wr → wr.cell? ⟨w.heap.size, 2, none⟩ = some (.slice kp 2 kc)) := fun wr hb => by rw [hb.cell (cell_block hc3)]; exact hc3
    clear hc3
    go_loopw [4, 38] (fun _ i wr => ∃ k : Nat, k ≤ 2 ∧ i = .int .i64 k ∧ Below W.heap.size W wr) (fun _ i _ => 2 - (intOf i).toNat)
    case atStart => exact ⟨0, by omega, rfl, Below.refl _ _⟩
    case round =>
      obtain ⟨k, hk, rfl, hb⟩ := hrel
      have HB := Lib.hid hb
      clear hb
      have hc3 := HC3.out wr HB.out
      by_cases hlt : k < 2
      · obtain ⟨x, hx⟩ := get_of_lt (l := l) (j := k) (by have := HN.out.len; simp only at this; omega)
        have HE := Lib.hid hx
        obtain ⟨b, o, hbo, hbl, d0, d1, d2⟩ := (HNW.out.below HB.out).kid hx
        simp only at hbo
        subst hbo
        have HX := Lib.hid ((HNW.out.below HB.out).each x (List.mem_of_getElem? hx))
        clear hx hbl
        go_wp2_with fail
        refine (IH.out x (List.mem_of_getElem? HE.out) wr HX.out (HK.out x (List.mem_of_getElem? HE.out))).mono ?_
        rintro e w1 ⟨rfl, hb⟩
        have HB1 := Lib.hid (HB.out.trans (hb.mono HB.out.size))
        clear hb d0 d1 d2 hc3
        go_wp2_with fail
        go_roundw
        case rel => exact ⟨k + 1, by omega, by go_num, HB1.out⟩
        case measure => simp [intOf]; omega
      · have hkn : k = 2 := by omega
        subst hkn
        go_wp2_with fail
        go_ret
        exact ⟨rfl, HBX.out.trans (HB.out.mono HBX.out.size)⟩
  · obtain ⟨kd, rr, kp, kn, kc⟩ := a
    simp only at hkm hk hc3 HBX HNW hv
    subst hv
    obtain ⟨rfl, hkn⟩ := hk
    have hkn' : kn = 1 := by have := HN.out.len; simp only at this; omega
    subst hkn'
    clear hkn
    go_enter Tryz.func43, Tryz.ntmps43
    go_wp2_with fail
    clear c0 c1
    generalize w.alloc (.cells #[.int .u8 3, .int .i64 0, .slice kp 1 kc] 60) = W at *
    have HC3 : Hid (∀ wr, Below W.heap.size W wr → wr.cell? ⟨w.heap.size, 2, none⟩ = some (.slice kp 1 kc)) := fun wr hb => by rw [hb.cell (cell_block hc3)]; exact hc3
    clear hc3
    go_loopw [4, 38] (fun _ i wr => ∃ k : Nat, k ≤ 1 ∧ i = .int .i64 k ∧ Below W.heap.size W wr) (fun _ i _ => 1 - (intOf i).toNat)
    case atStart => exact ⟨0, by omega, rfl, Below.refl _ _⟩
    case round =>
      obtain ⟨k, hk, rfl, hb⟩ := hrel
      have HB := Lib.hid hb
      clear hb
      have hc3 := HC3.out wr HB.out
      by_cases hlt : k < 1
      · obtain ⟨x, hx⟩ := get_of_lt (l := l) (j := k) (by have := HN.out.len; simp only at this; omega)
        have HE := Lib.hid hx
        obtain ⟨b, o, hbo, hbl, d0, d1, d2⟩ := (HNW.out.below HB.out).kid hx
        simp only at hbo
        subst hbo
        have HX := Lib.hid ((HNW.out.below HB.out).each x (List.mem_of_getElem? hx))
        clear hx hbl
        go_wp2_with fail
        refine (IH.out x (List.mem_of_getElem? HE.out) wr HX.out (HK.out x (List.mem_of_getElem? HE.out))).mono ?_
        rintro e w1 ⟨rfl, hb⟩
        have HB1 := Lib.hid (HB.out.trans (hb.mono HB.out.size))
        clear hb d0 d1 d2 hc3
        go_wp2_with fail
        go_roundw
        case rel => exact ⟨k + 1, by omega, by go_num, HB1.out⟩
        case measure => simp [intOf]; omega
      · have hkn : k = 1 := by omega
        subst hkn
        go_wp2_with fail
        go_ret
        exact ⟨rfl, HBX.out.trans (HB.out.mono HBX.out.size)⟩
  · obtain ⟨kd, rr, kp, kn, kc⟩ := a
    simp only at hkm hk hc3 HBX HNW hv
    subst hv
    obtain ⟨rfl, hkn⟩ := hk
    have hkn' : kn = 2 := by have := HN.out.len; simp only at this; omega
    subst hkn'
    clear hkn
    go_enter Tryz.func43, Tryz.ntmps43
    go_wp2_with fail
    clear c0 c1
    generalize w.alloc (.cells #[.int .u8 4, .int .i64 0, .slice kp 2 kc] 60) = W at *
    have HC3 : Hid (∀ wr, Below W.heap.size W wr → wr.cell? ⟨w.heap.size, 2, none⟩ = some (.slice kp 2 kc)) := fun wr hb => by rw [hb.cell (cell_block hc3)]; exact hc3
    clear hc3
    go_loopw [4, 38] (fun _ i wr => ∃ k : Nat, k ≤ 2 ∧ i = .int .i64 k ∧ Below W.heap.size W wr) (fun _ i _ => 2 - (intOf i).toNat)
    case atStart => exact ⟨0, by omega, rfl, Below.refl _ _⟩
    case round =>
      obtain ⟨k, hk, rfl, hb⟩ := hrel
      have HB := Lib.hid hb
      clear hb
      have hc3 := HC3.out wr HB.out
      by_cases hlt : k < 2
      · obtain ⟨x, hx⟩ := get_of_lt (l := l) (j := k) (by have := HN.out.len; simp only at this; omega)
        have HE := Lib.hid hx
        obtain ⟨b, o, hbo, hbl, d0, d1, d2⟩ := (HNW.out.below HB.out).kid hx
        simp only at hbo
        subst hbo
        have HX := Lib.hid ((HNW.out.below HB.out).each x (List.mem_of_getElem? hx))
        clear hx hbl
        go_wp2_with fail
        refine (IH.out x (List.mem_of_getElem? HE.out) wr HX.out (HK.out x (List.mem_of_getElem? HE.out))).mono ?_
        rintro e w1 ⟨rfl, hb⟩
        have HB1 := Lib.hid (HB.out.trans (hb.mono HB.out.size))
        clear hb d0 d1 d2 hc3
        go_wp2_with fail
        go_roundw
        case rel => exact ⟨k + 1, by omega, by go_num, HB1.out⟩
        case measure => simp [intOf]; omega
      · have hkn : k = 2 := by omega
        subst hkn
        go_wp2_with fail
        go_ret
        exact ⟨rfl, HBX.out.trans (HB.out.mono HBX.out.size)⟩

set_option maxHeartbeats 4000000 in
theorem rtypeBare_walk {w : World} (hT : Tab w) (t : PT) (hl : LR.lies w t) (p1 : Option Addr) (n1 c1 : Nat) (f : List Int) (hr1 : IsRow encN 1 w p1 n1 c1 f) (p2 : Option Addr) (n2 c2 : Nat) (tz : List Int) (hr2 : IsRow encN 1 w p2 n2 c2 tz ∧ ∀ z ∈ tz, okI z) :
    Calls Tryz.prog 8 #[aggR t.head, .slice p1 n1 c1, .slice p2 n2 c2] w fun e w' => e = .returned (.bool true) ∧ Below w.heap.size w w' := by
  have HTAB := Lib.hid hT
  have HBX := Lib.hid (boxT (w := w) (t := t))
  have HL0 := Lib.hid hl
  have HL := Lib.hid (fun W (h : Below w.heap.size w W) => LR.lies_below h t hl)
  have HSM := Lib.hid (fun h : SmallT t.er 100 => smallP hl h)
  have HR1 := Lib.hid hr1
  have HR2 := Lib.hid hr2
  have hm1 := hr1.max
  have hm2 := hr2.1.max
  clear hT hl hr1 hr2
  go_enter Tryz.func8, Tryz.ntmps8
  go_wp2_with fail
  refine (ref_Great12_any (HL.out _ HBX.out)).mono ?_
  rintro e w1 ⟨⟨r, rfl, hsm⟩, hb⟩
  have HB1 := Lib.hid (HBX.out.trans (hb.mono HBX.out.size))
  have HC1 := Lib.hid (show Below (w.heap.size + 1) (w.alloc (.cells #[.int .u8 t.head.kind, .int .i64 t.head.rho, .slice t.head.ep t.head.en t.head.ec, .slice t.head.kp t.head.kn t.head.kc] 47)) w1 by simpa using hb)
  have HG := Lib.hid hsm
  clear hb hsm
  cases r
  · have HP := Lib.hid (HSM.out (HG.out rfl))
    obtain ⟨d0, d1, d2, d3⟩ := boxT_cells HC1.out
    by_cases h1 : 100 < n1
    · go_wp2_with fail
      refine (awake12_any (HTAB.out.below HB1.out)).mono ?_
      rintro e w9 ⟨rfl, hb⟩
      have HB9 := Lib.hid (HB1.out.trans (hb.mono HB1.out.size))
      clear hb
      go_wp2_with fail
      go_ret
      exact ⟨rfl, HB9.out⟩
    by_cases h2 : 100 < n2
    · go_wp2_with fail
      refine (awake12_any (HTAB.out.below HB1.out)).mono ?_
      rintro e w9 ⟨rfl, hb⟩
      have HB9 := Lib.hid (HB1.out.trans (hb.mono HB1.out.size))
      clear hb
      go_wp2_with fail
      go_ret
      exact ⟨rfl, HB9.out⟩
    have hn1 : n1 ≤ 100 := by omega
    have hn2 : n2 ≤ 100 := by omega
    have H2 : Hid (Two w p1 n1 c1 f p2 n2 c2 tz) := ⟨HR1.out, HR2.out.1, by omega, by omega, HR2.out.2⟩
    go_wp2_with fail
    refine Calls.mono (bareAt_any t _ (HL.out _ HB1.out) (by have := HP.out.size; omega)) ?_
    rintro e w2 ⟨⟨y, rfl, hly, hsy, hey⟩, hb⟩
    have HB2 := Lib.hid (HB1.out.trans (hb.mono HB1.out.size))
    have HC2 := Lib.hid (HC1.out.trans (hb.mono (by have := HC1.out.size; simpa using this)))
    have HLY := Lib.hid hly
    have HEY := Lib.hid hey
    have hkd : y.head.kind = t.head.kind := by
      have h := hey
      obtain ⟨ya, yl⟩ := y
      obtain ⟨ta, tl⟩ := t
      rw [PB.er_node, bareT_er] at h
      injection h with h3 h4
      injection h3
    have hsz : y.size = t.size := by
      have h := congrArg Rose.size hey
      unfold PB.er bareT PT.er at h
      rw [Rose.size_map, Rose.size_map, Rose.size_map] at h
      exact h
    have HSZ := Lib.hid hsz
    have hag : aggB y.head = .agg #[.int .u8 t.head.kind, .int .i64 y.head.var, .slice y.head.kp y.head.kn y.head.kc] := by show Value.agg #[.int .u8 y.head.kind, _, _] = _; rw [hkd]
    rw [hag]
    clear hag hb hly hsy hey d0 d1 d2 d3 hsz
    obtain ⟨d0, d1, d2, d3⟩ := boxT_cells HC2.out
    go_wp2_with fail
    have hA := (Below.refl w2.heap.size w2).alloc (Nat.le_refl _) (.cells #[.int .u8 t.head.kind, .int .i64 y.head.var, .slice y.head.kp y.head.kn y.head.kc] 60)
    have HB3 := Lib.hid (HB2.out.trans (hA.mono HB2.out.size))
    have HC3 := Lib.hid (HC2.out.trans (hA.mono (by have := HC2.out.size; simpa using this)))
    have HLY3 := Lib.hid (LB.lies_below hA y HLY.out)
    have HYC : Hid (Box3 (w2.alloc (.cells #[.int .u8 t.head.kind, .int .i64 y.head.var, .slice y.head.kp y.head.kn y.head.kc] 60)) w2.heap.size (.int .u8 t.head.kind) (.int .i64 y.head.var) (.slice y.head.kp y.head.kn y.head.kc)) := box3_new _ _ _ _
    have hkd' := Lib.hid hkd
    clear hA d0 d1 d2 d3 hkd
    generalize w2.alloc (.cells #[.int .u8 t.head.kind, .int .i64 y.head.var, .slice y.head.kp y.head.kn y.head.kc] 60) = w3 at *
    have HSS : Hid (∀ W, Below w3.heap.size w3 W → W.cell? ⟨w.heap.size, 0, none⟩ = some (.int .u8 t.head.kind) ∧ W.cell? ⟨w.heap.size, 1, none⟩ = some (.int .i64 t.head.rho) ∧ W.cell? ⟨w.heap.size, 2, none⟩ = some (.slice t.head.ep t.head.en t.head.ec) ∧ W.cell? ⟨w.heap.size, 3, none⟩ = some (.slice t.head.kp t.head.kn t.head.kc) ∧
        W.cell? ⟨w2.heap.size, 0, none⟩ = some (.int .u8 t.head.kind) ∧ W.cell? ⟨w2.heap.size, 1, none⟩ = some (.int .i64 y.head.var) ∧ W.cell? ⟨w2.heap.size, 2, none⟩ = some (.slice y.head.kp y.head.kn y.head.kc) ∧ Below w3.heap.size w3 W) := fun W h => by
      obtain ⟨a0, a1, a2, a3⟩ := boxT_cells (HC3.out.trans (h.mono (by have := HC3.out.size; simpa using this)))
      obtain ⟨b0, b1, b2, _, _, _⟩ := (HYC.out.below h).cells
      exact ⟨a0, a1, a2, a3, b0, b1, b2, h⟩
    have HBZ : Hid (∀ W, Below w3.heap.size w3 W → Below w.heap.size w W) := fun W h => HB3.out.trans (h.mono HB3.out.size)
    have HRT : Hid (∀ W g, Below w3.heap.size w3 W → W.cell? ⟨g, 0, none⟩ = some (.int .u8 t.head.kind) ∧ W.cell? ⟨g, 1, none⟩ = some (.int .i64 t.head.rho) ∧ W.cell? ⟨g, 2, none⟩ = some (.slice t.head.ep t.head.en t.head.ec) ∧ W.cell? ⟨g, 3, none⟩ = some (.slice t.head.kp t.head.kn t.head.kc) → RowT W (some ⟨g, 0, none⟩) 1 1 [t]) := fun W g h hc => rowT_cells (HL.out _ (HBZ.out _ h)) hc.1 hc.2.1 hc.2.2.1 hc.2.2.2
    have HS1 : Hid (∀ W g, RowT W (some ⟨g, 0, none⟩) 1 1 [t] → Calls Tryz.prog 33 #[.slice (some ⟨g, 0, none⟩) 1 1] W fun e w' => e = .returned (.int .i64 (t.size : Int)) ∧ Below W.heap.size W w') := fun W g h => by
      have h1 : sizes [t] = t.size := by simp [sizes]
      have := rtype_Size_any h (by have := HP.out.size; omega)
      rw [h1] at this
      exact this
    have HSB : Hid (∀ W, Below w3.heap.size w3 W → Calls Tryz.prog 42 #[aggB ⟨t.head.kind, y.head.var, y.head.kp, y.head.kn, y.head.kc⟩] W fun e w' => e = .returned (.int .i64 (t.size : Int)) ∧ Below W.heap.size W w') := fun W h => by
      have := ref_Size08_any y W (LB.lies_below h y HLY3.out) (by have := HP.out.size; have := HSZ.out; omega)
      rw [HSZ.out] at this
      rw [← hkd'.out]; exact this
    have HMB : Hid (mayT t.er = true → ∀ W, Below w3.heap.size w3 W → Calls Tryz.prog 43 #[aggB ⟨t.head.kind, y.head.var, y.head.kp, y.head.kn, y.head.kc⟩] W fun e w' => e = .returned (.bool true) ∧ Below W.heap.size W w') := fun hm W h => by
      rw [← hkd'.out]; exact ref_May08_yes y W (LB.lies_below h y HLY3.out) (by rw [HEY.out]; exact mayTB_bare _ hm)
    have HSP : Hid (∀ W, Below w3.heap.size w3 W → SwapAt w.heap.size p1 n1 c1 f p2 n2 c2 tz t W) := fun W h => swapAt_any H2.out t HL0.out HP.out.effs (by have := HP.out.size; omega) W (HBZ.out _ h)
    have HSZ2 : Hid (∀ y2 : PT, PT.er y2 = swapT f tz (PT.er t) → y2.size ≤ 1000) := fun y2 h => by
      have h := congrArg Rose.size h
      unfold PT.er swapT at h
      rw [Rose.size_map, Rose.size_map, Rose.size_map] at h
      have := HP.out.size
      omega
    have HSM8 : Hid (∀ (y2 : PT) (y3 : PB) W, Below w3.heap.size w3 W → LB.lies W y3 → PT.er y2 = swapT f tz (PT.er t) → PB.er y3 = bareT (PT.er y2) → Calls Tryz.prog 36 #[aggB y3.head, aggB ⟨t.head.kind, y.head.var, y.head.kp, y.head.kn, y.head.kc⟩] W fun e w' => e = .returned (.bool true) ∧ Below W.heap.size W w') := fun y2 y3 W h hl3 he2 he3 => by
      rw [← hkd'.out]
      exact sameB_any y3 y W hl3 (LB.lies_below h y HLY3.out) (by rw [he3, he2, bareT_swapT, HEY.out])
    clear HYC
    obtain ⟨a0, a1, a2, a3, b0, b1, b2, _⟩ := HSS.out w3 (Below.refl _ _)
    cases hm : mayT t.er
    · have HM := Lib.hid hm
      clear hm
      have HMK : Hid (∀ W g, RowT W (some ⟨g, 0, none⟩) 1 1 [t] → Calls Tryz.prog 32 #[.slice (some ⟨g, 0, none⟩) 1 1] W fun e w' => e = .returned (.bool false) ∧ Below W.heap.size W w') := fun W g h => by
        have := rtype_May_any h
        simp only [List.all_cons, List.all_nil, Bool.and_true] at this
        rw [HM.out] at this
        exact this
      refine wp_region_noPanic ?_
      refine wp_region_held_drew (S := (fun W => W.cell? ⟨w.heap.size, 0, none⟩ = some (.int .u8 t.head.kind) ∧ W.cell? ⟨w.heap.size, 1, none⟩ = some (.int .i64 t.head.rho) ∧ W.cell? ⟨w.heap.size, 2, none⟩ = some (.slice t.head.ep t.head.en t.head.ec) ∧ W.cell? ⟨w.heap.size, 3, none⟩ = some (.slice t.head.kp t.head.kn t.head.kc) ∧ W.cell? ⟨w2.heap.size, 0, none⟩ = some (.int .u8 t.head.kind) ∧ W.cell? ⟨w2.heap.size, 1, none⟩ = some (.int .i64 y.head.var) ∧ W.cell? ⟨w2.heap.size, 2, none⟩ = some (.slice y.head.kp y.head.kn y.head.kc) ∧ Below w3.heap.size w3 W)) (by kernel_rfl) ?_ (fun hHeld => ?_)
      · (try dsimp only); (first | exact HSS.out _ (bel_drew _) | exact HSS.out _ (bel_alloc (by go_split_ands; assumption) _) | exact HSS.out _ hZ | exact hHeld)
      refine wpAnyH_take (i := 0) (oi := ({ dst := some 23, op := Go.Op.load 60 (Go.Operand.tmp 7), type := 60, pos := "law.go:107", after := #[], guard := none } : Oper)) (v := ?_) rfl (by kernel_rfl) (by kernel_rfl) (by kernel_rfl) (fun _ _ _ h => h) (Or.inl ⟨by rfl, ?_⟩) (by assumption) ?_
      rotate_left
      · intro w hSw; (try dsimp only at hSw); go_simp; try with_reducible rfl
      try simp only [Act.put, List.setIfInBounds_toArray, List.set_cons_zero, List.set_cons_succ]
      refine wpAnyH_take (i := 2) (oi := ({ dst := some 25, op := Go.Op.load 47 (Go.Operand.tmp 3), type := 47, pos := "law.go:107", after := #[], guard := none } : Oper)) (v := ?_) rfl (by kernel_rfl) (by kernel_rfl) (by kernel_rfl) (fun _ _ _ h => h) (Or.inl ⟨by rfl, ?_⟩) (by assumption) ?_
      rotate_left
      · intro w hSw; (try dsimp only at hSw); go_simp; try with_reducible rfl
      try simp only [Act.put, List.setIfInBounds_toArray, List.set_cons_zero, List.set_cons_succ]
      refine wpAnyH_ready (rs := [1, 3]) (by kernel_rfl) (by simp) ?_
      refine AllReadyH.cons (o := ({ dst := some 24, op := Go.Op.call { callee := Go.Callee.value (Go.Operand.func 42), args := #[Go.Operand.tmp 23], argTypes := #[60] }, type := 3, pos := "law.go:107", after := #[{ on := 0, ground := Go.Ground.data }], guard := none } : Oper)) rfl (fun K hK => ?_) ?_
      · go_simp
        go_at_call 42; refine (HSB.out _ (by go_split_ands; assumption)).mono ?_; rintro e w8 ⟨rfl, hb8⟩; have hZ := bel_step (w0 := w3) (by go_split_ands; assumption) hb8
        try go_wp2_with fail
        refine hK.out _ _ ?_ (fun hNew => ?_)
        · (try dsimp only); (first | exact HSS.out _ (bel_drew _) | exact HSS.out _ (bel_alloc (by go_split_ands; assumption) _) | exact HSS.out _ hZ | exact hHeld)
        clear hHeld hK K
        have hHeld := hNew
        clear hNew
        try simp only [Act.put, List.setIfInBounds_toArray, List.set_cons_zero, List.set_cons_succ]
        refine wpAnyH_ready (rs := [3]) (by kernel_rfl) (by simp) ?_
        refine AllReadyH.cons (o := ({ dst := some 26, op := Go.Op.buildSlice 45 1 #[(0, Go.Operand.tmp 25)], type := 45, pos := "law.go:107", after := #[{ on := 2, ground := Go.Ground.data }], guard := none } : Oper)) rfl (fun K hK => ?_) AllReadyH.nil
        go_simp
        refine hK.out _ _ ?_ (fun hNew => ?_)
        · (try dsimp only); (first | exact HSS.out _ (bel_drew _) | exact HSS.out _ (bel_alloc (by go_split_ands; assumption) _) | exact HSS.out _ hZ | exact hHeld)
        clear hHeld hK K
        have hHeld := hNew
        clear hNew
        try simp only [Act.put, List.setIfInBounds_toArray, List.set_cons_zero, List.set_cons_succ]
        refine wpAnyH_ready (rs := [4]) (by kernel_rfl) (by simp) ?_
        refine AllReadyH.cons (o := ({ dst := some 27, op := Go.Op.call { callee := Go.Callee.value (Go.Operand.func 33), args := #[Go.Operand.tmp 26], argTypes := #[45] }, type := 3, pos := "law.go:107", after := #[{ on := 3, ground := Go.Ground.data }, { on := 1, ground := Go.Ground.chain }], guard := none } : Oper)) rfl (fun K hK => ?_) AllReadyH.nil
        go_simp
        go_at_call 33; refine (HS1.out _ _ (HRT.out _ _ (by go_split_ands; assumption) (by refine ⟨?_, ?_, ?_, ?_⟩ <;> first | (go_simp; done) | (rw [hb8.cell (by simp)]; go_simp; done)))).mono ?_; rintro e w8 ⟨rfl, hb8⟩; have hZ := bel_step (w0 := w3) (by go_split_ands; assumption) hb8
        try go_wp2_with fail
        refine hK.out _ _ ?_ (fun hNew => ?_)
        · (try dsimp only); (first | exact HSS.out _ (bel_drew _) | exact HSS.out _ (bel_alloc (by go_split_ands; assumption) _) | exact HSS.out _ hZ | exact hHeld)
        clear hHeld hK K
        have hHeld := hNew
        clear hNew
        try simp only [Act.put, List.setIfInBounds_toArray, List.set_cons_zero, List.set_cons_succ]
        refine wpAnyH_take (i := 5) (oi := ({ dst := some 28, op := Go.Op.binOp Go.BinOp.eql 3 (Go.Operand.tmp 24) (Go.Operand.tmp 27) 3, type := 4, pos := "law.go:107", after := #[{ on := 1, ground := Go.Ground.data }, { on := 4, ground := Go.Ground.data }], guard := none } : Oper)) (v := ?_) rfl (by kernel_rfl) (by kernel_rfl) (by kernel_rfl) (fun _ _ _ h => h) (Or.inl ⟨by rfl, ?_⟩) (by assumption) ?_
        rotate_left
        · intro w hSw; (try dsimp only at hSw); go_simp; try with_reducible rfl
        try simp only [Act.put, List.setIfInBounds_toArray, List.set_cons_zero, List.set_cons_succ]
        refine wpAnyH_take (i := 6) (oi := ({ dst := some 29, op := Go.Op.move (Go.Operand.tmp 28), type := 4, pos := "law.go:107", after := #[{ on := 5, ground := Go.Ground.data }, { on := 4, ground := Go.Ground.chain }], guard := none } : Oper)) (v := ?_) rfl (by kernel_rfl) (by kernel_rfl) (by kernel_rfl) (fun _ _ _ h => h) (Or.inl ⟨by rfl, ?_⟩) (by assumption) ?_
        rotate_left
        · intro w hSw; (try dsimp only at hSw); go_simp; try with_reducible rfl
        try simp only [Act.put, List.setIfInBounds_toArray, List.set_cons_zero, List.set_cons_succ]
        refine wpAnyH_take (i := 7) (oi := ({ dst := some 30, op := Go.Op.fieldAddr 60 (Go.Operand.tmp 7) 0, type := 0, pos := "law.go:107", after := #[{ on := 6, ground := Go.Ground.guard }], guard := some (6, true) } : Oper)) (v := ?_) rfl (by kernel_rfl) (by kernel_rfl) (by kernel_rfl) (fun _ _ _ h => h) (Or.inl ⟨by rfl, ?_⟩) (by assumption) ?_
        rotate_left
        · intro w hSw; (try dsimp only at hSw); go_simp; try with_reducible rfl
        try simp only [Act.put, List.setIfInBounds_toArray, List.set_cons_zero, List.set_cons_succ]
        refine wpAnyH_take (i := 8) (oi := ({ dst := some 31, op := Go.Op.load 5 (Go.Operand.tmp 30), type := 5, pos := "law.go:107", after := #[{ on := 7, ground := Go.Ground.data }, { on := 6, ground := Go.Ground.guard }], guard := some (6, true) } : Oper)) (v := ?_) rfl (by kernel_rfl) (by kernel_rfl) (by kernel_rfl) (fun _ _ _ h => h) (Or.inl ⟨by rfl, ?_⟩) (by assumption) ?_
        rotate_left
        · intro w hSw; (try dsimp only at hSw); go_simp; try with_reducible rfl
        try simp only [Act.put, List.setIfInBounds_toArray, List.set_cons_zero, List.set_cons_succ]
        refine wpAnyH_take (i := 9) (oi := ({ dst := some 32, op := Go.Op.fieldAddr 47 (Go.Operand.tmp 3) 0, type := 0, pos := "law.go:107", after := #[{ on := 6, ground := Go.Ground.guard }], guard := some (6, true) } : Oper)) (v := ?_) rfl (by kernel_rfl) (by kernel_rfl) (by kernel_rfl) (fun _ _ _ h => h) (Or.inl ⟨by rfl, ?_⟩) (by assumption) ?_
        rotate_left
        · intro w hSw; (try dsimp only at hSw); go_simp; try with_reducible rfl
        try simp only [Act.put, List.setIfInBounds_toArray, List.set_cons_zero, List.set_cons_succ]
        refine wpAnyH_take (i := 10) (oi := ({ dst := some 33, op := Go.Op.load 5 (Go.Operand.tmp 32), type := 5, pos := "law.go:107", after := #[{ on := 9, ground := Go.Ground.data }, { on := 6, ground := Go.Ground.guard }], guard := some (6, true) } : Oper)) (v := ?_) rfl (by kernel_rfl) (by kernel_rfl) (by kernel_rfl) (fun _ _ _ h => h) (Or.inl ⟨by rfl, ?_⟩) (by assumption) ?_
        rotate_left
        · intro w hSw; (try dsimp only at hSw); go_simp; try with_reducible rfl
        try simp only [Act.put, List.setIfInBounds_toArray, List.set_cons_zero, List.set_cons_succ]
        refine wpAnyH_take (i := 11) (oi := ({ dst := some 34, op := Go.Op.binOp Go.BinOp.eql 5 (Go.Operand.tmp 31) (Go.Operand.tmp 33) 5, type := 4, pos := "law.go:107", after := #[{ on := 8, ground := Go.Ground.data }, { on := 10, ground := Go.Ground.data }, { on := 6, ground := Go.Ground.guard }], guard := some (6, true) } : Oper)) (v := ?_) rfl (by kernel_rfl) (by kernel_rfl) (by kernel_rfl) (fun _ _ _ h => h) (Or.inl ⟨by rfl, ?_⟩) (by assumption) ?_
        rotate_left
        · intro w hSw; (try dsimp only at hSw); go_simp; try with_reducible rfl
        try simp only [Act.put, List.setIfInBounds_toArray, List.set_cons_zero, List.set_cons_succ]
        refine wpAnyH_take (i := 12) (oi := ({ dst := some 35, op := Go.Op.pick (Go.Operand.tmp 29) (Go.Operand.tmp 34) (Go.Operand.const (Go.Value.bool false)), type := 4, pos := "law.go:107", after := #[{ on := 6, ground := Go.Ground.data }, { on := 11, ground := Go.Ground.data }], guard := none } : Oper)) (v := ?_) rfl (by kernel_rfl) (by kernel_rfl) (by kernel_rfl) (fun _ _ _ h => h) (Or.inl ⟨by rfl, ?_⟩) (by assumption) ?_
        rotate_left
        · intro w hSw; (try dsimp only at hSw); go_simp; try with_reducible rfl
        try simp only [Act.put, List.setIfInBounds_toArray, List.set_cons_zero, List.set_cons_succ]
        refine wpAnyH_take (i := 13) (oi := ({ dst := some 36, op := Go.Op.move (Go.Operand.tmp 35), type := 4, pos := "law.go:107", after := #[{ on := 12, ground := Go.Ground.data }, { on := 6, ground := Go.Ground.chain }], guard := none } : Oper)) (v := ?_) rfl (by kernel_rfl) (by kernel_rfl) (by kernel_rfl) (fun _ _ _ h => h) (Or.inl ⟨by rfl, ?_⟩) (by assumption) ?_
        rotate_left
        · intro w hSw; (try dsimp only at hSw); go_simp; try with_reducible rfl
        try simp only [Act.put, List.setIfInBounds_toArray, List.set_cons_zero, List.set_cons_succ]
        refine wpAnyH_take (i := 14) (oi := ({ dst := some 37, op := Go.Op.load 47 (Go.Operand.tmp 3), type := 47, pos := "law.go:107", after := #[{ on := 13, ground := Go.Ground.guard }], guard := some (13, true) } : Oper)) (v := ?_) rfl (by kernel_rfl) (by kernel_rfl) (by kernel_rfl) (fun _ _ _ h => h) (Or.inl ⟨by rfl, ?_⟩) (by assumption) ?_
        rotate_left
        · intro w hSw; (try dsimp only at hSw); go_simp; try with_reducible rfl
        try simp only [Act.put, List.setIfInBounds_toArray, List.set_cons_zero, List.set_cons_succ]
        refine wpAnyH_ready (rs := [15]) (by kernel_rfl) (by simp) ?_
        refine AllReadyH.cons (o := ({ dst := some 38, op := Go.Op.buildSlice 45 1 #[(0, Go.Operand.tmp 37)], type := 45, pos := "law.go:107", after := #[{ on := 14, ground := Go.Ground.data }, { on := 13, ground := Go.Ground.guard }], guard := some (13, true) } : Oper)) rfl (fun K hK => ?_) AllReadyH.nil
        go_simp
        refine hK.out _ _ ?_ (fun hNew => ?_)
        · (try dsimp only); (first | exact HSS.out _ (bel_drew _) | exact HSS.out _ (bel_alloc (by go_split_ands; assumption) _) | exact HSS.out _ hZ | exact hHeld)
        clear hHeld hK K
        have hHeld := hNew
        clear hNew
        try simp only [Act.put, List.setIfInBounds_toArray, List.set_cons_zero, List.set_cons_succ]
        refine wpAnyH_ready (rs := [16]) (by kernel_rfl) (by simp) ?_
        refine AllReadyH.cons (o := ({ dst := some 39, op := Go.Op.call { callee := Go.Callee.value (Go.Operand.func 32), args := #[Go.Operand.tmp 38], argTypes := #[45] }, type := 4, pos := "law.go:107", after := #[{ on := 15, ground := Go.Ground.data }, { on := 13, ground := Go.Ground.chain }, { on := 13, ground := Go.Ground.guard }], guard := some (13, true) } : Oper)) rfl (fun K hK => ?_) AllReadyH.nil
        go_simp
        go_at_call 32; refine (HMK.out _ _ (HRT.out _ _ (by go_split_ands; assumption) (by refine ⟨?_, ?_, ?_, ?_⟩ <;> first | (go_simp; done) | (rw [hb8.cell (by simp)]; go_simp; done)))).mono ?_; rintro e w8 ⟨rfl, hb8⟩; have hZ := bel_step (w0 := w3) (by go_split_ands; assumption) hb8
        try go_wp2_with fail
        refine hK.out _ _ ?_ (fun hNew => ?_)
        · (try dsimp only); (first | exact HSS.out _ (bel_drew _) | exact HSS.out _ (bel_alloc (by go_split_ands; assumption) _) | exact HSS.out _ hZ | exact hHeld)
        clear hHeld hK K
        have hHeld := hNew
        clear hNew
        try simp only [Act.put, List.setIfInBounds_toArray, List.set_cons_zero, List.set_cons_succ]
        refine wpAnyH_take (i := 17) (oi := ({ dst := some 40, op := Go.Op.unOp Go.UnOp.not 4 (Go.Operand.tmp 39), type := 4, pos := "law.go:107", after := #[{ on := 16, ground := Go.Ground.data }, { on := 13, ground := Go.Ground.guard }], guard := some (13, true) } : Oper)) (v := ?_) rfl (by kernel_rfl) (by kernel_rfl) (by kernel_rfl) (fun _ _ _ h => h) (Or.inl ⟨by rfl, ?_⟩) (by assumption) ?_
        rotate_left
        · intro w hSw; (try dsimp only at hSw); go_simp; try with_reducible rfl
        try simp only [Act.put, List.setIfInBounds_toArray, List.set_cons_zero, List.set_cons_succ]
        refine wpAnyH_take (i := 18) (oi := ({ dst := some 41, op := Go.Op.move (Go.Operand.tmp 40), type := 4, pos := "law.go:107", after := #[{ on := 17, ground := Go.Ground.data }, { on := 16, ground := Go.Ground.chain }, { on := 13, ground := Go.Ground.guard }], guard := some (13, true) } : Oper)) (v := ?_) rfl (by kernel_rfl) (by kernel_rfl) (by kernel_rfl) (fun _ _ _ h => h) (Or.inl ⟨by rfl, ?_⟩) (by assumption) ?_
        rotate_left
        · intro w hSw; (try dsimp only at hSw); go_simp; try with_reducible rfl
        try simp only [Act.put, List.setIfInBounds_toArray, List.set_cons_zero, List.set_cons_succ]
        refine wpAnyH_ready (rs := [19]) (by kernel_rfl) (by simp) ?_
        refine AllReadyH.cons (o := ({ dst := some 42, op := Go.Op.load 60 (Go.Operand.tmp 7), type := 60, pos := "law.go:107", after := #[{ on := 18, ground := Go.Ground.guard }], guard := some (18, false) } : Oper)) rfl (fun K hK => ?_) AllReadyH.nil
        go_simp
        refine hK.out _ _ ?_ (fun hNew => ?_)
        · (try dsimp only); (first | exact HSS.out _ (bel_drew _) | exact HSS.out _ (bel_alloc (by go_split_ands; assumption) _) | exact HSS.out _ hZ | exact hHeld)
        clear hHeld hK K
        have hHeld := hNew
        clear hNew
        try simp only [Act.put, List.setIfInBounds_toArray, List.set_cons_zero, List.set_cons_succ]
        refine wpAnyH_ready (rs := [20]) (by kernel_rfl) (by simp) ?_
        refine AllReadyH.cons (o := ({ dst := some 43, op := Go.Op.call { callee := Go.Callee.value (Go.Operand.func 43), args := #[Go.Operand.tmp 42], argTypes := #[60] }, type := 4, pos := "law.go:107", after := #[{ on := 19, ground := Go.Ground.data }, { on := 18, ground := Go.Ground.chain }, { on := 18, ground := Go.Ground.guard }], guard := some (18, false) } : Oper)) rfl (fun K hK => ?_) AllReadyH.nil
        go_simp
        refine hK.out _ _ ?_ (fun hNew => ?_)
        · (try dsimp only); (first | exact HSS.out _ (bel_drew _) | exact HSS.out _ (bel_alloc (by go_split_ands; assumption) _) | exact HSS.out _ hZ | exact hHeld)
        clear hHeld hK K
        have hHeld := hNew
        clear hNew
        try simp only [Act.put, List.setIfInBounds_toArray, List.set_cons_zero, List.set_cons_succ]
        refine wpAnyH_take (i := 21) (oi := ({ dst := some 44, op := Go.Op.pick (Go.Operand.tmp 41) (Go.Operand.const (Go.Value.bool true)) (Go.Operand.tmp 43), type := 4, pos := "law.go:107", after := #[{ on := 18, ground := Go.Ground.data }, { on := 20, ground := Go.Ground.data }, { on := 13, ground := Go.Ground.guard }], guard := some (13, true) } : Oper)) (v := ?_) rfl (by kernel_rfl) (by kernel_rfl) (by kernel_rfl) (fun _ _ _ h => h) (Or.inl ⟨by rfl, ?_⟩) (by assumption) ?_
        rotate_left
        · intro w hSw; (try dsimp only at hSw); go_simp; try with_reducible rfl
        try simp only [Act.put, List.setIfInBounds_toArray, List.set_cons_zero, List.set_cons_succ]
        refine wpAnyH_take (i := 22) (oi := ({ dst := some 45, op := Go.Op.pick (Go.Operand.tmp 36) (Go.Operand.tmp 44) (Go.Operand.const (Go.Value.bool false)), type := 4, pos := "law.go:107", after := #[{ on := 13, ground := Go.Ground.data }, { on := 21, ground := Go.Ground.data }], guard := none } : Oper)) (v := ?_) rfl (by kernel_rfl) (by kernel_rfl) (by kernel_rfl) (fun _ _ _ h => h) (Or.inl ⟨by rfl, ?_⟩) (by assumption) ?_
        rotate_left
        · intro w hSw; (try dsimp only at hSw); go_simp; try with_reducible rfl
        try simp only [Act.put, List.setIfInBounds_toArray, List.set_cons_zero, List.set_cons_succ]
        refine wpAnyH_take (i := 23) (oi := ({ dst := some 46, op := Go.Op.move (Go.Operand.tmp 45), type := 4, pos := "law.go:107", after := #[{ on := 22, ground := Go.Ground.data }, { on := 20, ground := Go.Ground.chain }], guard := none } : Oper)) (v := ?_) rfl (by kernel_rfl) (by kernel_rfl) (by kernel_rfl) (fun _ _ _ h => h) (Or.inl ⟨by rfl, ?_⟩) (by assumption) ?_
        rotate_left
        · intro w hSw; (try dsimp only at hSw); go_simp; try with_reducible rfl
        try simp only [Act.put, List.setIfInBounds_toArray, List.set_cons_zero, List.set_cons_succ]
        refine wpAnyH_take (i := 24) (oi := ({ dst := some 47, op := Go.Op.load 47 (Go.Operand.tmp 3), type := 47, pos := "law.go:107", after := #[{ on := 23, ground := Go.Ground.guard }], guard := some (23, true) } : Oper)) (v := ?_) rfl (by kernel_rfl) (by kernel_rfl) (by kernel_rfl) (fun _ _ _ h => h) (Or.inl ⟨by rfl, ?_⟩) (by assumption) ?_
        rotate_left
        · intro w hSw; (try dsimp only at hSw); go_simp; try with_reducible rfl
        try simp only [Act.put, List.setIfInBounds_toArray, List.set_cons_zero, List.set_cons_succ]
        refine wpAnyH_take (i := 25) (oi := ({ dst := some 48, op := Go.Op.move (Go.Operand.tmp 1), type := 30, pos := "law.go:107", after := #[{ on := 23, ground := Go.Ground.guard }], guard := some (23, true) } : Oper)) (v := ?_) rfl (by kernel_rfl) (by kernel_rfl) (by kernel_rfl) (fun _ _ _ h => h) (Or.inl ⟨by rfl, ?_⟩) (by assumption) ?_
        rotate_left
        · intro w hSw; (try dsimp only at hSw); go_simp; try with_reducible rfl
        try simp only [Act.put, List.setIfInBounds_toArray, List.set_cons_zero, List.set_cons_succ]
        refine wpAnyH_take (i := 26) (oi := ({ dst := some 49, op := Go.Op.move (Go.Operand.tmp 2), type := 30, pos := "law.go:107", after := #[{ on := 23, ground := Go.Ground.guard }], guard := some (23, true) } : Oper)) (v := ?_) rfl (by kernel_rfl) (by kernel_rfl) (by kernel_rfl) (fun _ _ _ h => h) (Or.inl ⟨by rfl, ?_⟩) (by assumption) ?_
        rotate_left
        · intro w hSw; (try dsimp only at hSw); go_simp; try with_reducible rfl
        try simp only [Act.put, List.setIfInBounds_toArray, List.set_cons_zero, List.set_cons_succ]
        refine wpAnyH_take (i := 29) (oi := ({ dst := some 52, op := Go.Op.load 60 (Go.Operand.tmp 7), type := 60, pos := "law.go:107", after := #[{ on := 23, ground := Go.Ground.guard }], guard := some (23, true) } : Oper)) (v := ?_) rfl (by kernel_rfl) (by kernel_rfl) (by kernel_rfl) (fun _ _ _ h => h) (Or.inl ⟨by rfl, ?_⟩) (by assumption) ?_
        rotate_left
        · intro w hSw; (try dsimp only at hSw); go_simp; try with_reducible rfl
        try simp only [Act.put, List.setIfInBounds_toArray, List.set_cons_zero, List.set_cons_succ]
        refine wpAnyH_ready (rs := [27]) (by kernel_rfl) (by simp) ?_
        refine AllReadyH.cons (o := ({ dst := some 50, op := Go.Op.call { callee := Go.Callee.value (Go.Operand.func 44), args := #[Go.Operand.tmp 47, Go.Operand.tmp 48, Go.Operand.tmp 49], argTypes := #[47, 30, 30] }, type := 47, pos := "law.go:107", after := #[{ on := 24, ground := Go.Ground.data }, { on := 25, ground := Go.Ground.data }, { on := 26, ground := Go.Ground.data }, { on := 23, ground := Go.Ground.chain }, { on := 23, ground := Go.Ground.guard }], guard := some (23, true) } : Oper)) rfl (fun K hK => ?_) AllReadyH.nil
        go_simp
        go_at_call 44; refine Calls.mono (HSP.out _ (by go_split_ands; assumption)) ?_; rintro e w8 ⟨⟨y2, rfl, hl2, hs2, he2⟩, hb8⟩; have hZ := bel_step (w0 := w3) (by go_split_ands; assumption) hb8
        try go_wp2_with fail
        refine hK.out _ _ ?_ (fun hNew => ?_)
        · (try dsimp only); (first | exact HSS.out _ (bel_drew _) | exact HSS.out _ (bel_alloc (by go_split_ands; assumption) _) | exact HSS.out _ hZ | exact hHeld)
        clear hHeld hK K
        have hHeld := hNew
        clear hNew
        try simp only [Act.put, List.setIfInBounds_toArray, List.set_cons_zero, List.set_cons_succ]
        refine wpAnyH_ready (rs := [28]) (by kernel_rfl) (by simp) ?_
        refine AllReadyH.cons (o := ({ dst := some 51, op := Go.Op.call { callee := Go.Callee.value (Go.Operand.func 37), args := #[Go.Operand.tmp 50], argTypes := #[47] }, type := 60, pos := "law.go:107", after := #[{ on := 27, ground := Go.Ground.data }, { on := 27, ground := Go.Ground.chain }, { on := 23, ground := Go.Ground.guard }], guard := some (23, true) } : Oper)) rfl (fun K hK => ?_) AllReadyH.nil
        go_simp
        go_at_call 37; refine Calls.mono (bareAt_any y2 _ hl2 (HSZ2.out _ he2)) ?_; rintro e w8 ⟨⟨y3, rfl, hl3, hs3, he3⟩, hb9⟩; have hZ := bel_step (w0 := w3) (by go_split_ands; assumption) hb9
        try go_wp2_with fail
        refine hK.out _ _ ?_ (fun hNew => ?_)
        · (try dsimp only); (first | exact HSS.out _ (bel_drew _) | exact HSS.out _ (bel_alloc (by go_split_ands; assumption) _) | exact HSS.out _ hZ | exact hHeld)
        clear hHeld hK K
        have hHeld := hNew
        clear hNew
        try simp only [Act.put, List.setIfInBounds_toArray, List.set_cons_zero, List.set_cons_succ]
        refine wpAnyH_ready (rs := [30]) (by kernel_rfl) (by simp) ?_
        refine AllReadyH.cons (o := ({ dst := some 53, op := Go.Op.call { callee := Go.Callee.value (Go.Operand.func 36), args := #[Go.Operand.tmp 51, Go.Operand.tmp 52], argTypes := #[60, 60] }, type := 4, pos := "law.go:107", after := #[{ on := 28, ground := Go.Ground.data }, { on := 29, ground := Go.Ground.data }, { on := 28, ground := Go.Ground.chain }, { on := 23, ground := Go.Ground.guard }], guard := some (23, true) } : Oper)) rfl (fun K hK => ?_) AllReadyH.nil
        go_simp
        go_at_call 36; refine Calls.mono (HSM8.out y2 y3 _ (by go_split_ands; assumption) hl3 he2 he3) ?_; rintro e w8 ⟨rfl, hb8⟩; have hZ := bel_step (w0 := w3) (by go_split_ands; assumption) hb8
        try go_wp2_with fail
        refine hK.out _ _ ?_ (fun hNew => ?_)
        · (try dsimp only); (first | exact HSS.out _ (bel_drew _) | exact HSS.out _ (bel_alloc (by go_split_ands; assumption) _) | exact HSS.out _ hZ | exact hHeld)
        clear hHeld hK K
        have hHeld := hNew
        clear hNew
        try simp only [Act.put, List.setIfInBounds_toArray, List.set_cons_zero, List.set_cons_succ]
        refine wpAnyH_take (i := 31) (oi := ({ dst := some 54, op := Go.Op.pick (Go.Operand.tmp 46) (Go.Operand.tmp 53) (Go.Operand.const (Go.Value.bool false)), type := 4, pos := "law.go:107", after := #[{ on := 23, ground := Go.Ground.data }, { on := 30, ground := Go.Ground.data }], guard := none } : Oper)) (v := ?_) rfl (by kernel_rfl) (by kernel_rfl) (by kernel_rfl) (fun _ _ _ h => h) (Or.inl ⟨by rfl, ?_⟩) (by assumption) ?_
        rotate_left
        · intro w hSw; (try dsimp only at hSw); go_simp; try with_reducible rfl
        try simp only [Act.put, List.setIfInBounds_toArray, List.set_cons_zero, List.set_cons_succ]
        refine wpAnyH_take (i := 32) (oi := ({ dst := some 55, op := Go.Op.move (Go.Operand.tmp 54), type := 4, pos := "law.go:107", after := #[{ on := 31, ground := Go.Ground.data }, { on := 30, ground := Go.Ground.chain }], guard := none } : Oper)) (v := ?_) rfl (by kernel_rfl) (by kernel_rfl) (by kernel_rfl) (fun _ _ _ h => h) (Or.inl ⟨by rfl, ?_⟩) (by assumption) ?_
        rotate_left
        · intro w hSw; (try dsimp only at hSw); go_simp; try with_reducible rfl
        try simp only [Act.put, List.setIfInBounds_toArray, List.set_cons_zero, List.set_cons_succ]
        refine wpAnyH_ready (rs := [33]) (by kernel_rfl) (by simp) ?_
        refine AllReadyH.cons (o := ({ dst := some 56, op := Go.Op.call { callee := Go.Callee.value (Go.Operand.func 29), args := #[], argTypes := #[] }, type := 4, pos := "law.go:107", after := #[{ on := 32, ground := Go.Ground.chain }, { on := 32, ground := Go.Ground.guard }], guard := some (32, true) } : Oper)) rfl (fun K hK => ?_) AllReadyH.nil
        go_simp
        go_at_call 29; refine (awake12_any (HTAB.out.below (HBZ.out _ (by go_split_ands; assumption)))).mono ?_; rintro e w8 ⟨rfl, hb8⟩; have hZ := bel_step (w0 := w3) (by go_split_ands; assumption) hb8
        try go_wp2_with fail
        refine hK.out _ _ ?_ (fun hNew => ?_)
        · (try dsimp only); (first | exact HSS.out _ (bel_drew _) | exact HSS.out _ (bel_alloc (by go_split_ands; assumption) _) | exact HSS.out _ hZ | exact hHeld)
        clear hHeld hK K
        have hHeld := hNew
        clear hNew
        try simp only [Act.put, List.setIfInBounds_toArray, List.set_cons_zero, List.set_cons_succ]
        refine wpAnyH_take (i := 34) (oi := ({ dst := some 57, op := Go.Op.pick (Go.Operand.tmp 55) (Go.Operand.tmp 56) (Go.Operand.const (Go.Value.bool false)), type := 4, pos := "law.go:107", after := #[{ on := 32, ground := Go.Ground.data }, { on := 33, ground := Go.Ground.data }], guard := none } : Oper)) (v := ?_) rfl (by kernel_rfl) (by kernel_rfl) (by kernel_rfl) (fun _ _ _ h => h) (Or.inl ⟨by rfl, ?_⟩) (by assumption) ?_
        rotate_left
        · intro w hSw; (try dsimp only at hSw); go_simp; try with_reducible rfl
        try simp only [Act.put, List.setIfInBounds_toArray, List.set_cons_zero, List.set_cons_succ]
        refine wpAnyH_take (i := 35) (oi := ({ dst := some 6, op := Go.Op.assign (Go.Operand.tmp 57), type := 4, pos := "law.go:107", after := #[{ on := 34, ground := Go.Ground.data }, { on := 33, ground := Go.Ground.chain }, { on := 0, ground := Go.Ground.phase }, { on := 1, ground := Go.Ground.phase }, { on := 2, ground := Go.Ground.phase }, { on := 3, ground := Go.Ground.phase }, { on := 4, ground := Go.Ground.phase }, { on := 5, ground := Go.Ground.phase }, { on := 6, ground := Go.Ground.phase }, { on := 7, ground := Go.Ground.phase }, { on := 8, ground := Go.Ground.phase }, { on := 9, ground := Go.Ground.phase }, { on := 10, ground := Go.Ground.phase }, { on := 11, ground := Go.Ground.phase }, { on := 12, ground := Go.Ground.phase }, { on := 13, ground := Go.Ground.phase }, { on := 14, ground := Go.Ground.phase }, { on := 15, ground := Go.Ground.phase }, { on := 16, ground := Go.Ground.phase }, { on := 17, ground := Go.Ground.phase }, { on := 18, ground := Go.Ground.phase }, { on := 19, ground := Go.Ground.phase }, { on := 20, ground := Go.Ground.phase }, { on := 21, ground := Go.Ground.phase }, { on := 22, ground := Go.Ground.phase }, { on := 23, ground := Go.Ground.phase }, { on := 24, ground := Go.Ground.phase }, { on := 25, ground := Go.Ground.phase }, { on := 26, ground := Go.Ground.phase }, { on := 27, ground := Go.Ground.phase }, { on := 28, ground := Go.Ground.phase }, { on := 29, ground := Go.Ground.phase }, { on := 30, ground := Go.Ground.phase }, { on := 31, ground := Go.Ground.phase }, { on := 32, ground := Go.Ground.phase }, { on := 33, ground := Go.Ground.phase }, { on := 34, ground := Go.Ground.phase }], guard := none } : Oper)) (v := ?_) rfl (by kernel_rfl) (by kernel_rfl) (by kernel_rfl) (fun _ _ _ h => h) (Or.inl ⟨by rfl, ?_⟩) (by assumption) ?_
        rotate_left
        · intro w hSw; (try dsimp only at hSw); go_simp; try with_reducible rfl
        try simp only [Act.put, List.setIfInBounds_toArray, List.set_cons_zero, List.set_cons_succ]
        refine wpAnyH_done (by kernel_rfl) ?_ _
        refine NoPanic.normal ?_
        have HB8 := Lib.hid (HBZ.out _ hZ)
        clear hZ
        go_wp2_with fail
        go_ret
        exact ⟨rfl, HB8.out⟩
      refine AllReadyH.cons (o := ({ dst := some 26, op := Go.Op.buildSlice 45 1 #[(0, Go.Operand.tmp 25)], type := 45, pos := "law.go:107", after := #[{ on := 2, ground := Go.Ground.data }], guard := none } : Oper)) rfl (fun K hK => ?_) AllReadyH.nil
      go_simp
      refine hK.out _ _ ?_ (fun hNew => ?_)
      · (try dsimp only); (first | exact HSS.out _ (bel_drew _) | exact HSS.out _ (bel_alloc (by go_split_ands; assumption) _) | exact HSS.out _ hZ | exact hHeld)
      clear hHeld hK K
      have hHeld := hNew
      clear hNew
      try simp only [Act.put, List.setIfInBounds_toArray, List.set_cons_zero, List.set_cons_succ]
      refine wpAnyH_ready (rs := [1]) (by kernel_rfl) (by simp) ?_
      refine AllReadyH.cons (o := ({ dst := some 24, op := Go.Op.call { callee := Go.Callee.value (Go.Operand.func 42), args := #[Go.Operand.tmp 23], argTypes := #[60] }, type := 3, pos := "law.go:107", after := #[{ on := 0, ground := Go.Ground.data }], guard := none } : Oper)) rfl (fun K hK => ?_) AllReadyH.nil
      go_simp
      go_at_call 42; refine (HSB.out _ (by go_split_ands; assumption)).mono ?_; rintro e w8 ⟨rfl, hb8⟩; have hZ := bel_step (w0 := w3) (by go_split_ands; assumption) hb8
      try go_wp2_with fail
      refine hK.out _ _ ?_ (fun hNew => ?_)
      · (try dsimp only); (first | exact HSS.out _ (bel_drew _) | exact HSS.out _ (bel_alloc (by go_split_ands; assumption) _) | exact HSS.out _ hZ | exact hHeld)
      clear hHeld hK K
      have hHeld := hNew
      clear hNew
      try simp only [Act.put, List.setIfInBounds_toArray, List.set_cons_zero, List.set_cons_succ]
      refine wpAnyH_ready (rs := [4]) (by kernel_rfl) (by simp) ?_
      refine AllReadyH.cons (o := ({ dst := some 27, op := Go.Op.call { callee := Go.Callee.value (Go.Operand.func 33), args := #[Go.Operand.tmp 26], argTypes := #[45] }, type := 3, pos := "law.go:107", after := #[{ on := 3, ground := Go.Ground.data }, { on := 1, ground := Go.Ground.chain }], guard := none } : Oper)) rfl (fun K hK => ?_) AllReadyH.nil
      go_simp
      go_at_call 33; refine (HS1.out _ _ (HRT.out _ _ (by go_split_ands; assumption) (by refine ⟨?_, ?_, ?_, ?_⟩ <;> first | (go_simp; done) | (rw [hb8.cell (by simp)]; go_simp; done)))).mono ?_; rintro e w8 ⟨rfl, hb8⟩; have hZ := bel_step (w0 := w3) (by go_split_ands; assumption) hb8
      try go_wp2_with fail
      refine hK.out _ _ ?_ (fun hNew => ?_)
      · (try dsimp only); (first | exact HSS.out _ (bel_drew _) | exact HSS.out _ (bel_alloc (by go_split_ands; assumption) _) | exact HSS.out _ hZ | exact hHeld)
      clear hHeld hK K
      have hHeld := hNew
      clear hNew
      try simp only [Act.put, List.setIfInBounds_toArray, List.set_cons_zero, List.set_cons_succ]
      refine wpAnyH_take (i := 5) (oi := ({ dst := some 28, op := Go.Op.binOp Go.BinOp.eql 3 (Go.Operand.tmp 24) (Go.Operand.tmp 27) 3, type := 4, pos := "law.go:107", after := #[{ on := 1, ground := Go.Ground.data }, { on := 4, ground := Go.Ground.data }], guard := none } : Oper)) (v := ?_) rfl (by kernel_rfl) (by kernel_rfl) (by kernel_rfl) (fun _ _ _ h => h) (Or.inl ⟨by rfl, ?_⟩) (by assumption) ?_
      rotate_left
      · intro w hSw; (try dsimp only at hSw); go_simp; try with_reducible rfl
      try simp only [Act.put, List.setIfInBounds_toArray, List.set_cons_zero, List.set_cons_succ]
      refine wpAnyH_take (i := 6) (oi := ({ dst := some 29, op := Go.Op.move (Go.Operand.tmp 28), type := 4, pos := "law.go:107", after := #[{ on := 5, ground := Go.Ground.data }, { on := 4, ground := Go.Ground.chain }], guard := none } : Oper)) (v := ?_) rfl (by kernel_rfl) (by kernel_rfl) (by kernel_rfl) (fun _ _ _ h => h) (Or.inl ⟨by rfl, ?_⟩) (by assumption) ?_
      rotate_left
      · intro w hSw; (try dsimp only at hSw); go_simp; try with_reducible rfl
      try simp only [Act.put, List.setIfInBounds_toArray, List.set_cons_zero, List.set_cons_succ]
      refine wpAnyH_take (i := 7) (oi := ({ dst := some 30, op := Go.Op.fieldAddr 60 (Go.Operand.tmp 7) 0, type := 0, pos := "law.go:107", after := #[{ on := 6, ground := Go.Ground.guard }], guard := some (6, true) } : Oper)) (v := ?_) rfl (by kernel_rfl) (by kernel_rfl) (by kernel_rfl) (fun _ _ _ h => h) (Or.inl ⟨by rfl, ?_⟩) (by assumption) ?_
      rotate_left
      · intro w hSw; (try dsimp only at hSw); go_simp; try with_reducible rfl
      try simp only [Act.put, List.setIfInBounds_toArray, List.set_cons_zero, List.set_cons_succ]
      refine wpAnyH_take (i := 8) (oi := ({ dst := some 31, op := Go.Op.load 5 (Go.Operand.tmp 30), type := 5, pos := "law.go:107", after := #[{ on := 7, ground := Go.Ground.data }, { on := 6, ground := Go.Ground.guard }], guard := some (6, true) } : Oper)) (v := ?_) rfl (by kernel_rfl) (by kernel_rfl) (by kernel_rfl) (fun _ _ _ h => h) (Or.inl ⟨by rfl, ?_⟩) (by assumption) ?_
      rotate_left
      · intro w hSw; (try dsimp only at hSw); go_simp; try with_reducible rfl
      try simp only [Act.put, List.setIfInBounds_toArray, List.set_cons_zero, List.set_cons_succ]
      refine wpAnyH_take (i := 9) (oi := ({ dst := some 32, op := Go.Op.fieldAddr 47 (Go.Operand.tmp 3) 0, type := 0, pos := "law.go:107", after := #[{ on := 6, ground := Go.Ground.guard }], guard := some (6, true) } : Oper)) (v := ?_) rfl (by kernel_rfl) (by kernel_rfl) (by kernel_rfl) (fun _ _ _ h => h) (Or.inl ⟨by rfl, ?_⟩) (by assumption) ?_
      rotate_left
      · intro w hSw; (try dsimp only at hSw); go_simp; try with_reducible rfl
      try simp only [Act.put, List.setIfInBounds_toArray, List.set_cons_zero, List.set_cons_succ]
      refine wpAnyH_take (i := 10) (oi := ({ dst := some 33, op := Go.Op.load 5 (Go.Operand.tmp 32), type := 5, pos := "law.go:107", after := #[{ on := 9, ground := Go.Ground.data }, { on := 6, ground := Go.Ground.guard }], guard := some (6, true) } : Oper)) (v := ?_) rfl (by kernel_rfl) (by kernel_rfl) (by kernel_rfl) (fun _ _ _ h => h) (Or.inl ⟨by rfl, ?_⟩) (by assumption) ?_
      rotate_left
      · intro w hSw; (try dsimp only at hSw); go_simp; try with_reducible rfl
      try simp only [Act.put, List.setIfInBounds_toArray, List.set_cons_zero, List.set_cons_succ]
      refine wpAnyH_take (i := 11) (oi := ({ dst := some 34, op := Go.Op.binOp Go.BinOp.eql 5 (Go.Operand.tmp 31) (Go.Operand.tmp 33) 5, type := 4, pos := "law.go:107", after := #[{ on := 8, ground := Go.Ground.data }, { on := 10, ground := Go.Ground.data }, { on := 6, ground := Go.Ground.guard }], guard := some (6, true) } : Oper)) (v := ?_) rfl (by kernel_rfl) (by kernel_rfl) (by kernel_rfl) (fun _ _ _ h => h) (Or.inl ⟨by rfl, ?_⟩) (by assumption) ?_
      rotate_left
      · intro w hSw; (try dsimp only at hSw); go_simp; try with_reducible rfl
      try simp only [Act.put, List.setIfInBounds_toArray, List.set_cons_zero, List.set_cons_succ]
      refine wpAnyH_take (i := 12) (oi := ({ dst := some 35, op := Go.Op.pick (Go.Operand.tmp 29) (Go.Operand.tmp 34) (Go.Operand.const (Go.Value.bool false)), type := 4, pos := "law.go:107", after := #[{ on := 6, ground := Go.Ground.data }, { on := 11, ground := Go.Ground.data }], guard := none } : Oper)) (v := ?_) rfl (by kernel_rfl) (by kernel_rfl) (by kernel_rfl) (fun _ _ _ h => h) (Or.inl ⟨by rfl, ?_⟩) (by assumption) ?_
      rotate_left
      · intro w hSw; (try dsimp only at hSw); go_simp; try with_reducible rfl
      try simp only [Act.put, List.setIfInBounds_toArray, List.set_cons_zero, List.set_cons_succ]
      refine wpAnyH_take (i := 13) (oi := ({ dst := some 36, op := Go.Op.move (Go.Operand.tmp 35), type := 4, pos := "law.go:107", after := #[{ on := 12, ground := Go.Ground.data }, { on := 6, ground := Go.Ground.chain }], guard := none } : Oper)) (v := ?_) rfl (by kernel_rfl) (by kernel_rfl) (by kernel_rfl) (fun _ _ _ h => h) (Or.inl ⟨by rfl, ?_⟩) (by assumption) ?_
      rotate_left
      · intro w hSw; (try dsimp only at hSw); go_simp; try with_reducible rfl
      try simp only [Act.put, List.setIfInBounds_toArray, List.set_cons_zero, List.set_cons_succ]
      refine wpAnyH_take (i := 14) (oi := ({ dst := some 37, op := Go.Op.load 47 (Go.Operand.tmp 3), type := 47, pos := "law.go:107", after := #[{ on := 13, ground := Go.Ground.guard }], guard := some (13, true) } : Oper)) (v := ?_) rfl (by kernel_rfl) (by kernel_rfl) (by kernel_rfl) (fun _ _ _ h => h) (Or.inl ⟨by rfl, ?_⟩) (by assumption) ?_
      rotate_left
      · intro w hSw; (try dsimp only at hSw); go_simp; try with_reducible rfl
      try simp only [Act.put, List.setIfInBounds_toArray, List.set_cons_zero, List.set_cons_succ]
      refine wpAnyH_ready (rs := [15]) (by kernel_rfl) (by simp) ?_
      refine AllReadyH.cons (o := ({ dst := some 38, op := Go.Op.buildSlice 45 1 #[(0, Go.Operand.tmp 37)], type := 45, pos := "law.go:107", after := #[{ on := 14, ground := Go.Ground.data }, { on := 13, ground := Go.Ground.guard }], guard := some (13, true) } : Oper)) rfl (fun K hK => ?_) AllReadyH.nil
      go_simp
      refine hK.out _ _ ?_ (fun hNew => ?_)
      · (try dsimp only); (first | exact HSS.out _ (bel_drew _) | exact HSS.out _ (bel_alloc (by go_split_ands; assumption) _) | exact HSS.out _ hZ | exact hHeld)
      clear hHeld hK K
      have hHeld := hNew
      clear hNew
      try simp only [Act.put, List.setIfInBounds_toArray, List.set_cons_zero, List.set_cons_succ]
      refine wpAnyH_ready (rs := [16]) (by kernel_rfl) (by simp) ?_
      refine AllReadyH.cons (o := ({ dst := some 39, op := Go.Op.call { callee := Go.Callee.value (Go.Operand.func 32), args := #[Go.Operand.tmp 38], argTypes := #[45] }, type := 4, pos := "law.go:107", after := #[{ on := 15, ground := Go.Ground.data }, { on := 13, ground := Go.Ground.chain }, { on := 13, ground := Go.Ground.guard }], guard := some (13, true) } : Oper)) rfl (fun K hK => ?_) AllReadyH.nil
      go_simp
      go_at_call 32; refine (HMK.out _ _ (HRT.out _ _ (by go_split_ands; assumption) (by refine ⟨?_, ?_, ?_, ?_⟩ <;> first | (go_simp; done) | (rw [hb8.cell (by simp)]; go_simp; done)))).mono ?_; rintro e w8 ⟨rfl, hb8⟩; have hZ := bel_step (w0 := w3) (by go_split_ands; assumption) hb8
      try go_wp2_with fail
      refine hK.out _ _ ?_ (fun hNew => ?_)
      · (try dsimp only); (first | exact HSS.out _ (bel_drew _) | exact HSS.out _ (bel_alloc (by go_split_ands; assumption) _) | exact HSS.out _ hZ | exact hHeld)
      clear hHeld hK K
      have hHeld := hNew
      clear hNew
      try simp only [Act.put, List.setIfInBounds_toArray, List.set_cons_zero, List.set_cons_succ]
      refine wpAnyH_take (i := 17) (oi := ({ dst := some 40, op := Go.Op.unOp Go.UnOp.not 4 (Go.Operand.tmp 39), type := 4, pos := "law.go:107", after := #[{ on := 16, ground := Go.Ground.data }, { on := 13, ground := Go.Ground.guard }], guard := some (13, true) } : Oper)) (v := ?_) rfl (by kernel_rfl) (by kernel_rfl) (by kernel_rfl) (fun _ _ _ h => h) (Or.inl ⟨by rfl, ?_⟩) (by assumption) ?_
      rotate_left
      · intro w hSw; (try dsimp only at hSw); go_simp; try with_reducible rfl
      try simp only [Act.put, List.setIfInBounds_toArray, List.set_cons_zero, List.set_cons_succ]
      refine wpAnyH_take (i := 18) (oi := ({ dst := some 41, op := Go.Op.move (Go.Operand.tmp 40), type := 4, pos := "law.go:107", after := #[{ on := 17, ground := Go.Ground.data }, { on := 16, ground := Go.Ground.chain }, { on := 13, ground := Go.Ground.guard }], guard := some (13, true) } : Oper)) (v := ?_) rfl (by kernel_rfl) (by kernel_rfl) (by kernel_rfl) (fun _ _ _ h => h) (Or.inl ⟨by rfl, ?_⟩) (by assumption) ?_
      rotate_left
      · intro w hSw; (try dsimp only at hSw); go_simp; try with_reducible rfl
      try simp only [Act.put, List.setIfInBounds_toArray, List.set_cons_zero, List.set_cons_succ]
      refine wpAnyH_ready (rs := [19]) (by kernel_rfl) (by simp) ?_
      refine AllReadyH.cons (o := ({ dst := some 42, op := Go.Op.load 60 (Go.Operand.tmp 7), type := 60, pos := "law.go:107", after := #[{ on := 18, ground := Go.Ground.guard }], guard := some (18, false) } : Oper)) rfl (fun K hK => ?_) AllReadyH.nil
      go_simp
      refine hK.out _ _ ?_ (fun hNew => ?_)
      · (try dsimp only); (first | exact HSS.out _ (bel_drew _) | exact HSS.out _ (bel_alloc (by go_split_ands; assumption) _) | exact HSS.out _ hZ | exact hHeld)
      clear hHeld hK K
      have hHeld := hNew
      clear hNew
      try simp only [Act.put, List.setIfInBounds_toArray, List.set_cons_zero, List.set_cons_succ]
      refine wpAnyH_ready (rs := [20]) (by kernel_rfl) (by simp) ?_
      refine AllReadyH.cons (o := ({ dst := some 43, op := Go.Op.call { callee := Go.Callee.value (Go.Operand.func 43), args := #[Go.Operand.tmp 42], argTypes := #[60] }, type := 4, pos := "law.go:107", after := #[{ on := 19, ground := Go.Ground.data }, { on := 18, ground := Go.Ground.chain }, { on := 18, ground := Go.Ground.guard }], guard := some (18, false) } : Oper)) rfl (fun K hK => ?_) AllReadyH.nil
      go_simp
      refine hK.out _ _ ?_ (fun hNew => ?_)
      · (try dsimp only); (first | exact HSS.out _ (bel_drew _) | exact HSS.out _ (bel_alloc (by go_split_ands; assumption) _) | exact HSS.out _ hZ | exact hHeld)
      clear hHeld hK K
      have hHeld := hNew
      clear hNew
      try simp only [Act.put, List.setIfInBounds_toArray, List.set_cons_zero, List.set_cons_succ]
      refine wpAnyH_take (i := 21) (oi := ({ dst := some 44, op := Go.Op.pick (Go.Operand.tmp 41) (Go.Operand.const (Go.Value.bool true)) (Go.Operand.tmp 43), type := 4, pos := "law.go:107", after := #[{ on := 18, ground := Go.Ground.data }, { on := 20, ground := Go.Ground.data }, { on := 13, ground := Go.Ground.guard }], guard := some (13, true) } : Oper)) (v := ?_) rfl (by kernel_rfl) (by kernel_rfl) (by kernel_rfl) (fun _ _ _ h => h) (Or.inl ⟨by rfl, ?_⟩) (by assumption) ?_
      rotate_left
      · intro w hSw; (try dsimp only at hSw); go_simp; try with_reducible rfl
      try simp only [Act.put, List.setIfInBounds_toArray, List.set_cons_zero, List.set_cons_succ]
      refine wpAnyH_take (i := 22) (oi := ({ dst := some 45, op := Go.Op.pick (Go.Operand.tmp 36) (Go.Operand.tmp 44) (Go.Operand.const (Go.Value.bool false)), type := 4, pos := "law.go:107", after := #[{ on := 13, ground := Go.Ground.data }, { on := 21, ground := Go.Ground.data }], guard := none } : Oper)) (v := ?_) rfl (by kernel_rfl) (by kernel_rfl) (by kernel_rfl) (fun _ _ _ h => h) (Or.inl ⟨by rfl, ?_⟩) (by assumption) ?_
      rotate_left
      · intro w hSw; (try dsimp only at hSw); go_simp; try with_reducible rfl
      try simp only [Act.put, List.setIfInBounds_toArray, List.set_cons_zero, List.set_cons_succ]
      refine wpAnyH_take (i := 23) (oi := ({ dst := some 46, op := Go.Op.move (Go.Operand.tmp 45), type := 4, pos := "law.go:107", after := #[{ on := 22, ground := Go.Ground.data }, { on := 20, ground := Go.Ground.chain }], guard := none } : Oper)) (v := ?_) rfl (by kernel_rfl) (by kernel_rfl) (by kernel_rfl) (fun _ _ _ h => h) (Or.inl ⟨by rfl, ?_⟩) (by assumption) ?_
      rotate_left
      · intro w hSw; (try dsimp only at hSw); go_simp; try with_reducible rfl
      try simp only [Act.put, List.setIfInBounds_toArray, List.set_cons_zero, List.set_cons_succ]
      refine wpAnyH_take (i := 24) (oi := ({ dst := some 47, op := Go.Op.load 47 (Go.Operand.tmp 3), type := 47, pos := "law.go:107", after := #[{ on := 23, ground := Go.Ground.guard }], guard := some (23, true) } : Oper)) (v := ?_) rfl (by kernel_rfl) (by kernel_rfl) (by kernel_rfl) (fun _ _ _ h => h) (Or.inl ⟨by rfl, ?_⟩) (by assumption) ?_
      rotate_left
      · intro w hSw; (try dsimp only at hSw); go_simp; try with_reducible rfl
      try simp only [Act.put, List.setIfInBounds_toArray, List.set_cons_zero, List.set_cons_succ]
      refine wpAnyH_take (i := 25) (oi := ({ dst := some 48, op := Go.Op.move (Go.Operand.tmp 1), type := 30, pos := "law.go:107", after := #[{ on := 23, ground := Go.Ground.guard }], guard := some (23, true) } : Oper)) (v := ?_) rfl (by kernel_rfl) (by kernel_rfl) (by kernel_rfl) (fun _ _ _ h => h) (Or.inl ⟨by rfl, ?_⟩) (by assumption) ?_
      rotate_left
      · intro w hSw; (try dsimp only at hSw); go_simp; try with_reducible rfl
      try simp only [Act.put, List.setIfInBounds_toArray, List.set_cons_zero, List.set_cons_succ]
      refine wpAnyH_take (i := 26) (oi := ({ dst := some 49, op := Go.Op.move (Go.Operand.tmp 2), type := 30, pos := "law.go:107", after := #[{ on := 23, ground := Go.Ground.guard }], guard := some (23, true) } : Oper)) (v := ?_) rfl (by kernel_rfl) (by kernel_rfl) (by kernel_rfl) (fun _ _ _ h => h) (Or.inl ⟨by rfl, ?_⟩) (by assumption) ?_
      rotate_left
      · intro w hSw; (try dsimp only at hSw); go_simp; try with_reducible rfl
      try simp only [Act.put, List.setIfInBounds_toArray, List.set_cons_zero, List.set_cons_succ]
      refine wpAnyH_take (i := 29) (oi := ({ dst := some 52, op := Go.Op.load 60 (Go.Operand.tmp 7), type := 60, pos := "law.go:107", after := #[{ on := 23, ground := Go.Ground.guard }], guard := some (23, true) } : Oper)) (v := ?_) rfl (by kernel_rfl) (by kernel_rfl) (by kernel_rfl) (fun _ _ _ h => h) (Or.inl ⟨by rfl, ?_⟩) (by assumption) ?_
      rotate_left
      · intro w hSw; (try dsimp only at hSw); go_simp; try with_reducible rfl
      try simp only [Act.put, List.setIfInBounds_toArray, List.set_cons_zero, List.set_cons_succ]
      refine wpAnyH_ready (rs := [27]) (by kernel_rfl) (by simp) ?_
      refine AllReadyH.cons (o := ({ dst := some 50, op := Go.Op.call { callee := Go.Callee.value (Go.Operand.func 44), args := #[Go.Operand.tmp 47, Go.Operand.tmp 48, Go.Operand.tmp 49], argTypes := #[47, 30, 30] }, type := 47, pos := "law.go:107", after := #[{ on := 24, ground := Go.Ground.data }, { on := 25, ground := Go.Ground.data }, { on := 26, ground := Go.Ground.data }, { on := 23, ground := Go.Ground.chain }, { on := 23, ground := Go.Ground.guard }], guard := some (23, true) } : Oper)) rfl (fun K hK => ?_) AllReadyH.nil
      go_simp
      go_at_call 44; refine Calls.mono (HSP.out _ (by go_split_ands; assumption)) ?_; rintro e w8 ⟨⟨y2, rfl, hl2, hs2, he2⟩, hb8⟩; have hZ := bel_step (w0 := w3) (by go_split_ands; assumption) hb8
      try go_wp2_with fail
      refine hK.out _ _ ?_ (fun hNew => ?_)
      · (try dsimp only); (first | exact HSS.out _ (bel_drew _) | exact HSS.out _ (bel_alloc (by go_split_ands; assumption) _) | exact HSS.out _ hZ | exact hHeld)
      clear hHeld hK K
      have hHeld := hNew
      clear hNew
      try simp only [Act.put, List.setIfInBounds_toArray, List.set_cons_zero, List.set_cons_succ]
      refine wpAnyH_ready (rs := [28]) (by kernel_rfl) (by simp) ?_
      refine AllReadyH.cons (o := ({ dst := some 51, op := Go.Op.call { callee := Go.Callee.value (Go.Operand.func 37), args := #[Go.Operand.tmp 50], argTypes := #[47] }, type := 60, pos := "law.go:107", after := #[{ on := 27, ground := Go.Ground.data }, { on := 27, ground := Go.Ground.chain }, { on := 23, ground := Go.Ground.guard }], guard := some (23, true) } : Oper)) rfl (fun K hK => ?_) AllReadyH.nil
      go_simp
      go_at_call 37; refine Calls.mono (bareAt_any y2 _ hl2 (HSZ2.out _ he2)) ?_; rintro e w8 ⟨⟨y3, rfl, hl3, hs3, he3⟩, hb9⟩; have hZ := bel_step (w0 := w3) (by go_split_ands; assumption) hb9
      try go_wp2_with fail
      refine hK.out _ _ ?_ (fun hNew => ?_)
      · (try dsimp only); (first | exact HSS.out _ (bel_drew _) | exact HSS.out _ (bel_alloc (by go_split_ands; assumption) _) | exact HSS.out _ hZ | exact hHeld)
      clear hHeld hK K
      have hHeld := hNew
      clear hNew
      try simp only [Act.put, List.setIfInBounds_toArray, List.set_cons_zero, List.set_cons_succ]
      refine wpAnyH_ready (rs := [30]) (by kernel_rfl) (by simp) ?_
      refine AllReadyH.cons (o := ({ dst := some 53, op := Go.Op.call { callee := Go.Callee.value (Go.Operand.func 36), args := #[Go.Operand.tmp 51, Go.Operand.tmp 52], argTypes := #[60, 60] }, type := 4, pos := "law.go:107", after := #[{ on := 28, ground := Go.Ground.data }, { on := 29, ground := Go.Ground.data }, { on := 28, ground := Go.Ground.chain }, { on := 23, ground := Go.Ground.guard }], guard := some (23, true) } : Oper)) rfl (fun K hK => ?_) AllReadyH.nil
      go_simp
      go_at_call 36; refine Calls.mono (HSM8.out y2 y3 _ (by go_split_ands; assumption) hl3 he2 he3) ?_; rintro e w8 ⟨rfl, hb8⟩; have hZ := bel_step (w0 := w3) (by go_split_ands; assumption) hb8
      try go_wp2_with fail
      refine hK.out _ _ ?_ (fun hNew => ?_)
      · (try dsimp only); (first | exact HSS.out _ (bel_drew _) | exact HSS.out _ (bel_alloc (by go_split_ands; assumption) _) | exact HSS.out _ hZ | exact hHeld)
      clear hHeld hK K
      have hHeld := hNew
      clear hNew
      try simp only [Act.put, List.setIfInBounds_toArray, List.set_cons_zero, List.set_cons_succ]
      refine wpAnyH_take (i := 31) (oi := ({ dst := some 54, op := Go.Op.pick (Go.Operand.tmp 46) (Go.Operand.tmp 53) (Go.Operand.const (Go.Value.bool false)), type := 4, pos := "law.go:107", after := #[{ on := 23, ground := Go.Ground.data }, { on := 30, ground := Go.Ground.data }], guard := none } : Oper)) (v := ?_) rfl (by kernel_rfl) (by kernel_rfl) (by kernel_rfl) (fun _ _ _ h => h) (Or.inl ⟨by rfl, ?_⟩) (by assumption) ?_
      rotate_left
      · intro w hSw; (try dsimp only at hSw); go_simp; try with_reducible rfl
      try simp only [Act.put, List.setIfInBounds_toArray, List.set_cons_zero, List.set_cons_succ]
      refine wpAnyH_take (i := 32) (oi := ({ dst := some 55, op := Go.Op.move (Go.Operand.tmp 54), type := 4, pos := "law.go:107", after := #[{ on := 31, ground := Go.Ground.data }, { on := 30, ground := Go.Ground.chain }], guard := none } : Oper)) (v := ?_) rfl (by kernel_rfl) (by kernel_rfl) (by kernel_rfl) (fun _ _ _ h => h) (Or.inl ⟨by rfl, ?_⟩) (by assumption) ?_
      rotate_left
      · intro w hSw; (try dsimp only at hSw); go_simp; try with_reducible rfl
      try simp only [Act.put, List.setIfInBounds_toArray, List.set_cons_zero, List.set_cons_succ]
      refine wpAnyH_ready (rs := [33]) (by kernel_rfl) (by simp) ?_
      refine AllReadyH.cons (o := ({ dst := some 56, op := Go.Op.call { callee := Go.Callee.value (Go.Operand.func 29), args := #[], argTypes := #[] }, type := 4, pos := "law.go:107", after := #[{ on := 32, ground := Go.Ground.chain }, { on := 32, ground := Go.Ground.guard }], guard := some (32, true) } : Oper)) rfl (fun K hK => ?_) AllReadyH.nil
      go_simp
      go_at_call 29; refine (awake12_any (HTAB.out.below (HBZ.out _ (by go_split_ands; assumption)))).mono ?_; rintro e w8 ⟨rfl, hb8⟩; have hZ := bel_step (w0 := w3) (by go_split_ands; assumption) hb8
      try go_wp2_with fail
      refine hK.out _ _ ?_ (fun hNew => ?_)
      · (try dsimp only); (first | exact HSS.out _ (bel_drew _) | exact HSS.out _ (bel_alloc (by go_split_ands; assumption) _) | exact HSS.out _ hZ | exact hHeld)
      clear hHeld hK K
      have hHeld := hNew
      clear hNew
      try simp only [Act.put, List.setIfInBounds_toArray, List.set_cons_zero, List.set_cons_succ]
      refine wpAnyH_take (i := 34) (oi := ({ dst := some 57, op := Go.Op.pick (Go.Operand.tmp 55) (Go.Operand.tmp 56) (Go.Operand.const (Go.Value.bool false)), type := 4, pos := "law.go:107", after := #[{ on := 32, ground := Go.Ground.data }, { on := 33, ground := Go.Ground.data }], guard := none } : Oper)) (v := ?_) rfl (by kernel_rfl) (by kernel_rfl) (by kernel_rfl) (fun _ _ _ h => h) (Or.inl ⟨by rfl, ?_⟩) (by assumption) ?_
      rotate_left
      · intro w hSw; (try dsimp only at hSw); go_simp; try with_reducible rfl
      try simp only [Act.put, List.setIfInBounds_toArray, List.set_cons_zero, List.set_cons_succ]
      refine wpAnyH_take (i := 35) (oi := ({ dst := some 6, op := Go.Op.assign (Go.Operand.tmp 57), type := 4, pos := "law.go:107", after := #[{ on := 34, ground := Go.Ground.data }, { on := 33, ground := Go.Ground.chain }, { on := 0, ground := Go.Ground.phase }, { on := 1, ground := Go.Ground.phase }, { on := 2, ground := Go.Ground.phase }, { on := 3, ground := Go.Ground.phase }, { on := 4, ground := Go.Ground.phase }, { on := 5, ground := Go.Ground.phase }, { on := 6, ground := Go.Ground.phase }, { on := 7, ground := Go.Ground.phase }, { on := 8, ground := Go.Ground.phase }, { on := 9, ground := Go.Ground.phase }, { on := 10, ground := Go.Ground.phase }, { on := 11, ground := Go.Ground.phase }, { on := 12, ground := Go.Ground.phase }, { on := 13, ground := Go.Ground.phase }, { on := 14, ground := Go.Ground.phase }, { on := 15, ground := Go.Ground.phase }, { on := 16, ground := Go.Ground.phase }, { on := 17, ground := Go.Ground.phase }, { on := 18, ground := Go.Ground.phase }, { on := 19, ground := Go.Ground.phase }, { on := 20, ground := Go.Ground.phase }, { on := 21, ground := Go.Ground.phase }, { on := 22, ground := Go.Ground.phase }, { on := 23, ground := Go.Ground.phase }, { on := 24, ground := Go.Ground.phase }, { on := 25, ground := Go.Ground.phase }, { on := 26, ground := Go.Ground.phase }, { on := 27, ground := Go.Ground.phase }, { on := 28, ground := Go.Ground.phase }, { on := 29, ground := Go.Ground.phase }, { on := 30, ground := Go.Ground.phase }, { on := 31, ground := Go.Ground.phase }, { on := 32, ground := Go.Ground.phase }, { on := 33, ground := Go.Ground.phase }, { on := 34, ground := Go.Ground.phase }], guard := none } : Oper)) (v := ?_) rfl (by kernel_rfl) (by kernel_rfl) (by kernel_rfl) (fun _ _ _ h => h) (Or.inl ⟨by rfl, ?_⟩) (by assumption) ?_
      rotate_left
      · intro w hSw; (try dsimp only at hSw); go_simp; try with_reducible rfl
      try simp only [Act.put, List.setIfInBounds_toArray, List.set_cons_zero, List.set_cons_succ]
      refine wpAnyH_done (by kernel_rfl) ?_ _
      refine NoPanic.normal ?_
      have HB8 := Lib.hid (HBZ.out _ hZ)
      clear hZ
      go_wp2_with fail
      go_ret
      exact ⟨rfl, HB8.out⟩
    · have HM := Lib.hid hm
      clear hm
      have HMK : Hid (∀ W g, RowT W (some ⟨g, 0, none⟩) 1 1 [t] → Calls Tryz.prog 32 #[.slice (some ⟨g, 0, none⟩) 1 1] W fun e w' => e = .returned (.bool true) ∧ Below W.heap.size W w') := fun W g h => by
        have := rtype_May_any h
        simp only [List.all_cons, List.all_nil, Bool.and_true] at this
        rw [HM.out] at this
        exact this
      go_region_held3 (fun W => W.cell? ⟨w.heap.size, 0, none⟩ = some (.int .u8 t.head.kind) ∧ W.cell? ⟨w.heap.size, 1, none⟩ = some (.int .i64 t.head.rho) ∧ W.cell? ⟨w.heap.size, 2, none⟩ = some (.slice t.head.ep t.head.en t.head.ec) ∧ W.cell? ⟨w.heap.size, 3, none⟩ = some (.slice t.head.kp t.head.kn t.head.kc) ∧
          W.cell? ⟨w2.heap.size, 0, none⟩ = some (.int .u8 t.head.kind) ∧ W.cell? ⟨w2.heap.size, 1, none⟩ = some (.int .i64 y.head.var) ∧ W.cell? ⟨w2.heap.size, 2, none⟩ = some (.slice y.head.kp y.head.kn y.head.kc) ∧ Below w3.heap.size w3 W)
        (first
          | exact HSS.out _ (bel_drew _)
          | exact HSS.out _ (bel_alloc (by go_split_ands; assumption) _)
          | exact HSS.out _ hZ)
        (first
          | (go_at_call 42; refine (HSB.out _ (by go_split_ands; assumption)).mono ?_; rintro e w8 ⟨rfl, hb8⟩; have hZ := bel_step (w0 := w3) (by go_split_ands; assumption) hb8)
          | (go_at_call 33; refine (HS1.out _ _ (HRT.out _ _ (by go_split_ands; assumption) (by refine ⟨?_, ?_, ?_, ?_⟩ <;> first | (go_simp; done) | (rw [hb8.cell (by simp)]; go_simp; done)))).mono ?_; rintro e w8 ⟨rfl, hb8⟩; have hZ := bel_step (w0 := w3) (by go_split_ands; assumption) hb8)
          | (go_at_call 32; refine (HMK.out _ _ (HRT.out _ _ (by go_split_ands; assumption) (by refine ⟨?_, ?_, ?_, ?_⟩ <;> first | (go_simp; done) | (rw [hb8.cell (by simp)]; go_simp; done)))).mono ?_; rintro e w8 ⟨rfl, hb8⟩; have hZ := bel_step (w0 := w3) (by go_split_ands; assumption) hb8)
          | (go_at_call 43; refine (HMB.out HM.out _ (by go_split_ands; assumption)).mono ?_; rintro e w8 ⟨rfl, hb8⟩; have hZ := bel_step (w0 := w3) (by go_split_ands; assumption) hb8)
          | (go_at_call 44; refine Calls.mono (HSP.out _ (by go_split_ands; assumption)) ?_; rintro e w8 ⟨⟨y2, rfl, hl2, hs2, he2⟩, hb8⟩; have hZ := bel_step (w0 := w3) (by go_split_ands; assumption) hb8)
          | (go_at_call 37; refine Calls.mono (bareAt_any y2 _ hl2 (HSZ2.out _ he2)) ?_; rintro e w8 ⟨⟨y3, rfl, hl3, hs3, he3⟩, hb9⟩; have hZ := bel_step (w0 := w3) (by go_split_ands; assumption) hb9)
          | (go_at_call 36; refine Calls.mono (HSM8.out y2 y3 _ (by go_split_ands; assumption) hl3 he2 he3) ?_; rintro e w8 ⟨rfl, hb8⟩; have hZ := bel_step (w0 := w3) (by go_split_ands; assumption) hb8)
          | (go_at_call 29; refine (awake12_any (HTAB.out.below (HBZ.out _ (by go_split_ands; assumption)))).mono ?_; rintro e w8 ⟨rfl, hb8⟩; have hZ := bel_step (w0 := w3) (by go_split_ands; assumption) hb8))
      all_goals (
        rename_i hH
        clear hH
        have HB8 := Lib.hid (HBZ.out _ hZ)
        clear hZ
        go_wp2_with fail
        go_ret
        exact ⟨rfl, HB8.out⟩)
  · clear HG
    go_wp2_with fail
    refine (awake12_any (HTAB.out.below HB1.out)).mono ?_
    rintro e w9 ⟨rfl, hb⟩
    have HB9 := Lib.hid (HB1.out.trans (hb.mono HB1.out.size))
    clear hb
    go_wp2_with fail
    go_ret
    exact ⟨rfl, HB9.out⟩

open Go.ChangeShapes Go.WideShapes Go.ChangeAt Go.Deep in
theorem open_rowI {H : Type} {enc : TypeId × Value → H} {W : World} {base : Nat} {t : TypeId} {v : Value} {d : DataW H} {ps : List MemPlace} (ht : Tryz.prog.underlying t = some (.slice 3)) (hv : Value.okWide Tryz.prog W .any base t v) (h : DataW.Trod enc Tryz.prog W 0 (fun _ => true) true t v d ps) :
    ∃ p n cap, ∃ l : List Int, v = .slice p n cap ∧ (IsRow encN 1 W p n cap l ∧ ∀ z ∈ l, okI z) := open_row_of encN _ ht (by kernel_rfl) (by omega) encN_len hv h elem_num
end
end Go.Proofs.YtekhblomdlehhaaGreatDoor
