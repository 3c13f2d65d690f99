/- The walk of RtypeParts. -/
import Derived.Test.YtekhblomdlehhaaGreatDoorRtA
set_option linter.unusedVariables false
set_option maxRecDepth 100000
set_option linter.unusedSimpArgs false
namespace Go.Proofs.YtekhblomdlehhaaGreatDoor
open Go.RowKit Go.Sort Go.Lib

theorem ref_May12_is {t : PT} {w : World} {r : Bool} (hr : mayT t.er = r) (hl : LR.lies w t) : Calls Tryz.prog 28 #[aggR t.head] w fun e w' => e = .returned (.bool r) ∧ Below w.heap.size w w' := by
  subst hr; exact ref_May12_any t w hl
theorem boxT {w : World} {t : PT} : Below w.heap.size w (w.alloc (.cells #[.int .u8 t.head.kind, .int .i64 t.head.rho, .slice t.head.ep t.head.en t.head.ec, .slice t.head.kp t.head.kn t.head.kc] 47)) := (Below.refl w.heap.size w).alloc (Nat.le_refl _) _
/-- the box's cells, later -/
theorem boxT_cells {w w1 : World} {t : PT} (hb : Below (w.heap.size + 1) (w.alloc (.cells #[.int .u8 t.head.kind, .int .i64 t.head.rho, .slice t.head.ep t.head.en t.head.ec, .slice t.head.kp t.head.kn t.head.kc] 47)) w1) :
    w1.cell? ⟨w.heap.size, 0, none⟩ = some (.int .u8 t.head.kind) ∧ w1.cell? ⟨w.heap.size, 1, none⟩ = some (.int .i64 t.head.rho) ∧ w1.cell? ⟨w.heap.size, 2, none⟩ = some (.slice t.head.ep t.head.en t.head.ec) ∧ w1.cell? ⟨w.heap.size, 3, none⟩ = some (.slice t.head.kp t.head.kn t.head.kc) := by
  refine ⟨?_, ?_, ?_, ?_⟩ <;> (rw [hb.cell (by simp), cell_new]; rfl)

theorem eqInts_true {p : Option Addr} {n cap : Nat} {l : List Int} {q : Option Addr} {m mc : Nat} {w : World} (hr : IsRow encN 1 w p n cap l) (hr' : IsRow encN 1 w q m mc l) :
    Calls Tryz.prog 14 #[.slice p n cap, .slice q m mc] w fun e w' => e = .returned (.bool true) ∧ Below w.heap.size w w' := by
  refine (ref_EqualInts_any hr hr').mono ?_
  rintro e w' ⟨rfl, j, rfl⟩
  exact ⟨by rw [eqN_refl], below_drewN (Below.refl _ _) _⟩
set_option maxHeartbeats 4000000 in
theorem rtypeParts_walk {w : World} (hT : Tab w) (t : PT) (hl : LR.lies w t) :
    Calls Tryz.prog 5 #[aggR t.head] w fun e w' => e = .returned (.bool true) ∧ Below w.heap.size w w' := by
  have HTAB := Lib.hid hT
  have HBX := Lib.hid (boxT (w := w) (t := t))
  have HL := Lib.hid (fun W (h : Below w.heap.size w W) => LR.lies_below h t hl)
  have HSM := Lib.hid (fun h : SmallT t.er 100 => smallP hl h)
  have hkm : t.head.kn ≤ 9223372036854775807 := by obtain ⟨a, l⟩ := t; exact (nodeIn hl).own.kmax
  have HKS := Lib.hid (fun h : mayT t.er = true => show t.kids.all (fun x => mayT (PT.er x)) = true by obtain ⟨a, l⟩ := t; rw [mayT_er, Bool.and_eq_true] at h; exact h.2)
  have HN : Hid (∀ W, Below w.heap.size w W → NodeIn W t.head t.kids) := fun W h => nodeIn ((Rose.eta t) ▸ LR.lies_below h t hl)
  clear hT
  go_enter Tryz.func5, Tryz.ntmps5
  go_wp2_with fail
  refine (ref_Great12_any (HL.out _ HBX.out)).mono ?_
  rintro e w1 ⟨⟨r, rfl, hsm⟩, hb⟩
  have HB1 := Lib.hid (HBX.out.trans (hb.mono HBX.out.size))
  have HC1 := Lib.hid (show Below (w.heap.size + 1) (w.alloc (.cells #[.int .u8 t.head.kind, .int .i64 t.head.rho, .slice t.head.ep t.head.en t.head.ec, .slice t.head.kp t.head.kn t.head.kc] 47)) w1 by simpa using hb)
  have HG := Lib.hid hsm
  clear hb hsm
  cases r
  · have HP := Lib.hid (HSM.out (HG.out rfl))
    obtain ⟨d0, d1, d2, d3⟩ := boxT_cells HC1.out
    cases hm : mayT t.er
    · have HM := Lib.hid hm
      clear hm
      go_wp2_with fail
      refine (ref_May12_is HM.out (HL.out _ HB1.out)).mono ?_
      rintro e w2 ⟨rfl, hb⟩
      have HB2 := Lib.hid (HB1.out.trans (hb.mono HB1.out.size))
      clear hb d0 d1 d2 d3
      go_wp2_with fail
      refine (awake12_any (HTAB.out.below HB2.out)).mono ?_
      rintro e w3 ⟨rfl, hb⟩
      have HB3 := Lib.hid (HB2.out.trans (hb.mono HB2.out.size))
      clear hb
      go_wp2_with fail
      go_ret
      exact ⟨rfl, HB3.out⟩
    · have HM := Lib.hid hm
      have HKM := Lib.hid (HKS.out hm)
      clear hm
      go_wp2_with fail
      refine (ref_May12_is HM.out (HL.out _ HB1.out)).mono ?_
      rintro e w2 ⟨rfl, hb⟩
      have HB2 := Lib.hid (HB1.out.trans (hb.mono HB1.out.size))
      have HC2 := Lib.hid (HC1.out.trans (hb.mono (by have := HC1.out.size; simpa using this)))
      clear hb d0 d1 d2 d3
      obtain ⟨d0, d1, d2, d3⟩ := boxT_cells HC2.out
      go_wp2_with fail
      refine (rtype_Rhos_any (HN.out _ HB2.out).rowT (Nat.le_trans HP.out.gath (by omega)) HP.out.en).mono ?_
      rintro e w3 ⟨q, m, c, rfl, hm, hrow, hb⟩
      have HB3 := Lib.hid (HB2.out.trans (hb.mono HB2.out.size))
      have HC3 := Lib.hid (HC2.out.trans (hb.mono (by have := HC2.out.size; simpa using this)))
      have HR3 := Lib.hid hrow
      clear hb d0 d1 d2 d3 hrow
      obtain ⟨d0, d1, d2, d3⟩ := boxT_cells HC3.out
      by_cases h1 : t.head.kind = 1
      · have hb1 : (t.head.kind != 1) = false := by simp [h1]
        have HEQ := Lib.hid (parts_eq1 t h1)
        clear h1
        go_wp2_with fail
        rw [HEQ.out] at HR3
        clear d0 d1 d2 d3
        have HSS : Hid (∀ W, Below w3.heap.size w3 W → W.cell? ⟨w.heap.size, 0, none⟩ = some (.int .u8 t.head.kind) ∧ W.cell? ⟨w.heap.size, 1, none⟩ = some (.int .i64 t.head.rho) ∧ W.cell? ⟨w.heap.size, 2, none⟩ = some (.slice t.head.ep t.head.en t.head.ec) ∧ W.cell? ⟨w.heap.size, 3, none⟩ = some (.slice t.head.kp t.head.kn t.head.kc) ∧ Below w3.heap.size w3 W) := fun W h => by
          obtain ⟨a0, a1, a2, a3⟩ := boxT_cells (HC3.out.trans (h.mono (by have := HC3.out.size; simpa using this)))
          exact ⟨a0, a1, a2, a3, h⟩
        have HBZ : Hid (∀ W, Below w3.heap.size w3 W → Below w.heap.size w W) := fun W h => HB3.out.trans (h.mono HB3.out.size)
        have HRT : Hid (∀ W g, Below w3.heap.size w3 W → W.cell? ⟨g, 0, none⟩ = some (.int .u8 t.head.kind) ∧ W.cell? ⟨g, 1, none⟩ = some (.int .i64 t.head.rho) ∧ W.cell? ⟨g, 2, none⟩ = some (.slice t.head.ep t.head.en t.head.ec) ∧ W.cell? ⟨g, 3, none⟩ = some (.slice t.head.kp t.head.kn t.head.kc) → RowT W (some ⟨g, 0, none⟩) 1 1 [t]) := fun W g h hc => rowT_cells (HL.out _ (HBZ.out _ h)) hc.1 hc.2.1 hc.2.2.1 hc.2.2.2
        have HMK : Hid (∀ W, Below w3.heap.size w3 W → Calls Tryz.prog 32 #[.slice t.head.kp t.head.kn t.head.kc] W fun e w' => e = .returned (.bool true) ∧ Below W.heap.size W w') := fun W h => by
          have := rtype_May_any (HN.out W (HBZ.out _ h)).rowT
          rw [HKM.out] at this
          exact this
        generalize hK : sizes t.kids = K at *
        have hN1 : sizes [t] = K + 1 := by have h1 := HP.out.sizes; rw [hK] at h1; have h2 : sizes [t] = t.size := by simp [sizes]
                                           omega
        have hK1 : K ≤ 100 := by have h1 := HP.out.sizes; rw [hK] at h1; have := HP.out.size; omega
        obtain ⟨Z, hz⟩ : ∃ Z : Int, 1 + (K : Int) = Z := ⟨_, rfl⟩
        have hz0 : 0 ≤ Z := by omega
        have hz1 : Z ≤ 101 := by omega
        have HS1 : Hid (∀ W g, RowT W (some ⟨g, 0, none⟩) 1 1 [t] → Calls Tryz.prog 33 #[.slice (some ⟨g, 0, none⟩) 1 1] W fun e w' => e = .returned (.int .i64 Z) ∧ Below W.heap.size W w') := fun W g h => by
          have := rtype_Size_any h (by omega)
          rw [hN1, show ((K + 1 : Nat) : Int) = Z by omega] at this
          exact this
        have HS2 : Hid (∀ W, Below w3.heap.size w3 W → Calls Tryz.prog 33 #[.slice t.head.kp t.head.kn t.head.kc] W fun e w' => e = .returned (.int .i64 (K : Int)) ∧ Below W.heap.size W w') := fun W h => by
          have := rtype_Size_any (HN.out W (HBZ.out _ h)).rowT (by omega)
          rw [hK] at this
          exact this
        have hw : IntKind.i64.wrap (1 + (K : Int)) = Z := by rw [← hz]; exact IntWalk.i64_in _ (by omega)
        clear hK hN1 hl hz
        go_region_held3 (fun W => W.cell? ⟨w.heap.size, 0, none⟩ = some (.int .u8 t.head.kind) ∧ W.cell? ⟨w.heap.size, 1, none⟩ = some (.int .i64 t.head.rho) ∧ W.cell? ⟨w.heap.size, 2, none⟩ = some (.slice t.head.ep t.head.en t.head.ec) ∧ W.cell? ⟨w.heap.size, 3, none⟩ = some (.slice t.head.kp t.head.kn t.head.kc) ∧ Below w3.heap.size w3 W)
          (first
            | exact HSS.out _ (bel_drew _)
            | exact HSS.out _ (bel_alloc (by go_split_ands; assumption) _)
            | exact HSS.out _ hZ)
          (first
            | (go_at_call 30; refine (rtype_Rhos_any (HRT.out _ _ (by go_split_ands; assumption) (by refine ⟨?_, ?_, ?_, ?_⟩ <;> go_simp)) (Nat.le_trans HP.out.gath1 (by omega)) HP.out.en1).mono ?_; rintro e w8 ⟨q8, m8, c8, rfl, hm8, hrow8, hb8⟩; have hZ := bel_step (w0 := w3) (by go_split_ands; assumption) hb8)
            | (go_at_call 14; refine (eqInts_true hrow8 (HR3.out.below (by go_split_ands; assumption))).mono ?_; rintro e w8 ⟨rfl, hb8⟩; have hZ := bel_step (w0 := w3) (by go_split_ands; assumption) hb8)
            | (go_at_call 32; refine (HMK.out _ (by go_split_ands; assumption)).mono ?_; rintro e w8 ⟨rfl, hb8⟩; have hZ := bel_step (w0 := w3) (by go_split_ands; assumption) hb8)
            | (go_at_call 33; (fail_if_success (have := hSz)); refine (HS1.out _ _ (HRT.out _ _ (by go_split_ands; assumption) (by refine ⟨?_, ?_, ?_, ?_⟩ <;> go_simp))).mono ?_; rintro e w8 ⟨rfl, hSz⟩; have hZ := bel_step (w0 := w3) (by go_split_ands; assumption) hSz)
            | (go_at_call 33; refine (HS2.out _ (by go_split_ands; assumption)).mono ?_; rintro e w8 ⟨rfl, hb8⟩; have hZ := bel_step (w0 := w3) (by go_split_ands; assumption) hb8)
            | (go_at_call 29; refine (awake12_any (HTAB.out.below (HBZ.out _ (by go_split_ands; assumption)))).mono ?_; rintro e w8 ⟨rfl, hb8⟩; have hZ := bel_step (w0 := w3) (by go_split_ands; assumption) hb8))
        rename_i hH
        clear hH
        have HBE := Lib.hid (HBZ.out _ hZ)
        clear hZ
        go_wp2_with fail
        go_ret
        exact ⟨rfl, HBE.out⟩
      · have hb1 : (t.head.kind != 1) = true := by simpa using h1
        have HEQ := Lib.hid (parts_eq t h1)
        clear h1
        have hlk : (sortI (gathL t.kids)).length ≤ 10100 := Nat.le_trans (sortR_length ltI _) HP.out.gath
        have HPL := Lib.hid (putI_len (a := t.head.rho) hlk)
        have HRL : Hid ((rhosOf t.head.eff).length ≤ 100) := Nat.le_trans (rhosOf_length _) (greatB_len' HP.out.eff)
        have hen : t.head.en ≤ 100 := by have h1 := (HN.out _ (Below.refl _ _)).own.eff.len; have h2 := greatB_len' HP.out.eff; omega
        clear hlk
        go_wp2_with fail
        refine (ref_PutInt_any HR3.out (by omega) t.head.rho).mono ?_
        rintro e w4 ⟨v4, q4, m4, c4, rfl, rfl, hr4, hb⟩
        have HB4 := Lib.hid (HB3.out.trans (hb.mono HB3.out.size))
        have HC4 := Lib.hid (HC3.out.trans (hb.mono (by have := HC3.out.size; simpa using this)))
        have HR4 := Lib.hid hr4
        have hm4 : m4 ≤ 10101 := by have h1 := hr4.len; have h2 := HPL.out; omega
        clear hb d0 d1 d2 d3 hr4
        obtain ⟨d0, d1, d2, d3⟩ := boxT_cells HC4.out
        go_wp2_with fail
        refine (ref_Rhos_any (HN.out _ HB4.out).own.eff (by omega)).mono ?_
        rintro e w5 ⟨⟨q5, m5, c5, rfl, hrow5⟩, hb⟩
        have HB5 := Lib.hid (HB4.out.trans (hb.mono HB4.out.size))
        have HC5 := Lib.hid (HC4.out.trans (hb.mono (by have := HC4.out.size; simpa using this)))
        have HR5 := Lib.hid (HR4.out.below hb)
        have HL5 := Lib.hid hrow5
        have hm5 : m5 ≤ 100 := by have h1 := hrow5.len; have h2 := HRL.out; omega
        clear hb d0 d1 d2 d3 hrow5
        go_wp2_with fail
        go_loopw [3, 5] (fun u i wr => ∃ (k : Nat) (q' : Option Addr) (m' mc' : Nat), k ≤ m5 ∧ i = .int .i64 k ∧ u = .slice q' m' mc' ∧ m' ≤ 10101 + k ∧ IsRow encN 1 wr q' m' mc' (((rhosOf t.head.eff).take k).foldl (fun e a => putI a e) (putI t.head.rho (sortI (gathL t.kids)))) ∧ Below w5.heap.size w5 wr) (fun _ i _ => m5 - (intOf i).toNat)
        case atStart => exact ⟨0, q4, m4, c4, by omega, rfl, rfl, by omega, HR5.out, Below.refl _ _⟩
        case round =>
          obtain ⟨k, q', m', mc', hk, rfl, rfl, hmk, hrow, hb⟩ := hrel
          have HROW := Lib.hid hrow
          have HBL := Lib.hid hb
          clear hrow hb
          by_cases hlt : k < m5
          · obtain ⟨y, hy⟩ := get_of_lt (l := rhosOf t.head.eff) (j := k) (by rw [HL5.out.len]; exact hlt)
            have HE := Lib.hid hy
            obtain ⟨b, o, rfl, c0⟩ := (HL5.out.below HBL.out).row.num hy
            clear hy
            go_wp2_with fail
            refine (ref_PutInt_any HROW.out (by omega) y).mono ?_
            rintro e w6 ⟨v6, q6, m6, c6, rfl, rfl, hr6, hb⟩
            have HB6 := Lib.hid (HBL.out.trans (hb.mono HBL.out.size))
            have hm6 : m6 ≤ 10101 + k + 1 := by have h1 := hr6.len; have h2 := putI_length y (((rhosOf t.head.eff).take k).foldl (fun e a => putI a e) (putI t.head.rho (sortI (gathL t.kids)))); have h3 := HROW.out.len; omega
            have HR6 := Lib.hid hr6
            clear hb c0 hr6
            go_wp2_with fail
            go_roundw
            case rel => exact ⟨k + 1, q6, m6, c6, by omega, by go_num, rfl, by omega, by rw [take_succ_get HE.out, List.foldl_append]; exact HR6.out, HB6.out⟩
            case measure => simp [intOf]; omega
          · have hkn : k = m5 := by omega
            have HRW : Hid (IsRow encN 1 wr q' m' mc' (sortI (gathL [t]))) := by
              show IsRow _ _ _ _ _ _ _
              have h := HROW.out
              rw [take_full (by rw [HL5.out.len]; omega), HEQ.out] at h
              exact h
            have HBW := Lib.hid (HB5.out.trans (HBL.out.mono HB5.out.size))
            have HCW := Lib.hid (HC5.out.trans (HBL.out.mono (by have := HC5.out.size; simpa using this)))
            go_wp2_with fail
            have HSS : Hid (∀ W, Below wr.heap.size wr W → W.cell? ⟨w.heap.size, 0, none⟩ = some (.int .u8 t.head.kind) ∧ W.cell? ⟨w.heap.size, 1, none⟩ = some (.int .i64 t.head.rho) ∧ W.cell? ⟨w.heap.size, 2, none⟩ = some (.slice t.head.ep t.head.en t.head.ec) ∧ W.cell? ⟨w.heap.size, 3, none⟩ = some (.slice t.head.kp t.head.kn t.head.kc) ∧ Below wr.heap.size wr W) := fun W h => by
              obtain ⟨a0, a1, a2, a3⟩ := boxT_cells (HCW.out.trans (h.mono (by have := HCW.out.size; simpa using this)))
              exact ⟨a0, a1, a2, a3, h⟩
            have HBZ : Hid (∀ W, Below wr.heap.size wr W → Below w.heap.size w W) := fun W h => HBW.out.trans (h.mono HBW.out.size)
            have HRT : Hid (∀ W g, Below wr.heap.size wr W → W.cell? ⟨g, 0, none⟩ = some (.int .u8 t.head.kind) ∧ W.cell? ⟨g, 1, none⟩ = some (.int .i64 t.head.rho) ∧ W.cell? ⟨g, 2, none⟩ = some (.slice t.head.ep t.head.en t.head.ec) ∧ W.cell? ⟨g, 3, none⟩ = some (.slice t.head.kp t.head.kn t.head.kc) → RowT W (some ⟨g, 0, none⟩) 1 1 [t]) := fun W g h hc => rowT_cells (HL.out _ (HBZ.out _ h)) hc.1 hc.2.1 hc.2.2.1 hc.2.2.2
            have HMK : Hid (∀ W, Below wr.heap.size wr W → Calls Tryz.prog 32 #[.slice t.head.kp t.head.kn t.head.kc] W fun e w' => e = .returned (.bool true) ∧ Below W.heap.size W w') := fun W h => by
              have := rtype_May_any (HN.out W (HBZ.out _ h)).rowT
              rw [HKM.out] at this
              exact this
            generalize hK : sizes t.kids = K at *
            have hN1 : sizes [t] = K + 1 := by have h1 := HP.out.sizes; rw [hK] at h1; have h2 : sizes [t] = t.size := by simp [sizes]
                                               omega
            have hK1 : K ≤ 100 := by have h1 := HP.out.sizes; rw [hK] at h1; have := HP.out.size; omega
            obtain ⟨Z, hz⟩ : ∃ Z : Int, 1 + (K : Int) = Z := ⟨_, rfl⟩
            have hz0 : 0 ≤ Z := by omega
            have hz1 : Z ≤ 101 := by omega
            have HS1 : Hid (∀ W g, RowT W (some ⟨g, 0, none⟩) 1 1 [t] → Calls Tryz.prog 33 #[.slice (some ⟨g, 0, none⟩) 1 1] W fun e w' => e = .returned (.int .i64 Z) ∧ Below W.heap.size W w') := fun W g h => by
              have := rtype_Size_any h (by omega)
              rw [hN1, show ((K + 1 : Nat) : Int) = Z by omega] at this
              exact this
            have HS2 : Hid (∀ W, Below wr.heap.size wr W → Calls Tryz.prog 33 #[.slice t.head.kp t.head.kn t.head.kc] W fun e w' => e = .returned (.int .i64 (K : Int)) ∧ Below W.heap.size W w') := fun W h => by
              have := rtype_Size_any (HN.out W (HBZ.out _ h)).rowT (by omega)
              rw [hK] at this
              exact this
            have hw : IntKind.i64.wrap (1 + (K : Int)) = Z := by rw [← hz]; exact IntWalk.i64_in _ (by omega)
            clear hK hN1 hl hz
            go_region_held3 (fun W => W.cell? ⟨w.heap.size, 0, none⟩ = some (.int .u8 t.head.kind) ∧ W.cell? ⟨w.heap.size, 1, none⟩ = some (.int .i64 t.head.rho) ∧ W.cell? ⟨w.heap.size, 2, none⟩ = some (.slice t.head.ep t.head.en t.head.ec) ∧ W.cell? ⟨w.heap.size, 3, none⟩ = some (.slice t.head.kp t.head.kn t.head.kc) ∧ Below wr.heap.size wr W)
              (first
                | exact HSS.out _ (bel_drew _)
                | exact HSS.out _ (bel_alloc (by go_split_ands; assumption) _)
                | exact HSS.out _ hZ)
              (first
                | (go_at_call 30; refine (rtype_Rhos_any (HRT.out _ _ (by go_split_ands; assumption) (by refine ⟨?_, ?_, ?_, ?_⟩ <;> go_simp)) (Nat.le_trans HP.out.gath1 (by omega)) HP.out.en1).mono ?_; rintro e w8 ⟨q8, m8, c8, rfl, hm8, hrow8, hb8⟩; have hZ := bel_step (w0 := wr) (by go_split_ands; assumption) hb8)
                | (go_at_call 14; refine (eqInts_true hrow8 (HRW.out.below (by go_split_ands; assumption))).mono ?_; rintro e w8 ⟨rfl, hb8⟩; have hZ := bel_step (w0 := wr) (by go_split_ands; assumption) hb8)
                | (go_at_call 32; refine (HMK.out _ (by go_split_ands; assumption)).mono ?_; rintro e w8 ⟨rfl, hb8⟩; have hZ := bel_step (w0 := wr) (by go_split_ands; assumption) hb8)
                | (go_at_call 33; (fail_if_success (have := hSz)); refine (HS1.out _ _ (HRT.out _ _ (by go_split_ands; assumption) (by refine ⟨?_, ?_, ?_, ?_⟩ <;> go_simp))).mono ?_; rintro e w8 ⟨rfl, hSz⟩; have hZ := bel_step (w0 := wr) (by go_split_ands; assumption) hSz)
                | (go_at_call 33; refine (HS2.out _ (by go_split_ands; assumption)).mono ?_; rintro e w8 ⟨rfl, hb8⟩; have hZ := bel_step (w0 := wr) (by go_split_ands; assumption) hb8)
                | (go_at_call 29; refine (awake12_any (HTAB.out.below (HBZ.out _ (by go_split_ands; assumption)))).mono ?_; rintro e w8 ⟨rfl, hb8⟩; have hZ := bel_step (w0 := wr) (by go_split_ands; assumption) hb8))
            rename_i hH
            clear hH
            have HBE := Lib.hid (HBZ.out _ hZ)
            clear hZ
            go_wp2_with fail
            go_ret
            exact ⟨rfl, HBE.out⟩
  · clear HG
    go_wp2_with fail
    refine (awake12_any (HTAB.out.below HB1.out)).mono ?_
    rintro e w2 ⟨rfl, hb⟩
    have HB2 := Lib.hid (HB1.out.trans (hb.mono HB1.out.size))
    clear hb
    go_wp2_with fail
    go_ret
    exact ⟨rfl, HB2.out⟩
end Go.Proofs.YtekhblomdlehhaaGreatDoor
