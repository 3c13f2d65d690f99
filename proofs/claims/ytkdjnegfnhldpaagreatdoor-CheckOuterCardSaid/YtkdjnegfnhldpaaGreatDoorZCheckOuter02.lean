/- What CheckOuter leans on besides, part 2: Rt2, Ot. -/
import Derived.Test.YtkdjnegfnhldpaaGreatDoorH07
import Derived.Test.YtkdjnegfnhldpaaGreatDoorH09
import Derived.Test.YtkdjnegfnhldpaaGreatDoorH36
import Derived.Test.YtkdjnegfnhldpaaGreatDoorH08
import Derived.Test.YtkdjnegfnhldpaaGreatDoorH37
import Derived.Test.YtkdjnegfnhldpaaGreatDoorZCheckOuter01
set_option linter.unusedVariables false
set_option maxRecDepth 100000
set_option linter.unusedSimpArgs false
namespace Go.Proofs.YtkdjnegfnhldpaaGreatDoor
open Go.Lib (hid)
section
open Go.RowKit
theorem ref_May11_is {p : Option Addr} {n cap : Nat} {l : List Atom} {w : World} {r : Bool} (h : mayB l = r) (hr : IsRow encA 3 w p n cap l) :
    Calls Tryz.prog 18 #[.slice p n cap] w fun e w' => e = .returned (.bool r) ∧ Below w.heap.size w w' := by
  refine (ref_May_any p n cap l w hr.len hr.max hr.row).mono ?_
  rintro e w' ⟨⟨r', rfl, hr'⟩, hb⟩
  have : r' = r := by rw [← h, Bool.eq_iff_iff, hr', mayB_iff, hr.len]
  subst this
  exact ⟨rfl, hb⟩
set_option maxHeartbeats 4000000 in
theorem ref_May12_any (t : PT) : ∀ w, LR.lies w t → Calls Tryz.prog 17 #[aggR t.head] w fun e w' => e = .returned (.bool (mayT t.er)) ∧ Below w.heap.size w w' := by
  refine Rose.ind (P := fun (t : PT) => ∀ w, LR.lies w t → Calls Tryz.prog 17 #[aggR t.head] w fun e w' => e = .returned (.bool (mayT t.er)) ∧ Below w.heap.size w w') (fun a l ih => ?_) t
  intro w hl
  have HN := hid (nodeIn hl)
  have IH := hid ih
  have hkm := HN.out.own.kmax
  have hem := HN.out.own.eff.max
  have HBX := hid ((Below.refl w.heap.size w).alloc (Nat.le_refl _) (.cells #[.int .u8 a.kind, .int .i64 a.rho, .slice a.ep a.en a.ec, .slice a.kp a.kn a.kc] 28))
  show Calls _ _ #[aggR a] w _
  clear hl ih
  obtain ⟨kd, rr, ep, en, ec, eff, kp, kn, kc⟩ := a
  simp only at hkm hem
  have hlk : l.length = kn := HN.out.kids.len
  have hle : eff.length = en := HN.out.own.eff.len
  have HC3 : Hid (∀ w1, Below w.heap.size (w.alloc (.cells #[.int .u8 kd, .int .i64 rr, .slice ep en ec, .slice kp kn kc] 28)) w1 → True) := fun _ _ => trivial
  clear HC3
  have hnil : en = 0 → eff = [] := fun h => List.length_eq_zero_iff.1 (by omega)
  have hne : 0 < en → eff ≠ [] := fun h e => by rw [e] at hle; simp at hle; omega
  by_cases h1 : kd = 1
  · subst h1
    by_cases hk : kn = 0
    · subst hk
      rcases (by omega : rr < 0 ∨ 0 < rr ∨ rr = 0) with hr | hr | hr
      · have hz : ¬ rr = 0 := by omega
        have HF : Hid (mayT (PT.er (.node ⟨1, rr, ep, en, ec, eff, kp, 0, kc⟩ l)) = false) := by show _ = _; rw [mayT_er]; simp [nodeB, RH.plain, hz]
        clear hz
        go_enter Tryz.func17, Tryz.ntmps17
        go_wp2_with fail
        go_ret
        exact ⟨ret_bool HF.out.symm, HBX.out⟩
      · have hz : ¬ rr = 0 := by omega
        have HF : Hid (mayT (PT.er (.node ⟨1, rr, ep, en, ec, eff, kp, 0, kc⟩ l)) = false) := by show _ = _; rw [mayT_er]; simp [nodeB, RH.plain, hz]
        clear hz
        go_enter Tryz.func17, Tryz.ntmps17
        go_wp2_with fail
        go_ret
        exact ⟨ret_bool HF.out.symm, HBX.out⟩
      · subst hr
        by_cases he : en = 0
        · subst he
          obtain rfl := hnil rfl
          have HMB : Hid (mayB [] = true) := rfl
          have HNB : Hid (nodeB (RH.plain ⟨1, 0, ep, 0, ec, [], kp, 0, kc⟩) l.length = true) := by show _ = _; rw [hlk]; simp [nodeB, RH.plain]
          clear hnil hne hlk hle
          go_enter Tryz.func17, Tryz.ntmps17
          go_wp2_with fail
          refine (ref_May11_is HMB.out (HN.out.alloc _).own.eff).mono ?_
          rintro e w1 ⟨rfl, hb⟩
          have HB1 := hid (HBX.out.trans (hb.mono HBX.out.size))
          have HNW := hid ((HN.out.alloc _).below hb)
          have hc3 : w1.cell? ⟨w.heap.size, 3, none⟩ = some (.slice kp 0 kc) := by rw [hb.cell (by simp), cell_new]; rfl
          have HC3 : Hid (∀ wr, Below w1.heap.size w1 wr → wr.cell? ⟨w.heap.size, 3, none⟩ = some (.slice kp 0 kc)) := fun wr h => by rw [h.cell (cell_block hc3)]; exact hc3
          clear hb
          go_wp2_with fail
          clear hc3
          go_loopw [4, 66] (fun _ i wr => ∃ (k : Nat), k ≤ 0 ∧ i = .int .i64 k ∧ (l.take k).all (fun t => mayT (PT.er t)) = true ∧ Below w1.heap.size w1 wr) (fun _ i _ => 0 - (intOf i).toNat)
          case atStart => exact ⟨0, by omega, rfl, by simp, Below.refl _ _⟩
          case round =>
            obtain ⟨k, hk, rfl, hno, hb⟩ := hrel
            have HNO := hid hno
            have HB := hid hb
            clear hno hb
            have hc3 := HC3.out wr HB.out
            by_cases hlt : k < 0
            · omega
            · have hkn : k = 0 := by omega
              have HT : Hid (mayT (PT.er (.node ⟨1, 0, ep, 0, ec, [], kp, 0, kc⟩ l)) = true) := by
                show _ = _
                have h := HNO.out
                rw [take_full (by have := HNW.out.kids.len; simp only at this; omega)] at h
                rw [mayT_er, HNB.out, h]; rfl
              go_wp2_with fail
              go_ret
              exact ⟨ret_bool HT.out.symm, HB1.out.trans (HB.out.mono HB1.out.size)⟩
        · have hpos : 0 < en := by omega
          have hne' := hne hpos
          have HF : Hid (mayT (PT.er (.node ⟨1, 0, ep, en, ec, eff, kp, 0, kc⟩ l)) = false) := by show _ = _; rw [mayT_er]; simp [nodeB, RH.plain, hne']
          clear hne' hne hnil
          go_enter Tryz.func17, Tryz.ntmps17
          go_wp2_with fail
          go_ret
          exact ⟨ret_bool HF.out.symm, HBX.out⟩
    · have hb : ((kn : Int) != 0) = true := by rw [bne_iff_ne]; omega
      have HF : Hid (mayT (PT.er (.node ⟨1, rr, ep, en, ec, eff, kp, kn, kc⟩ l)) = false) := by show _ = _; rw [mayT_er]; simp [nodeB, RH.plain, hlk, hle]; try omega
      go_enter Tryz.func17, Tryz.ntmps17
      go_wp2_with fail
      go_ret
      exact ⟨ret_bool HF.out.symm, HBX.out⟩
  by_cases h2 : kd = 2
  · subst h2
    by_cases hk : kn = 2
    · subst hk
      by_cases hr : rr < 0
      · have hz : ¬ 0 ≤ rr := by omega
        have HF : Hid (mayT (PT.er (.node ⟨2, rr, ep, en, ec, eff, kp, 2, kc⟩ l)) = false) := by show _ = _; rw [mayT_er]; simp [nodeB, RH.plain, hz]
        clear hz
        go_enter Tryz.func17, Tryz.ntmps17
        go_wp2_with fail
        go_ret
        exact ⟨ret_bool HF.out.symm, HBX.out⟩
      · have hr0 : 0 ≤ rr := by omega
        by_cases he : en = 0
        · subst he
          obtain rfl := hnil rfl
          have HMB : Hid (mayB [] = true) := rfl
          have HNB : Hid (nodeB (RH.plain ⟨2, rr, ep, 0, ec, [], kp, 2, kc⟩) l.length = true) := by show _ = _; rw [hlk]; simp [nodeB, RH.plain, hr0]
          clear hnil hne hlk hle
          go_enter Tryz.func17, Tryz.ntmps17
          go_wp2_with fail
          refine (ref_May11_is HMB.out (HN.out.alloc _).own.eff).mono ?_
          rintro e w1 ⟨rfl, hb⟩
          have HB1 := hid (HBX.out.trans (hb.mono HBX.out.size))
          have HNW := hid ((HN.out.alloc _).below hb)
          have hc3 : w1.cell? ⟨w.heap.size, 3, none⟩ = some (.slice kp 2 kc) := by rw [hb.cell (by simp), cell_new]; rfl
          have HC3 : Hid (∀ wr, Below w1.heap.size w1 wr → wr.cell? ⟨w.heap.size, 3, none⟩ = some (.slice kp 2 kc)) := fun wr h => by rw [h.cell (cell_block hc3)]; exact hc3
          clear hb
          go_wp2_with fail
          clear hc3
          go_loopw [4, 66] (fun _ i wr => ∃ (k : Nat), k ≤ 2 ∧ i = .int .i64 k ∧ (l.take k).all (fun t => mayT (PT.er t)) = true ∧ Below w1.heap.size w1 wr) (fun _ i _ => 2 - (intOf i).toNat)
          case atStart => exact ⟨0, by omega, rfl, by simp, Below.refl _ _⟩
          case round =>
            obtain ⟨k, hk, rfl, hno, hb⟩ := hrel
            have HNO := hid hno
            have HB := hid hb
            clear hno hb
            have hc3 := HC3.out wr HB.out
            by_cases hlt : k < 2
            · obtain ⟨x, hx⟩ := (HNW.out.rowT).at (j := k) hlt
              have HE := hid hx
              obtain ⟨b, o, hbo, hbl, d0, d1, d2, d3⟩ := (HNW.out.rowT.below HB.out).kid hx
              have HX := hid ((HNW.out.rowT.below HB.out).lies hx)
              simp only at hbo
              subst hbo
              clear hx hbl
              cases hq : mayT (PT.er x)
              · have HQ := hid hq
                have HF : Hid (mayT (PT.er (.node ⟨2, rr, ep, 0, ec, [], some ⟨b, o, none⟩, 2, kc⟩ l)) = false) := by show _ = _; rw [mayT_er, all_get HE.out hq, Bool.and_false]
                clear hq
                go_wp2_with fail
                refine (IH.out x (List.mem_of_getElem? HE.out) wr HX.out).mono ?_
                rintro e w2 ⟨rfl, hb⟩
                have HB2 := hid (HB1.out.trans ((HB.out.trans (hb.mono HB.out.size)).mono HB1.out.size))
                rw [HQ.out]
                clear hb d0 d1 d2 d3 hc3
                go_wp2_with fail
                go_ret
                exact ⟨ret_bool HF.out.symm, HB2.out⟩
              · have HQ := hid hq
                clear hq
                go_wp2_with fail
                refine (IH.out x (List.mem_of_getElem? HE.out) wr HX.out).mono ?_
                rintro e w2 ⟨rfl, hb⟩
                have HB2 := hid (HB.out.trans (hb.mono HB.out.size))
                rw [HQ.out]
                clear hb d0 d1 d2 d3 hc3
                go_wp2_with fail
                go_roundw
                case rel => exact ⟨k + 1, by omega, by go_num, by rw [all_take_get HE.out, HNO.out, HQ.out]; rfl, HB2.out⟩
                case measure => simp [intOf]; omega
            · have hkn : k = 2 := by omega
              have HT : Hid (mayT (PT.er (.node ⟨2, rr, ep, 0, ec, [], kp, 2, kc⟩ l)) = true) := by
                show _ = _
                have h := HNO.out
                rw [take_full (by have := HNW.out.kids.len; simp only at this; omega)] at h
                rw [mayT_er, HNB.out, h]; rfl
              go_wp2_with fail
              go_ret
              exact ⟨ret_bool HT.out.symm, HB1.out.trans (HB.out.mono HB1.out.size)⟩
        · have hpos : 0 < en := by omega
          have hne' := hne hpos
          have HF : Hid (mayT (PT.er (.node ⟨2, rr, ep, en, ec, eff, kp, 2, kc⟩ l)) = false) := by show _ = _; rw [mayT_er]; simp [nodeB, RH.plain, hne']
          clear hne' hne hnil
          go_enter Tryz.func17, Tryz.ntmps17
          go_wp2_with fail
          go_ret
          exact ⟨ret_bool HF.out.symm, HBX.out⟩
    · have hb : ((kn : Int) != 2) = true := by rw [bne_iff_ne]; omega
      have HF : Hid (mayT (PT.er (.node ⟨2, rr, ep, en, ec, eff, kp, kn, kc⟩ l)) = false) := by show _ = _; rw [mayT_er]; simp [nodeB, RH.plain, hlk, hle]; try omega
      go_enter Tryz.func17, Tryz.ntmps17
      go_wp2_with fail
      go_ret
      exact ⟨ret_bool HF.out.symm, HBX.out⟩
  by_cases h3 : kd = 3
  · subst h3
    by_cases hk : kn = 1
    · subst hk
      by_cases hr : rr < 0
      · have hz : ¬ 0 ≤ rr := by omega
        have HF : Hid (mayT (PT.er (.node ⟨3, rr, ep, en, ec, eff, kp, 1, kc⟩ l)) = false) := by show _ = _; rw [mayT_er]; simp [nodeB, RH.plain, hz]
        clear hz
        go_enter Tryz.func17, Tryz.ntmps17
        go_wp2_with fail
        go_ret
        exact ⟨ret_bool HF.out.symm, HBX.out⟩
      · have hr0 : 0 ≤ rr := by omega
        by_cases he : en = 0
        · subst he
          obtain rfl := hnil rfl
          have HMB : Hid (mayB [] = true) := rfl
          have HNB : Hid (nodeB (RH.plain ⟨3, rr, ep, 0, ec, [], kp, 1, kc⟩) l.length = true) := by show _ = _; rw [hlk]; simp [nodeB, RH.plain, hr0]
          clear hnil hne hlk hle
          go_enter Tryz.func17, Tryz.ntmps17
          go_wp2_with fail
          refine (ref_May11_is HMB.out (HN.out.alloc _).own.eff).mono ?_
          rintro e w1 ⟨rfl, hb⟩
          have HB1 := hid (HBX.out.trans (hb.mono HBX.out.size))
          have HNW := hid ((HN.out.alloc _).below hb)
          have hc3 : w1.cell? ⟨w.heap.size, 3, none⟩ = some (.slice kp 1 kc) := by rw [hb.cell (by simp), cell_new]; rfl
          have HC3 : Hid (∀ wr, Below w1.heap.size w1 wr → wr.cell? ⟨w.heap.size, 3, none⟩ = some (.slice kp 1 kc)) := fun wr h => by rw [h.cell (cell_block hc3)]; exact hc3
          clear hb
          go_wp2_with fail
          clear hc3
          go_loopw [4, 66] (fun _ i wr => ∃ (k : Nat), k ≤ 1 ∧ i = .int .i64 k ∧ (l.take k).all (fun t => mayT (PT.er t)) = true ∧ Below w1.heap.size w1 wr) (fun _ i _ => 1 - (intOf i).toNat)
          case atStart => exact ⟨0, by omega, rfl, by simp, Below.refl _ _⟩
          case round =>
            obtain ⟨k, hk, rfl, hno, hb⟩ := hrel
            have HNO := hid hno
            have HB := hid hb
            clear hno hb
            have hc3 := HC3.out wr HB.out
            by_cases hlt : k < 1
            · obtain ⟨x, hx⟩ := (HNW.out.rowT).at (j := k) hlt
              have HE := hid hx
              obtain ⟨b, o, hbo, hbl, d0, d1, d2, d3⟩ := (HNW.out.rowT.below HB.out).kid hx
              have HX := hid ((HNW.out.rowT.below HB.out).lies hx)
              simp only at hbo
              subst hbo
              clear hx hbl
              cases hq : mayT (PT.er x)
              · have HQ := hid hq
                have HF : Hid (mayT (PT.er (.node ⟨3, rr, ep, 0, ec, [], some ⟨b, o, none⟩, 1, kc⟩ l)) = false) := by show _ = _; rw [mayT_er, all_get HE.out hq, Bool.and_false]
                clear hq
                go_wp2_with fail
                refine (IH.out x (List.mem_of_getElem? HE.out) wr HX.out).mono ?_
                rintro e w2 ⟨rfl, hb⟩
                have HB2 := hid (HB1.out.trans ((HB.out.trans (hb.mono HB.out.size)).mono HB1.out.size))
                rw [HQ.out]
                clear hb d0 d1 d2 d3 hc3
                go_wp2_with fail
                go_ret
                exact ⟨ret_bool HF.out.symm, HB2.out⟩
              · have HQ := hid hq
                clear hq
                go_wp2_with fail
                refine (IH.out x (List.mem_of_getElem? HE.out) wr HX.out).mono ?_
                rintro e w2 ⟨rfl, hb⟩
                have HB2 := hid (HB.out.trans (hb.mono HB.out.size))
                rw [HQ.out]
                clear hb d0 d1 d2 d3 hc3
                go_wp2_with fail
                go_roundw
                case rel => exact ⟨k + 1, by omega, by go_num, by rw [all_take_get HE.out, HNO.out, HQ.out]; rfl, HB2.out⟩
                case measure => simp [intOf]; omega
            · have hkn : k = 1 := by omega
              have HT : Hid (mayT (PT.er (.node ⟨3, rr, ep, 0, ec, [], kp, 1, kc⟩ l)) = true) := by
                show _ = _
                have h := HNO.out
                rw [take_full (by have := HNW.out.kids.len; simp only at this; omega)] at h
                rw [mayT_er, HNB.out, h]; rfl
              go_wp2_with fail
              go_ret
              exact ⟨ret_bool HT.out.symm, HB1.out.trans (HB.out.mono HB1.out.size)⟩
        · have hpos : 0 < en := by omega
          have hne' := hne hpos
          have HF : Hid (mayT (PT.er (.node ⟨3, rr, ep, en, ec, eff, kp, 1, kc⟩ l)) = false) := by show _ = _; rw [mayT_er]; simp [nodeB, RH.plain, hne']
          clear hne' hne hnil
          go_enter Tryz.func17, Tryz.ntmps17
          go_wp2_with fail
          go_ret
          exact ⟨ret_bool HF.out.symm, HBX.out⟩
    · have hb : ((kn : Int) != 1) = true := by rw [bne_iff_ne]; omega
      have HF : Hid (mayT (PT.er (.node ⟨3, rr, ep, en, ec, eff, kp, kn, kc⟩ l)) = false) := by show _ = _; rw [mayT_er]; simp [nodeB, RH.plain, hlk, hle]; try omega
      go_enter Tryz.func17, Tryz.ntmps17
      go_wp2_with fail
      go_ret
      exact ⟨ret_bool HF.out.symm, HBX.out⟩
  by_cases h4 : kd = 4
  · subst h4
    by_cases hk : kn = 2
    · subst hk
      by_cases hr : rr < 0
      · have hz : ¬ 0 ≤ rr := by omega
        have HF : Hid (mayT (PT.er (.node ⟨4, rr, ep, en, ec, eff, kp, 2, kc⟩ l)) = false) := by show _ = _; rw [mayT_er]; simp [nodeB, RH.plain, hz]
        clear hz
        go_enter Tryz.func17, Tryz.ntmps17
        go_wp2_with fail
        go_ret
        exact ⟨ret_bool HF.out.symm, HBX.out⟩
      · have hr0 : 0 ≤ rr := by omega
        cases hm : mayB eff
        · have HF : Hid (mayT (PT.er (.node ⟨4, rr, ep, en, ec, eff, kp, 2, kc⟩ l)) = false) := by show _ = _; rw [mayT_er]; simp [nodeB, RH.plain, hm]
          have HMB := hid hm
          clear hm
          go_enter Tryz.func17, Tryz.ntmps17
          go_wp2_with fail
          refine (ref_May11_is HMB.out (HN.out.alloc _).own.eff).mono ?_
          rintro e w1 ⟨rfl, hb⟩
          have HB1 := hid (HBX.out.trans (hb.mono HBX.out.size))
          clear hb
          go_wp2_with fail
          go_ret
          exact ⟨ret_bool HF.out.symm, HB1.out⟩
        · have HMB := hid hm
          have HNB : Hid (nodeB (RH.plain ⟨4, rr, ep, en, ec, eff, kp, 2, kc⟩) l.length = true) := by show _ = _; rw [hlk]; simp [nodeB, RH.plain, hr0, hm]
          clear hm
          clear hnil hne hlk hle
          go_enter Tryz.func17, Tryz.ntmps17
          go_wp2_with fail
          refine (ref_May11_is HMB.out (HN.out.alloc _).own.eff).mono ?_
          rintro e w1 ⟨rfl, hb⟩
          have HB1 := hid (HBX.out.trans (hb.mono HBX.out.size))
          have HNW := hid ((HN.out.alloc _).below hb)
          have hc3 : w1.cell? ⟨w.heap.size, 3, none⟩ = some (.slice kp 2 kc) := by rw [hb.cell (by simp), cell_new]; rfl
          have HC3 : Hid (∀ wr, Below w1.heap.size w1 wr → wr.cell? ⟨w.heap.size, 3, none⟩ = some (.slice kp 2 kc)) := fun wr h => by rw [h.cell (cell_block hc3)]; exact hc3
          clear hb
          go_wp2_with fail
          clear hc3
          go_loopw [4, 66] (fun _ i wr => ∃ (k : Nat), k ≤ 2 ∧ i = .int .i64 k ∧ (l.take k).all (fun t => mayT (PT.er t)) = true ∧ Below w1.heap.size w1 wr) (fun _ i _ => 2 - (intOf i).toNat)
          case atStart => exact ⟨0, by omega, rfl, by simp, Below.refl _ _⟩
          case round =>
            obtain ⟨k, hk, rfl, hno, hb⟩ := hrel
            have HNO := hid hno
            have HB := hid hb
            clear hno hb
            have hc3 := HC3.out wr HB.out
            by_cases hlt : k < 2
            · obtain ⟨x, hx⟩ := (HNW.out.rowT).at (j := k) hlt
              have HE := hid hx
              obtain ⟨b, o, hbo, hbl, d0, d1, d2, d3⟩ := (HNW.out.rowT.below HB.out).kid hx
              have HX := hid ((HNW.out.rowT.below HB.out).lies hx)
              simp only at hbo
              subst hbo
              clear hx hbl
              cases hq : mayT (PT.er x)
              · have HQ := hid hq
                have HF : Hid (mayT (PT.er (.node ⟨4, rr, ep, en, ec, eff, some ⟨b, o, none⟩, 2, kc⟩ l)) = false) := by show _ = _; rw [mayT_er, all_get HE.out hq, Bool.and_false]
                clear hq
                go_wp2_with fail
                refine (IH.out x (List.mem_of_getElem? HE.out) wr HX.out).mono ?_
                rintro e w2 ⟨rfl, hb⟩
                have HB2 := hid (HB1.out.trans ((HB.out.trans (hb.mono HB.out.size)).mono HB1.out.size))
                rw [HQ.out]
                clear hb d0 d1 d2 d3 hc3
                go_wp2_with fail
                go_ret
                exact ⟨ret_bool HF.out.symm, HB2.out⟩
              · have HQ := hid hq
                clear hq
                go_wp2_with fail
                refine (IH.out x (List.mem_of_getElem? HE.out) wr HX.out).mono ?_
                rintro e w2 ⟨rfl, hb⟩
                have HB2 := hid (HB.out.trans (hb.mono HB.out.size))
                rw [HQ.out]
                clear hb d0 d1 d2 d3 hc3
                go_wp2_with fail
                go_roundw
                case rel => exact ⟨k + 1, by omega, by go_num, by rw [all_take_get HE.out, HNO.out, HQ.out]; rfl, HB2.out⟩
                case measure => simp [intOf]; omega
            · have hkn : k = 2 := by omega
              have HT : Hid (mayT (PT.er (.node ⟨4, rr, ep, en, ec, eff, kp, 2, kc⟩ l)) = true) := by
                show _ = _
                have h := HNO.out
                rw [take_full (by have := HNW.out.kids.len; simp only at this; omega)] at h
                rw [mayT_er, HNB.out, h]; rfl
              go_wp2_with fail
              go_ret
              exact ⟨ret_bool HT.out.symm, HB1.out.trans (HB.out.mono HB1.out.size)⟩
    · have hb : ((kn : Int) != 2) = true := by rw [bne_iff_ne]; omega
      have HF : Hid (mayT (PT.er (.node ⟨4, rr, ep, en, ec, eff, kp, kn, kc⟩ l)) = false) := by show _ = _; rw [mayT_er]; simp [nodeB, RH.plain, hlk, hle]; try omega
      go_enter Tryz.func17, Tryz.ntmps17
      go_wp2_with fail
      go_ret
      exact ⟨ret_bool HF.out.symm, HBX.out⟩
  · have h0 := HN.out.own.k0
    simp only at h0
    have b2 : (kd == 2) = false := by rw [beq_eq_false_iff_ne]; exact h2
    have b3 : (kd == 3) = false := by rw [beq_eq_false_iff_ne]; exact h3
    have b4 : (kd == 4) = false := by rw [beq_eq_false_iff_ne]; exact h4
    have HF : Hid (mayT (PT.er (.node ⟨kd, rr, ep, en, ec, eff, kp, kn, kc⟩ l)) = false) := by show _ = _; rw [mayT_er]; simp [nodeB, RH.plain, h1, h2, h3, h4]
    rcases (by omega : kd < 1 ∨ 4 < kd) with hr | hr
    all_goals
      clear h1 h2 h3 h4
      go_enter Tryz.func17, Tryz.ntmps17
      go_wp2_with fail
      go_ret
      exact ⟨ret_bool HF.out.symm, HBX.out⟩
end
section
open Go.RowKit
theorem zs_put {l : List Int} (h : zs l) : zs (putI 0 l) := by
  rcases h with rfl | rfl
  · right; decide
  · right; decide
theorem zs_len {l : List Int} (h : zs l) : l.length ≤ 1 := by
  rcases h with rfl | rfl <;> simp
theorem zs_mem {l : List Int} (h : zs l) : ∀ z ∈ l, z = 0 := by
  rcases h with rfl | rfl <;> simp
theorem gathT_kid {a : RH} {l : List PT} {x : PT} (hx : x ∈ l) (h : ∀ z ∈ gathT (PT.er (.node a l)), z = 0) : ∀ z ∈ gathT (PT.er x), z = 0 := by
  intro z hz
  refine h z ?_
  rw [gathT_kids]
  exact List.mem_append.2 (.inr (List.mem_flatMap.2 ⟨x, hx, hz⟩))
set_option maxHeartbeats 4000000 in
theorem ref12_rhos_any (t : PT) : ∀ w p n cap lo, LR.lies w t → IsRow encN 1 w p n cap lo → zs lo → (∀ z ∈ gathT t.er, z = 0) → effsOK t.er = true →
    Calls Tryz.prog 40 #[.slice p n cap, aggR t.head] w fun e w' => ∃ v p' n' c' l', e = .returned v ∧ v = .slice p' n' c' ∧ IsRow encN 1 w' p' n' c' l' ∧ zs l' ∧ Below w.heap.size w w' := by
  refine Rose.ind (P := fun (t : PT) => ∀ w p n cap lo, LR.lies w t → IsRow encN 1 w p n cap lo → zs lo → (∀ z ∈ gathT t.er, z = 0) → effsOK t.er = true →
    Calls Tryz.prog 40 #[.slice p n cap, aggR t.head] w fun e w' => ∃ v p' n' c' l', e = .returned v ∧ v = .slice p' n' c' ∧ IsRow encN 1 w' p' n' c' l' ∧ zs l' ∧ Below w.heap.size w w') (fun a l ih => ?_) t
  intro w p n cap lo hl hr hz hg he
  have HN := hid (nodeIn hl)
  have IH := hid ih
  have HG := hid hg
  have hown : ∀ z ∈ ownR a.plain, z = 0 := fun z hz => hg z (by rw [gathT_kids]; exact List.mem_append.2 (.inl hz))
  have he' := he
  rw [PT.er_node, effsOK_node, Bool.and_eq_true] at he'
  have HEK : Hid (∀ x ∈ l, effsOK (PT.er x) = true) := fun x hx => List.all_eq_true.1 he'.2 _ (List.mem_map_of_mem hx)
  have hgr : greatB a.eff = false := by have h := he'.1; rw [Bool.not_eq_true'] at h; exact h
  have hle : a.eff.length ≤ 100 := ((greatB_iff _).1 hgr).1
  have hkm := HN.out.own.kmax
  have hel := HN.out.own.eff.len
  have hen : a.en ≤ 100 := by omega
  have hc0 : (w.alloc (.cells #[.int .u8 a.kind, .int .i64 a.rho, .slice a.ep a.en a.ec, .slice a.kp a.kn a.kc] 28)).cell? ⟨w.heap.size, 0, none⟩ = some (.int .u8 a.kind) := by rw [cell_new]; rfl
  have hc1 : (w.alloc (.cells #[.int .u8 a.kind, .int .i64 a.rho, .slice a.ep a.en a.ec, .slice a.kp a.kn a.kc] 28)).cell? ⟨w.heap.size, 1, none⟩ = some (.int .i64 a.rho) := by rw [cell_new]; rfl
  have hc2 : (w.alloc (.cells #[.int .u8 a.kind, .int .i64 a.rho, .slice a.ep a.en a.ec, .slice a.kp a.kn a.kc] 28)).cell? ⟨w.heap.size, 2, none⟩ = some (.slice a.ep a.en a.ec) := by rw [cell_new]; rfl
  have hc3 : (w.alloc (.cells #[.int .u8 a.kind, .int .i64 a.rho, .slice a.ep a.en a.ec, .slice a.kp a.kn a.kc] 28)).cell? ⟨w.heap.size, 3, none⟩ = some (.slice a.kp a.kn a.kc) := by rw [cell_new]; rfl
  have HBX := hid ((Below.refl w.heap.size w).alloc (Nat.le_refl _) (.cells #[.int .u8 a.kind, .int .i64 a.rho, .slice a.ep a.en a.ec, .slice a.kp a.kn a.kc] 28))
  have HNW := hid (HN.out.alloc (.cells #[.int .u8 a.kind, .int .i64 a.rho, .slice a.ep a.en a.ec, .slice a.kp a.kn a.kc] 28))
  have HO := hid (hr.alloc (.cells #[.int .u8 a.kind, .int .i64 a.rho, .slice a.ep a.en a.ec, .slice a.kp a.kn a.kc] 28))
  have HZ := hid hz
  have HOWNR := hid hown
  show Calls _ _ #[_, aggR a] w _
  clear hl ih hg he he' hr hz hgr hle hel hown
  obtain ⟨kd, rr, ep, en, ec, eff, kp, kn, kc⟩ := a
  simp only at hkm hen hc0 hc1 hc2 hc3 HBX HNW HO
  by_cases h1 : kd = 1
  · have e1 : (kd != 1) = false := by simp [h1]
    clear h1
    go_enter Tryz.func40, Tryz.ntmps40
    go_wp2_with fail
    generalize w.alloc (.cells #[.int .u8 kd, .int .i64 rr, .slice ep en ec, .slice kp kn kc] 28) = W at *
    have HC3 : Hid (∀ wr, Below W.heap.size W wr → wr.cell? ⟨w.heap.size, 3, none⟩ = some (.slice kp kn kc)) := fun wr hb => by rw [hb.cell (cell_block hc3)]; exact hc3
    clear hc0 hc1 hc2 hc3
    have HB := hid (Below.refl W.heap.size W)
    go_loopw [0, 7, 33] (fun u _ i wr => ∃ (k : Nat) (q : Option Addr) (m mc : Nat) (lk : List Int), k ≤ kn ∧ i = .int .i64 k ∧ u = .slice q m mc ∧ IsRow encN 1 wr q m mc lk ∧ zs lk ∧ Below W.heap.size W wr) (fun _ _ i _ => kn - (intOf i).toNat)
    case atStart => exact ⟨0, _, _, _, _, by omega, rfl, rfl, HO.out, HZ.out, HB.out⟩
    case round =>
      obtain ⟨k, q, m, mc, lk, hk, rfl, rfl, hrow, hz, hb⟩ := hrel
      have HROW := hid hrow
      have HZK := hid hz
      have HBK := hid hb
      clear hrow hz hb
      have hc3 := HC3.out wr HBK.out
      by_cases hlt : k < kn
      · obtain ⟨x, hx⟩ := HNW.out.rowT.at (j := k) hlt
        have HE := hid hx
        obtain ⟨b, o, hbo, hbl, d0, d1, d2, d3⟩ := (HNW.out.rowT.below HBK.out).kid hx
        simp only at hbo
        subst hbo
        have HX := hid ((HNW.out.rowT.below HBK.out).lies hx)
        have hmem := List.mem_of_getElem? hx
        have HXG := hid (gathT_kid hmem HG.out)
        have HXE := hid (HEK.out x hmem)
        clear hx hbl hmem
        go_wp2_with fail
        refine (IH.out x (List.mem_of_getElem? HE.out) wr q m mc lk HX.out HROW.out HZK.out HXG.out HXE.out).mono ?_
        rintro e w1 ⟨v, q', m', c', l', rfl, rfl, hr', hz', hb⟩
        have HB1 := hid (HBK.out.trans (hb.mono HBK.out.size))
        have HR1 := hid hr'
        have HZ1 := hid hz'
        clear hb hr' hz' d0 d1 d2 d3 hc3
        go_wp2_with fail
        go_roundw
        case rel => exact ⟨k + 1, q', m', c', l', by omega, by go_num, rfl, HR1.out, HZ1.out, HB1.out⟩
        case measure => simp [intOf]; omega
      · have hkn : k = kn := by omega
        subst hkn
        go_wp2_with fail
        go_ret
        exact ⟨_, q, m, mc, lk, rfl, rfl, HROW.out, HZK.out, HBX.out.trans (HBK.out.mono HBX.out.size)⟩
  · have e1 : (kd != 1) = true := by simp [h1]
    have hrr : rr = 0 := HOWNR.out rr (by unfold ownR RH.plain; rw [if_neg h1]; exact List.mem_cons_self)
    have HEF : Hid (∀ z ∈ rhosOf eff, z = 0) := fun z hz => HOWNR.out z (by unfold ownR RH.plain; rw [if_neg h1]; exact List.mem_cons_of_mem _ hz)
    subst hrr
    clear h1
    have hol := HO.out.len
    have hozl := zs_len HZ.out
    have hn : n ≤ 10000000 := by omega
    clear hol hozl
    have HEFF := hid HNW.out.own.eff
    go_enter Tryz.func40, Tryz.ntmps40
    go_upto_region 2 with fail
    generalize w.alloc (.cells #[.int .u8 kd, .int .i64 0, .slice ep en ec, .slice kp kn kc] 28) = W at *
    have HC2 : Hid (∀ wr, Below W.heap.size W wr → wr.cell? ⟨w.heap.size, 2, none⟩ = some (.slice ep en ec)) := fun wr hb => by rw [hb.cell (cell_block hc2)]; exact hc2
    have HC3 : Hid (∀ wr, Below W.heap.size W wr → wr.cell? ⟨w.heap.size, 3, none⟩ = some (.slice kp kn kc)) := fun wr hb => by rw [hb.cell (cell_block hc3)]; exact hc3
    clear hc0 hc2 hc3
    go_wp2_with fail
    refine (ref_PutInt_any HO.out hn 0).mono ?_
    rintro e w1 ⟨v, q1, m1, c1, rfl, rfl, hr', hb⟩
    have HO := hid hr'
    have HZ := hid (zs_put HZ.out)
    have HB := hid hb
    have hc2 := HC2.out w1 hb
    have HEFF := hid (HEFF.out.below hb)
    clear hb hr' hc1
    go_wp2_with fail
    refine (ref_Rhos_any HEFF.out (by omega)).mono ?_
    rintro e w2 ⟨⟨q2, m2, c2, rfl, hr'⟩, hb⟩
    have HO := hid (HO.out.below hb)
    have HB := hid (HB.out.trans (hb.mono HB.out.size))
    have HRE := hid hr'
    have hm2 := hr'.max
    clear hb hr' hc2
    generalize rhosOf eff = le at *
    go_wp2_with fail
    go_loopw [0, 6, 20] (fun u _ i wr => ∃ (k : Nat) (q : Option Addr) (m mc : Nat) (lk : List Int), k ≤ m2 ∧ i = .int .i64 k ∧ u = .slice q m mc ∧ IsRow encN 1 wr q m mc lk ∧ zs lk ∧ Below w2.heap.size w2 wr) (fun _ _ i _ => m2 - (intOf i).toNat)
    case atStart => exact ⟨0, _, _, _, _, by omega, rfl, rfl, HO.out, HZ.out, Below.refl _ _⟩
    case round =>
      obtain ⟨k, q, m, mc, lk, hk, rfl, rfl, hrow, hz, hb⟩ := hrel
      have HROW := hid hrow
      have HZK := hid hz
      have HBK := hid hb
      clear hrow hz hb
      have hml := HROW.out.len
      have hzl := zs_len HZK.out
      have hm : m ≤ 10000000 := by omega
      clear hml hzl
      by_cases hlt : k < m2
      · obtain ⟨x, hx⟩ := get_of_lt (l := le) (j := k) (by rw [HRE.out.len]; exact hlt)
        obtain ⟨b, o, rfl, d0⟩ := (HRE.out.below HBK.out).row.num hx
        have hx0 : x = 0 := HEF.out x (List.mem_of_getElem? hx)
        subst hx0
        clear hx
        go_wp2_with fail
        refine (ref_PutInt_any HROW.out hm 0).mono ?_
        rintro e w3 ⟨v, q', m', c', rfl, rfl, hr', hb⟩
        have HB1 := hid (HBK.out.trans (hb.mono HBK.out.size))
        have HR1 := hid hr'
        have HZ1 := hid (zs_put HZK.out)
        clear hb hr' d0
        go_wp2_with fail
        go_roundw
        case rel => exact ⟨k + 1, q', m', c', _, by omega, by go_num, rfl, HR1.out, HZ1.out, HB1.out⟩
        case measure => simp [intOf]; omega
      · have hkn : k = m2 := by omega
        subst hkn
        have HB := hid (HB.out.trans (HBK.out.mono HB.out.size))
        have hc3 := HC3.out wr HB.out
        have HO := hid HROW.out
        have HZ := hid HZK.out
        clear HROW HZK hlt hm
        go_wp2_with fail
        clear hc3
        go_loopw [0, 7, 33] (fun u _ i wr => ∃ (k : Nat) (q : Option Addr) (m mc : Nat) (lk : List Int), k ≤ kn ∧ i = .int .i64 k ∧ u = .slice q m mc ∧ IsRow encN 1 wr q m mc lk ∧ zs lk ∧ Below W.heap.size W wr) (fun _ _ i _ => kn - (intOf i).toNat)
        case atStart => exact ⟨0, _, _, _, _, by omega, rfl, rfl, HO.out, HZ.out, HB.out⟩
        case round =>
          obtain ⟨k, q, m, mc, lk, hk, rfl, rfl, hrow, hz, hb⟩ := hrel
          have HROW := hid hrow
          have HZK := hid hz
          have HBK := hid hb
          clear hrow hz hb
          have hc3 := HC3.out wr HBK.out
          by_cases hlt : k < kn
          · obtain ⟨x, hx⟩ := HNW.out.rowT.at (j := k) hlt
            have HE := hid hx
            obtain ⟨b, o, hbo, hbl, d0, d1, d2, d3⟩ := (HNW.out.rowT.below HBK.out).kid hx
            simp only at hbo
            subst hbo
            have HX := hid ((HNW.out.rowT.below HBK.out).lies hx)
            have hmem := List.mem_of_getElem? hx
            have HXG := hid (gathT_kid hmem HG.out)
            have HXE := hid (HEK.out x hmem)
            clear hx hbl hmem
            go_wp2_with fail
            refine (IH.out x (List.mem_of_getElem? HE.out) wr q m mc lk HX.out HROW.out HZK.out HXG.out HXE.out).mono ?_
            rintro e w1 ⟨v, q', m', c', l', rfl, rfl, hr', hz', hb⟩
            have HB1 := hid (HBK.out.trans (hb.mono HBK.out.size))
            have HR1 := hid hr'
            have HZ1 := hid hz'
            clear hb hr' hz' d0 d1 d2 d3 hc3
            go_wp2_with fail
            go_roundw
            case rel => exact ⟨k + 1, q', m', c', l', by omega, by go_num, rfl, HR1.out, HZ1.out, HB1.out⟩
            case measure => simp [intOf]; omega
          · have hkn : k = kn := by omega
            subst hkn
            go_wp2_with fail
            go_ret
            exact ⟨_, q, m, mc, lk, rfl, rfl, HROW.out, HZK.out, HBX.out.trans (HBK.out.mono HBX.out.size)⟩
set_option maxHeartbeats 1000000 in
theorem ref12_Rhos_any {w : World} (t : PT) (hl : LR.lies w t) (hg : ∀ z ∈ gathT t.er, z = 0) (he : effsOK t.er = true) :
    Calls Tryz.prog 15 #[aggR t.head] w fun e w' => ∃ v p' n' c' l', e = .returned v ∧ v = .slice p' n' c' ∧ IsRow encN 1 w' p' n' c' l' ∧ zs l' ∧ Below w.heap.size w w' := by
  obtain ⟨a, l, rfl⟩ : ∃ a l, t = Rose.node a l := ⟨t.head, t.kids, Rose.eta t⟩
  have HB := hid ((Below.refl w.heap.size w).alloc (Nat.le_refl _) (.cells #[.int .u8 a.kind, .int .i64 a.rho, .slice a.ep a.en a.ec, .slice a.kp a.kn a.kc] 28))
  have HL := hid (LR.lies_below HB.out _ hl)
  have HG := hid hg
  have HE := hid he
  have hbx := heap_new_at w #[.int .u8 a.kind, .int .i64 a.rho, .slice a.ep a.en a.ec, .slice a.kp a.kn a.kc] 28 _ rfl
  have HC : Hid _ := hbx
  show Calls _ _ #[aggR a] w _
  clear hl hg he hbx
  go_enter Tryz.func15, Tryz.ntmps15
  go_upto_region 1 with fail
  generalize w.alloc (.cells #[.int .u8 a.kind, .int .i64 a.rho, .slice a.ep a.en a.ec, .slice a.kp a.kn a.kc] 28) = W at *
  go_wp2_with (first
    | (refine wpList_load_row rfl 28 _ rfl w.heap.size rfl 28 _ (0, 0) _ (((((Below.refl W.heap.size W).alloc (Nat.le_refl _) (.cells #[] 3)).block _ (lt_heap HC.out)).trans HC.out)) Tryz.underlying28 rfl (by kernel_rfl) ?_)
    | (go_at_call 40; refine (ref12_rhos_any (.node a l) _ _ _ _ [] (LR.lies_below ((Below.refl _ _).alloc (Nat.le_refl _) _) _ HL.out) (isRow_lit _ _ _ _) (.inl rfl) HG.out HE.out).mono ?_; rintro e w1 ⟨v, q, m, c, l', rfl, rfl, hr, hz, hb⟩; have HR := hid hr; have HZ := hid hz; have HB := hid (HB.out.trans ((((Below.refl _ _).alloc (Nat.le_refl _) _).trans (hb.mono (by simp))).mono HB.out.size)); clear hr hz hb))
  go_ret
  exact ⟨_, q, m, c, l', rfl, rfl, HR.out, HZ.out, HB.out⟩
end
end Go.Proofs.YtkdjnegfnhldpaaGreatDoor
