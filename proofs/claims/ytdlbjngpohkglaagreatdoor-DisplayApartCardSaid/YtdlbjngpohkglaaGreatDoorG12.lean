/- Part 12 of the texts: Rt2. -/
import Derived.Test.YtdlbjngpohkglaaGreatDoorG11
section
set_option linter.unusedVariables false
set_option maxRecDepth 100000
set_option linter.unusedSimpArgs false
namespace Go.Proofs.YtdlbjngpohkglaaGreatDoor
open Go.RowKit

theorem mayB_iff : ∀ l : List Atom, mayB l = true ↔ MayTo l l.length
  | [] => by simp [mayB, MayTo]
  | [a] => by
    simp only [mayB, MayTo]
    constructor
    · intro h
      refine ⟨by simp [h], fun j x y hj => ?_⟩
      simp at hj
    · intro h
      have := h.1
      simpa using this
  | a :: b :: l => by
    have ih := mayB_iff (b :: l)
    simp only [mayB, Bool.and_eq_true, ih]
    constructor
    · rintro ⟨⟨h1, h2⟩, h3, h4⟩
      refine ⟨?_, fun j x y hj hx hy => ?_⟩
      · rw [take_full (Nat.le_refl _)] at h3 ⊢
        rw [List.all_cons, h1, h3]; rfl
      · cases j with
        | zero => simp at hx hy; subst hx; subst hy; exact h2
        | succ j => exact h4 j x y (by simpa using hj) (by simpa using hx) (by simpa using hy)
    · rintro ⟨h1, h2⟩
      rw [take_full (Nat.le_refl _), List.all_cons, Bool.and_eq_true] at h1
      refine ⟨⟨h1.1, h2 0 a b (by simp) rfl rfl⟩, ?_, fun j x y hj hx hy => h2 (j + 1) x y (by simpa using hj) (by simpa using hx) (by simpa using hy)⟩
      rw [take_full (Nat.le_refl _)]; exact h1.2
theorem ref_May11_is {p : Option Addr} {n cap : Nat} {l : List Atom} {w : World} {r : Bool} (h : mayB l = r) (hr : IsRow encA 3 w p n cap l) :
    Calls Tryz.prog 38 #[.slice p n cap] w fun e w' => e = .returned (.bool r) ∧ Below w.heap.size w w' := by
  refine (ref_May_any p n cap l w hr.len hr.max hr.row).mono ?_
  rintro e w' ⟨⟨r', rfl, hr'⟩, hb⟩
  have : r' = r := by rw [← h, Bool.eq_iff_iff, hr', mayB_iff, hr.len]
  subst this
  exact ⟨rfl, hb⟩
theorem eff_May_is {p : Option Addr} {n cap : Nat} {l : List Atom} {w : World} {r : Bool} (h : mayB l = r) (hr : IsRow encA 3 w p n cap l) :
    Calls Tryz.prog 73 #[.slice p n cap] w fun e w' => e = .returned (.bool r) ∧ Below w.heap.size w w' := by
  refine (effect_May_any p n cap l w hr.len hr.max hr.row).mono ?_
  rintro e w' ⟨⟨r', rfl, hr'⟩, hb⟩
  have : r' = r := by rw [← h, Bool.eq_iff_iff, hr', mayB_iff, hr.len]
  subst this
  exact ⟨rfl, hb⟩

/-- may a node alone be, that has n kids? -/
def nodeB (a : LH) (n : Nat) : Bool :=
  if a.kind = 1 then decide (a.rho = 0) && decide (a.eff = []) && decide (n = 0)
  else if a.kind = 2 then decide (0 ≤ a.rho) && decide (a.eff = []) && decide (n = 2)
  else if a.kind = 3 then decide (0 ≤ a.rho) && decide (a.eff = []) && decide (n = 1)
  else if a.kind = 4 then decide (0 ≤ a.rho) && mayB a.eff && decide (n = 2)
  else false
/-- may a type be? -/
def mayT : RT → Bool := Rose.all nodeB
theorem mayT_node (a : LH) (l : List RT) : mayT (.node a l) = (nodeB a l.length && l.all mayT) := Rose.all_node _ a l
theorem mayT_er (a : RH) (l : List PT) : mayT (PT.er (.node a l)) = (nodeB a.plain l.length && l.all (fun t => mayT (PT.er t))) := by
  rw [PT.er_node, mayT_node, List.length_map, List.all_map]; rfl

set_option maxHeartbeats 4000000 in
theorem ref_May12_any (t : PT) : ∀ w, LR.lies w t → Calls Tryz.prog 39 #[aggR t.head] w fun e w' => e = .returned (.bool (mayT t.er)) ∧ Below w.heap.size w w' := by
  refine Rose.ind (P := fun (t : PT) => ∀ w, LR.lies w t → Calls Tryz.prog 39 #[aggR t.head] w fun e w' => e = .returned (.bool (mayT t.er)) ∧ Below w.heap.size w w') (fun a l ih => ?_) t
  intro w hl
  have HN := Lib.hid (nodeIn hl)
  have IH := Lib.hid ih
  have hkm := HN.out.own.kmax
  have hem := HN.out.own.eff.max
  have HBX := Lib.hid ((Below.refl w.heap.size w).alloc (Nat.le_refl _) (.cells #[.int .u8 a.kind, .int .i64 a.rho, .slice a.ep a.en a.ec, .slice a.kp a.kn a.kc] 28))
  show Calls _ _ #[aggR a] w _
  clear hl ih
  obtain ⟨kd, rr, ep, en, ec, eff, kp, kn, kc⟩ := a
  simp only at hkm hem
  have hlk : l.length = kn := HN.out.kids.len
  have hle : eff.length = en := HN.out.own.eff.len
  have HC3 : Hid (∀ w1, Below w.heap.size (w.alloc (.cells #[.int .u8 kd, .int .i64 rr, .slice ep en ec, .slice kp kn kc] 28)) w1 → True) := fun _ _ => trivial
  clear HC3
  have hnil : en = 0 → eff = [] := fun h => List.length_eq_zero_iff.1 (by omega)
  have hne : 0 < en → eff ≠ [] := fun h e => by rw [e] at hle; simp at hle; omega
  by_cases h1 : kd = 1
  · subst h1
    by_cases hk : kn = 0
    · subst hk
      rcases (by omega : rr < 0 ∨ 0 < rr ∨ rr = 0) with hr | hr | hr
      · have hz : ¬ rr = 0 := by omega
        have HF : Hid (mayT (PT.er (.node ⟨1, rr, ep, en, ec, eff, kp, 0, kc⟩ l)) = false) := by show _ = _; rw [mayT_er]; simp [nodeB, RH.plain, hz]
        clear hz
        go_enter Tryz.func39, Tryz.ntmps39
        go_wp2_with fail
        go_ret
        exact ⟨ret_bool HF.out.symm, HBX.out⟩
      · have hz : ¬ rr = 0 := by omega
        have HF : Hid (mayT (PT.er (.node ⟨1, rr, ep, en, ec, eff, kp, 0, kc⟩ l)) = false) := by show _ = _; rw [mayT_er]; simp [nodeB, RH.plain, hz]
        clear hz
        go_enter Tryz.func39, Tryz.ntmps39
        go_wp2_with fail
        go_ret
        exact ⟨ret_bool HF.out.symm, HBX.out⟩
      · subst hr
        by_cases he : en = 0
        · subst he
          obtain rfl := hnil rfl
          have HMB : Hid (mayB [] = true) := rfl
          have HNB : Hid (nodeB (RH.plain ⟨1, 0, ep, 0, ec, [], kp, 0, kc⟩) l.length = true) := by show _ = _; rw [hlk]; simp [nodeB, RH.plain]
          clear hnil hne hlk hle
          go_enter Tryz.func39, Tryz.ntmps39
          go_wp2_with fail
          refine (ref_May11_is HMB.out (HN.out.alloc _).own.eff).mono ?_
          rintro e w1 ⟨rfl, hb⟩
          have HB1 := Lib.hid (HBX.out.trans (hb.mono HBX.out.size))
          have HNW := Lib.hid ((HN.out.alloc _).below hb)
          have hc3 : w1.cell? ⟨w.heap.size, 3, none⟩ = some (.slice kp 0 kc) := by rw [hb.cell (by simp), cell_new]; rfl
          have HC3 : Hid (∀ wr, Below w1.heap.size w1 wr → wr.cell? ⟨w.heap.size, 3, none⟩ = some (.slice kp 0 kc)) := fun wr h => by rw [h.cell (cell_block hc3)]; exact hc3
          clear hb
          go_wp2_with fail
          clear hc3
          go_loopw [4, 66] (fun _ i wr => ∃ (k : Nat), k ≤ 0 ∧ i = .int .i64 k ∧ (l.take k).all (fun t => mayT (PT.er t)) = true ∧ Below w1.heap.size w1 wr) (fun _ i _ => 0 - (intOf i).toNat)
          case atStart => exact ⟨0, by omega, rfl, by simp, Below.refl _ _⟩
          case round =>
            obtain ⟨k, hk, rfl, hno, hb⟩ := hrel
            have HNO := Lib.hid hno
            have HB := Lib.hid hb
            clear hno hb
            have hc3 := HC3.out wr HB.out
            by_cases hlt : k < 0
            · omega
            · have hkn : k = 0 := by omega
              have HT : Hid (mayT (PT.er (.node ⟨1, 0, ep, 0, ec, [], kp, 0, kc⟩ l)) = true) := by
                show _ = _
                have h := HNO.out
                rw [take_full (by have := HNW.out.kids.len; simp only at this; omega)] at h
                rw [mayT_er, HNB.out, h]; rfl
              go_wp2_with fail
              go_ret
              exact ⟨ret_bool HT.out.symm, HB1.out.trans (HB.out.mono HB1.out.size)⟩
        · have hpos : 0 < en := by omega
          have hne' := hne hpos
          have HF : Hid (mayT (PT.er (.node ⟨1, 0, ep, en, ec, eff, kp, 0, kc⟩ l)) = false) := by show _ = _; rw [mayT_er]; simp [nodeB, RH.plain, hne']
          clear hne' hne hnil
          go_enter Tryz.func39, Tryz.ntmps39
          go_wp2_with fail
          go_ret
          exact ⟨ret_bool HF.out.symm, HBX.out⟩
    · have hb : ((kn : Int) != 0) = true := by rw [bne_iff_ne]; omega
      have HF : Hid (mayT (PT.er (.node ⟨1, rr, ep, en, ec, eff, kp, kn, kc⟩ l)) = false) := by show _ = _; rw [mayT_er]; simp [nodeB, RH.plain, hlk, hle]; try omega
      go_enter Tryz.func39, Tryz.ntmps39
      go_wp2_with fail
      go_ret
      exact ⟨ret_bool HF.out.symm, HBX.out⟩
  by_cases h2 : kd = 2
  · subst h2
    by_cases hk : kn = 2
    · subst hk
      by_cases hr : rr < 0
      · have hz : ¬ 0 ≤ rr := by omega
        have HF : Hid (mayT (PT.er (.node ⟨2, rr, ep, en, ec, eff, kp, 2, kc⟩ l)) = false) := by show _ = _; rw [mayT_er]; simp [nodeB, RH.plain, hz]
        clear hz
        go_enter Tryz.func39, Tryz.ntmps39
        go_wp2_with fail
        go_ret
        exact ⟨ret_bool HF.out.symm, HBX.out⟩
      · have hr0 : 0 ≤ rr := by omega
        by_cases he : en = 0
        · subst he
          obtain rfl := hnil rfl
          have HMB : Hid (mayB [] = true) := rfl
          have HNB : Hid (nodeB (RH.plain ⟨2, rr, ep, 0, ec, [], kp, 2, kc⟩) l.length = true) := by show _ = _; rw [hlk]; simp [nodeB, RH.plain, hr0]
          clear hnil hne hlk hle
          go_enter Tryz.func39, Tryz.ntmps39
          go_wp2_with fail
          refine (ref_May11_is HMB.out (HN.out.alloc _).own.eff).mono ?_
          rintro e w1 ⟨rfl, hb⟩
          have HB1 := Lib.hid (HBX.out.trans (hb.mono HBX.out.size))
          have HNW := Lib.hid ((HN.out.alloc _).below hb)
          have hc3 : w1.cell? ⟨w.heap.size, 3, none⟩ = some (.slice kp 2 kc) := by rw [hb.cell (by simp), cell_new]; rfl
          have HC3 : Hid (∀ wr, Below w1.heap.size w1 wr → wr.cell? ⟨w.heap.size, 3, none⟩ = some (.slice kp 2 kc)) := fun wr h => by rw [h.cell (cell_block hc3)]; exact hc3
          clear hb
          go_wp2_with fail
          clear hc3
          go_loopw [4, 66] (fun _ i wr => ∃ (k : Nat), k ≤ 2 ∧ i = .int .i64 k ∧ (l.take k).all (fun t => mayT (PT.er t)) = true ∧ Below w1.heap.size w1 wr) (fun _ i _ => 2 - (intOf i).toNat)
          case atStart => exact ⟨0, by omega, rfl, by simp, Below.refl _ _⟩
          case round =>
            obtain ⟨k, hk, rfl, hno, hb⟩ := hrel
            have HNO := Lib.hid hno
            have HB := Lib.hid hb
            clear hno hb
            have hc3 := HC3.out wr HB.out
            by_cases hlt : k < 2
            · obtain ⟨x, hx⟩ := (HNW.out.rowT).at (j := k) hlt
              have HE := Lib.hid hx
              obtain ⟨b, o, hbo, hbl, d0, d1, d2, d3⟩ := (HNW.out.rowT.below HB.out).kid hx
              have HX := Lib.hid ((HNW.out.rowT.below HB.out).lies hx)
              simp only at hbo
              subst hbo
              clear hx hbl
              cases hq : mayT (PT.er x)
              · have HQ := Lib.hid hq
                have HF : Hid (mayT (PT.er (.node ⟨2, rr, ep, 0, ec, [], some ⟨b, o, none⟩, 2, kc⟩ l)) = false) := by show _ = _; rw [mayT_er, all_get HE.out hq, Bool.and_false]
                clear hq
                go_wp2_with fail
                refine (IH.out x (List.mem_of_getElem? HE.out) wr HX.out).mono ?_
                rintro e w2 ⟨rfl, hb⟩
                have HB2 := Lib.hid (HB1.out.trans ((HB.out.trans (hb.mono HB.out.size)).mono HB1.out.size))
                rw [HQ.out]
                clear hb d0 d1 d2 d3 hc3
                go_wp2_with fail
                go_ret
                exact ⟨ret_bool HF.out.symm, HB2.out⟩
              · have HQ := Lib.hid hq
                clear hq
                go_wp2_with fail
                refine (IH.out x (List.mem_of_getElem? HE.out) wr HX.out).mono ?_
                rintro e w2 ⟨rfl, hb⟩
                have HB2 := Lib.hid (HB.out.trans (hb.mono HB.out.size))
                rw [HQ.out]
                clear hb d0 d1 d2 d3 hc3
                go_wp2_with fail
                go_roundw
                case rel => exact ⟨k + 1, by omega, by go_num, by rw [all_take_get HE.out, HNO.out, HQ.out]; rfl, HB2.out⟩
                case measure => simp [intOf]; omega
            · have hkn : k = 2 := by omega
              have HT : Hid (mayT (PT.er (.node ⟨2, rr, ep, 0, ec, [], kp, 2, kc⟩ l)) = true) := by
                show _ = _
                have h := HNO.out
                rw [take_full (by have := HNW.out.kids.len; simp only at this; omega)] at h
                rw [mayT_er, HNB.out, h]; rfl
              go_wp2_with fail
              go_ret
              exact ⟨ret_bool HT.out.symm, HB1.out.trans (HB.out.mono HB1.out.size)⟩
        · have hpos : 0 < en := by omega
          have hne' := hne hpos
          have HF : Hid (mayT (PT.er (.node ⟨2, rr, ep, en, ec, eff, kp, 2, kc⟩ l)) = false) := by show _ = _; rw [mayT_er]; simp [nodeB, RH.plain, hne']
          clear hne' hne hnil
          go_enter Tryz.func39, Tryz.ntmps39
          go_wp2_with fail
          go_ret
          exact ⟨ret_bool HF.out.symm, HBX.out⟩
    · have hb : ((kn : Int) != 2) = true := by rw [bne_iff_ne]; omega
      have HF : Hid (mayT (PT.er (.node ⟨2, rr, ep, en, ec, eff, kp, kn, kc⟩ l)) = false) := by show _ = _; rw [mayT_er]; simp [nodeB, RH.plain, hlk, hle]; try omega
      go_enter Tryz.func39, Tryz.ntmps39
      go_wp2_with fail
      go_ret
      exact ⟨ret_bool HF.out.symm, HBX.out⟩
  by_cases h3 : kd = 3
  · subst h3
    by_cases hk : kn = 1
    · subst hk
      by_cases hr : rr < 0
      · have hz : ¬ 0 ≤ rr := by omega
        have HF : Hid (mayT (PT.er (.node ⟨3, rr, ep, en, ec, eff, kp, 1, kc⟩ l)) = false) := by show _ = _; rw [mayT_er]; simp [nodeB, RH.plain, hz]
        clear hz
        go_enter Tryz.func39, Tryz.ntmps39
        go_wp2_with fail
        go_ret
        exact ⟨ret_bool HF.out.symm, HBX.out⟩
      · have hr0 : 0 ≤ rr := by omega
        by_cases he : en = 0
        · subst he
          obtain rfl := hnil rfl
          have HMB : Hid (mayB [] = true) := rfl
          have HNB : Hid (nodeB (RH.plain ⟨3, rr, ep, 0, ec, [], kp, 1, kc⟩) l.length = true) := by show _ = _; rw [hlk]; simp [nodeB, RH.plain, hr0]
          clear hnil hne hlk hle
          go_enter Tryz.func39, Tryz.ntmps39
          go_wp2_with fail
          refine (ref_May11_is HMB.out (HN.out.alloc _).own.eff).mono ?_
          rintro e w1 ⟨rfl, hb⟩
          have HB1 := Lib.hid (HBX.out.trans (hb.mono HBX.out.size))
          have HNW := Lib.hid ((HN.out.alloc _).below hb)
          have hc3 : w1.cell? ⟨w.heap.size, 3, none⟩ = some (.slice kp 1 kc) := by rw [hb.cell (by simp), cell_new]; rfl
          have HC3 : Hid (∀ wr, Below w1.heap.size w1 wr → wr.cell? ⟨w.heap.size, 3, none⟩ = some (.slice kp 1 kc)) := fun wr h => by rw [h.cell (cell_block hc3)]; exact hc3
          clear hb
          go_wp2_with fail
          clear hc3
          go_loopw [4, 66] (fun _ i wr => ∃ (k : Nat), k ≤ 1 ∧ i = .int .i64 k ∧ (l.take k).all (fun t => mayT (PT.er t)) = true ∧ Below w1.heap.size w1 wr) (fun _ i _ => 1 - (intOf i).toNat)
          case atStart => exact ⟨0, by omega, rfl, by simp, Below.refl _ _⟩
          case round =>
            obtain ⟨k, hk, rfl, hno, hb⟩ := hrel
            have HNO := Lib.hid hno
            have HB := Lib.hid hb
            clear hno hb
            have hc3 := HC3.out wr HB.out
            by_cases hlt : k < 1
            · obtain ⟨x, hx⟩ := (HNW.out.rowT).at (j := k) hlt
              have HE := Lib.hid hx
              obtain ⟨b, o, hbo, hbl, d0, d1, d2, d3⟩ := (HNW.out.rowT.below HB.out).kid hx
              have HX := Lib.hid ((HNW.out.rowT.below HB.out).lies hx)
              simp only at hbo
              subst hbo
              clear hx hbl
              cases hq : mayT (PT.er x)
              · have HQ := Lib.hid hq
                have HF : Hid (mayT (PT.er (.node ⟨3, rr, ep, 0, ec, [], some ⟨b, o, none⟩, 1, kc⟩ l)) = false) := by show _ = _; rw [mayT_er, all_get HE.out hq, Bool.and_false]
                clear hq
                go_wp2_with fail
                refine (IH.out x (List.mem_of_getElem? HE.out) wr HX.out).mono ?_
                rintro e w2 ⟨rfl, hb⟩
                have HB2 := Lib.hid (HB1.out.trans ((HB.out.trans (hb.mono HB.out.size)).mono HB1.out.size))
                rw [HQ.out]
                clear hb d0 d1 d2 d3 hc3
                go_wp2_with fail
                go_ret
                exact ⟨ret_bool HF.out.symm, HB2.out⟩
              · have HQ := Lib.hid hq
                clear hq
                go_wp2_with fail
                refine (IH.out x (List.mem_of_getElem? HE.out) wr HX.out).mono ?_
                rintro e w2 ⟨rfl, hb⟩
                have HB2 := Lib.hid (HB.out.trans (hb.mono HB.out.size))
                rw [HQ.out]
                clear hb d0 d1 d2 d3 hc3
                go_wp2_with fail
                go_roundw
                case rel => exact ⟨k + 1, by omega, by go_num, by rw [all_take_get HE.out, HNO.out, HQ.out]; rfl, HB2.out⟩
                case measure => simp [intOf]; omega
            · have hkn : k = 1 := by omega
              have HT : Hid (mayT (PT.er (.node ⟨3, rr, ep, 0, ec, [], kp, 1, kc⟩ l)) = true) := by
                show _ = _
                have h := HNO.out
                rw [take_full (by have := HNW.out.kids.len; simp only at this; omega)] at h
                rw [mayT_er, HNB.out, h]; rfl
              go_wp2_with fail
              go_ret
              exact ⟨ret_bool HT.out.symm, HB1.out.trans (HB.out.mono HB1.out.size)⟩
        · have hpos : 0 < en := by omega
          have hne' := hne hpos
          have HF : Hid (mayT (PT.er (.node ⟨3, rr, ep, en, ec, eff, kp, 1, kc⟩ l)) = false) := by show _ = _; rw [mayT_er]; simp [nodeB, RH.plain, hne']
          clear hne' hne hnil
          go_enter Tryz.func39, Tryz.ntmps39
          go_wp2_with fail
          go_ret
          exact ⟨ret_bool HF.out.symm, HBX.out⟩
    · have hb : ((kn : Int) != 1) = true := by rw [bne_iff_ne]; omega
      have HF : Hid (mayT (PT.er (.node ⟨3, rr, ep, en, ec, eff, kp, kn, kc⟩ l)) = false) := by show _ = _; rw [mayT_er]; simp [nodeB, RH.plain, hlk, hle]; try omega
      go_enter Tryz.func39, Tryz.ntmps39
      go_wp2_with fail
      go_ret
      exact ⟨ret_bool HF.out.symm, HBX.out⟩
  by_cases h4 : kd = 4
  · subst h4
    by_cases hk : kn = 2
    · subst hk
      by_cases hr : rr < 0
      · have hz : ¬ 0 ≤ rr := by omega
        have HF : Hid (mayT (PT.er (.node ⟨4, rr, ep, en, ec, eff, kp, 2, kc⟩ l)) = false) := by show _ = _; rw [mayT_er]; simp [nodeB, RH.plain, hz]
        clear hz
        go_enter Tryz.func39, Tryz.ntmps39
        go_wp2_with fail
        go_ret
        exact ⟨ret_bool HF.out.symm, HBX.out⟩
      · have hr0 : 0 ≤ rr := by omega
        cases hm : mayB eff
        · have HF : Hid (mayT (PT.er (.node ⟨4, rr, ep, en, ec, eff, kp, 2, kc⟩ l)) = false) := by show _ = _; rw [mayT_er]; simp [nodeB, RH.plain, hm]
          have HMB := Lib.hid hm
          clear hm
          go_enter Tryz.func39, Tryz.ntmps39
          go_wp2_with fail
          refine (ref_May11_is HMB.out (HN.out.alloc _).own.eff).mono ?_
          rintro e w1 ⟨rfl, hb⟩
          have HB1 := Lib.hid (HBX.out.trans (hb.mono HBX.out.size))
          clear hb
          go_wp2_with fail
          go_ret
          exact ⟨ret_bool HF.out.symm, HB1.out⟩
        · have HMB := Lib.hid hm
          have HNB : Hid (nodeB (RH.plain ⟨4, rr, ep, en, ec, eff, kp, 2, kc⟩) l.length = true) := by show _ = _; rw [hlk]; simp [nodeB, RH.plain, hr0, hm]
          clear hm
          clear hnil hne hlk hle
          go_enter Tryz.func39, Tryz.ntmps39
          go_wp2_with fail
          refine (ref_May11_is HMB.out (HN.out.alloc _).own.eff).mono ?_
          rintro e w1 ⟨rfl, hb⟩
          have HB1 := Lib.hid (HBX.out.trans (hb.mono HBX.out.size))
          have HNW := Lib.hid ((HN.out.alloc _).below hb)
          have hc3 : w1.cell? ⟨w.heap.size, 3, none⟩ = some (.slice kp 2 kc) := by rw [hb.cell (by simp), cell_new]; rfl
          have HC3 : Hid (∀ wr, Below w1.heap.size w1 wr → wr.cell? ⟨w.heap.size, 3, none⟩ = some (.slice kp 2 kc)) := fun wr h => by rw [h.cell (cell_block hc3)]; exact hc3
          clear hb
          go_wp2_with fail
          clear hc3
          go_loopw [4, 66] (fun _ i wr => ∃ (k : Nat), k ≤ 2 ∧ i = .int .i64 k ∧ (l.take k).all (fun t => mayT (PT.er t)) = true ∧ Below w1.heap.size w1 wr) (fun _ i _ => 2 - (intOf i).toNat)
          case atStart => exact ⟨0, by omega, rfl, by simp, Below.refl _ _⟩
          case round =>
            obtain ⟨k, hk, rfl, hno, hb⟩ := hrel
            have HNO := Lib.hid hno
            have HB := Lib.hid hb
            clear hno hb
            have hc3 := HC3.out wr HB.out
            by_cases hlt : k < 2
            · obtain ⟨x, hx⟩ := (HNW.out.rowT).at (j := k) hlt
              have HE := Lib.hid hx
              obtain ⟨b, o, hbo, hbl, d0, d1, d2, d3⟩ := (HNW.out.rowT.below HB.out).kid hx
              have HX := Lib.hid ((HNW.out.rowT.below HB.out).lies hx)
              simp only at hbo
              subst hbo
              clear hx hbl
              cases hq : mayT (PT.er x)
              · have HQ := Lib.hid hq
                have HF : Hid (mayT (PT.er (.node ⟨4, rr, ep, en, ec, eff, some ⟨b, o, none⟩, 2, kc⟩ l)) = false) := by show _ = _; rw [mayT_er, all_get HE.out hq, Bool.and_false]
                clear hq
                go_wp2_with fail
                refine (IH.out x (List.mem_of_getElem? HE.out) wr HX.out).mono ?_
                rintro e w2 ⟨rfl, hb⟩
                have HB2 := Lib.hid (HB1.out.trans ((HB.out.trans (hb.mono HB.out.size)).mono HB1.out.size))
                rw [HQ.out]
                clear hb d0 d1 d2 d3 hc3
                go_wp2_with fail
                go_ret
                exact ⟨ret_bool HF.out.symm, HB2.out⟩
              · have HQ := Lib.hid hq
                clear hq
                go_wp2_with fail
                refine (IH.out x (List.mem_of_getElem? HE.out) wr HX.out).mono ?_
                rintro e w2 ⟨rfl, hb⟩
                have HB2 := Lib.hid (HB.out.trans (hb.mono HB.out.size))
                rw [HQ.out]
                clear hb d0 d1 d2 d3 hc3
                go_wp2_with fail
                go_roundw
                case rel => exact ⟨k + 1, by omega, by go_num, by rw [all_take_get HE.out, HNO.out, HQ.out]; rfl, HB2.out⟩
                case measure => simp [intOf]; omega
            · have hkn : k = 2 := by omega
              have HT : Hid (mayT (PT.er (.node ⟨4, rr, ep, en, ec, eff, kp, 2, kc⟩ l)) = true) := by
                show _ = _
                have h := HNO.out
                rw [take_full (by have := HNW.out.kids.len; simp only at this; omega)] at h
                rw [mayT_er, HNB.out, h]; rfl
              go_wp2_with fail
              go_ret
              exact ⟨ret_bool HT.out.symm, HB1.out.trans (HB.out.mono HB1.out.size)⟩
    · have hb : ((kn : Int) != 2) = true := by rw [bne_iff_ne]; omega
      have HF : Hid (mayT (PT.er (.node ⟨4, rr, ep, en, ec, eff, kp, kn, kc⟩ l)) = false) := by show _ = _; rw [mayT_er]; simp [nodeB, RH.plain, hlk, hle]; try omega
      go_enter Tryz.func39, Tryz.ntmps39
      go_wp2_with fail
      go_ret
      exact ⟨ret_bool HF.out.symm, HBX.out⟩
  · have h0 := HN.out.own.k0
    simp only at h0
    have b2 : (kd == 2) = false := by rw [beq_eq_false_iff_ne]; exact h2
    have b3 : (kd == 3) = false := by rw [beq_eq_false_iff_ne]; exact h3
    have b4 : (kd == 4) = false := by rw [beq_eq_false_iff_ne]; exact h4
    have HF : Hid (mayT (PT.er (.node ⟨kd, rr, ep, en, ec, eff, kp, kn, kc⟩ l)) = false) := by show _ = _; rw [mayT_er]; simp [nodeB, RH.plain, h1, h2, h3, h4]
    rcases (by omega : kd < 1 ∨ 4 < kd) with hr | hr
    all_goals
      clear h1 h2 h3 h4
      go_enter Tryz.func39, Tryz.ntmps39
      go_wp2_with fail
      go_ret
      exact ⟨ret_bool HF.out.symm, HBX.out⟩
end Go.Proofs.YtdlbjngpohkglaaGreatDoor
end
