/- Part 13 of the texts: Rt3, Dig, Tab, Rt4. -/
import Derived.Test.YtdlbjngpohkglaaGreatDoorG12
import Derived.Test.YtdlbjngpohkglaaGreatDoorG06
import Derived.Test.YtdlbjngpohkglaaGreatDoorG08
import Derived.WalkSmall
import Derived.Lib.ItoaLen
import Derived.Lib.ItoaMem
import Derived.Lib.LaidTab
import Derived.Test.YtdlbjngpohkglaaGreatDoorRows
import Derived.LaidLaws
import Derived.Stop.LaidErr
import Derived.Test.YtdlbjngpohkglaaGreatDoorG11
section
set_option linter.unusedVariables false
set_option maxRecDepth 100000
set_option linter.unusedSimpArgs false
namespace Go.Proofs.YtdlbjngpohkglaaGreatDoor
open Go.RowKit

/-- The predicate answers q, in every world behind w. -/
def PredT (fid : FuncId) (caps : Array Value) (w : World) (l : List PT) (q : PT → Bool) : Prop :=
  ∀ x ∈ l, ∀ W, Below w.heap.size w W → Calls Tryz.prog fid (#[aggR x.head] ++ caps) W fun e w' => e = .returned (.bool (q x)) ∧ Below W.heap.size W w'
theorem PredT.is {fid : FuncId} {caps : Array Value} {w : World} {l : List PT} {q : PT → Bool} (h : PredT fid caps w l q) {x : PT} (hx : x ∈ l) {r : Bool} (hq : q x = r) {W : World} (hb : Below w.heap.size w W) :
    Calls Tryz.prog fid (#[aggR x.head] ++ caps) W fun e w' => e = .returned (.bool r) ∧ Below W.heap.size W w' := by subst hq; exact h x hx W hb

set_option maxHeartbeats 400000 in
theorem t_indexFunc_any (fid : FuncId) (caps : Array Value) (q : PT → Bool) (hent : Enters fid) {p : Option Addr} {n cap : Nat} {l : List PT} {w : World} (hr : RowT w p n cap l) (hf : PredT fid caps w l q) :
    Calls Tryz.prog 139 #[.slice p n cap, .func (.func fid) #[] caps] w fun e w' =>
      (∃ r : Int, e = .returned (.int .i64 r) ∧ IdxOf q l r) ∧ Below w.heap.size w w' := by
  unfold Enters at hent
  have hm := hr.row.max
  have HR := Lib.hid hr
  have HF := Lib.hid hf
  clear hr hf
  go_enter Tryz.func139, Tryz.ntmps139
  go_wp2_with fail
  go_loopw [5, 8] (fun _ i wr => ∃ k : Nat, k ≤ n ∧ i = .int .i64 k ∧ (l.take k).any q = false ∧ Below w.heap.size w wr) (fun _ i _ => n - (intOf i).toNat)
  case atStart => exact ⟨0, by omega, rfl, by simp, Below.refl _ _⟩
  case round =>
    obtain ⟨k, hk, rfl, hno, hb⟩ := hrel
    have HNO := Lib.hid hno
    have HB := Lib.hid hb
    clear hno hb
    by_cases hlt : k < n
    · obtain ⟨x, hx⟩ := HR.out.at (j := k) hlt
      have HE := Lib.hid hx
      obtain ⟨b, o, rfl, hbl, d0, d1, d2, d3⟩ := (HR.out.below HB.out).kid hx
      clear hx hbl
      cases hq : q x
      · have HQ := Lib.hid hq
        clear hq
        go_wp2_with fail
        refine (HF.out.is (List.mem_of_getElem? HE.out) HQ.out HB.out).mono ?_
        rintro e w1 ⟨rfl, hb⟩
        have HB1 := Lib.hid (HB.out.trans (hb.mono HB.out.size))
        clear hb
        clear d0 d1 d2 d3
        go_wp2_with fail
        go_roundw
        case rel => exact ⟨k + 1, by omega, by go_num, by rw [any_take_get HE.out, HNO.out, HQ.out]; rfl, HB1.out⟩
        case measure => simp [intOf]; omega
      · have HQ := Lib.hid hq
        clear hq
        go_wp2_with fail
        refine (HF.out.is (List.mem_of_getElem? HE.out) HQ.out HB.out).mono ?_
        rintro e w1 ⟨rfl, hb⟩
        have HB1 := Lib.hid (HB.out.trans (hb.mono HB.out.size))
        clear hb
        clear d0 d1 d2 d3
        go_wp2_with fail
        go_ret
        exact ⟨⟨k, rfl, .inr ⟨k, x, rfl, HE.out, HQ.out, HNO.out⟩⟩, HB1.out⟩
    · go_wp2_with fail
      go_ret
      have h := HNO.out
      rw [take_full (by rw [HR.out.row.len]; omega)] at h
      exact ⟨⟨-1, rfl, .inl ⟨rfl, h⟩⟩, HB.out⟩
theorem t_containsFunc_any (fid : FuncId) (caps : Array Value) (q : PT → Bool) (hent : Enters fid) {p : Option Addr} {n cap : Nat} {l : List PT} {w : World} (hr : RowT w p n cap l) (hf : PredT fid caps w l q) :
    Calls Tryz.prog 113 #[.slice p n cap, .func (.func fid) #[] caps] w fun e w' => e = .returned (.bool (l.any q)) ∧ Below w.heap.size w w' := by
  have hc : Calls Tryz.prog 139 #[.slice p n cap, .func (.func fid) #[] caps] w fun e w' =>
      (∃ r : Int, e = .returned (.int .i64 r) ∧ l.any q = decide (0 ≤ r)) ∧ Below w.heap.size w w' :=
    (t_indexFunc_any fid caps q hent hr hf).mono fun _ _ ⟨⟨r, he, hr⟩, hb⟩ => ⟨⟨r, he, hr.any⟩, hb⟩
  generalize l.any q = r at hc ⊢
  clear hr hf hent
  go_enter Tryz.func113, Tryz.ntmps113
  go_wp2_with fail
  refine hc.mono ?_
  rintro e w1 ⟨⟨r, rfl, hr⟩, hb⟩
  have HR := Lib.hid hr
  have HB := Lib.hid hb
  clear hr hb hc
  go_wp2_with fail
  go_ret
  exact ⟨ret_bool HR.out.symm, HB.out⟩

set_option maxHeartbeats 4000000 in
theorem rtype_node_any {a : RH} {w : World} (ho : RH.Own w a) : Calls Tryz.prog 115 #[aggR a] w fun e w' => e = .returned (.bool (nodeB a.plain a.kn)) ∧ Below w.heap.size w w' := by
  have HBX := Lib.hid ((Below.refl w.heap.size w).alloc (Nat.le_refl _) (.cells #[.int .u8 a.kind, .int .i64 a.rho, .slice a.ep a.en a.ec, .slice a.kp a.kn a.kc] 28))
  have hkm := ho.kmax
  have hem := ho.eff.max
  have HO := Lib.hid ho
  obtain ⟨kd, rr, ep, en, ec, eff, kp, kn, kc⟩ := a
  simp only at hkm hem
  have hle : eff.length = en := ho.eff.len
  have hnil : en = 0 → eff = [] := fun h => List.length_eq_zero_iff.1 (by omega)
  have hne : 0 < en → eff ≠ [] := fun h e => by rw [e] at hle; simp at hle; omega
  clear ho hle
  by_cases h1 : kd = 1
  · subst h1
    by_cases hr : rr = 0
    · subst hr
      by_cases he : en = 0
      · subst he
        obtain rfl := hnil rfl
        by_cases hk : kn = 0
        · subst hk
          have HF : Hid (nodeB (RH.plain ⟨1, 0, ep, 0, ec, [], kp, 0, kc⟩) 0 = true) := by show _ = _; simp [nodeB, RH.plain]
          clear hne hnil
          go_enter Tryz.func115, Tryz.ntmps115
          go_wp2_with fail
          go_ret
          exact ⟨ret_bool HF.out.symm, HBX.out⟩
        · have hb : ((kn : Int) == 0) = false := by rw [beq_eq_false_iff_ne]; omega
          have HF : Hid (nodeB (RH.plain ⟨1, 0, ep, 0, ec, [], kp, kn, kc⟩) kn = false) := by show _ = _; simp [nodeB, RH.plain, hk]
          clear hne hnil hk
          go_enter Tryz.func115, Tryz.ntmps115
          go_wp2_with fail
          go_ret
          exact ⟨ret_bool HF.out.symm, HBX.out⟩
      · have hb : ((en : Int) == 0) = false := by rw [beq_eq_false_iff_ne]; omega
        have hne' := hne (by omega)
        have HF : Hid (nodeB (RH.plain ⟨1, 0, ep, en, ec, eff, kp, kn, kc⟩) kn = false) := by show _ = _; simp [nodeB, RH.plain, hne']
        clear hne hnil hne' he
        go_enter Tryz.func115, Tryz.ntmps115
        go_wp2_with fail
        go_ret
        exact ⟨ret_bool HF.out.symm, HBX.out⟩
    · have hb : (rr == 0) = false := by rw [beq_eq_false_iff_ne]; exact hr
      have HF : Hid (nodeB (RH.plain ⟨1, rr, ep, en, ec, eff, kp, kn, kc⟩) kn = false) := by show _ = _; simp [nodeB, RH.plain, hr]
      clear hne hnil hr
      go_enter Tryz.func115, Tryz.ntmps115
      go_wp2_with fail
      go_ret
      exact ⟨ret_bool HF.out.symm, HBX.out⟩
  by_cases h2 : kd = 2
  · subst h2
    by_cases hr : 0 ≤ rr
    · by_cases he : en = 0
      · subst he
        obtain rfl := hnil rfl
        by_cases hk : kn = 2
        · subst hk
          have HF : Hid (nodeB (RH.plain ⟨2, rr, ep, 0, ec, [], kp, 2, kc⟩) 2 = true) := by show _ = _; simp [nodeB, RH.plain, hr]
          clear hne hnil
          go_enter Tryz.func115, Tryz.ntmps115
          go_wp2_with fail
          go_ret
          exact ⟨ret_bool HF.out.symm, HBX.out⟩
        · have hb : ((kn : Int) == 2) = false := by rw [beq_eq_false_iff_ne]; omega
          have HF : Hid (nodeB (RH.plain ⟨2, rr, ep, 0, ec, [], kp, kn, kc⟩) kn = false) := by show _ = _; simp [nodeB, RH.plain, hk]
          clear hne hnil hk
          go_enter Tryz.func115, Tryz.ntmps115
          go_wp2_with fail
          go_ret
          exact ⟨ret_bool HF.out.symm, HBX.out⟩
      · have hb : ((en : Int) == 0) = false := by rw [beq_eq_false_iff_ne]; omega
        have hne' := hne (by omega)
        have HF : Hid (nodeB (RH.plain ⟨2, rr, ep, en, ec, eff, kp, kn, kc⟩) kn = false) := by show _ = _; simp [nodeB, RH.plain, hne']
        clear hne hnil hne' he
        go_enter Tryz.func115, Tryz.ntmps115
        go_wp2_with fail
        go_ret
        exact ⟨ret_bool HF.out.symm, HBX.out⟩
    · have HF : Hid (nodeB (RH.plain ⟨2, rr, ep, en, ec, eff, kp, kn, kc⟩) kn = false) := by show _ = _; simp [nodeB, RH.plain, hr]
      clear hne hnil
      go_enter Tryz.func115, Tryz.ntmps115
      go_wp2_with fail
      go_ret
      exact ⟨ret_bool HF.out.symm, HBX.out⟩
  by_cases h3 : kd = 3
  · subst h3
    by_cases hr : 0 ≤ rr
    · by_cases he : en = 0
      · subst he
        obtain rfl := hnil rfl
        by_cases hk : kn = 1
        · subst hk
          have HF : Hid (nodeB (RH.plain ⟨3, rr, ep, 0, ec, [], kp, 1, kc⟩) 1 = true) := by show _ = _; simp [nodeB, RH.plain, hr]
          clear hne hnil
          go_enter Tryz.func115, Tryz.ntmps115
          go_wp2_with fail
          go_ret
          exact ⟨ret_bool HF.out.symm, HBX.out⟩
        · have hb : ((kn : Int) == 1) = false := by rw [beq_eq_false_iff_ne]; omega
          have HF : Hid (nodeB (RH.plain ⟨3, rr, ep, 0, ec, [], kp, kn, kc⟩) kn = false) := by show _ = _; simp [nodeB, RH.plain, hk]
          clear hne hnil hk
          go_enter Tryz.func115, Tryz.ntmps115
          go_wp2_with fail
          go_ret
          exact ⟨ret_bool HF.out.symm, HBX.out⟩
      · have hb : ((en : Int) == 0) = false := by rw [beq_eq_false_iff_ne]; omega
        have hne' := hne (by omega)
        have HF : Hid (nodeB (RH.plain ⟨3, rr, ep, en, ec, eff, kp, kn, kc⟩) kn = false) := by show _ = _; simp [nodeB, RH.plain, hne']
        clear hne hnil hne' he
        go_enter Tryz.func115, Tryz.ntmps115
        go_wp2_with fail
        go_ret
        exact ⟨ret_bool HF.out.symm, HBX.out⟩
    · have HF : Hid (nodeB (RH.plain ⟨3, rr, ep, en, ec, eff, kp, kn, kc⟩) kn = false) := by show _ = _; simp [nodeB, RH.plain, hr]
      clear hne hnil
      go_enter Tryz.func115, Tryz.ntmps115
      go_wp2_with fail
      go_ret
      exact ⟨ret_bool HF.out.symm, HBX.out⟩
  by_cases h4 : kd = 4
  · subst h4
    by_cases hr : 0 ≤ rr
    · cases hm : mayB eff
      · have HF : Hid (nodeB (RH.plain ⟨4, rr, ep, en, ec, eff, kp, kn, kc⟩) kn = false) := by show _ = _; simp [nodeB, RH.plain, hm]
        have HM := Lib.hid hm
        clear hm hne hnil
        go_enter Tryz.func115, Tryz.ntmps115
        go_wp2_with fail
        refine (eff_May_is HM.out (HO.out.eff.alloc _)).mono ?_
        rintro e w1 ⟨rfl, hb⟩
        have HB1 := Lib.hid (HBX.out.trans (hb.mono HBX.out.size))
        clear hb
        go_wp2_with fail
        go_ret
        exact ⟨ret_bool HF.out.symm, HB1.out⟩
      · have HM := Lib.hid hm
        by_cases hk : kn = 2
        · subst hk
          have HF : Hid (nodeB (RH.plain ⟨4, rr, ep, en, ec, eff, kp, 2, kc⟩) 2 = true) := by show _ = _; simp [nodeB, RH.plain, hm, hr]
          clear hm hne hnil
          go_enter Tryz.func115, Tryz.ntmps115
          go_wp2_with fail
          refine (eff_May_is HM.out (HO.out.eff.alloc _)).mono ?_
          rintro e w1 ⟨rfl, hb⟩
          have HB1 := Lib.hid (HBX.out.trans (hb.mono HBX.out.size))
          have hc3 : w1.cell? ⟨w.heap.size, 3, none⟩ = some (.slice kp 2 kc) := by rw [hb.cell (by simp), cell_new]; rfl
          clear hb
          go_wp2_with fail
          go_ret
          exact ⟨ret_bool HF.out.symm, HB1.out⟩
        · have hb2 : ((kn : Int) == 2) = false := by rw [beq_eq_false_iff_ne]; omega
          have HF : Hid (nodeB (RH.plain ⟨4, rr, ep, en, ec, eff, kp, kn, kc⟩) kn = false) := by show _ = _; simp [nodeB, RH.plain, hk]
          clear hm hne hnil hk
          go_enter Tryz.func115, Tryz.ntmps115
          go_wp2_with fail
          refine (eff_May_is HM.out (HO.out.eff.alloc _)).mono ?_
          rintro e w1 ⟨rfl, hb⟩
          have HB1 := Lib.hid (HBX.out.trans (hb.mono HBX.out.size))
          have hc3 : w1.cell? ⟨w.heap.size, 3, none⟩ = some (.slice kp kn kc) := by rw [hb.cell (by simp), cell_new]; rfl
          clear hb
          go_wp2_with fail
          go_ret
          exact ⟨ret_bool HF.out.symm, HB1.out⟩
    · have HF : Hid (nodeB (RH.plain ⟨4, rr, ep, en, ec, eff, kp, kn, kc⟩) kn = false) := by show _ = _; simp [nodeB, RH.plain, hr]
      clear hne hnil
      go_enter Tryz.func115, Tryz.ntmps115
      go_wp2_with fail
      go_ret
      exact ⟨ret_bool HF.out.symm, HBX.out⟩
  · have b1 : (kd == 1) = false := by rw [beq_eq_false_iff_ne]; exact h1
    have b2 : (kd == 2) = false := by rw [beq_eq_false_iff_ne]; exact h2
    have b3 : (kd == 3) = false := by rw [beq_eq_false_iff_ne]; exact h3
    have b4 : (kd == 4) = false := by rw [beq_eq_false_iff_ne]; exact h4
    have HF : Hid (nodeB (RH.plain ⟨kd, rr, ep, en, ec, eff, kp, kn, kc⟩) kn = false) := by show _ = _; simp [nodeB, RH.plain, h1, h2, h3, h4]
    clear hne hnil h1 h2 h3 h4
    go_enter Tryz.func115, Tryz.ntmps115
    go_wp2_with fail
    go_ret
    exact ⟨ret_bool HF.out.symm, HBX.out⟩
theorem rtype_node_is {a : RH} {w : World} {r : Bool} (h : nodeB a.plain a.kn = r) (ho : RH.Own w a) : Calls Tryz.prog 115 #[aggR a] w fun e w' => e = .returned (.bool r) ∧ Below w.heap.size w w' := by
  subst h; exact rtype_node_any ho

theorem rtype_May_of {p : Option Addr} {n cap : Nat} {l : List PT} {w : World} (hr : RowT w p n cap l) (hf : PredT 114 #[] w l (fun t => !mayT (PT.er t))) :
    Calls Tryz.prog 93 #[.slice p n cap] w fun e w' => e = .returned (.bool (l.all (fun t => mayT (PT.er t)))) ∧ Below w.heap.size w w' := by
  have hc := t_containsFunc_any 114 #[] _ (fun a w => Tryz.call114 a w) hr hf
  have he : Hid (l.all (fun t => mayT (PT.er t)) = !l.any (fun t => !mayT (PT.er t))) := by show _ = _; rw [List.all_eq_not_any_not]
  generalize l.any (fun t => !mayT (PT.er t)) = q at hc he
  have HC := Lib.hid hc
  clear hr hf hc
  go_enter Tryz.func93, Tryz.ntmps93
  go_wp2_with fail
  refine HC.out.mono ?_
  rintro e w1 ⟨rfl, hb⟩
  have HB := Lib.hid hb
  clear hb
  go_wp2_with fail
  go_ret
  exact ⟨ret_bool he.out.symm, HB.out⟩

set_option maxHeartbeats 400000 in
theorem rtype_May1_any (t : PT) : ∀ w, LR.lies w t → Calls Tryz.prog 114 #[aggR t.head] w fun e w' => e = .returned (.bool (!mayT t.er)) ∧ Below w.heap.size w w' := by
  refine Rose.ind (P := fun (t : PT) => ∀ w, LR.lies w t → Calls Tryz.prog 114 #[aggR t.head] w fun e w' => e = .returned (.bool (!mayT t.er)) ∧ Below w.heap.size w w') (fun a l ih => ?_) t
  intro w hl
  have HN := Lib.hid (nodeIn hl)
  have HK := Lib.hid (fun W (hW : Below w.heap.size w W) => rtype_May_of ((HN.out.below hW).rowT) (fun x hx W' hW' => by simpa using ih x hx W' (LR.lies_below hW' x ((HN.out.below hW).each x hx))))
  have HBX := Lib.hid ((Below.refl w.heap.size w).alloc (Nat.le_refl _) (.cells #[.int .u8 a.kind, .int .i64 a.rho, .slice a.ep a.en a.ec, .slice a.kp a.kn a.kc] 28))
  show Calls _ _ #[aggR a] w _
  clear hl ih
  cases hn : nodeB a.plain a.kn
  · have HF : Hid (mayT (PT.er (.node a l)) = false) := by show _ = _; rw [mayT_er, HN.out.kids.len, hn]; rfl
    have HNB := Lib.hid hn
    clear hn
    go_enter Tryz.func114, Tryz.ntmps114
    go_wp2_with fail
    refine (rtype_node_is HNB.out (HN.out.alloc _).own).mono ?_
    rintro e w1 ⟨rfl, hb⟩
    have HB1 := Lib.hid (HBX.out.trans (hb.mono HBX.out.size))
    clear hb
    go_wp2_with fail
    go_ret
    exact ⟨by rw [HF.out]; rfl, HB1.out⟩
  · have HF : Hid (mayT (PT.er (.node a l)) = l.all (fun t => mayT (PT.er t))) := by show _ = _; rw [mayT_er, HN.out.kids.len, hn]; rfl
    have HNB := Lib.hid hn
    clear hn
    go_enter Tryz.func114, Tryz.ntmps114
    go_wp2_with fail
    refine (rtype_node_is HNB.out (HN.out.alloc _).own).mono ?_
    rintro e w1 ⟨rfl, hb⟩
    have HB1 := Lib.hid (HBX.out.trans (hb.mono HBX.out.size))
    have hc3 : w1.cell? ⟨w.heap.size, 3, none⟩ = some (.slice a.kp a.kn a.kc) := by rw [hb.cell (by simp), cell_new]; rfl
    clear hb
    go_wp2_with fail
    refine (HK.out w1 HB1.out).mono ?_
    rintro e w2 ⟨rfl, hb⟩
    have HB2 := Lib.hid (HB1.out.trans (hb.mono HB1.out.size))
    clear hb
    go_wp2_with fail
    go_ret
    exact ⟨by rw [HF.out]; rfl, HB2.out⟩
theorem rtype_May_any {p : Option Addr} {n cap : Nat} {l : List PT} {w : World} (hr : RowT w p n cap l) :
    Calls Tryz.prog 93 #[.slice p n cap] w fun e w' => e = .returned (.bool (l.all (fun t => mayT (PT.er t)))) ∧ Below w.heap.size w w' :=
  rtype_May_of hr (fun x hx W hW => by simpa using rtype_May1_any x W (LR.lies_below hW x (hr.each x hx)))
end Go.Proofs.YtdlbjngpohkglaaGreatDoor
end
section
set_option linter.unusedVariables false
set_option maxRecDepth 100000
set_option linter.unusedSimpArgs false
namespace Go.Proofs.YtdlbjngpohkglaaGreatDoor
open Go.RowKit Go.Sort Go.Lib

/-- the table of powers lies in w -/
def Tab (w : World) : Prop := Lib.TabIs Tryz.prog w "internal/strconv.uint64pow10" .u64 Lib.pow10Tab
theorem gPow : Tryz.prog.globalNamed "internal/strconv.uint64pow10" = some 1 := by kernel_rfl
theorem Tab.lt {w : World} (h : Tab w) : 1 < w.heap.size := by
  have := Lib.TabIs.cell h gPow 0 (by decide)
  exact cell_block this
theorem Tab.below {w w' : World} (h : Tab w) (hb : Below w.heap.size w w') : Tab w' := var?_below hb gPow h.lt h

theorem digits_any (r : Int) (h0 : -9223372036854775808 ≤ r) (h1 : r ≤ 9223372036854775807) (w : World) (ht : Tab w) :
    Calls Tryz.prog 58 #[.int .i64 r] w fun e w' => e = .returned (.string (decB r)) ∧ Below w.heap.size w w' := by
  have HC := Lib.hid (Tryz.strconv_FormatInt_10 r h0 h1 w ht)
  clear h0 h1 ht
  go_enter Tryz.func58, Tryz.ntmps58
  go_wp2_with fail
  refine HC.out.mono ?_
  rintro e w' ⟨rfl, k, os, rfl⟩
  have HB := Lib.hid (below_grow w k os)
  go_wp2_with fail
  go_ret
  exact ⟨rfl, HB.out⟩
theorem digOK_of {r : Int} (h0 : -9223372036854775808 ≤ r) (h1 : r ≤ 9223372036854775807) {w : World} (ht : Tab w) : DigOK w r := fun W hW => digits_any r h0 h1 W (ht.below hW)

theorem decB_size (r : Int) (h0 : -9223372036854775808 ≤ r) (h1 : r ≤ 9223372036854775807) : (decB r).size ≤ 21 := by
  have := Lib.itoa_length_le r h0 h1
  show (Lib.itoa r).toArray.size ≤ 21
  simpa using this
/-- a digit's byte -/
def dgB (k : Nat) : ByteArray := ⟨#[UInt8.ofNat (48 + k)]⟩
theorem dgB_size (k : Nat) : (dgB k).size = 1 := rfl
theorem decB_small {n : Nat} (h : n < 10) : decB n = dgB n := by
  unfold decB dgB
  rw [Lib.itoa_nonneg, Lib.decDigits_one h]
theorem decB_big {n : Nat} (h : ¬ n < 10) : decB n = decB ((n / 10 : Nat) : Int) ++ dgB (n % 10) := by
  unfold decB dgB
  rw [Lib.itoa_nonneg, Lib.itoa_nonneg, Lib.decDigits, dif_neg h]
  apply ByteArray.ext
  simp

set_option maxHeartbeats 400000 in
theorem ref_Digits_nat (n : Nat) : n ≤ 9223372036854775807 → ∀ w, Calls Tryz.prog 15 #[.int .i64 n] w fun e w' => e = .returned (.string (decB n)) ∧ Below w.heap.size w w' := by
  induction n using Nat.strongRecOn with
  | _ n ih =>
  intro hn w
  have IH := Lib.hid ih
  have hcv : (convert 55 9 (.slice (some ⟨w.heap.size, 0, none⟩) 1 1)).run Tryz.prog (w.alloc (.cells #[.int .u8 (48 + (n : Int) % 10)] 5)) = .ok (.string (dgB (n % 10))) (w.alloc (.cells #[.int .u8 (48 + (n : Int) % 10)] 5)) := by
    have := run_convert_bytes_back (P := Tryz.prog) (w.alloc (.cells #[.int .u8 (48 + (n : Int) % 10)] 5)) 55 9 5 ⟨w.heap.size, 0, none⟩ 1 [UInt8.ofNat (48 + n % 10)] Tryz.underlying55 Tryz.underlying5 Tryz.underlying9 (by
      intro j hj
      obtain rfl : j = 0 := by simpa using hj
      rw [add_lit', cell_new]
      have : (UInt8.ofNat (48 + n % 10)).toNat = 48 + n % 10 := by
        rw [UInt8.toNat_ofNat']; omega
      simp
      omega)
    exact this
  clear ih
  by_cases h10 : n < 10
  · have HE : Hid (decB n = dgB (n % 10)) := by show _ = _; rw [decB_small h10, Nat.mod_eq_of_lt h10]
    go_enter Tryz.func15, Tryz.ntmps15
    go_wp2_with fail
    go_ret
    exact ⟨ret_str HE.out.symm, (Below.refl _ _).alloc (Nat.le_refl _) _⟩
  · have hsz := decB_size ((n : Int) / 10) (by omega) (by omega)
    have hsz1 := dgB_size (n % 10)
    have HS1 := Lib.hid hsz1
    have hsz2 : (dgB (n % 10)).size ≤ 1 := by omega
    clear hsz1
    have hq : ((n : Int) / 10) = ((n / 10 : Nat) : Int) := by omega
    have HE : Hid (decB n = decB ((n : Int) / 10) ++ dgB (n % 10)) := by show _ = _; rw [decB_big h10, hq]
    have HQ := Lib.hid hq
    clear hq
    go_enter Tryz.func15, Tryz.ntmps15
    go_wp2_with fail
    rw [HQ.out]
    refine (IH.out (n / 10) (by omega) (by omega) _).mono ?_
    rintro e w1 ⟨rfl, hb⟩
    have HB := Lib.hid (((Below.refl _ w).alloc (Nat.le_refl _) _).trans (hb.mono (by simp)))
    clear hb hcv
    go_wp2_with fail
    go_ret
    exact ⟨ret_str HE.out.symm, HB.out⟩
theorem ref_Digits_pos {r : Int} (h0 : 0 ≤ r) (h1 : r ≤ 9223372036854775807) (w : World) : Calls Tryz.prog 15 #[.int .i64 r] w fun e w' => e = .returned (.string (decB r)) ∧ Below w.heap.size w w' := by
  obtain ⟨n, rfl⟩ := Int.eq_ofNat_of_zero_le h0
  exact ref_Digits_nat n (by omega) w
end Go.Proofs.YtdlbjngpohkglaaGreatDoor
end
section
set_option linter.unusedVariables false
set_option maxRecDepth 100000
set_option linter.unusedSimpArgs false
namespace Go.Proofs.YtdlbjngpohkglaaGreatDoor
theorem gPowType : (Tryz.prog.globals[1]?).map (·.type) = some 159 := by kernel_rfl
theorem powCells : Tryz.prog.cellsOf 159 = 20 := by kernel_rfl
theorem u64Cells : Tryz.prog.cellsOf 136 = 1 := by kernel_rfl
def laid3 : List (String × DataW Unit) := [("math/bits.deBruijn32tab", Rows.laid_math_bits_deBruijn32tab), ("math/bits.deBruijn64tab", Rows.laid_math_bits_deBruijn64tab), ("internal/strconv.uint64pow10", Rows.laid_internal_strconv_uint64pow10), ("unicode/utf8.acceptRanges", Rows.laid_unicode_utf8_acceptRanges), ("unicode/utf8.first", Rows.laid_unicode_utf8_first)]
theorem tab_of {W : World} (h : laidMetH Tryz.prog laid3 W) : Tab W := by
  have h1 : laidMet Tryz.prog laid3 W := h
  have h2 := laidMet.tail (laidMet.tail h1)
  have e : Rows.laid_internal_strconv_uint64pow10 (H := Unit) = Lib.tabData .u64 Lib.pow10Tab := by kernel_rfl
  rw [e] at h2
  exact Lib.tabIs_of_head gPow gPowType Tryz.underlying159 Tryz.underlying136 u64Cells powCells h2
end Go.Proofs.YtdlbjngpohkglaaGreatDoor
end
section
set_option linter.unusedVariables false
set_option maxRecDepth 100000
set_option linter.unusedSimpArgs false
namespace Go.Proofs.YtdlbjngpohkglaaGreatDoor
open Go.RowKit

/-- how many nodes types have -/
def sizes (l : List PT) : Nat := (l.map Rose.size).sum
theorem sizes_take {l : List PT} {k : Nat} {x : PT} (h : l[k]? = some x) : sizes (l.take (k + 1)) = sizes (l.take k) + x.size ∧ sizes (l.take k) + x.size ≤ sizes l := sum_take_get Rose.size l k x h
theorem sizes_kids (t : PT) : sizes t.kids + 1 = t.size := by
  obtain ⟨a, l⟩ := t
  rw [Rose.size_node]
  show sizes l + 1 = _
  unfold sizes; omega
end Go.Proofs.YtdlbjngpohkglaaGreatDoor
end
