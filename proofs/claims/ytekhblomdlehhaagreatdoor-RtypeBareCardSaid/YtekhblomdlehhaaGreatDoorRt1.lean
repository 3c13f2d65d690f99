/- enclaveref12.left, Great. -/
import Derived.Test.YtekhblomdlehhaaGreatDoorRT
set_option linter.unusedVariables false
set_option maxRecDepth 100000
set_option linter.unusedSimpArgs false
namespace Go.Proofs.YtekhblomdlehhaaGreatDoor
open Go.RowKit

theorem ref_Great_eff {a : RH} {w : World} {r : Bool} (h : greatB a.eff = r) (ho : RH.Own w a) :
    Calls Tryz.prog 20 #[.slice a.ep a.en a.ec] w fun e w' => e = .returned (.bool r) ∧ w = w' := by
  subst h; exact ref_Great_any _ _ _ _ w ho.eff.len ho.eff.max ho.eff.row
/-- what left answers -/
def LeftOK (t : RT) (n r : Int) : Prop := -1 ≤ r ∧ r ≤ n ∧ (0 ≤ r → (t.size : Int) + r = n ∧ effsOK t = true)
/-- of the first k kids -/
def LeftTo (l : List RT) (n r : Int) : Prop := -1 ≤ r ∧ r ≤ n ∧ (0 ≤ r → ((l.map Rose.size).sum : Int) + r = n ∧ l.all effsOK = true)
theorem LeftTo.step {l : List RT} {n r r' : Int} {t : RT} (h : LeftTo l n r) (h0 : 0 ≤ r) (h' : LeftOK t r r') : LeftTo (l ++ [t]) n r' := by
  refine ⟨h'.1, by have := h.2.1; have := h'.2.1; omega, fun hr => ?_⟩
  obtain ⟨h1, h2⟩ := h.2.2 h0
  obtain ⟨h3, h4⟩ := h'.2.2 hr
  refine ⟨?_, by simp [h2, h4]⟩
  simp only [List.map_append, List.map_cons, List.map_nil, List.sum_append, List.sum_cons, List.sum_nil]
  omega

set_option maxHeartbeats 1000000 in
theorem ref_left_any (t : PT) : ∀ w, LR.lies w t → ∀ n : Int, 0 ≤ n → n ≤ 1000000 →
    Calls Tryz.prog 59 #[aggR t.head, .int .i64 n] w fun e w' => (∃ r : Int, e = .returned (.int .i64 r) ∧ LeftOK t.er n r) ∧ Below w.heap.size w w' := by
  refine Rose.ind (P := fun (t : PT) => ∀ w, LR.lies w t → ∀ n : Int, 0 ≤ n → n ≤ 1000000 → Calls Tryz.prog 59 #[aggR t.head, .int .i64 n] w fun e w' => (∃ r : Int, e = .returned (.int .i64 r) ∧ LeftOK t.er n r) ∧ Below w.heap.size w w') (fun a l ih => ?_) t
  intro w hl n h0 hn
  have HN := Lib.hid (nodeIn hl)
  have IH := Lib.hid ih
  have hkm := HN.out.own.kmax
  have HBX := Lib.hid ((Below.refl w.heap.size w).alloc (Nat.le_refl _) (.cells #[.int .u8 a.kind, .int .i64 a.rho, .slice a.ep a.en a.ec, .slice a.kp a.kn a.kc] 47))
  show Calls _ _ #[aggR a, .int .i64 n] w _
  clear hl ih
  cases hg : greatB a.eff
  · have HG := Lib.hid hg
    clear hg
    obtain ⟨kd, rr, ep, en, ec, eff, kp, kn, kc⟩ := a
    simp only at hkm
    go_enter Tryz.func59, Tryz.ntmps59
    go_wp2_with fail
    refine (ref_Great_eff HG.out (HN.out.alloc _).own).mono ?_
    rintro e w1 ⟨rfl, rfl⟩
    generalize hW : w.alloc (.cells #[.int .u8 kd, .int .i64 rr, .slice ep en ec, .slice kp kn kc] 47) = W at *
    have HC3 : Hid (∀ wr, Below W.heap.size W wr → wr.cell? ⟨w.heap.size, 3, none⟩ = some (.slice kp kn kc)) := by
      show ∀ wr, _
      intro wr hb
      rw [← hW] at hb
      rw [hb.cell (by simp), cell_new]; rfl
    have HNW : Hid (NodeIn W ⟨kd, rr, ep, en, ec, eff, kp, kn, kc⟩ l) := by show NodeIn _ _ _; rw [← hW]; exact HN.out.alloc _
    clear hW
    have hW3 := HC3.out W (Below.refl _ _)
    go_wp2_with fail
    clear hW3
    go_loopw [1, 5] (fun u i wr => ∃ (k : Nat) (r : Int), k ≤ kn ∧ i = .int .i64 k ∧ u = .int .i64 r ∧ LeftTo ((l.take k).map PT.er) (n - 1) r ∧ Below W.heap.size W wr) (fun _ i _ => kn - (intOf i).toNat)
    case atStart => exact ⟨0, n - 1, by omega, rfl, rfl, ⟨by omega, by omega, fun _ => ⟨by simp, by simp⟩⟩, Below.refl _ _⟩
    case round =>
      obtain ⟨k, r, hk, rfl, rfl, hto, hb⟩ := hrel
      have hr1 := hto.1
      have hr2 := hto.2.1
      have HTO := Lib.hid hto
      have HB := Lib.hid hb
      clear hto hb
      have hc3 := HC3.out wr HB.out
      by_cases hlt : k < kn
      · by_cases hr0 : 0 ≤ r
        · obtain ⟨x, hx⟩ := (HNW.out.rowT).at (j := k) hlt
          have HE := Lib.hid hx
          obtain ⟨b, o, rfl, hbl, d0, d1, d2, d3⟩ := (HNW.out.rowT.below HB.out).kid hx
          clear hx hbl
          go_wp2_with fail
          refine (IH.out x (List.mem_of_getElem? HE.out) wr ((HNW.out.rowT.below HB.out).lies HE.out) r hr0 (by omega)).mono ?_
          rintro e w2 ⟨⟨r', rfl, hok⟩, hb⟩
          have HOK := Lib.hid hok
          have HB2 := Lib.hid (HB.out.trans (hb.mono HB.out.size))
          clear hok hb d0 d1 d2 d3 hc3
          go_wp2_with fail
          go_roundw
          case rel => exact ⟨k + 1, r', by omega, by go_num, rfl, by rw [take_succ_get HE.out, List.map_append]; exact HTO.out.step hr0 HOK.out, HB2.out⟩
          case measure => simp [intOf]; omega
        · have hd : decide (0 ≤ r) = false := by simpa using hr0
          go_wp2_with fail
          go_ret
          exact ⟨⟨r, rfl, by have := HTO.out; refine ⟨this.1, by omega, fun h => absurd h (by omega)⟩⟩, HBX.out.trans (HB.out.mono HBX.out.size)⟩
      · have hkn : k = kn := by omega
        subst hkn
        go_wp2_with fail
        go_ret
        have h := HTO.out
        rw [take_full (by rw [HNW.out.kids.len]; omega)] at h
        refine ⟨⟨r, rfl, h.1, by omega, fun h0 => ?_⟩, HBX.out.trans (HB.out.mono HBX.out.size)⟩
        obtain ⟨h1, h2⟩ := h.2.2 h0
        rw [PT.er_node, Rose.size_node, effsOK_node]
        refine ⟨by omega, ?_⟩
        rw [h2, Bool.and_true]
        show (!greatB eff) = true
        rw [HG.out]; rfl
  · have HG := Lib.hid hg
    clear hg
    go_enter Tryz.func59, Tryz.ntmps59
    go_wp2_with fail
    refine (ref_Great_eff HG.out (HN.out.alloc _).own).mono ?_
    rintro e w1 ⟨rfl, rfl⟩
    go_wp2_with fail
    go_ret
    refine ⟨⟨-1, rfl, by omega, by omega, fun h => by omega⟩, HBX.out⟩

/-- Great answers no only of small ones. -/
theorem ref_Great12_any {t : PT} {w : World} (hl : LR.lies w t) :
    Calls Tryz.prog 27 #[aggR t.head] w fun e w' => (∃ r, e = .returned (.bool r) ∧ (r = false → SmallT t.er 100)) ∧ Below w.heap.size w w' := by
  have HL := Lib.hid (fun o => ref_left_any t (w.alloc o) (LR.lies_below ((Below.refl _ _).alloc (Nat.le_refl _) _) t hl) 100 (by omega) (by omega))
  obtain ⟨a, l⟩ := t
  show Calls _ _ #[aggR a] w _
  obtain ⟨kd, rr, ep, en, ec, eff, kp, kn, kc⟩ := a
  clear hl
  go_enter Tryz.func27, Tryz.ntmps27
  go_wp2_with fail
  refine (HL.out _).mono ?_
  rintro e w1 ⟨⟨r, rfl, hok⟩, hb⟩
  have HOK := Lib.hid hok
  have HB := Lib.hid (((Below.refl w.heap.size w).alloc (Nat.le_refl _) (.cells #[.int .u8 kd, .int .i64 rr, .slice ep en ec, .slice kp kn kc] 47)).trans (hb.mono (by simp)))
  clear hok hb
  go_wp2_with fail
  go_ret
  refine ⟨⟨_, rfl, fun h => ?_⟩, HB.out⟩
  have h0 : 0 ≤ r := by simpa using h
  obtain ⟨h1, h2⟩ := HOK.out.2.2 h0
  exact ⟨by omega, h2⟩
end Go.Proofs.YtekhblomdlehhaaGreatDoor
