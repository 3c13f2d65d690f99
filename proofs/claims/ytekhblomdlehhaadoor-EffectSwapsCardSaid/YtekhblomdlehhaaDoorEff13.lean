/- EffectSwaps: the walk. -/
import Derived.Test.YtekhblomdlehhaaDoorEff11
import Derived.Test.YtekhblomdlehhaaDoorEff12
set_option linter.unusedVariables false
set_option maxRecDepth 100000
set_option linter.unusedSimpArgs false
namespace Go.Proofs.YtekhblomdlehhaaDoor
open Go.RowKit Go.Sort Go.Lib

theorem swL_eq (f t : List Int) (l : List Atom) : swL f t l = refOf ((l.filter atomB).map (swA f t)) := by
  rw [refOf_eq]
  unfold swL
  refine sortA_congr (fun a => ?_)
  simp only [List.mem_filter, List.mem_map, mem_sortA]
theorem swA_self (f : List Int) (a : Atom) : swA f f a = a := by
  obtain ⟨kd, rr, ss⟩ := a
  exact swA_same (.inr (turnI_self rr f))
theorem swL_self (f : List Int) (l : List Atom) : swL f f l = refOf l := by
  rw [swL_eq, refOf_eq, refOf_eq]
  have : (l.filter atomB).map (swA f f) = l.filter atomB := by
    conv => rhs; rw [← List.map_id (l.filter atomB)]
    exact List.map_congr_left (fun a _ => swA_self f a)
  rw [this]
  refine sortA_congr (fun a => ?_)
  simp only [List.mem_filter]
  exact ⟨fun h => h.1, fun h => ⟨h, h.2⟩⟩

set_option maxHeartbeats 1000000 in
theorem effectSwaps_any (p : Option Addr) (n cap : Nat) (l : List Atom) (p1 : Option Addr) (n1 c1 : Nat) (f : List Int) (p2 : Option Addr) (n2 c2 : Nat) (t : List Int) (w : World) (hn : l.length = n) (hm : n ≤ 9223372036854775807) (hr : RowA w p l)
    (hn1 : f.length = n1) (hm1 : n1 ≤ 9223372036854775807) (hr1 : RowE encN 1 w p1 f) (hn2 : t.length = n2) (hm2 : n2 ≤ 9223372036854775807) (hr2 : RowE encN 1 w p2 t) :
    Calls Tryd.prog 5 #[.slice p n cap, .slice p1 n1 c1, .slice p2 n2 c2] w fun e w' => e = .returned (.bool true) ∧ Below w.heap.size w w' := by
  have HR := Lib.hid hr
  have HN := Lib.hid hn
  have HR1 := Lib.hid hr1
  have HN1 := Lib.hid hn1
  have HR2 := Lib.hid hr2
  have HN2 := Lib.hid hn2
  clear hr hn hr1 hn1 hr2 hn2
  by_cases hg : greatB l = true ∨ 100 < n1 ∨ 100 < n2
  · go_enter Tryd.func5, Tryd.ntmps5
    go_wp2_with fail
    refine (ref_Great_any p n cap l _ HN.out hm HR.out).mono ?_
    rintro e w1 ⟨rfl, rfl⟩
    rcases hb : greatB l with _ | _
    · rw [hb] at hg
      have hg' : 100 < n1 ∨ 100 < n2 := by simpa using hg
      clear hg
      by_cases h1 : 100 < n1
      · clear hg'
        go_wp2_with fail
        refine (awake_any _).mono ?_
        rintro e w2 ⟨rfl, hb2⟩
        have HB := Lib.hid hb2
        clear hb2
        go_wp2_with fail
        go_ret
        exact ⟨rfl, HB.out⟩
      · have h2 : 100 < n2 := by omega
        clear hg'
        go_wp2_with fail
        refine (awake_any _).mono ?_
        rintro e w2 ⟨rfl, hb2⟩
        have HB := Lib.hid hb2
        clear hb2
        go_wp2_with fail
        go_ret
        exact ⟨rfl, HB.out⟩
    · clear hg
      go_wp2_with fail
      refine (awake_any _).mono ?_
      rintro e w2 ⟨rfl, hb2⟩
      have HB := Lib.hid hb2
      clear hb2
      go_wp2_with fail
      go_ret
      exact ⟨rfl, HB.out⟩
  · have hgl : greatB l = false := by simpa using fun h => hg (.inl h)
    have h1 : ¬ 100 < n1 := fun h => hg (.inr (.inl h))
    have h2 : ¬ 100 < n2 := fun h => hg (.inr (.inr h))
    have hnl : n ≤ 100 := by
      have e : greatB l = false := hgl
      unfold greatB at e
      simp only [Bool.or_eq_false_iff, decide_eq_false_iff_not] at e
      have := e.1; have := HN.out; omega
    have HG := Lib.hid hgl
    clear hg hgl
    go_enter Tryd.func5, Tryd.ntmps5
    go_wp2_with fail
    refine (ref_Great_any p n cap l _ HN.out hm HR.out).mono ?_
    rintro e w1 ⟨rfl, rfl⟩
    rw [HG.out]
    go_wp2_with fail
    refine (effect_Swap_any p n cap l p1 n1 c1 f p2 n2 c2 t w HN.out (by omega) HR.out HN1.out (by omega) HR1.out HN2.out (by omega) HR2.out).mono ?_
    rintro e w1 ⟨v, rfl, ⟨q, m, mc, rfl, hl, hc, hr⟩, hb⟩
    have HB1 := Lib.hid hb
    have HLa := Lib.hid hl
    have HRa := Lib.hid hr
    clear hb hl hr
    go_wp2_with fail
    refine (ref_Swap_any p n cap l p1 n1 c1 f p2 n2 c2 t w1 HN.out (by omega) (HR.out.below HB1.out) HN1.out (by omega) (HR1.out.below HB1.out) HN2.out (by omega) (HR2.out.below HB1.out)).mono ?_
    rintro e w2 ⟨v, rfl, ⟨q', m', mc', rfl, hl, hc', hr⟩, hb⟩
    have HB2 := Lib.hid (HB1.out.trans (hb.mono HB1.out.size))
    have HLb := Lib.hid hl
    have HRb := Lib.hid hr
    have HRa2 := Lib.hid (HRa.out.below hb)
    have HE : Hid (eqL (swL f t l) (refOf ((l.filter atomB).map (swA f t))) = true) := by show eqL _ _ = true; rw [swL_eq]; simp [eqL]
    clear hb hl hr
    have hbd : (refOf ((l.filter atomB).map (swA f t))).length ≤ 100 := by
      have h1 := refOf_length ((l.filter atomB).map (swA f t))
      have h2 := List.length_filter_le atomB l
      rw [List.length_map] at h1
      have := HN.out; omega
    have hmm : m ≤ 100 := by have e := HLa.out; rw [swL_eq] at e; omega
    have hmm' : m' ≤ 100 := by have e := HLb.out; omega
    clear hbd
    go_wp2_with fail
    refine (ref_Equal_any q m mc _ q' m' mc' _ w2 HLa.out (by omega) HRa2.out HLb.out (by omega) HRb.out).mono ?_
    rintro e w3 ⟨rfl, j, rfl⟩
    rw [HE.out]
    have HB3 : Hid (Below w.heap.size w (w2.drewN j)) := ⟨HB2.out.1, HB2.out.2, HB2.out.3, HB2.out.4, HB2.out.5⟩
    go_wp2_with fail
    refine (effect_Swap_any p n cap l p1 n1 c1 f p1 n1 c1 f _ HN.out (by omega) (HR.out.below HB3.out) HN1.out (by omega) (HR1.out.below HB3.out) HN1.out (by omega) (HR1.out.below HB3.out)).mono ?_
    rintro e w4 ⟨v, rfl, ⟨q4, m4, mc4, rfl, hl, hc4, hr⟩, hb⟩
    have HB4 := Lib.hid (HB3.out.trans (hb.mono HB3.out.size))
    have HL4 := Lib.hid hl
    have HR4 := Lib.hid hr
    clear hb hl hr
    go_wp2_with fail
    refine (ref_Of_any p n cap l w4 HN.out (by omega) (HR.out.below HB4.out)).mono ?_
    rintro e w5 ⟨v, rfl, ⟨q5, m5, mc5, rfl, hl, hc5, hr⟩, hb⟩
    have HB5 := Lib.hid (HB4.out.trans (hb.mono HB4.out.size))
    have HL5 := Lib.hid hl
    have HR5 := Lib.hid hr
    have HR45 := Lib.hid (HR4.out.below hb)
    have HE5 : Hid (eqL (swL f f l) (refOf l) = true) := by show eqL _ _ = true; rw [swL_self]; simp [eqL]
    clear hb hl hr
    have hb5 := refOf_length l
    have hm5 : m5 ≤ 100 := by have e := HL5.out; have := HN.out; omega
    have hm4 : m4 ≤ 100 := by have e := HL4.out; rw [swL_self] at e; have := HN.out; omega
    clear hb5
    go_wp2_with fail
    refine (ref_Equal_any q4 m4 mc4 _ q5 m5 mc5 _ w5 HL4.out (by omega) HR45.out HL5.out (by omega) HR5.out).mono ?_
    rintro e w6 ⟨rfl, j6, rfl⟩
    rw [HE5.out]
    have HB6 : Hid (Below w.heap.size w (w5.drewN j6)) := ⟨HB5.out.1, HB5.out.2, HB5.out.3, HB5.out.4, HB5.out.5⟩
    go_wp2_with fail
    refine (awake_any _).mono ?_
    rintro e w7 ⟨rfl, hb⟩
    have HB7 := Lib.hid (HB6.out.trans (hb.mono HB6.out.size))
    clear hb
    go_wp2_with fail
    go_ret
    exact ⟨rfl, HB7.out⟩
theorem effectSwaps_walk {w : World} (p : Option Addr) (n cap : Nat) (l : List Atom) (h : l.length = n ∧ n ≤ 9223372036854775807 ∧ RowA w p l) (p1 : Option Addr) (n1 c1 : Nat) (f : List Int) (h1 : f.length = n1 ∧ n1 ≤ 9223372036854775807 ∧ RowE encN 1 w p1 f)
    (p2 : Option Addr) (n2 c2 : Nat) (t : List Int) (h2 : t.length = n2 ∧ n2 ≤ 9223372036854775807 ∧ RowE encN 1 w p2 t) :
    Calls Tryd.prog 5 #[.slice p n cap, .slice p1 n1 c1, .slice p2 n2 c2] w fun e w' => e = .returned (.bool true) ∧ Below w.heap.size w w' :=
  effectSwaps_any p n cap l p1 n1 c1 f p2 n2 c2 t w h.1 h.2.1 h.2.2 h1.1 h1.2.1 h1.2.2 h2.1 h2.2.1 h2.2.2
end Go.Proofs.YtekhblomdlehhaaDoor
