/- EffectWithin: the walk. -/
import Derived.Test.YtekhblomdlehhaaDoorEff15
import Derived.Test.YtekhblomdlehhaaDoorEff12
import Derived.Test.YtekhblomdlehhaaDoorIsRow
set_option linter.unusedVariables false
set_option maxRecDepth 100000
set_option linter.unusedSimpArgs false
namespace Go.Proofs.YtekhblomdlehhaaDoor
open Go.RowKit

theorem withinB_iff (a b : List Atom) : withinB a b = true ↔ ∀ x ∈ a, atomB x = true → x ∈ b := by
  unfold withinB
  rw [List.all_eq_true]
  constructor
  · intro h x hx ha
    have := h x hx
    rw [ha] at this
    exact (inA_iff b x).1 (by simpa using this)
  · intro h x hx
    cases ha : atomB x
    · rfl
    · simp [(inA_iff b x).2 (h x hx ha)]
theorem withinB_refl (a : List Atom) : withinB a a = true := (withinB_iff a a).2 (fun x hx _ => hx)
theorem greatB_len {l : List Atom} (h : greatB l = false) : l.length ≤ 100 := by
  unfold greatB at h
  simp only [Bool.or_eq_false_iff, decide_eq_false_iff_not] at h
  have := h.1; omega
/-- a row of two slices, just laid -/
theorem two_rows {w : World} {p q : Option Addr} {n m nc mc : Nat} (l l' : List Atom) (t : TypeId) : RowE encSl 1 (w.alloc (.cells #[.slice p n nc, .slice q m mc] t)) (some ⟨w.heap.size, 0, none⟩) [⟨p, n, nc, l⟩, ⟨q, m, mc, l'⟩] :=
  RowE.newAt encSl_len w _ _ rfl _ _ _ rfl

theorem two_ok {w : World} {p q : Option Addr} {n m nc mc : Nat} {l l' : List Atom} (h : IsRow encA 3 w p n nc l) (h' : IsRow encA 3 w q m mc l') : ∀ r ∈ [(⟨p, n, nc, l⟩ : SlE Atom), ⟨q, m, mc, l'⟩], r.Ok encA 3 w := by
  intro r hr
  simp only [List.mem_cons, List.not_mem_nil, or_false] at hr
  rcases hr with rfl | rfl
  · exact ⟨h.len, h.le, h.nil, h.row⟩
  · exact ⟨h'.len, h'.le, h'.nil, h'.row⟩

theorem ref_Great_is {p : Option Addr} {n cap : Nat} {l : List Atom} {w : World} {r : Bool} (h : greatB l = r) (hl : IsRow encA 3 w p n cap l) :
    Calls Tryd.prog 12 #[.slice p n cap] w fun e w' => e = .returned (.bool r) ∧ w = w' := by
  subst h; exact ref_Great_any p n cap l w hl.len hl.max hl.row

theorem awake_done {w : World} : Calls Tryd.prog 13 #[] w fun e w' => e = .returned (.bool true) ∧ Below w.heap.size w w' := awake_any w

set_option maxHeartbeats 2000000 in
theorem effectWithin_walk {w : World} (p : Option Addr) (n cap : Nat) (l : List Atom) (hr : IsRow encA 3 w p n cap l) (q : Option Addr) (m mc : Nat) (l' : List Atom) (hr' : IsRow encA 3 w q m mc l') :
    Calls Tryd.prog 6 #[.slice p n cap, .slice q m mc] w fun e w' => e = .returned (.bool true) ∧ Below w.heap.size w w' := by
  have HR := Lib.hid hr
  have HR' := Lib.hid hr'
  clear hr hr'
  cases hg : greatB l
  · have HG := Lib.hid hg
    have hn : n ≤ 100 := by have := greatB_len hg; have := HR.out.len; omega
    clear hg
    cases hg' : greatB l'
    · have HG' := Lib.hid hg'
      have hm : m ≤ 100 := by have := greatB_len hg'; have := HR'.out.len; omega
      clear hg'
      have HU : Hid (sortA ((l' ++ l).filter atomB) = sortA ((l ++ l').filter atomB)) := sortA_congr (fun a => by simp only [List.filter_append, List.mem_append]; exact Or.comm)
      have HW1 : Hid (withinB l (sortA ((l ++ l').filter atomB)) = true) := (withinB_iff _ _).2 (fun x hx ha => by rw [mem_sortA, List.mem_filter, List.mem_append]; exact ⟨.inl hx, ha⟩)
      have HW2 : Hid (withinB l' (sortA ((l ++ l').filter atomB)) = true) := (withinB_iff _ _).2 (fun x hx ha => by rw [mem_sortA, List.mem_filter, List.mem_append]; exact ⟨.inr hx, ha⟩)
      go_enter Tryd.func6, Tryd.ntmps6
      go_wp2_with fail
      refine (ref_Great_is HG.out HR.out).mono ?_
      rintro e w1 ⟨rfl, rfl⟩
      go_wp2_with fail
      refine (ref_Great_is HG'.out HR'.out).mono ?_
      rintro e w1 ⟨rfl, rfl⟩
      go_wp2_with fail
      refine (ref_Within_any p n cap l q m mc l' w HR.out.len (by omega) HR.out.row HR'.out.len (by omega) HR'.out.row).mono ?_
      rintro e w1 ⟨rfl, hb⟩
      have HB1 := Lib.hid hb
      clear hb
      generalize hin : withinB l l' = b1
      have HIN := Lib.hid hin
      clear hin
      go_wp2_with fail
      refine (ref_Within_any q m mc l' p n cap l w1 HR'.out.len (by omega) (HR'.out.below HB1.out).row HR.out.len (by omega) (HR.out.below HB1.out).row).mono ?_
      rintro e w2 ⟨rfl, hb⟩
      have HB2 := Lib.hid (HB1.out.trans (hb.mono HB1.out.size))
      clear hb
      generalize hin : withinB l' l = b2
      have HIN' := Lib.hid hin
      clear hin
      go_wp2_with fail
      refine (effect_Union_any _ 2 2 [⟨p, n, cap, l⟩, ⟨q, m, mc, l'⟩] _ rfl (by omega) (two_rows l l' _) (by exact two_ok ((HR.out.below HB2.out).alloc _) ((HR'.out.below HB2.out).alloc _)) (by simp; omega)).mono ?_
      rintro e w3 ⟨v, k, rfl, hk, hown, hb⟩
      have HB3 : Hid (Below w.heap.size w w3) := (HB2.out.alloc HB2.out.size _).trans (hb.mono (by have := HB2.out.size; simp; omega))
      simp only [List.flatMap_cons, List.flatMap_nil, List.append_nil] at hown
      obtain ⟨u, uc, rfl, hur⟩ := hown.isRow encA_len (by omega)
      have hk2 : k ≤ 200 := by simp at hk; omega
      have HUR := Lib.hid hur
      clear hb hown hur hk
      generalize hS : sortA ((l ++ l').filter atomB) = S at HUR HU HW1 HW2
      have HS := Lib.hid hS
      have HWS : Hid (withinB S S = true) := withinB_refl S
      clear hS
      go_wp2_with fail
      refine (effect_Within_is HIN.out HR.out.len (by omega) (HR.out.below HB3.out).row HR'.out.len (by omega) (HR'.out.below HB3.out).row).mono ?_
      rintro e w4 ⟨rfl, hb⟩
      have HB4 := Lib.hid (HB3.out.trans (hb.mono HB3.out.size))
      have HUR4 := Lib.hid (HUR.out.below hb)
      clear hb
      cases b1 <;> cases b2
      all_goals
        go_wp2_with fail
        refine (effect_Same_any p n cap l q m mc l' w4 HR.out.len (by omega) (HR.out.below HB4.out).row HR'.out.len (by omega) (HR'.out.below HB4.out).row).mono ?_
        rintro e w5 ⟨rfl, hb⟩
        have HB5 := Lib.hid (HB4.out.trans (hb.mono HB4.out.size))
        have HUR5 := Lib.hid (HUR4.out.below hb)
        rw [HIN.out, HIN'.out]
        clear hb
        go_wp2_with fail
        refine (effect_Within_is HW1.out HR.out.len (by omega) (HR.out.below HB5.out).row HUR5.out.len (by omega) HUR5.out.row).mono ?_
        rintro e w6 ⟨rfl, hb⟩
        have HB6 := Lib.hid (HB5.out.trans (hb.mono HB5.out.size))
        have HUR6 := Lib.hid (HUR5.out.below hb)
        clear hb
        go_wp2_with fail
        refine (effect_Within_is HW2.out HR'.out.len (by omega) (HR'.out.below HB6.out).row HUR6.out.len (by omega) HUR6.out.row).mono ?_
        rintro e w7 ⟨rfl, hb⟩
        have HB7 := Lib.hid (HB6.out.trans (hb.mono HB6.out.size))
        have HUR7 := Lib.hid (HUR6.out.below hb)
        clear hb
        go_wp2_with fail
        refine (effect_Union_any _ 2 2 [⟨q, m, mc, l'⟩, ⟨p, n, cap, l⟩] _ rfl (by omega) (two_rows l' l _) (by exact two_ok ((HR'.out.below HB7.out).alloc _) ((HR.out.below HB7.out).alloc _)) (by simp; omega)).mono ?_
        rintro e w8 ⟨v, k', rfl, hk', hown, hb⟩
        have HB8 : Hid (Below w.heap.size w w8) := (HB7.out.alloc HB7.out.size _).trans (hb.mono (by have := HB7.out.size; simp; omega))
        have HUR8 := Lib.hid ((HUR7.out.alloc _).below hb)
        simp only [List.flatMap_cons, List.flatMap_nil, List.append_nil] at hown
        rw [HU.out] at hown
        obtain ⟨u', uc', rfl, hur'⟩ := hown.isRow encA_len (by omega)
        have hk3 : k' ≤ 200 := by simp at hk'; omega
        have HURb := Lib.hid hur'
        clear hb hown hur' hk'
        go_wp2_with fail
        refine (effect_Same_any u k uc S u' k' uc' S w8 HUR8.out.len (by omega) HUR8.out.row HURb.out.len (by omega) HURb.out.row).mono ?_
        rintro e w9 ⟨rfl, hb⟩
        have HB9 := Lib.hid (HB8.out.trans (hb.mono HB8.out.size))
        rw [HWS.out]
        clear hb
        go_wp2_with fail
        refine (awake_any w9).mono ?_
        rintro e w10 ⟨rfl, hb⟩
        have HB10 := Lib.hid (HB9.out.trans (hb.mono HB9.out.size))
        clear hb
        go_wp2_with fail
        go_ret
        exact ⟨rfl, HB10.out⟩
    · have HG' := Lib.hid hg'
      clear hg'
      go_enter Tryd.func6, Tryd.ntmps6
      go_wp2_with fail
      refine (ref_Great_is HG.out HR.out).mono ?_
      rintro e w1 ⟨rfl, rfl⟩
      go_wp2_with fail
      refine (ref_Great_is HG'.out HR'.out).mono ?_
      rintro e w1 ⟨rfl, rfl⟩
      go_wp2_with fail
      refine (awake_any w).mono ?_
      rintro e w2 ⟨rfl, hb⟩
      have HB := Lib.hid hb
      clear hb
      go_wp2_with fail
      go_ret
      exact ⟨rfl, HB.out⟩
  · have HG := Lib.hid hg
    clear hg
    go_enter Tryd.func6, Tryd.ntmps6
    go_wp2_with fail
    refine (ref_Great_is HG.out HR.out).mono ?_
    rintro e w1 ⟨rfl, rfl⟩
    go_wp2_with fail
    refine (awake_any w).mono ?_
    rintro e w2 ⟨rfl, hb⟩
    have HB := Lib.hid hb
    clear hb
    go_wp2_with fail
    go_ret
    exact ⟨rfl, HB.out⟩
end Go.Proofs.YtekhblomdlehhaaDoor
