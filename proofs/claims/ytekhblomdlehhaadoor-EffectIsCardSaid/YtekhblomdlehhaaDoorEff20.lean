/- EffectIs: the walk. -/
import Derived.Test.YtekhblomdlehhaaDoorEff16
import Derived.Test.YtekhblomdlehhaaDoorEff19
import Derived.Test.YtekhblomdlehhaaDoorOpenC
set_option linter.unusedVariables false
set_option maxRecDepth 100000
set_option linter.unusedSimpArgs false
namespace Go.Proofs.YtekhblomdlehhaaDoor
open Go.RowKit Go.Sort Go.Lib

theorem mayTo_effL (l : List Atom) (m : Nat) (hm : (sortA (l.filter atomB)).length = m) : MayTo (sortA (l.filter atomB)) m := by
  refine ⟨?_, fun j x y hj hx hy => ?_⟩
  · rw [take_full (by omega), List.all_eq_true]
    intro x hx
    rw [mem_sortA, List.mem_filter] at hx
    exact hx.2
  · have hr := rising_sortA (l.filter atomB)
    unfold Rising at hr
    rw [List.pairwise_iff_getElem] at hr
    obtain ⟨h1, rfl⟩ := List.getElem?_eq_some_iff.1 hx
    obtain ⟨h2, rfl⟩ := List.getElem?_eq_some_iff.1 hy
    exact hr j (j + 1) h1 h2 (by omega)
theorem textOne_size {l : List Atom} (hg : greatB l = false) (hok : ∀ x ∈ l, okAt x) : ∀ a ∈ l, atomB a = true → (textOne a).size ≤ 1000000 := by
  intro a ha _
  have h := hok a ha
  have hs : a.exn.size ≤ 100 := by
    unfold greatB at hg
    simp only [Bool.or_eq_false_iff, List.any_eq_false] at hg
    have := hg.2 a ha
    simp at this
    omega
  have hd := decB_size a.rho h.r0 h.r1
  have e1 : bGet.size = 3 := rfl
  have e2 : bPut.size = 3 := rfl
  have e3 : bExn.size = 3 := rfl
  have e4 : bSp.size = 1 := rfl
  unfold textOne
  split
  · simp only [ByteArray.size_append]; omega
  · split <;> (simp only [ByteArray.size_append]; omega)

theorem effect_Atom_is {p : Option Addr} {n cap : Nat} {l : List Atom} {w : World} {r : Bool} (hq : l.all atomB = r) (h : IsRow encA 3 w p n cap l) :
    Calls Tryd.prog 17 #[.slice p n cap] w fun e w' => e = .returned (.bool r) ∧ Below w.heap.size w w' := by
  subst hq; exact effect_Atom_any p n cap l w h.len h.max h.row

set_option maxHeartbeats 4000000 in
theorem effectIs_walk {w : World} (hT : Tab w) (p : Option Addr) (n cap : Nat) (l : List Atom) (hr : IsRow encA 3 w p n cap l ∧ ∀ x ∈ l, okAt x) :
    Calls Tryd.prog 4 #[.slice p n cap] w fun e w' => e = .returned (.bool true) ∧ Below w.heap.size w w' := by
  obtain ⟨hr, hok⟩ := hr
  have HR := Lib.hid hr
  have HOK := Lib.hid hok
  have HTAB := Lib.hid hT
  clear hr hok hT
  cases hg : greatB l
  · have HSZ := Lib.hid (textOne_size hg HOK.out)
    have HG := Lib.hid hg
    have hn : n ≤ 100 := by have := greatB_len hg; have := HR.out.len; omega
    clear hg
    go_enter Tryd.func4, Tryd.ntmps4
    go_wp2_with fail
    refine (ref_Great_is HG.out HR.out).mono ?_
    rintro e w1 ⟨rfl, rfl⟩
    go_wp2_with (at_builtin; refine wpList_appendR rfl _ _ 30 rfl w.heap.size 34 _ 3 32 Tryd.underlying30 infoA rfl (by decide) encA encA_len encA_one l _ 0 _ (OwnE.lit _ _ _ _ _ (Nat.le_refl _)) _ _ _ rfl rfl HR.out.len HR.out.nil (HR.out.alloc _).row ?c1 ?c2 ?c3 ?_)
    case c1 => omega
    case c2 => omega
    case c3 => simp
    · intro v1 w1 hown hg1
      have HB1 : Hid (Below w.heap.size w w1) := Below.own ((Below.refl _ _).alloc (Nat.le_refl _) _) hg1 (by simp) (OwnE.lit encA w w.heap.size 34 3 (Nat.le_refl _))
      obtain ⟨q, qc, rfl, hrow⟩ := hown.isRow encA_len (by omega)
      have HO := Lib.hid hrow
      clear hown hrow hg1
      go_wp2_with fail
      go_loopw [4, 5] (fun t i wr => ∃ k : Nat, k ≤ n ∧ i = .int .i64 k ∧ t = .bool ((l.take k).all atomB) ∧ Below w1.heap.size w1 wr) (fun _ i _ => n - (intOf i).toNat)
      case atStart => exact ⟨0, by omega, rfl, by simp, Below.refl _ _⟩
      case round =>
        obtain ⟨k, hk, rfl, rfl, hb⟩ := hrel
        have HB := Lib.hid hb
        clear hb
        by_cases hlt : k < n
        · obtain ⟨x, hx⟩ := get_of_lt (l := l) (j := k) (by rw [HR.out.len]; exact hlt)
          have HE := Lib.hid hx
          have HBB := Lib.hid (HB1.out.trans (HB.out.mono HB1.out.size))
          obtain ⟨b, o, rfl, hbl, d0, d1, d2⟩ := RowA.atom (HR.out.below HBB.out).row hx
          clear hx hbl
          cases ha : (l.take k).all atomB
          · have HA := Lib.hid ha
            clear ha
            go_wp2_with fail
            go_roundw
            case rel => exact ⟨k + 1, by omega, by go_num, by rw [all_take_get HE.out, HA.out]; rfl, HB.out⟩
            case measure => simp [intOf]; omega
          · have HA := Lib.hid ha
            clear ha
            go_wp2_with fail
            refine (ref_Atom_any x wr).mono ?_
            rintro e w2 ⟨rfl, hb⟩
            have HB2 := Lib.hid (HB.out.trans (hb.mono HB.out.size))
            clear hb d0 d1 d2
            go_wp2_with fail
            go_roundw
            case rel => exact ⟨k + 1, by omega, by go_num, by rw [all_take_get HE.out, HA.out]; rfl, HB2.out⟩
            case measure => simp [intOf]; omega
        · have hkn : k = n := by omega
          subst hkn
          have HB2 := Lib.hid (HB1.out.trans (HB.out.mono HB1.out.size))
          have HO2 := Lib.hid (HO.out.below HB.out)
          rw [take_full (by rw [HR.out.len]; omega)]
          generalize hall : l.all atomB = al
          have HALL := Lib.hid hall
          clear hall
          go_wp2_with fail
          refine (effect_Of_any q k qc l wr HO2.out.len (by omega) HO2.out.row).mono ?_
          rintro e w3 ⟨v, m, rfl, hmn, hown, hb⟩
          obtain ⟨u, uc, rfl, hur⟩ := hown.isRow encA_len (by omega)
          have HU3 := Lib.hid hur
          have HB3 := Lib.hid (HB2.out.trans (hb.mono HB2.out.size))
          have HO3 := Lib.hid (HO2.out.below hb)
          clear hown hur hb
          go_wp2_with fail
          refine (ref_Equal_any q k qc l p k cap l w3 HO3.out.len (by omega) HO3.out.row HR.out.len (by omega) (HR.out.below HB3.out).row).mono ?_
          rintro e w4 ⟨rfl, jj, rfl⟩
          rw [show eqL l l = true from by simp [eqL]]
          have HB4 : Hid (Below w.heap.size w (w3.drewN jj)) := below_drewN HB3.out _
          have HO4 : Hid (IsRow encA 3 (w3.drewN jj) q k qc l) := HO3.out.below (below_drewN (Below.refl _ _) _)
          have HU4 : Hid (IsRow encA 3 (w3.drewN jj) u m uc (sortA (l.filter atomB))) := HU3.out.below (below_drewN (Below.refl _ _) _)
          generalize w3.drewN jj = w4 at HB4 HO4 HU4 ⊢
          go_wp2_with fail
          refine (effect_Atom_is HALL.out HO4.out).mono ?_
          rintro e w5 ⟨rfl, hb⟩
          have HB5 := Lib.hid (HB4.out.trans (hb.mono HB4.out.size))
          have HO5 := Lib.hid (HO4.out.below hb)
          have HU5 := Lib.hid (HU4.out.below hb)
          clear hb
          have hal : (al != al) = false := by simp
          go_wp2_with fail
          refine (effect_May_any q k qc l w5 HO5.out.len (by omega) HO5.out.row).mono ?_
          rintro e w6 ⟨⟨r1, rfl, hr1⟩, hb⟩
          have HR1 := Lib.hid hr1
          have HB6 := Lib.hid (HB5.out.trans (hb.mono HB5.out.size))
          have HO6 := Lib.hid (HO5.out.below hb)
          have HU6 := Lib.hid (HU5.out.below hb)
          clear hb hr1
          go_wp2_with fail
          refine (ref_May_any p k cap l w6 HR.out.len (by omega) (HR.out.below HB6.out).row).mono ?_
          rintro e w7 ⟨⟨r2, rfl, hr2⟩, hb⟩
          have hr12 : r1 = r2 := by rw [Bool.eq_iff_iff, HR1.out, hr2]
          subst hr12
          have HB7 := Lib.hid (HB6.out.trans (hb.mono HB6.out.size))
          have HO7 := Lib.hid (HO6.out.below hb)
          have HU7 := Lib.hid (HU6.out.below hb)
          clear hb hr2
          have hrr : (r1 != r1) = false := by simp
          go_wp2_with fail
          refine (ref_Of_any p k cap l w7 HR.out.len (by omega) (HR.out.below HB7.out).row).mono ?_
          rintro e w8 ⟨v, rfl, ⟨q8, m8, c8, rfl, hl8, hc8, hr8⟩, hb⟩
          rw [refOf_eq] at hl8 hr8
          have HL8 := Lib.hid hl8
          have HR8 := Lib.hid hr8
          have hm8 : m8 ≤ 100 := by have := HU7.out.len; omega
          have HB8 := Lib.hid (HB7.out.trans (hb.mono HB7.out.size))
          have HO8 := Lib.hid (HO7.out.below hb)
          have HU8 := Lib.hid (HU7.out.below hb)
          clear hb hl8 hr8
          go_wp2_with fail
          refine (ref_Equal_any u m uc _ q8 m8 c8 _ w8 HU8.out.len (by omega) HU8.out.row HL8.out (by omega) HR8.out).mono ?_
          rintro e w9 ⟨rfl, j9, rfl⟩
          rw [show eqL (sortA (l.filter atomB)) (sortA (l.filter atomB)) = true from by simp [eqL]]
          have HB9 : Hid (Below w.heap.size w (w8.drewN j9)) := below_drewN HB8.out _
          have HO9 : Hid (IsRow encA 3 (w8.drewN j9) q k qc l) := HO8.out.below (below_drewN (Below.refl _ _) _)
          have HU9 : Hid (IsRow encA 3 (w8.drewN j9) u m uc (sortA (l.filter atomB))) := HU8.out.below (below_drewN (Below.refl _ _) _)
          generalize w8.drewN j9 = w9 at HB9 HO9 HU9 ⊢
          go_wp2_with fail
          refine (effect_May_any u m uc _ w9 HU9.out.len (by omega) HU9.out.row).mono ?_
          rintro e w10 ⟨⟨r3, rfl, hr3⟩, hb⟩
          have hr3' : r3 = true := hr3.2 (mayTo_effL l m HU9.out.len)
          subst hr3'
          have HB10 := Lib.hid (HB9.out.trans (hb.mono HB9.out.size))
          have HO10 := Lib.hid (HO9.out.below hb)
          clear hb hr3
          go_wp2_with fail
          refine (effect_Text_any q k qc l w10 HO10.out.len (by omega) HO10.out.row (fun a ha _ _ => digOK_of (HOK.out a ha).r0 (HOK.out a ha).r1 (HTAB.out.below HB10.out)) HSZ.out).mono ?_
          rintro e w11 ⟨rfl, hb⟩
          have HB11 := Lib.hid (HB10.out.trans (hb.mono HB10.out.size))
          clear hb
          go_wp2_with fail
          refine (ref_Text_any (HR.out.below HB11.out) (by omega) (fun a ha => (HOK.out a ha).r1) HSZ.out).mono ?_
          rintro e w12 ⟨rfl, hb⟩
          have HB12 := Lib.hid (HB11.out.trans (hb.mono HB11.out.size))
          clear hb
          go_wp2_with fail
          refine (awake_any w12).mono ?_
          rintro e w13 ⟨rfl, hb⟩
          have HB13 := Lib.hid (HB12.out.trans (hb.mono HB12.out.size))
          clear hb
          go_wp2_with fail
          go_ret
          exact ⟨rfl, HB13.out⟩
  · have HG := Lib.hid hg
    clear hg
    go_enter Tryd.func4, Tryd.ntmps4
    go_wp2_with fail
    refine (ref_Great_is HG.out HR.out).mono ?_
    rintro e w1 ⟨rfl, rfl⟩
    go_wp2_with fail
    refine (awake_any w).mono ?_
    rintro e w2 ⟨rfl, hb⟩
    have HB := Lib.hid hb
    clear hb
    go_wp2_with fail
    go_ret
    exact ⟨rfl, HB.out⟩
end Go.Proofs.YtekhblomdlehhaaDoor
