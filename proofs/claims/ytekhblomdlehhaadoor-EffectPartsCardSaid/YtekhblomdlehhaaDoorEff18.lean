/- EffectParts: the walk. -/
import Derived.Test.YtekhblomdlehhaaDoorEff17
import Derived.Test.YtekhblomdlehhaaDoorEff16
set_option linter.unusedVariables false
set_option maxRecDepth 100000
set_option linter.unusedSimpArgs false
namespace Go.Proofs.YtekhblomdlehhaaDoor
open Go.RowKit Go.Sort Go.Lib

theorem mem_withoutL (l : List Atom) (rhos : List Int) (x : Atom) : x ∈ withoutL l rhos ↔ x ∈ l ∧ atomB x = true ∧ goesR rhos x = false := by
  unfold withoutL
  rw [List.mem_filter, mem_sortA, List.mem_filter]
  simp [and_assoc]
theorem mem_handledL (l : List Atom) (exns : List ByteArray) (x : Atom) : x ∈ handledL l exns ↔ x ∈ l ∧ atomB x = true ∧ goesX exns x = false := by
  unfold handledL
  rw [List.mem_filter, mem_sortA, List.mem_filter]
  simp [and_assoc]
theorem mem_exnsL (S : List Atom) (s : ByteArray) : s ∈ exnsL S ↔ ∃ x ∈ S, x.kind = 3 ∧ x.exn = s := by
  unfold exnsL
  rw [List.mem_map]
  constructor
  · rintro ⟨x, hx, rfl⟩
    rw [List.mem_filter] at hx
    exact ⟨x, hx.1, by simpa using hx.2, rfl⟩
  · rintro ⟨x, hx, h3, rfl⟩
    exact ⟨x, by rw [List.mem_filter]; exact ⟨hx, by simpa using h3⟩, rfl⟩
/-- the effect of a row -/
abbrev effL (l : List Atom) : List Atom := sortA (l.filter atomB)
/-- without the exceptions that it has, an effect has none -/
theorem mem_handled_own (l : List Atom) (x : Atom) : x ∈ handledL l (exnsL (effL l)) ↔ x ∈ l ∧ atomB x = true ∧ x.kind ≠ 3 := by
  rw [mem_handledL]
  constructor
  · rintro ⟨h1, h2, h3⟩
    refine ⟨h1, h2, fun h => ?_⟩
    unfold goesX at h3
    rw [decide_eq_true h, Bool.true_and] at h3
    have : x.exn ∈ exnsL (effL l) := (mem_exnsL _ _).2 ⟨x, by rw [mem_sortA, List.mem_filter]; exact ⟨h1, h2⟩, h, rfl⟩
    rw [(inS_mem _ _).2 this] at h3; cases h3
  · rintro ⟨h1, h2, h3⟩
    exact ⟨h1, h2, by simp [goesX, h3]⟩
def goneL (l : List Atom) (rhos : List Int) : List Atom := l.filter (goesR rhos)

theorem parts_union (l : List Atom) (rhos : List Int) : effL (withoutL l rhos ++ goneL l rhos) = effL l := by
  refine sortA_congr (fun x => ?_)
  simp only [List.mem_filter, List.mem_append, mem_withoutL, goneL]
  constructor
  · rintro ⟨h | h, h'⟩
    · exact ⟨h.1, h'⟩
    · exact ⟨h.1, h'⟩
  · rintro ⟨h, h'⟩
    cases hg : goesR rhos x
    · exact ⟨.inl ⟨h, h', rfl⟩, h'⟩
    · exact ⟨.inr ⟨h, rfl⟩, h'⟩
theorem parts_within (l : List Atom) (rhos : List Int) : withinB (withoutL l rhos) l = true :=
  (withinB_iff _ _).2 (fun x hx _ => ((mem_withoutL l rhos x).1 hx).1)
theorem parts_same (l : List Atom) (rhos : List Int) : (withinB (handledL (withoutL l rhos) (exnsL (effL (withoutL l rhos)))) (withoutL (handledL l (exnsL (effL l))) rhos) && withinB (withoutL (handledL l (exnsL (effL l))) rhos) (handledL (withoutL l rhos) (exnsL (effL (withoutL l rhos))))) = true := by
  have h : ∀ x, x ∈ handledL (withoutL l rhos) (exnsL (effL (withoutL l rhos))) ↔ x ∈ withoutL (handledL l (exnsL (effL l))) rhos := by
    intro x
    rw [mem_handled_own, mem_withoutL, mem_withoutL, mem_handled_own]
    constructor
    · rintro ⟨⟨h1, h2, h3⟩, h4, h5⟩; exact ⟨⟨h1, h2, h5⟩, h4, h3⟩
    · rintro ⟨⟨h1, h2, h5⟩, h4, h3⟩; exact ⟨⟨h1, h2, h3⟩, h4, h5⟩
  rw [Bool.and_eq_true]
  exact ⟨(withinB_iff _ _).2 (fun x hx _ => (h x).1 hx), (withinB_iff _ _).2 (fun x hx _ => (h x).2 hx)⟩

theorem one_row {w : World} {p : Option Addr} {n nc : Nat} (l : List Atom) (t : TypeId) : RowE encSl 1 (w.alloc (.cells #[.slice p n nc] t)) (some ⟨w.heap.size, 0, none⟩) [⟨p, n, nc, l⟩] :=
  RowE.newAt encSl_len w _ _ rfl _ _ _ rfl
theorem one_ok {w : World} {p : Option Addr} {n nc : Nat} {l : List Atom} (h : IsRow encA 3 w p n nc l) : ∀ r ∈ [(⟨p, n, nc, l⟩ : SlE Atom)], r.Ok encA 3 w := by
  intro r hr
  simp only [List.mem_cons, List.not_mem_nil, or_false] at hr
  subst hr
  exact ⟨h.len, h.le, h.nil, h.row⟩
theorem ref_Ints_is {p : Option Addr} {n cap : Nat} {l : List Int} {x : Int} {w : World} {r : Bool} (hq : inN l x = r) (h : IsRow encN 1 w p n cap l) :
    Calls Tryd.prog 30 #[.slice p n cap, .int .i64 x] w fun e w' => e = .returned (.bool r) ∧ w = w' := by
  subst hq; exact ref_Ints_any p n cap l x w h.len h.max h.row

set_option maxHeartbeats 4000000 in
theorem effectParts_walk {w : World} (p : Option Addr) (n cap : Nat) (l : List Atom) (hr : IsRow encA 3 w p n cap l) (q : Option Addr) (m mc : Nat) (rhos : List Int) (hr' : IsRow encN 1 w q m mc rhos) :
    Calls Tryd.prog 7 #[.slice p n cap, .slice q m mc] w fun e w' => e = .returned (.bool true) ∧ Below w.heap.size w w' := by
  have hmx := hr'.max
  have HR := Lib.hid hr
  have HR' := Lib.hid hr'
  clear hr hr'
  cases hg : greatB l
  · have HG := Lib.hid hg
    have hn : n ≤ 100 := by have := greatB_len hg; have := HR.out.len; omega
    clear hg
    by_cases h100 : 100 < m
    · go_enter Tryd.func7, Tryd.ntmps7
      go_wp2_with fail
      refine (ref_Great_is HG.out HR.out).mono ?_
      rintro e w1 ⟨rfl, rfl⟩
      go_wp2_with fail
      refine (awake_any w).mono ?_
      rintro e w2 ⟨rfl, hb⟩
      have HB := Lib.hid hb
      clear hb
      go_wp2_with fail
      go_ret
      exact ⟨rfl, HB.out⟩
    · have hm : m ≤ 100 := by omega
      have HP1 := Lib.hid (parts_union l rhos)
      have HP2 := Lib.hid (parts_within l rhos)
      have HP3 := Lib.hid (parts_same l rhos)
      clear h100 hmx
      go_enter Tryd.func7, Tryd.ntmps7
      go_wp2_with fail
      refine (ref_Great_is HG.out HR.out).mono ?_
      rintro e w1 ⟨rfl, rfl⟩
      go_wp2_with fail
      refine (effect_Without_any HR.out (by omega) HR'.out).mono ?_
      rintro e w1 ⟨v, k, rfl, hk, hown, hb⟩
      obtain ⟨u, uc, rfl, hur⟩ := hown.isRow encA_len (by omega)
      generalize hL : withoutL l rhos = L at hur HP1 HP2 HP3
      have HLE := Lib.hid hL
      have HU := Lib.hid hur
      have HB1 := Lib.hid hb
      clear hb
      clear hown hur hL
      go_wp2_with fail
      go_loopw [6, 7] (fun u i wr => ∃ k t : Nat, k ≤ n ∧ i = .int .i64 k ∧ t ≤ k ∧ OwnE encA 3 wr w1.heap.size 34 u t (goneL (l.take k) rhos) ∧ Below w1.heap.size w1 wr) (fun _ i _ => n - (intOf i).toNat)
      case atStart => exact ⟨0, 0, by omega, rfl, by omega, OwnE.lit _ _ _ _ _ (Nat.le_refl _), (Below.refl _ _).alloc (Nat.le_refl _) _⟩
      case round =>
        obtain ⟨j, t, hj, rfl, htj, hown, hb⟩ := hrel
        have HOWN := Lib.hid hown
        have HBW := Lib.hid hb
        clear hown hb
        by_cases hlt : j < n
        · obtain ⟨x, hx⟩ := get_of_lt (l := l) (j := j) (by rw [HR.out.len]; exact hlt)
          have HE := Lib.hid hx
          have HBB := Lib.hid (HB1.out.trans (HBW.out.mono HB1.out.size))
          obtain ⟨b, o, rfl, hbl, d0, d1, d2⟩ := RowA.atom (HR.out.below HBB.out).row hx
          obtain ⟨kd, rr, ss⟩ := x
          simp only at d0 d1 d2
          clear hx hbl
          by_cases h3 : kd = 3
          · subst h3
            have HGO : Hid (goesR rhos ⟨3, rr, ss⟩ = false) := rfl
            go_wp2_with fail
            go_roundw
            case rel => exact ⟨j + 1, t, by omega, by go_num, by omega, by rw [take_succ_get HE.out]; have := HOWN.out; unfold goneL at this ⊢; rw [List.filter_append]; simpa [HGO.out] using this, HBW.out⟩
            case measure => simp [intOf]; omega
          · have h3' : (kd != 3) = true := by simpa using h3
            have HGO : Hid (goesR rhos ⟨kd, rr, ss⟩ = inN rhos rr) := by show _ = _; simp [goesR, h3]
            clear h3
            cases hi : inN rhos rr
            · have HI := Lib.hid hi
              clear hi
              go_wp2_with fail
              refine (ref_Ints_is HI.out (HR'.out.below HBB.out)).mono ?_
              rintro e w2 ⟨rfl, rfl⟩
              go_wp2_with fail
              go_roundw
              case rel => exact ⟨j + 1, t, by omega, by go_num, by omega, by rw [take_succ_get HE.out]; have := HOWN.out; unfold goneL at this ⊢; rw [List.filter_append]; simpa [HGO.out, HI.out] using this, HBW.out⟩
              case measure => simp [intOf]; omega
            · have HI := Lib.hid hi
              clear hi
              go_wp2_with fail
              refine (ref_Ints_is HI.out (HR'.out.below HBB.out)).mono ?_
              rintro e w2 ⟨rfl, rfl⟩
              go_wp2_with (at_builtin; refine wpList_append1 rfl _ _ 30 rfl w1.heap.size 34 _ 3 32 Tryd.underlying30 infoA rfl (by decide) encA encA_len encA_one ⟨kd, rr, ss⟩ _ _ _ HOWN.out rfl rfl ?c1 ?c2 ?c3 ?_)
              case c1 => omega
              case c2 => omega
              case c3 => exact HBW.out.size
              · intro v' w4 hown' hg
                have HO4 := Lib.hid hown'
                have HB4 := Lib.hid (Below.own HBW.out hg HBW.out.size HOWN.out)
                clear hown' hg d0 d1 d2
                go_wp2_with fail
                go_roundw
                case rel => exact ⟨j + 1, t + 1, by omega, by go_num, by omega, by rw [take_succ_get HE.out]; have := HO4.out; unfold goneL at this ⊢; rw [List.filter_append]; simpa [HGO.out, HI.out] using this, HB4.out⟩
                case measure => simp [intOf]; omega
        · have hjn : j = n := by omega
          subst hjn
          have hown := HOWN.out
          rw [take_full (by rw [HR.out.len]; omega)] at hown
          obtain ⟨gq, gc, rfl, hgr⟩ := hown.isRow encA_len (by omega)
          have HGR := Lib.hid hgr
          have HU2 := Lib.hid (HU.out.below HBW.out)
          have HB2 := Lib.hid (HB1.out.trans (HBW.out.mono HB1.out.size))
          clear hown hgr
          go_wp2_with fail
          refine (effect_Union_any _ 2 2 [⟨u, k, uc, L⟩, ⟨gq, t, gc, goneL l rhos⟩] _ rfl (by omega) (two_rows L (goneL l rhos) _) (by exact two_ok (HU2.out.alloc _) (HGR.out.alloc _)) (by simp; omega)).mono ?_
          rintro e w3 ⟨v, k1, rfl, hk1, hown, hb⟩
          simp only [List.flatMap_cons, List.flatMap_nil, List.append_nil] at hown
          rw [show sortA ((L ++ goneL l rhos).filter atomB) = effL l from HP1.out] at hown
          obtain ⟨u1, uc1, rfl, hur⟩ := hown.isRow encA_len (by omega)
          have hk1' : k1 ≤ 200 := by simp at hk1; omega
          have HU3 := Lib.hid hur
          have HB3 : Hid (Below w.heap.size w w3) := (HB2.out.alloc HB2.out.size _).trans (hb.mono (by have := HB2.out.size; simp; omega))
          have HL3 := Lib.hid ((HU2.out.alloc _).below hb)
          clear hown hur hb hk1
          go_wp2_with fail
          refine (effect_Of_any p j cap l w3 HR.out.len (by omega) (HR.out.below HB3.out).row).mono ?_
          rintro e w4 ⟨v, k2, rfl, hk2, hown, hb⟩
          obtain ⟨u2, uc2, rfl, hur⟩ := hown.isRow encA_len (by omega)
          have HU4 : Hid (IsRow encA 3 w4 u2 k2 uc2 (effL l)) := hur
          have HU34 := Lib.hid (HU3.out.below hb)
          have HL4 := Lib.hid (HL3.out.below hb)
          have HB4 := Lib.hid (HB3.out.trans (hb.mono HB3.out.size))
          clear hown hur hb
          go_wp2_with fail
          refine (ref_Equal_any u1 k1 uc1 (effL l) u2 k2 uc2 (effL l) w4 HU34.out.len (by omega) HU34.out.row HU4.out.len (by omega) HU4.out.row).mono ?_
          rintro e w5 ⟨rfl, jj, rfl⟩
          rw [show eqL (effL l) (effL l) = true from by simp [eqL]]
          have HB5 : Hid (Below w.heap.size w (w4.drewN jj)) := below_drewN HB4.out _
          have HL5 : Hid (IsRow encA 3 (w4.drewN jj) u k uc L) := HL4.out.below (below_drewN (Below.refl _ _) _)
          go_wp2_with fail
          refine (effect_Within_is HP2.out HL5.out.len (by omega) HL5.out.row HR.out.len (by omega) (HR.out.below HB5.out).row).mono ?_
          rintro e w6 ⟨rfl, hb⟩
          have HB6 := Lib.hid (HB5.out.trans (hb.mono HB5.out.size))
          have HL6 := Lib.hid (HL5.out.below hb)
          clear hb
          go_wp2_with fail
          refine (effect_Exns_any _ 1 1 [⟨u, k, uc, L⟩] _ rfl (by omega) (one_row L _) (by exact one_ok (HL6.out.alloc _)) (by simp; omega)).mono ?_
          rintro e w7 ⟨v, k7, rfl, hk7, hown, hb⟩
          simp only [List.flatMap_cons, List.flatMap_nil, List.append_nil] at hown
          obtain ⟨u7, uc7, rfl, hur⟩ := hown.isRow encS_len (by omega)
          have HX7 : Hid (IsRow encS 1 w7 u7 k7 uc7 (exnsL (effL L))) := hur
          have HB7 : Hid (Below w.heap.size w w7) := (HB6.out.alloc HB6.out.size _).trans (hb.mono (by have := HB6.out.size; simp; omega))
          have HL7 := Lib.hid ((HL6.out.alloc _).below hb)
          clear hown hur hb
          go_wp2_with fail
          refine (effect_Handled_any HL7.out (by omega) HX7.out).mono ?_
          rintro e w8 ⟨v, k8, rfl, hk8, hown, hb⟩
          obtain ⟨u8, uc8, rfl, hur⟩ := hown.isRow encA_len (by omega)
          have HA8 := Lib.hid hur
          have HB8 := Lib.hid (HB7.out.trans (hb.mono HB7.out.size))
          clear hown hur hb
          go_wp2_with fail
          refine (effect_Exns_any _ 1 1 [⟨p, j, cap, l⟩] _ rfl (by omega) (one_row l _) (by exact one_ok ((HR.out.below HB8.out).alloc _)) (by simp; omega)).mono ?_
          rintro e w9 ⟨v, k9, rfl, hk9, hown, hb⟩
          simp only [List.flatMap_cons, List.flatMap_nil, List.append_nil] at hown
          obtain ⟨u9, uc9, rfl, hur⟩ := hown.isRow encS_len (by omega)
          have HX9 : Hid (IsRow encS 1 w9 u9 k9 uc9 (exnsL (effL l))) := hur
          have HB9 : Hid (Below w.heap.size w w9) := (HB8.out.alloc HB8.out.size _).trans (hb.mono (by have := HB8.out.size; simp; omega))
          have HA9 := Lib.hid ((HA8.out.alloc _).below hb)
          clear hown hur hb
          go_wp2_with fail
          refine (effect_Handled_any (HR.out.below HB9.out) (by omega) HX9.out).mono ?_
          rintro e w10 ⟨v, k10, rfl, hk10, hown, hb⟩
          obtain ⟨u10, uc10, rfl, hur⟩ := hown.isRow encA_len (by omega)
          have HY10 := Lib.hid hur
          have HB10 := Lib.hid (HB9.out.trans (hb.mono HB9.out.size))
          have HA10 := Lib.hid (HA9.out.below hb)
          clear hown hur hb
          go_wp2_with fail
          refine (effect_Without_any HY10.out (by omega) (HR'.out.below HB10.out)).mono ?_
          rintro e w11 ⟨v, k11, rfl, hk11, hown, hb⟩
          obtain ⟨u11, uc11, rfl, hur⟩ := hown.isRow encA_len (by omega)
          have HY11 := Lib.hid hur
          have HB11 := Lib.hid (HB10.out.trans (hb.mono HB10.out.size))
          have HA11 := Lib.hid (HA10.out.below hb)
          clear hown hur hb
          go_wp2_with fail
          refine (effect_Same_any u8 k8 uc8 _ u11 k11 uc11 _ w11 HA11.out.len (by omega) HA11.out.row HY11.out.len (by omega) HY11.out.row).mono ?_
          rintro e w12 ⟨rfl, hb⟩
          rw [HP3.out]
          have HB12 := Lib.hid (HB11.out.trans (hb.mono HB11.out.size))
          clear hb
          go_wp2_with fail
          refine (awake_any w12).mono ?_
          rintro e w13 ⟨rfl, hb⟩
          have HB13 := Lib.hid (HB12.out.trans (hb.mono HB12.out.size))
          clear hb
          go_wp2_with fail
          go_ret
          exact ⟨rfl, HB13.out⟩
  · have HG := Lib.hid hg
    clear hg
    go_enter Tryd.func7, Tryd.ntmps7
    go_wp2_with fail
    refine (ref_Great_is HG.out HR.out).mono ?_
    rintro e w1 ⟨rfl, rfl⟩
    go_wp2_with fail
    refine (awake_any w).mono ?_
    rintro e w2 ⟨rfl, hb⟩
    have HB := Lib.hid hb
    clear hb
    go_wp2_with fail
    go_ret
    exact ⟨rfl, HB.out⟩
end Go.Proofs.YtekhblomdlehhaaDoor
