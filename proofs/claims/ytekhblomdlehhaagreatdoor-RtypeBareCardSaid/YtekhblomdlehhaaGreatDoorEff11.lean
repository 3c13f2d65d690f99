/- effect.Swap. -/
import Derived.Test.YtekhblomdlehhaaGreatDoorEff10
set_option linter.unusedVariables false
set_option maxRecDepth 100000
set_option linter.unusedSimpArgs false
namespace Go.Proofs.YtekhblomdlehhaaGreatDoor
open Go.RowKit Go.Sort Go.Lib

theorem getD_of_get {l : List Int} {j : Nat} {x : Int} (h : l[j]? = some x) : l.getD j 0 = x := by simp [List.getD, h]

/-- slices.Index of ints, over a row -/
theorem index_any (x : Int) (p : Option Addr) (n cap : Nat) (l : List Int) (w : World) (hn : l.length = n) (hm : n ≤ 9223372036854775807) (hr : RowE encN 1 w p l) :
    Calls Tryz.prog 72 #[.slice p n cap, .int .i64 x] w fun e w' => e = .returned (.int .i64 (Lib.idxOf l x)) ∧ w' = w := by
  by_cases h0 : n = 0
  · subst h0
    have : l = [] := List.length_eq_zero_iff.1 hn
    subst this
    exact Tryz.slices_Index_int_empty p cap x w
  · obtain ⟨b, o, rfl, _, hc⟩ := hr.at (by omega)
    have := Tryz.slices_Index_int b o n cap l x w (by omega) hm (fun j hj => by
      have := hc j (l[j]) (List.getElem?_eq_getElem hj) 0 _ rfl
      simpa [List.getD, hj] using this)
    rw [List.take_of_length_le (by omega)] at this
    exact this

theorem idxFrom_turn (x : Int) : ∀ (f t : List Int) (i : Nat), (Lib.idxFrom f x i = -1 ∧ turnI x f t = x) ∨ ∃ k : Nat, k < f.length ∧ Lib.idxFrom f x i = ((i + k : Nat) : Int) ∧ turnI x f t = (t[k]?).getD x
  | [], _, _ => .inl ⟨rfl, rfl⟩
  | y :: f, t, i => by
    unfold Lib.idxFrom turnI
    by_cases h : y = x
    · rw [if_pos h, if_pos h]
      exact .inr ⟨0, by simp, rfl, rfl⟩
    · rw [if_neg h, if_neg h]
      rcases idxFrom_turn x f (t.drop 1) (i + 1) with h1 | ⟨k, hk, h1, h2⟩
      · exact .inl h1
      · refine .inr ⟨k + 1, by simpa using hk, by rw [h1]; congr 1; omega, ?_⟩
        rw [h2]; simp [Nat.add_comm]
/-- what Index tells of Turn -/
theorem idx_turn (x : Int) (f t : List Int) : (Lib.idxOf f x = -1 ∧ turnI x f t = x) ∨ ∃ k : Nat, k < f.length ∧ Lib.idxOf f x = k ∧ turnI x f t = (t[k]?).getD x := by
  have := idxFrom_turn x f t 0
  simpa [Lib.idxOf] using this

theorem index_is (x : Int) (p : Option Addr) (n cap : Nat) (l : List Int) (w : World) (i : Int) (hi : Lib.idxOf l x = i) (hn : l.length = n) (hm : n ≤ 9223372036854775807) (hr : RowE encN 1 w p l) :
    Calls Tryz.prog 72 #[.slice p n cap, .int .i64 x] w fun e w' => e = .returned (.int .i64 i) ∧ w' = w := by
  subst hi; exact index_any x p n cap l w hn hm hr
/-- the turned region stands in its place -/
theorem swA_of {f t : List Int} {kd rr z : Int} {ss : ByteArray} (h3 : kd ≠ 3) (h : turnI rr f t = z) : swA f t ⟨kd, rr, ss⟩ = ⟨kd, z, ss⟩ := by
  subst h; unfold swA; rw [if_neg h3]
theorem swA_same {f t : List Int} {kd rr : Int} {ss : ByteArray} (h : kd = 3 ∨ turnI rr f t = rr) : swA f t ⟨kd, rr, ss⟩ = ⟨kd, rr, ss⟩ := by
  unfold swA
  by_cases h3 : kd = 3
  · rw [if_pos h3]
  · rw [if_neg h3, h.resolve_left h3]

/-- the effect of turned atoms -/
def swL (f t : List Int) (l : List Atom) : List Atom := sortA (((sortA (l.filter atomB)).map (swA f t)).filter atomB)

set_option maxHeartbeats 2000000 in
theorem effect_Swap_any (p : Option Addr) (n cap : Nat) (l : List Atom) (p1 : Option Addr) (n1 c1 : Nat) (f : List Int) (p2 : Option Addr) (n2 c2 : Nat) (t : List Int) (w : World) (hn : l.length = n) (hm : n ≤ 1000000) (hr : RowA w p l)
    (hn1 : f.length = n1) (hm1 : n1 ≤ 1000000) (hr1 : RowE encN 1 w p1 f) (hn2 : t.length = n2) (hm2 : n2 ≤ 1000000) (hr2 : RowE encN 1 w p2 t) :
    Calls Tryz.prog 71 #[.slice p n cap, .slice p1 n1 c1, .slice p2 n2 c2] w fun e w' => ∃ v, e = .returned v ∧ Sl encA 3 w' v (swL f t l) ∧ Below w.heap.size w w' := by
  have HR := Lib.hid hr
  have HN := Lib.hid hn
  have HR1 := Lib.hid hr1
  have HN1 := Lib.hid hn1
  have HR2 := Lib.hid hr2
  have HN2 := Lib.hid hn2
  clear hr hn hr1 hn1 hr2 hn2
  go_enter Tryz.func71, Tryz.ntmps71
  go_wp2_with fail
  refine (effect_Of_any p n cap l _ HN.out hm HR.out).mono ?_
  rintro e w1 ⟨v, m, rfl, hmn, hown, hb⟩
  obtain ⟨q, mc, rfl, hSl, hmc, hrow, _⟩ := hown.row encA_len (by omega)
  have HROW := Lib.hid hrow
  have HSL := Lib.hid hSl
  have HB1 := Lib.hid hb
  generalize hS : sortA (l.filter atomB) = S at HROW HSL
  have HS := Lib.hid hS
  clear hown hb hrow hSl hS
  go_wp2_with fail
  go_loopw [7, 10, 14] (fun u _ i wr => ∃ k : Nat, k ≤ m ∧ i = .int .i64 k ∧ OwnE encA 3 wr w1.heap.size 70 u k ((S.take k).map (swA f t)) ∧ Below w1.heap.size w1 wr) (fun _ _ i _ => m - (intOf i).toNat)
  case atStart => exact ⟨0, by omega, rfl, OwnE.nil _ _ _ _ _, Below.refl _ _⟩
  case round =>
    obtain ⟨k, hk, rfl, hown, hb⟩ := hrel
    have HOWN := Lib.hid hown
    have HB := Lib.hid hb
    clear hown hb
    by_cases hlt : k < m
    · obtain ⟨x, hx⟩ := get_of_lt (l := S) (j := k) (by rw [HSL.out]; exact hlt)
      have HE := Lib.hid hx
      obtain ⟨b, o, rfl, hbl, d0, d1, d2⟩ := RowA.atom (HROW.out.below HB.out) hx
      clear hx hbl
      obtain ⟨kd, rr, ss⟩ := x
      simp only at d0 d1 d2
      have HW := Lib.hid (HB1.out.trans (HB.out.mono HB1.out.size))
      by_cases hk3 : kd = 3
      · subst hk3
        have HO2 := Lib.hid (HOWN.out.below ((Below.refl _ wr).alloc (Nat.le_refl _) (.cells #[.int .u8 3, .int .i64 rr, .string ss] 70)))
        have HB2 : Hid (Below w1.heap.size w1 (wr.alloc (.cells #[.int .u8 3, .int .i64 rr, .string ss] 70))) := HB.out.alloc HB.out.size _
        go_wp2_with fail
        refine (index_is rr p1 n1 c1 f _ _ rfl HN1.out (by omega) ((HR1.out.below HW.out).alloc _)).mono ?_
        rintro e w2 ⟨rfl, rfl⟩
        generalize Lib.idxOf f rr = c
        go_wp2_with (at_builtin; refine wpList_append1 rfl _ _ 25 rfl w1.heap.size 70 _ 3 32 Tryz.underlying25 infoA rfl (by decide) encA encA_len encA_one (⟨3, rr, ss⟩ : Atom) _ _ _ HO2.out rfl (by refine Eq.trans (b := Value.slice (some ⟨wr.heap.size + 1, 0, none⟩) 1 1) rfl ?_; simp) ?c1 ?c2 ?c3 ?_)
        case c1 => omega
        case c2 => omega
        case c3 => exact HB2.out.size
        · intro v' w4 hown' hg
          have HO := Lib.hid hown'
          have HB4 := Lib.hid (Below.own HB2.out hg HB2.out.size HO2.out)
          clear hown' hg
          go_wp2_with fail
          go_roundw
          case rel => exact ⟨k + 1, by omega, by go_num, by
            have e1 : (S.take (k + 1)).map (swA f t) = (S.take k).map (swA f t) ++ [(⟨3, rr, ss⟩ : Atom)] := by rw [take_succ_get HE.out, List.map_append]; simp only [List.map_cons, List.map_nil]; rw [swA_same (.inl rfl)]
            rw [e1, List.map_take]; exact HO.out, HB4.out⟩
          case measure => simp [intOf]; omega
      · have HK3 := Lib.hid hk3
        have hkd : decide (kd = 3) = false := by simp [hk3]
        rcases idx_turn rr f t with ⟨hi, ht⟩ | ⟨j, hj, hi, ht⟩
        · have HI := Lib.hid hi
          have HT := Lib.hid ht
          clear hi ht
          have HO2 := Lib.hid (HOWN.out.below ((Below.refl _ wr).alloc (Nat.le_refl _) (.cells #[.int .u8 kd, .int .i64 rr, .string ss] 70)))
          have HB2 : Hid (Below w1.heap.size w1 (wr.alloc (.cells #[.int .u8 kd, .int .i64 rr, .string ss] 70))) := HB.out.alloc HB.out.size _
          go_wp2_with fail
          refine (index_is rr p1 n1 c1 f _ (-1) HI.out HN1.out (by omega) ((HR1.out.below HW.out).alloc _)).mono ?_
          rintro e w2 ⟨rfl, rfl⟩
          go_wp2_with (at_builtin; refine wpList_append1 rfl _ _ 25 rfl w1.heap.size 70 _ 3 32 Tryz.underlying25 infoA rfl (by decide) encA encA_len encA_one (⟨kd, rr, ss⟩ : Atom) _ _ _ HO2.out rfl (by refine Eq.trans (b := Value.slice (some ⟨wr.heap.size + 1, 0, none⟩) 1 1) rfl ?_; simp) ?c1 ?c2 ?c3 ?_)
          case c1 => omega
          case c2 => omega
          case c3 => exact HB2.out.size
          · intro v' w4 hown' hg
            have HO := Lib.hid hown'
            have HB4 := Lib.hid (Below.own HB2.out hg HB2.out.size HO2.out)
            clear hown' hg
            go_wp2_with fail
            go_roundw
            case rel => exact ⟨k + 1, by omega, by go_num, by
              have e1 : (S.take (k + 1)).map (swA f t) = (S.take k).map (swA f t) ++ [(⟨kd, rr, ss⟩ : Atom)] := by rw [take_succ_get HE.out, List.map_append]; simp only [List.map_cons, List.map_nil]; rw [swA_same (.inr HT.out)]
              rw [e1, List.map_take]; exact HO.out, HB4.out⟩
            case measure => simp [intOf]; omega
        · have HI := Lib.hid hi
          have HT := Lib.hid ht
          clear hi ht
          have hj1 : j < n1 := by have := HN1.out; omega
          by_cases hjm : j < n2
          · obtain ⟨z, hz⟩ := get_of_lt (l := t) (j := j) (by rw [HN2.out]; exact hjm)
            have HTZ : Hid (turnI rr f t = z) := by show turnI rr f t = z; rw [HT.out, hz]; rfl
            obtain ⟨b', o', rfl, e0⟩ := (((HR2.out.below HW.out).alloc (.cells #[.int .u8 kd, .int .i64 rr, .string ss] 70))).num hz
            clear hz
            have HO2 := Lib.hid (HOWN.out.below ((Below.refl _ wr).alloc (Nat.le_refl _) (.cells #[.int .u8 kd, .int .i64 z, .string ss] 70)))
            have HB2 : Hid (Below w1.heap.size w1 (wr.alloc (.cells #[.int .u8 kd, .int .i64 z, .string ss] 70))) := HB.out.alloc HB.out.size _
            go_wp2_with fail
            refine (index_is rr p1 n1 c1 f _ (j : Int) HI.out HN1.out (by omega) ((HR1.out.below HW.out).alloc _)).mono ?_
            rintro e w2 ⟨rfl, rfl⟩
            go_wp2_with (at_builtin; refine wpList_append1 rfl _ _ 25 rfl w1.heap.size 70 _ 3 32 Tryz.underlying25 infoA rfl (by decide) encA encA_len encA_one (⟨kd, z, ss⟩ : Atom) _ _ _ HO2.out rfl (by refine Eq.trans (b := Value.slice (some ⟨wr.heap.size + 1, 0, none⟩) 1 1) rfl ?_; simp) ?c1 ?c2 ?c3 ?_)
            case c1 => omega
            case c2 => omega
            case c3 => exact HB2.out.size
            · intro v' w4 hown' hg
              have HO := Lib.hid hown'
              have HB4 := Lib.hid (Below.own HB2.out hg HB2.out.size HO2.out)
              clear hown' hg
              go_wp2_with fail
              go_roundw
              case rel => exact ⟨k + 1, by omega, by go_num, by
                have e1 : (S.take (k + 1)).map (swA f t) = (S.take k).map (swA f t) ++ [(⟨kd, z, ss⟩ : Atom)] := by rw [take_succ_get HE.out, List.map_append]; simp only [List.map_cons, List.map_nil]; rw [swA_of HK3.out HTZ.out]
                rw [e1, List.map_take]; exact HO.out, HB4.out⟩
              case measure => simp [intOf]; omega
          · have HZ : Hid (turnI rr f t = rr) := by show turnI rr f t = rr; rw [HT.out, List.getElem?_eq_none (by rw [HN2.out]; omega)]; rfl
            have HO2 := Lib.hid (HOWN.out.below ((Below.refl _ wr).alloc (Nat.le_refl _) (.cells #[.int .u8 kd, .int .i64 rr, .string ss] 70)))
            have HB2 : Hid (Below w1.heap.size w1 (wr.alloc (.cells #[.int .u8 kd, .int .i64 rr, .string ss] 70))) := HB.out.alloc HB.out.size _
            go_wp2_with fail
            refine (index_is rr p1 n1 c1 f _ (j : Int) HI.out HN1.out (by omega) ((HR1.out.below HW.out).alloc _)).mono ?_
            rintro e w2 ⟨rfl, rfl⟩
            go_wp2_with (at_builtin; refine wpList_append1 rfl _ _ 25 rfl w1.heap.size 70 _ 3 32 Tryz.underlying25 infoA rfl (by decide) encA encA_len encA_one (⟨kd, rr, ss⟩ : Atom) _ _ _ HO2.out rfl (by refine Eq.trans (b := Value.slice (some ⟨wr.heap.size + 1, 0, none⟩) 1 1) rfl ?_; simp) ?c1 ?c2 ?c3 ?_)
            case c1 => omega
            case c2 => omega
            case c3 => exact HB2.out.size
            · intro v' w4 hown' hg
              have HO := Lib.hid hown'
              have HB4 := Lib.hid (Below.own HB2.out hg HB2.out.size HO2.out)
              clear hown' hg
              go_wp2_with fail
              go_roundw
              case rel => exact ⟨k + 1, by omega, by go_num, by
                have e1 : (S.take (k + 1)).map (swA f t) = (S.take k).map (swA f t) ++ [(⟨kd, rr, ss⟩ : Atom)] := by rw [take_succ_get HE.out, List.map_append]; simp only [List.map_cons, List.map_nil]; rw [swA_same (.inr HZ.out)]
                rw [e1, List.map_take]; exact HO.out, HB4.out⟩
              case measure => simp [intOf]; omega
    · obtain rfl : k = m := by omega
      have hown := HOWN.out
      have HE : Hid (sortA ((S.map (swA f t)).filter atomB) = swL f t l) := by show _ = swL f t l; unfold swL; rw [HS.out]
      rw [take_full (by rw [HSL.out]; exact Nat.le_refl _)] at hown
      obtain ⟨q', c', rfl, hl', hc', hr', _⟩ := hown.row encA_len (by omega)
      have HL' := Lib.hid hl'
      have HR' := Lib.hid hr'
      clear hown hl' hr'
      go_wp2_with fail
      refine (effect_Of_any q' k c' (S.map (swA f t)) wr HL'.out (by omega) HR'.out).mono ?_
      rintro e w3 ⟨v, m', rfl, _, hown, hb⟩
      rw [HE.out] at hown
      have HO := Lib.hid (hown.sl encA_len (by omega))
      have HB3 := Lib.hid ((HB1.out.trans (HB.out.mono HB1.out.size)).trans (hb.mono (HB1.out.trans (HB.out.mono HB1.out.size)).size))
      clear hown hb
      go_wp2_with fail
      go_ret
      exact ⟨_, rfl, HO.out, HB3.out⟩
end Go.Proofs.YtekhblomdlehhaaGreatDoor
