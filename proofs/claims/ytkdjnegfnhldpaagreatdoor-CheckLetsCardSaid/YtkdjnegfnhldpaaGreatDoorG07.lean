/- Part 7 of the texts: Eff11, Eff17, Facts, Sets, IntSort, Eff21, Own0. -/
import Derived.Test.YtkdjnegfnhldpaaGreatDoorG06
import Derived.Test.YtkdjnegfnhldpaaGreatDoorG03
import Derived.Test.YtkdjnegfnhldpaaGreatDoorG05
import Derived.Deep.AppendSrc
set_option linter.unusedVariables false
set_option maxRecDepth 100000
set_option linter.unusedSimpArgs false
section
namespace Go.Proofs.YtkdjnegfnhldpaaGreatDoor
open Go.RowKit Go.Sort Go.Lib
theorem index_any (x : Int) (p : Option Addr) (n cap : Nat) (l : List Int) (w : World) (hn : l.length = n) (hm : n ≤ 9223372036854775807) (hr : RowE encN 1 w p l) :
    Calls Tryz.prog 67 #[.slice p n cap, .int .i64 x] w fun e w' => e = .returned (.int .i64 (Lib.idxOf l x)) ∧ w' = w := by
  by_cases h0 : n = 0
  · subst h0
    have : l = [] := List.length_eq_zero_iff.1 hn
    subst this
    exact Tryz.slices_Index_int_empty p cap x w
  · obtain ⟨b, o, rfl, _, hc⟩ := hr.at (by omega)
    have := Tryz.slices_Index_int b o n cap l x w (by omega) hm (fun j hj => by
      have := hc j (l[j]) (List.getElem?_eq_getElem hj) 0 _ rfl
      simpa [List.getD, hj] using this)
    rw [List.take_of_length_le (by omega)] at this
    exact this
theorem idxFrom_turn (x : Int) : ∀ (f t : List Int) (i : Nat), (Lib.idxFrom f x i = -1 ∧ turnI x f t = x) ∨ ∃ k : Nat, k < f.length ∧ Lib.idxFrom f x i = ((i + k : Nat) : Int) ∧ turnI x f t = (t[k]?).getD x
  | [], _, _ => .inl ⟨rfl, rfl⟩
  | y :: f, t, i => by
    unfold Lib.idxFrom turnI
    by_cases h : y = x
    · rw [if_pos h, if_pos h]
      exact .inr ⟨0, by simp, rfl, rfl⟩
    · rw [if_neg h, if_neg h]
      rcases idxFrom_turn x f (t.drop 1) (i + 1) with h1 | ⟨k, hk, h1, h2⟩
      · exact .inl h1
      · refine .inr ⟨k + 1, by simpa using hk, by rw [h1]; congr 1; omega, ?_⟩
        rw [h2]; simp [Nat.add_comm]
theorem idx_turn (x : Int) (f t : List Int) : (Lib.idxOf f x = -1 ∧ turnI x f t = x) ∨ ∃ k : Nat, k < f.length ∧ Lib.idxOf f x = k ∧ turnI x f t = (t[k]?).getD x := by
  have := idxFrom_turn x f t 0
  simpa [Lib.idxOf] using this
theorem index_is (x : Int) (p : Option Addr) (n cap : Nat) (l : List Int) (w : World) (i : Int) (hi : Lib.idxOf l x = i) (hn : l.length = n) (hm : n ≤ 9223372036854775807) (hr : RowE encN 1 w p l) :
    Calls Tryz.prog 67 #[.slice p n cap, .int .i64 x] w fun e w' => e = .returned (.int .i64 i) ∧ w' = w := by
  subst hi; exact index_any x p n cap l w hn hm hr
theorem swA_of {f t : List Int} {kd rr z : Int} {ss : ByteArray} (h3 : kd ≠ 3) (h : turnI rr f t = z) : swA f t ⟨kd, rr, ss⟩ = ⟨kd, z, ss⟩ := by
  subst h; unfold swA; rw [if_neg h3]
theorem swA_same {f t : List Int} {kd rr : Int} {ss : ByteArray} (h : kd = 3 ∨ turnI rr f t = rr) : swA f t ⟨kd, rr, ss⟩ = ⟨kd, rr, ss⟩ := by
  unfold swA
  by_cases h3 : kd = 3
  · rw [if_pos h3]
  · rw [if_neg h3, h.resolve_left h3]
def swL (f t : List Int) (l : List Atom) : List Atom := sortA (((sortA (l.filter atomB)).map (swA f t)).filter atomB)
set_option maxHeartbeats 2000000 in
theorem effect_Swap_any (p : Option Addr) (n cap : Nat) (l : List Atom) (p1 : Option Addr) (n1 c1 : Nat) (f : List Int) (p2 : Option Addr) (n2 c2 : Nat) (t : List Int) (w : World) (hn : l.length = n) (hm : n ≤ 1000000) (hr : RowA w p l)
    (hn1 : f.length = n1) (hm1 : n1 ≤ 1000000) (hr1 : RowE encN 1 w p1 f) (hn2 : t.length = n2) (hm2 : n2 ≤ 1000000) (hr2 : RowE encN 1 w p2 t) :
    Calls Tryz.prog 66 #[.slice p n cap, .slice p1 n1 c1, .slice p2 n2 c2] w fun e w' => ∃ v, e = .returned v ∧ Sl encA 3 w' v (swL f t l) ∧ Below w.heap.size w w' := by
  have HR := Lib.hid hr
  have HN := Lib.hid hn
  have HR1 := Lib.hid hr1
  have HN1 := Lib.hid hn1
  have HR2 := Lib.hid hr2
  have HN2 := Lib.hid hn2
  clear hr hn hr1 hn1 hr2 hn2
  go_enter Tryz.func66, Tryz.ntmps66
  go_wp2_with fail
  refine (effect_Of_any p n cap l _ HN.out hm HR.out).mono ?_
  rintro e w1 ⟨v, m, rfl, hmn, hown, hb⟩
  obtain ⟨q, mc, rfl, hSl, hmc, hrow, _⟩ := hown.row encA_len (by omega)
  have HROW := Lib.hid hrow
  have HSL := Lib.hid hSl
  have HB1 := Lib.hid hb
  generalize hS : sortA (l.filter atomB) = S at HROW HSL
  have HS := Lib.hid hS
  clear hown hb hrow hSl hS
  go_wp2_with fail
  go_loopw [7, 10, 14] (fun u _ i wr => ∃ k : Nat, k ≤ m ∧ i = .int .i64 k ∧ OwnE encA 3 wr w1.heap.size 59 u k ((S.take k).map (swA f t)) ∧ Below w1.heap.size w1 wr) (fun _ _ i _ => m - (intOf i).toNat)
  case atStart => exact ⟨0, by omega, rfl, OwnE.nil _ _ _ _ _, Below.refl _ _⟩
  case round =>
    obtain ⟨k, hk, rfl, hown, hb⟩ := hrel
    have HOWN := Lib.hid hown
    have HB := Lib.hid hb
    clear hown hb
    by_cases hlt : k < m
    · obtain ⟨x, hx⟩ := get_of_lt (l := S) (j := k) (by rw [HSL.out]; exact hlt)
      have HE := Lib.hid hx
      obtain ⟨b, o, rfl, hbl, d0, d1, d2⟩ := RowA.atom (HROW.out.below HB.out) hx
      clear hx hbl
      obtain ⟨kd, rr, ss⟩ := x
      simp only at d0 d1 d2
      have HW := Lib.hid (HB1.out.trans (HB.out.mono HB1.out.size))
      by_cases hk3 : kd = 3
      · subst hk3
        have HO2 := Lib.hid (HOWN.out.below ((Below.refl _ wr).alloc (Nat.le_refl _) (.cells #[.int .u8 3, .int .i64 rr, .string ss] 59)))
        have HB2 : Hid (Below w1.heap.size w1 (wr.alloc (.cells #[.int .u8 3, .int .i64 rr, .string ss] 59))) := HB.out.alloc HB.out.size _
        go_wp2_with fail
        refine (index_is rr p1 n1 c1 f _ _ rfl HN1.out (by omega) ((HR1.out.below HW.out).alloc _)).mono ?_
        rintro e w2 ⟨rfl, rfl⟩
        generalize Lib.idxOf f rr = c
        go_wp2_with (at_builtin; refine wpList_append1 rfl _ _ 25 rfl w1.heap.size 59 _ 3 32 Tryz.underlying25 infoA rfl (by decide) encA encA_len encA_one (⟨3, rr, ss⟩ : Atom) _ _ _ HO2.out rfl (by refine Eq.trans (b := Value.slice (some ⟨wr.heap.size + 1, 0, none⟩) 1 1) rfl ?_; simp) ?c1 ?c2 ?c3 ?_)
        case c1 => omega
        case c2 => omega
        case c3 => exact HB2.out.size
        · intro v' w4 hown' hg
          have HO := Lib.hid hown'
          have HB4 := Lib.hid (Below.own HB2.out hg HB2.out.size HO2.out)
          clear hown' hg
          go_wp2_with fail
          go_roundw
          case rel => exact ⟨k + 1, by omega, by go_num, by
            have e1 : (S.take (k + 1)).map (swA f t) = (S.take k).map (swA f t) ++ [(⟨3, rr, ss⟩ : Atom)] := by rw [take_succ_get HE.out, List.map_append]; simp only [List.map_cons, List.map_nil]; rw [swA_same (.inl rfl)]
            rw [e1, List.map_take]; exact HO.out, HB4.out⟩
          case measure => simp [intOf]; omega
      · have HK3 := Lib.hid hk3
        have hkd : decide (kd = 3) = false := by simp [hk3]
        rcases idx_turn rr f t with ⟨hi, ht⟩ | ⟨j, hj, hi, ht⟩
        · have HI := Lib.hid hi
          have HT := Lib.hid ht
          clear hi ht
          have HO2 := Lib.hid (HOWN.out.below ((Below.refl _ wr).alloc (Nat.le_refl _) (.cells #[.int .u8 kd, .int .i64 rr, .string ss] 59)))
          have HB2 : Hid (Below w1.heap.size w1 (wr.alloc (.cells #[.int .u8 kd, .int .i64 rr, .string ss] 59))) := HB.out.alloc HB.out.size _
          go_wp2_with fail
          refine (index_is rr p1 n1 c1 f _ (-1) HI.out HN1.out (by omega) ((HR1.out.below HW.out).alloc _)).mono ?_
          rintro e w2 ⟨rfl, rfl⟩
          go_wp2_with (at_builtin; refine wpList_append1 rfl _ _ 25 rfl w1.heap.size 59 _ 3 32 Tryz.underlying25 infoA rfl (by decide) encA encA_len encA_one (⟨kd, rr, ss⟩ : Atom) _ _ _ HO2.out rfl (by refine Eq.trans (b := Value.slice (some ⟨wr.heap.size + 1, 0, none⟩) 1 1) rfl ?_; simp) ?c1 ?c2 ?c3 ?_)
          case c1 => omega
          case c2 => omega
          case c3 => exact HB2.out.size
          · intro v' w4 hown' hg
            have HO := Lib.hid hown'
            have HB4 := Lib.hid (Below.own HB2.out hg HB2.out.size HO2.out)
            clear hown' hg
            go_wp2_with fail
            go_roundw
            case rel => exact ⟨k + 1, by omega, by go_num, by
              have e1 : (S.take (k + 1)).map (swA f t) = (S.take k).map (swA f t) ++ [(⟨kd, rr, ss⟩ : Atom)] := by rw [take_succ_get HE.out, List.map_append]; simp only [List.map_cons, List.map_nil]; rw [swA_same (.inr HT.out)]
              rw [e1, List.map_take]; exact HO.out, HB4.out⟩
            case measure => simp [intOf]; omega
        · have HI := Lib.hid hi
          have HT := Lib.hid ht
          clear hi ht
          have hj1 : j < n1 := by have := HN1.out; omega
          by_cases hjm : j < n2
          · obtain ⟨z, hz⟩ := get_of_lt (l := t) (j := j) (by rw [HN2.out]; exact hjm)
            have HTZ : Hid (turnI rr f t = z) := by show turnI rr f t = z; rw [HT.out, hz]; rfl
            obtain ⟨b', o', rfl, e0⟩ := (((HR2.out.below HW.out).alloc (.cells #[.int .u8 kd, .int .i64 rr, .string ss] 59))).num hz
            clear hz
            have HO2 := Lib.hid (HOWN.out.below ((Below.refl _ wr).alloc (Nat.le_refl _) (.cells #[.int .u8 kd, .int .i64 z, .string ss] 59)))
            have HB2 : Hid (Below w1.heap.size w1 (wr.alloc (.cells #[.int .u8 kd, .int .i64 z, .string ss] 59))) := HB.out.alloc HB.out.size _
            go_wp2_with fail
            refine (index_is rr p1 n1 c1 f _ (j : Int) HI.out HN1.out (by omega) ((HR1.out.below HW.out).alloc _)).mono ?_
            rintro e w2 ⟨rfl, rfl⟩
            go_wp2_with (at_builtin; refine wpList_append1 rfl _ _ 25 rfl w1.heap.size 59 _ 3 32 Tryz.underlying25 infoA rfl (by decide) encA encA_len encA_one (⟨kd, z, ss⟩ : Atom) _ _ _ HO2.out rfl (by refine Eq.trans (b := Value.slice (some ⟨wr.heap.size + 1, 0, none⟩) 1 1) rfl ?_; simp) ?c1 ?c2 ?c3 ?_)
            case c1 => omega
            case c2 => omega
            case c3 => exact HB2.out.size
            · intro v' w4 hown' hg
              have HO := Lib.hid hown'
              have HB4 := Lib.hid (Below.own HB2.out hg HB2.out.size HO2.out)
              clear hown' hg
              go_wp2_with fail
              go_roundw
              case rel => exact ⟨k + 1, by omega, by go_num, by
                have e1 : (S.take (k + 1)).map (swA f t) = (S.take k).map (swA f t) ++ [(⟨kd, z, ss⟩ : Atom)] := by rw [take_succ_get HE.out, List.map_append]; simp only [List.map_cons, List.map_nil]; rw [swA_of HK3.out HTZ.out]
                rw [e1, List.map_take]; exact HO.out, HB4.out⟩
              case measure => simp [intOf]; omega
          · have HZ : Hid (turnI rr f t = rr) := by show turnI rr f t = rr; rw [HT.out, List.getElem?_eq_none (by rw [HN2.out]; omega)]; rfl
            have HO2 := Lib.hid (HOWN.out.below ((Below.refl _ wr).alloc (Nat.le_refl _) (.cells #[.int .u8 kd, .int .i64 rr, .string ss] 59)))
            have HB2 : Hid (Below w1.heap.size w1 (wr.alloc (.cells #[.int .u8 kd, .int .i64 rr, .string ss] 59))) := HB.out.alloc HB.out.size _
            go_wp2_with fail
            refine (index_is rr p1 n1 c1 f _ (j : Int) HI.out HN1.out (by omega) ((HR1.out.below HW.out).alloc _)).mono ?_
            rintro e w2 ⟨rfl, rfl⟩
            go_wp2_with (at_builtin; refine wpList_append1 rfl _ _ 25 rfl w1.heap.size 59 _ 3 32 Tryz.underlying25 infoA rfl (by decide) encA encA_len encA_one (⟨kd, rr, ss⟩ : Atom) _ _ _ HO2.out rfl (by refine Eq.trans (b := Value.slice (some ⟨wr.heap.size + 1, 0, none⟩) 1 1) rfl ?_; simp) ?c1 ?c2 ?c3 ?_)
            case c1 => omega
            case c2 => omega
            case c3 => exact HB2.out.size
            · intro v' w4 hown' hg
              have HO := Lib.hid hown'
              have HB4 := Lib.hid (Below.own HB2.out hg HB2.out.size HO2.out)
              clear hown' hg
              go_wp2_with fail
              go_roundw
              case rel => exact ⟨k + 1, by omega, by go_num, by
                have e1 : (S.take (k + 1)).map (swA f t) = (S.take k).map (swA f t) ++ [(⟨kd, rr, ss⟩ : Atom)] := by rw [take_succ_get HE.out, List.map_append]; simp only [List.map_cons, List.map_nil]; rw [swA_same (.inr HZ.out)]
                rw [e1, List.map_take]; exact HO.out, HB4.out⟩
              case measure => simp [intOf]; omega
    · obtain rfl : k = m := by omega
      have hown := HOWN.out
      have HE : Hid (sortA ((S.map (swA f t)).filter atomB) = swL f t l) := by show _ = swL f t l; unfold swL; rw [HS.out]
      rw [take_full (by rw [HSL.out]; exact Nat.le_refl _)] at hown
      obtain ⟨q', c', rfl, hl', hc', hr', _⟩ := hown.row encA_len (by omega)
      have HL' := Lib.hid hl'
      have HR' := Lib.hid hr'
      clear hown hl' hr'
      go_wp2_with fail
      refine (effect_Of_any q' k c' (S.map (swA f t)) wr HL'.out (by omega) HR'.out).mono ?_
      rintro e w3 ⟨v, m', rfl, _, hown, hb⟩
      rw [HE.out] at hown
      have HO := Lib.hid (hown.sl encA_len (by omega))
      have HB3 := Lib.hid ((HB1.out.trans (HB.out.mono HB1.out.size)).trans (hb.mono (HB1.out.trans (HB.out.mono HB1.out.size)).size))
      clear hown hb
      go_wp2_with fail
      go_ret
      exact ⟨_, rfl, HO.out, HB3.out⟩
end Go.Proofs.YtkdjnegfnhldpaaGreatDoor
end
section
namespace Go.Proofs.YtkdjnegfnhldpaaGreatDoor
open Go.RowKit Go.Sort Go.Lib
def inS (l : List ByteArray) (x : ByteArray) : Bool := l.any (fun y => decide (y = x))
theorem inS_mem (l : List ByteArray) (x : ByteArray) : inS l x = true ↔ x ∈ l := by
  unfold inS
  rw [List.any_eq_true]
  constructor
  · rintro ⟨y, hy, h⟩
    have : y = x := by simpa using h
    subst this; exact hy
  · intro h
    exact ⟨x, h, by simp⟩
theorem inN_mem (l : List Int) (x : Int) : inN l x = true ↔ x ∈ l := by
  unfold inN
  rw [List.any_eq_true]
  constructor
  · rintro ⟨y, hy, h⟩
    have : y = x := by simpa using h
    subst this; exact hy
  · intro h
    exact ⟨x, h, by simp⟩
theorem n_contains_any {p : Option Addr} {n cap : Nat} {l : List Int} {w : World} (h : IsRow encN 1 w p n cap l) (x : Int) :
    Calls Tryz.prog 183 #[.slice p n cap, .int .i64 x] w fun e w' => e = .returned (.bool (inN l x)) ∧ w = w' := by
  have e1 : inN l x = l.contains x := by rw [Bool.eq_iff_iff, inN_mem]; simp
  by_cases h0 : n = 0
  · subst h0
    have : l = [] := List.length_eq_zero_iff.1 h.len
    subst this
    exact (Tryz.slices_Contains_int_empty p cap x w).mono fun _ _ ⟨he, hw⟩ => ⟨he, hw.symm⟩
  · obtain ⟨b, o, rfl, _, hc⟩ := h.row.at (by rw [h.len]; omega)
    have := Tryz.slices_Contains_int b o n cap l x w (by rw [h.len]; omega) h.max (fun j hj => by
      have := hc j (l[j]) (List.getElem?_eq_getElem hj) 0 _ rfl
      simpa [List.getD, hj] using this)
    rw [List.take_of_length_le (by rw [h.len]; omega), ← e1] at this
    exact this.mono fun _ _ ⟨he, hw⟩ => ⟨he, hw.symm⟩
theorem s_contains_any {p : Option Addr} {n cap : Nat} {l : List ByteArray} {w : World} (h : IsRow encS 1 w p n cap l) (x : ByteArray) :
    Calls Tryz.prog 222 #[.slice p n cap, .string x] w fun e w' => e = .returned (.bool (inS l x)) ∧ w = w' := by
  have e1 : inS l x = Lib.containsS l x := by rw [Bool.eq_iff_iff, Lib.containsS_iff, inS_mem]
  by_cases h0 : n = 0
  · subst h0
    have : l = [] := List.length_eq_zero_iff.1 h.len
    subst this
    exact (Tryz.slices_Contains_string_empty p cap x w).mono fun _ _ ⟨he, hw⟩ => ⟨he, hw.symm⟩
  · obtain ⟨b, o, rfl, _, hc⟩ := h.row.at (by rw [h.len]; omega)
    have := Tryz.slices_Contains_string b o n cap l x w (by rw [h.len]; omega) h.max (fun j hj => by
      have := hc j (l[j]) (List.getElem?_eq_getElem hj) 0 _ rfl
      simpa [List.getD, hj] using this)
    rw [List.take_of_length_le (by rw [h.len]; omega), ← e1] at this
    exact this.mono fun _ _ ⟨he, hw⟩ => ⟨he, hw.symm⟩
theorem deleteFunc_nil (fid : FuncId) (caps : Array Value) (hent : Enters fid) (w : World) :
    Calls Tryz.prog 250 #[.slice none 0 0, .func (.func fid) #[] caps] w fun e w' => e = .returned (.slice none 0 0) ∧ Below w.heap.size w w' := by
  have HIX := Lib.hid (a_indexFunc_any fid caps (fun _ => true) hent none 0 0 [] w rfl (by omega) (.inl rfl) (fun x hx => by cases hx))
  clear hent
  go_enter Tryz.func250, Tryz.ntmps250
  go_wp2_with fail
  refine HIX.out.mono ?_
  rintro e w1 ⟨⟨r, rfl, hr⟩, hb⟩
  have hr1 : r = -1 := by
    rcases hr with ⟨h, _⟩ | ⟨k, x, _, hx, _⟩
    · exact h
    · simp at hx
  subst hr1
  have HB := Lib.hid hb
  clear hb
  clear hr
  go_wp2_with fail
  go_ret
  exact ⟨rfl, HB.out⟩
theorem PredB.trans {fid : FuncId} {caps : Array Value} {B : Nat} {w w' : World} {l : List Atom} {q : Atom → Bool} (h : PredB fid caps B w l q) (hb : Below B w w') : PredB fid caps B w' l q :=
  fun x hx W hW => h x hx W (hb.trans hW)
theorem drop_any (fid : FuncId) (caps : Array Value) (q : Atom → Bool) (hent : Enters fid) {p : Option Addr} {n cap : Nat} {l : List Atom} {w : World} (hr : IsRow encA 3 w p n cap l) (hm : n ≤ 1000000) (hf : PredB fid caps w.heap.size w (sortA (l.filter atomB)) q) :
    Calls Tryz.prog 220 #[.slice p n cap, .func (.func fid) #[] caps] w fun e w' => ∃ v m, e = .returned v ∧ m ≤ n ∧ OwnE encA 3 w' w.heap.size 59 v m ((sortA (l.filter atomB)).filter (fun x => !q x)) ∧ Below w.heap.size w w' := by
  have HR := Lib.hid hr
  have HF := Lib.hid hf
  clear hr hf
  have HD0 := Lib.hid (fun W => deleteFunc_nil fid caps hent W)
  have HD := Lib.hid (fun (g c m : Nat) (W : World) (h : OwnE encA 3 W w.heap.size 59 (.slice (some ⟨g, 0, none⟩) m c) m (sortA (l.filter atomB))) (h1 : m ≤ c) (h2 : m ≤ 1000000) (hb : Below w.heap.size w W) =>
    deleteFunc_any fid caps q hent g c m _ w.heap.size W h h1 h2 hb.size (HF.out.trans hb))
  clear hent
  go_enter Tryz.func220, Tryz.ntmps220
  go_wp2_with fail
  refine (effect_Of_any p n cap l _ HR.out.len hm HR.out.row).mono ?_
  rintro e w1 ⟨v, m, rfl, hmn, hown, hb⟩
  rcases hown.split encA_len (by omega) with ⟨rfl, rfl, hnil⟩ | ⟨g, cp, rfl, hcp, hbg⟩
  · have HNIL := Lib.hid hnil
    have HB := Lib.hid hb
    clear hb
    clear hown hnil
    go_wp2_with fail
    refine (HD0.out _).mono ?_
    rintro e w2 ⟨rfl, hb⟩
    have HB2 := Lib.hid (HB.out.trans (hb.mono HB.out.size))
    clear hb
    go_wp2_with fail
    go_ret
    exact ⟨_, 0, rfl, by omega, by rw [HNIL.out]; exact OwnE.nil _ _ _ _ _, HB2.out⟩
  · have HO := Lib.hid hown
    have HB := Lib.hid hb
    clear hb
    clear hown
    go_wp2_with fail
    refine (HD.out g cp m _ HO.out hcp (by omega) HB.out).mono ?_
    rintro e w2 ⟨m', rfl, hm', ho2, hb⟩
    have HO2 := Lib.hid ho2
    have HB2 := Lib.hid (HB.out.trans hb)
    clear hb ho2
    go_wp2_with fail
    go_ret
    exact ⟨_, m', rfl, by omega, HO2.out, HB2.out⟩
def goesR (rhos : List Int) (x : Atom) : Bool := decide (x.kind ≠ 3) && inN rhos x.rho
set_option maxHeartbeats 400000 in
theorem without1_any (x : Atom) (ad : Addr) (q : Option Addr) (m mc : Nat) (l : List Int) (w : World) (hbox : w.cell? ad = some (.slice q m mc)) (hr : IsRow encN 1 w q m mc l) :
    Calls Tryz.prog 223 #[aggA x, .pointer (some ad)] w fun e w' => e = .returned (.bool (goesR l x)) ∧ Below w.heap.size w w' := by
  have hbx : (w.alloc (.cells #[.int .u8 x.kind, .int .i64 x.rho, .string x.exn] 59)).cell? ad = some (.slice q m mc) := by rw [cell_alloc_old (cell_block hbox)]; exact hbox
  obtain ⟨kd, rr, ss⟩ := x
  have HR := Lib.hid hr
  clear hr
  clear hbox
  by_cases h3 : kd = 3
  · subst h3
    go_enter Tryz.func223, Tryz.ntmps223
    go_wp2_with fail
    go_ret
    exact ⟨rfl, (Below.refl _ _).alloc (Nat.le_refl _) _⟩
  · have h3' : (kd != 3) = true := by simpa using h3
    have HG : Hid (goesR l ⟨kd, rr, ss⟩ = inN l rr) := by show _ = _; simp [goesR, h3]
    clear h3
    go_enter Tryz.func223, Tryz.ntmps223
    go_wp2_with fail
    refine (n_contains_any (HR.out.alloc _) rr).mono ?_
    rintro e w1 ⟨rfl, rfl⟩
    go_wp2_with fail
    go_ret
    exact ⟨ret_bool HG.out.symm, (Below.refl _ _).alloc (Nat.le_refl _) _⟩
def withoutL (l : List Atom) (rhos : List Int) : List Atom := (sortA (l.filter atomB)).filter (fun x => !goesR rhos x)
theorem effect_Without_any {p : Option Addr} {n cap : Nat} {l : List Atom} {q : Option Addr} {m mc : Nat} {rhos : List Int} {w : World} (hr : IsRow encA 3 w p n cap l) (hm : n ≤ 1000000) (hr' : IsRow encN 1 w q m mc rhos) :
    Calls Tryz.prog 196 #[.slice p n cap, .slice q m mc] w fun e w' => ∃ v k, e = .returned v ∧ k ≤ n ∧ OwnE encA 3 w' w.heap.size 59 v k (withoutL l rhos) ∧ Below w.heap.size w w' := by
  have HD := Lib.hid (fun t => drop_any 223 #[.pointer (some ⟨w.heap.size, 0, none⟩)] (goesR rhos) (fun a w => Tryz.call223 a w) (hr.alloc (.cells #[.slice q m mc] t)) hm
    (fun x _ W hW => by
      have := without1_any x ⟨w.heap.size, 0, none⟩ q m mc rhos W (by rw [hW.cell (by simp), cell_new]; rfl) ((hr'.alloc _).below hW)
      simpa using this))
  clear hr hr'
  go_enter Tryz.func196, Tryz.ntmps196
  go_wp2_with fail
  refine (HD.out _).mono ?_
  rintro e w1 ⟨v, k, rfl, hk, hown, hb⟩
  have HB := Lib.hid (((Below.refl _ w).alloc (Nat.le_refl _) _).trans (hb.mono (by simp)))
  have HO := Lib.hid (hown.lower (base' := w.heap.size) (by simp))
  clear hb hown
  go_wp2_with fail
  go_ret
  exact ⟨_, k, rfl, hk, HO.out, HB.out⟩
def goesX (exns : List ByteArray) (x : Atom) : Bool := decide (x.kind = 3) && inS exns x.exn
set_option maxHeartbeats 400000 in
theorem handled1_any (x : Atom) (ad : Addr) (q : Option Addr) (m mc : Nat) (l : List ByteArray) (w : World) (hbox : w.cell? ad = some (.slice q m mc)) (hr : IsRow encS 1 w q m mc l) :
    Calls Tryz.prog 221 #[aggA x, .pointer (some ad)] w fun e w' => e = .returned (.bool (goesX l x)) ∧ Below w.heap.size w w' := by
  have hbx : (w.alloc (.cells #[.int .u8 x.kind, .int .i64 x.rho, .string x.exn] 59)).cell? ad = some (.slice q m mc) := by rw [cell_alloc_old (cell_block hbox)]; exact hbox
  obtain ⟨kd, rr, ss⟩ := x
  have HR := Lib.hid hr
  clear hr
  clear hbox
  by_cases h3 : kd = 3
  · subst h3
    have HG : Hid (goesX l ⟨3, rr, ss⟩ = inS l ss) := by show _ = _; simp [goesX]
    go_enter Tryz.func221, Tryz.ntmps221
    go_wp2_with fail
    refine (s_contains_any (HR.out.alloc _) ss).mono ?_
    rintro e w1 ⟨rfl, rfl⟩
    go_wp2_with fail
    go_ret
    exact ⟨ret_bool HG.out.symm, (Below.refl _ _).alloc (Nat.le_refl _) _⟩
  · have h3' : (kd == 3) = false := by rw [beq_eq_false_iff_ne]; exact h3
    have HG : Hid (goesX l ⟨kd, rr, ss⟩ = false) := by show _ = _; simp [goesX, h3]
    clear h3
    go_enter Tryz.func221, Tryz.ntmps221
    go_wp2_with fail
    go_ret
    exact ⟨ret_bool HG.out.symm, (Below.refl _ _).alloc (Nat.le_refl _) _⟩
def handledL (l : List Atom) (exns : List ByteArray) : List Atom := (sortA (l.filter atomB)).filter (fun x => !goesX exns x)
theorem effect_Handled_any {p : Option Addr} {n cap : Nat} {l : List Atom} {q : Option Addr} {m mc : Nat} {exns : List ByteArray} {w : World} (hr : IsRow encA 3 w p n cap l) (hm : n ≤ 1000000) (hr' : IsRow encS 1 w q m mc exns) :
    Calls Tryz.prog 195 #[.slice p n cap, .slice q m mc] w fun e w' => ∃ v k, e = .returned v ∧ k ≤ n ∧ OwnE encA 3 w' w.heap.size 59 v k (handledL l exns) ∧ Below w.heap.size w w' := by
  have HD := Lib.hid (fun t => drop_any 221 #[.pointer (some ⟨w.heap.size, 0, none⟩)] (goesX exns) (fun a w => Tryz.call221 a w) (hr.alloc (.cells #[.slice q m mc] t)) hm
    (fun x _ W hW => by
      have := handled1_any x ⟨w.heap.size, 0, none⟩ q m mc exns W (by rw [hW.cell (by simp), cell_new]; rfl) ((hr'.alloc _).below hW)
      simpa using this))
  clear hr hr'
  go_enter Tryz.func195, Tryz.ntmps195
  go_wp2_with fail
  refine (HD.out _).mono ?_
  rintro e w1 ⟨v, k, rfl, hk, hown, hb⟩
  have HB := Lib.hid (((Below.refl _ w).alloc (Nat.le_refl _) _).trans (hb.mono (by simp)))
  have HO := Lib.hid (hown.lower (base' := w.heap.size) (by simp))
  clear hb hown
  go_wp2_with fail
  go_ret
  exact ⟨_, k, rfl, hk, HO.out, HB.out⟩
end Go.Proofs.YtkdjnegfnhldpaaGreatDoor
end
section
namespace Go.Proofs.YtkdjnegfnhldpaaGreatDoor
open Go.RowKit Go.Sort Go.Lib
theorem withinB_iff (a b : List Atom) : withinB a b = true ↔ ∀ x ∈ a, atomB x = true → x ∈ b := by
  unfold withinB
  rw [List.all_eq_true]
  constructor
  · intro h x hx ha
    have := h x hx
    rw [ha] at this
    exact (inA_iff b x).1 (by simpa using this)
  · intro h x hx
    cases ha : atomB x
    · rfl
    · simp [(inA_iff b x).2 (h x hx ha)]
theorem withinB_refl (a : List Atom) : withinB a a = true := (withinB_iff a a).2 (fun x hx _ => hx)
theorem greatB_len {l : List Atom} (h : greatB l = false) : l.length ≤ 100 := by
  unfold greatB at h
  simp only [Bool.or_eq_false_iff, decide_eq_false_iff_not] at h
  have := h.1; omega
theorem two_rows {w : World} {p q : Option Addr} {n m nc mc : Nat} (l l' : List Atom) (t : TypeId) : RowE encSl 1 (w.alloc (.cells #[.slice p n nc, .slice q m mc] t)) (some ⟨w.heap.size, 0, none⟩) [⟨p, n, nc, l⟩, ⟨q, m, mc, l'⟩] :=
  RowE.newAt encSl_len w _ _ rfl _ _ _ rfl
theorem two_ok {w : World} {p q : Option Addr} {n m nc mc : Nat} {l l' : List Atom} (h : IsRow encA 3 w p n nc l) (h' : IsRow encA 3 w q m mc l') : ∀ r ∈ [(⟨p, n, nc, l⟩ : SlE Atom), ⟨q, m, mc, l'⟩], r.Ok encA 3 w := by
  intro r hr
  simp only [List.mem_cons, List.not_mem_nil, or_false] at hr
  rcases hr with rfl | rfl
  · exact ⟨h.len, h.le, h.nil, h.row⟩
  · exact ⟨h'.len, h'.le, h'.nil, h'.row⟩
theorem mem_withoutL (l : List Atom) (rhos : List Int) (x : Atom) : x ∈ withoutL l rhos ↔ x ∈ l ∧ atomB x = true ∧ goesR rhos x = false := by
  unfold withoutL
  rw [List.mem_filter, mem_sortA, List.mem_filter]
  simp [and_assoc]
theorem mem_handledL (l : List Atom) (exns : List ByteArray) (x : Atom) : x ∈ handledL l exns ↔ x ∈ l ∧ atomB x = true ∧ goesX exns x = false := by
  unfold handledL
  rw [List.mem_filter, mem_sortA, List.mem_filter]
  simp [and_assoc]
abbrev effL (l : List Atom) : List Atom := sortA (l.filter atomB)
theorem one_row {w : World} {p : Option Addr} {n nc : Nat} (l : List Atom) (t : TypeId) : RowE encSl 1 (w.alloc (.cells #[.slice p n nc] t)) (some ⟨w.heap.size, 0, none⟩) [⟨p, n, nc, l⟩] :=
  RowE.newAt encSl_len w _ _ rfl _ _ _ rfl
theorem one_ok {w : World} {p : Option Addr} {n nc : Nat} {l : List Atom} (h : IsRow encA 3 w p n nc l) : ∀ r ∈ [(⟨p, n, nc, l⟩ : SlE Atom)], r.Ok encA 3 w := by
  intro r hr
  simp only [List.mem_cons, List.not_mem_nil, or_false] at hr
  subst hr
  exact ⟨h.len, h.le, h.nil, h.row⟩
end Go.Proofs.YtkdjnegfnhldpaaGreatDoor
end
section
namespace Go.Proofs.YtkdjnegfnhldpaaGreatDoor
open Go.RowKit
def putPosI (a : Int) : List Int → List Int
  | [] => [a]
  | b :: l => if ltI a b then a :: b :: l else b :: putPosI a l
def putI (a : Int) (e : List Int) : List Int := if inN e a then e else putPosI a e
theorem putPosI_length (a : Int) : ∀ l : List Int, (putPosI a l).length = l.length + 1
  | [] => rfl
  | b :: l => by
    simp only [putPosI]
    split
    · rfl
    · simp [putPosI_length a l]
theorem mem_putPosI (a x : Int) : ∀ l : List Int, x ∈ putPosI a l ↔ x = a ∨ x ∈ l
  | [] => by simp [putPosI]
  | b :: l => by
    unfold putPosI
    by_cases h : ltI a b = true
    · rw [if_pos h]; simp
    · rw [if_neg h, List.mem_cons, mem_putPosI a x l, List.mem_cons]
      constructor
      · rintro (h | h | h)
        · exact .inr (.inl h)
        · exact .inl h
        · exact .inr (.inr h)
      · rintro (h | h | h)
        · exact .inr (.inl h)
        · exact .inl h
        · exact .inr (.inr h)
theorem rising_putPosI (a : Int) : ∀ l : List Int, Rising ltI l → a ∉ l → Rising ltI (putPosI a l)
  | [], _, _ => by simp [putPosI, Rising]
  | b :: l, hr, hn => by
    obtain ⟨hb, hl⟩ := List.pairwise_cons.1 hr
    unfold putPosI
    by_cases h : ltI a b = true
    · rw [if_pos h]
      refine List.pairwise_cons.2 ⟨fun x hx => ?_, hr⟩
      rcases List.mem_cons.1 hx with rfl | hx
      · exact h
      · exact ltI_trans _ _ _ h (hb x hx)
    · rw [if_neg h]
      refine List.pairwise_cons.2 ⟨fun x hx => ?_, rising_putPosI a l hl (fun h => hn (List.mem_cons_of_mem _ h))⟩
      rcases (mem_putPosI a x l).1 hx with rfl | hx
      · cases e : ltI b x with
        | true => rfl
        | false => exact absurd (List.mem_cons.2 (.inl (ltI_tri _ _ (by simpa using h) e))) hn
      · exact hb x hx
theorem inN_mem' (l : List Int) (x : Int) : inN l x = true ↔ x ∈ l := by
  unfold inN
  rw [List.any_eq_true]
  constructor
  · rintro ⟨y, hy, h⟩
    have : y = x := by simpa using h
    subst this; exact hy
  · intro h
    exact ⟨x, h, by simp⟩
theorem mem_putI (a x : Int) (l : List Int) : x ∈ putI a l ↔ x = a ∨ x ∈ l := by
  unfold putI
  by_cases h : inN l a = true
  · rw [if_pos h]
    constructor
    · exact .inr
    · rintro (rfl | h')
      · exact (inN_mem' _ _).1 h
      · exact h'
  · rw [if_neg h, mem_putPosI]
theorem rising_putI (a : Int) (l : List Int) (hr : Rising ltI l) : Rising ltI (putI a l) := by
  unfold putI
  by_cases h : inN l a = true
  · rw [if_pos h]; exact hr
  · rw [if_neg h]; exact rising_putPosI a l hr (fun hm => h ((inN_mem' l a).2 hm))
theorem putI_length (a : Int) (l : List Int) : (putI a l).length ≤ l.length + 1 := by
  unfold putI; split
  · omega
  · rw [putPosI_length]; omega
theorem infoN : (Tryz.prog.info? 3).map (fun i => (i.zero, i.size, i.bytes)) = some (some (.int .i64 0), 1, 8) := by kernel_rfl
theorem encN_one (y : Int) : ∀ u ∈ encN y, u.oneCell' = true := by
  intro u hu
  simp [encN] at hu
  subst hu; rfl
theorem bytes_beq (a b : ByteArray) : (a.toList == b.toList) = decide (a = b) := by
  by_cases h : a = b
  · subst h; simp
  · rw [decide_eq_false h, beq_eq_false_iff_ne]
    exact fun e => h (toList_inj e)
end Go.Proofs.YtkdjnegfnhldpaaGreatDoor
end
section
namespace Go.Proofs.YtkdjnegfnhldpaaGreatDoor
open Go.RowKit Go.Sort Go.Lib
theorem flatN (l : List Int) : l.flatMap encN = l.map (Value.int .i64) := by
  induction l with
  | nil => rfl
  | cons a l ih => rw [List.flatMap_cons, ih]; rfl
theorem holds_ints {w : World} {g : Nat} {cur : Array Value} {e : TypeId} {ss : List Int} (hb : w.heap[g]? = some (.cells cur e (0, 0))) (ht : cur.toList.take ss.length = ss.map (Value.int .i64)) : Holds (Value.int .i64) w g 0 ss.toArray := by
  intro j hj
  have hj' : j < ss.length := by simpa using hj
  refine ⟨?_, by simp [World.frozen?, hb]⟩
  have h1 : (cur.toList.take ss.length)[j]? = (ss.map (Value.int .i64))[j]? := by rw [ht]
  rw [List.getElem?_take_of_lt hj'] at h1
  simp only [World.cell?, hb, Nat.zero_add]
  simp only [Option.isSome_none, Bool.false_eq_true, if_false]
  rw [← Array.getElem?_toList, h1]
  simp [hj']
theorem take_putInts (cur : Array Value) (ts : List Int) (h : ts.length ≤ cur.size) : (putCells (Value.int .i64) 0 ts.toArray cur).toList.take ts.length = ts.map (Value.int .i64) := by
  apply List.ext_getElem?
  intro j
  by_cases hj : j < ts.length
  · rw [List.getElem?_take_of_lt hj, Array.getElem?_toList]
    simp [putCells, hj, show j < cur.size by omega]
  · rw [List.getElem?_take_eq_none (by omega), List.getElem?_eq_none (by simp; omega)]
theorem heap_putInts {w : World} {g n : Nat} {os : Array Obj} {cur : Array Value} {e : TypeId} {fr : Nat × Nat} (d : Array Int) (hb : w.heap[g]? = some (.cells cur e fr)) :
    (grow (putRow (Value.int .i64) (Sort.ahead w n) g 0 d) os).heap[g]? = some (.cells (putCells (Value.int .i64) 0 d cur) e fr) := by
  have hg : g < w.heap.size := (Array.getElem?_eq_some_iff.1 hb).1
  rw [heap_grow_old _ _ (by simpa using hg)]
  simp [putRow, mapBlock, Sort.ahead, Array.getElem?_modify, hb, onCells]
theorem grownBy_putInts {w : World} {g n : Nat} {os : Array Obj} (d : Array Int) : w.grownBy (grow (putRow (Value.int .i64) (Sort.ahead w n) g 0 d) os) (some g) := by
  refine ⟨rfl, rfl, rfl, by simp, fun k hk hne => ?_⟩
  rw [heap_grow_old _ _ (by simpa using hk)]
  have : g ≠ k := fun e => hne (by rw [e])
  simp [putRow, mapBlock, Sort.ahead, Array.getElem?_modify, this]
theorem OwnE.holdsN {w : World} {base e n g cap : Nat} {l : List Int} (h : OwnE encN 1 w base e (.slice (some ⟨g, 0, none⟩) n cap) n l) : Holds (Value.int .i64) w g 0 l.toArray ∧ g < w.heap.size := by
  have hln := h.len encN_len (by omega)
  rcases h.2 with ⟨h0, _⟩ | ⟨g', cap', cur, hv, hb, hg, hn, hm, hs, ht⟩
  · cases h0
  · cases hv
    refine ⟨holds_ints hg ?_, (Array.getElem?_eq_some_iff.1 hg).1⟩
    rw [← flatN, hln]; simpa using ht
theorem OwnE.putN {w : World} {base e n g cap : Nat} {l l' : List Int} (h : OwnE encN 1 w base e (.slice (some ⟨g, 0, none⟩) n cap) n l) (hl : l'.length = l.length) (m : Nat) (os : Array Obj) :
    OwnE encN 1 (grow (putRow (Value.int .i64) (Sort.ahead w m) g 0 l'.toArray) os) base e (.slice (some ⟨g, 0, none⟩) n cap) n l' ∧ w.grownBy (grow (putRow (Value.int .i64) (Sort.ahead w m) g 0 l'.toArray) os) (some g) := by
  have hln := h.len encN_len (by omega)
  rcases h.2 with ⟨h0, _⟩ | ⟨g', cap', cur, hv, hb, hg, hn, hm, hs, ht⟩
  · cases h0
  · cases hv
    refine ⟨⟨by rw [flatN]; simp [hl, hln], .inr ⟨g, cap, _, rfl, hb, heap_putInts _ hg, hn, hm, by simp [putCells, hs], ?_⟩⟩, grownBy_putInts _⟩
    rw [flatN, Nat.mul_one, ← hln, ← hl]
    exact take_putInts cur l' (by rw [hl, hln, hs]; omega)
theorem grow_empty (w : World) : grow w #[] = w := by simp [grow]
theorem rising_compactI {d : Array Int} (h : ∀ i j, i < j → j < d.size → ltI d[j]! d[i]! = false) : ∀ m, m ≤ d.size → Rising ltI (compactUpTo d m)
  | 0, _ => by simp [compactUpTo, Rising]
  | m + 1, hm => by
    rw [compactUpTo_succ]
    by_cases c : keeps d m = true
    · rw [if_pos c]
      refine List.pairwise_append.2 ⟨rising_compactI h m (by omega), by simp, ?_⟩
      intro x hx y hy
      obtain ⟨j, hj, rfl⟩ := (mem_compactUpTo d x m).1 hx
      have : y = d[m]! := by simpa using hy
      subst this
      have hc : m = 0 ∨ d[m]! ≠ d[m - 1]! := by simpa [keeps] using c
      have hne : d[m]! ≠ d[m - 1]! := hc.resolve_left (by omega)
      have h1 := h (m - 1) m (by omega) (by omega)
      have h2 : j = m - 1 ∨ ltI d[m - 1]! d[j]! = false := by
        by_cases e : j = m - 1
        · exact .inl e
        · exact .inr (h j (m - 1) (by omega) (by omega))
      unfold ltI at h1 h2 ⊢
      simp only [decide_eq_true_eq, decide_eq_false_iff_not] at h1 h2 ⊢
      rcases h2 with e | h2
      · rw [e]; omega
      · omega
    · rw [if_neg c, List.append_nil]; exact rising_compactI h m (by omega)
abbrev msortI (l : List Int) : List Int := l.mergeSort fun x y => decide (x ≤ y)
theorem msortI_nofall (l : List Int) : (msortI l).Pairwise (fun a b => ltI b a = false) := by
  have := List.pairwise_mergeSort (le := fun x y : Int => decide (x ≤ y)) (fun a b c h1 h2 => by simp at *; omega) (fun a b => by simp; omega) l
  refine this.imp ?_
  intro a b h
  unfold ltI
  simp at h ⊢; omega
theorem compact_msortI (l : List Int) : compact (msortI l) = sortI l := by
  refine eq_sortI ?_ ?_
  · unfold compact
    refine rising_compactI ?_ _ (by simp)
    intro i j hij hj
    have hj' : j < (msortI l).length := by simpa using hj
    rw [getElem!_pos _ j hj, getElem!_pos _ i (by omega)]
    simpa using List.pairwise_iff_getElem.1 (msortI_nofall l) i j (by omega) hj' hij
  · intro a
    unfold compact
    rw [mem_compactUpTo]
    constructor
    · rintro ⟨j, hj, rfl⟩
      rw [getElem!_pos _ j (by simpa using hj)]
      exact List.mem_mergeSort.1 (List.getElem_mem (l := msortI l) (by simpa using hj))
    · intro ha
      have : a ∈ msortI l := by simpa [msortI] using ha
      obtain ⟨j, hj, e⟩ := List.getElem_of_mem this
      exact ⟨j, hj, by rw [getElem!_pos _ j (by simpa using hj)]; simpa using e⟩
theorem sortN_any (g cap n : Nat) (l : List Int) (base : Nat) (w : World) (h : OwnE encN 1 w base 3 (.slice (some ⟨g, 0, none⟩) n cap) n l) (hn : n ≤ 1000000000) :
    Calls Tryz.prog 172 #[.slice (some ⟨g, 0, none⟩) n cap] w fun e w' => e = .returned (.tuple #[]) ∧ OwnE encN 1 w' base 3 (.slice (some ⟨g, 0, none⟩) n cap) n (msortI l) ∧ w.grownBy w' (some g) := by
  obtain ⟨hH, hb⟩ := h.holdsN
  have hln := h.len encN_len (by omega)
  have := Tryz.slices_Sort_int g 0 cap l w hH hb (by omega)
  rw [hln] at this
  refine this.mono ?_
  rintro e w' ⟨he, m, os, rfl⟩
  obtain ⟨h1, h2⟩ := h.putN (l' := msortI l) (by simp) m os
  exact ⟨he, h1, h2⟩
theorem compactN_any (g cap n : Nat) (l : List Int) (base : Nat) (w : World) (h : OwnE encN 1 w base 3 (.slice (some ⟨g, 0, none⟩) n cap) n l) (hcap : n ≤ cap) (hn : n ≤ 1000000000) :
    Calls Tryz.prog 126 #[.slice (some ⟨g, 0, none⟩) n cap] w fun e w' =>
      ∃ m, e = .returned (.slice (some ⟨g, 0, none⟩) m cap) ∧ m ≤ n ∧ OwnE encN 1 w' base 3 (.slice (some ⟨g, 0, none⟩) m cap) m (compact l) ∧ w.grownBy w' (some g) := by
  obtain ⟨hH, hb⟩ := h.holdsN
  have hln := h.len encN_len (by omega)
  have := Tryz.slices_Compact_int g 0 cap l w hH (by omega) (by omega)
  rw [hln] at this
  have hle : (compact l).length ≤ n := by
    rw [← hln]
    exact compact_length_le l
  refine this.mono ?_
  rintro e w' ⟨he, q, rfl⟩
  obtain ⟨h1, h2⟩ := h.putN (l' := compact l ++ List.replicate (n - (compact l).length) 0) (by simp; omega) q #[]
  rw [grow_empty] at h1 h2
  refine ⟨(compact l).length, he, hle, ?_, h2⟩
  have h3 := OwnE.cut (m := (compact l).length) encN_len h1 (by simp; omega) hle
  rw [List.take_append_of_le_length (Nat.le_refl _), List.take_length] at h3
  exact h3
end Go.Proofs.YtkdjnegfnhldpaaGreatDoor
end
section
namespace Go.Proofs.YtkdjnegfnhldpaaGreatDoor
open Go.RowKit Go.Sort Go.Lib
def IsOut {α : Type} (enc : α → List Value) (k : Nat) (w : World) (e : Ending) (l : List α) : Prop := ∃ p n c, e = .returned (.slice p n c) ∧ IsRow enc k w p n c l
theorem IsOut.mk {α : Type} {enc : α → List Value} {k : Nat} {w : World} {p : Option Addr} {n c : Nat} {l : List α} (h : IsRow enc k w p n c l) : IsOut enc k w (.returned (.slice p n c)) l := ⟨p, n, c, rfl, h⟩
end Go.Proofs.YtkdjnegfnhldpaaGreatDoor
end
section
namespace Go.Proofs.YtkdjnegfnhldpaaGreatDoor
open Go.RowKit
def Own0 {α : Type} (enc : α → List Value) (k : Nat) (w : World) (base : Nat) (e : TypeId) (v : Value) (n : Nat) (l : List α) : Prop := OwnE enc k w base e v n l ∨ ∃ p, v = .slice p 0 0 ∧ n = 0 ∧ l = []
section
variable {α : Type} {enc : α → List Value} {k : Nat} {w w' : World} {base base' e n : Nat} {v : Value} {l : List α}
theorem OwnE.z (h : OwnE enc k w base e v n l) : Own0 enc k w base e v n l := .inl h
theorem Own0.lit (enc : α → List Value) (k : Nat) (w : World) (base : Nat) (e : TypeId) (p : Option Addr) : Own0 enc k w base e (.slice p 0 0) 0 [] := .inr ⟨p, rfl, rfl, rfl⟩
theorem Own0.below (h : Own0 enc k w base e v n l) (hb : Below w.heap.size w w') : Own0 enc k w' base e v n l := h.elim (fun h => .inl (h.below hb)) .inr
theorem Own0.lower (h : Own0 enc k w base e v n l) (hb : base' ≤ base) : Own0 enc k w base' e v n l := h.elim (fun h => .inl (h.lower hb)) .inr
theorem Own0.drewN (h : Own0 enc k w base e v n l) (m : Nat) : Own0 enc k (w.drewN m) base e v n l := h
theorem Own0.isRow (h : Own0 enc k w base e v n l) (hk : ∀ x, (enc x).length = k) (hk0 : 0 < k) : ∃ p cap, v = .slice p n cap ∧ l.length = n ∧ n ≤ cap ∧ RowE enc k w p l ∧ cap ≤ maxLen ∧ (p = none → cap = 0) := by
  rcases h with h | ⟨p, rfl, rfl, rfl⟩
  · obtain ⟨p, cap, hv, hl, hc, hr, hm, hn, _⟩ := h.row hk hk0
    exact ⟨p, cap, hv, hl, hc, hr, hm, fun e => (hn e).2⟩
  · exact ⟨p, 0, rfl, rfl, by omega, .inl rfl, by unfold maxLen; omega, fun _ => rfl⟩
theorem Own0.len (h : Own0 enc k w base e v n l) (hk : ∀ x, (enc x).length = k) (hk0 : 0 < k) : l.length = n := by
  obtain ⟨_, _, _, h, _⟩ := h.isRow hk hk0; exact h
end
end Go.Proofs.YtkdjnegfnhldpaaGreatDoor
end
