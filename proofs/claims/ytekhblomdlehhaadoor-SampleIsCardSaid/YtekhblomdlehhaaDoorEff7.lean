/- effect.Of. -/
import Derived.Test.YtekhblomdlehhaaDoorComp
set_option linter.unusedVariables false
set_option maxRecDepth 100000
set_option linter.unusedSimpArgs false
namespace Go.Proofs.YtekhblomdlehhaaDoor
open Go.RowKit Go.Sort Go.Lib

theorem OwnE.split {α : Type} {enc : α → List Value} {k : Nat} {w : World} {base e n : Nat} {v : Value} {l : List α} (hk : ∀ x, (enc x).length = k) (hk0 : 0 < k) (h : OwnE enc k w base e v n l) :
    (v = .slice none 0 0 ∧ n = 0 ∧ l = []) ∨ ∃ g cap, v = .slice (some ⟨g, 0, none⟩) n cap ∧ n ≤ cap ∧ base ≤ g := by
  have hl := h.len hk hk0
  rcases h.2 with ⟨h0, h1⟩ | ⟨g, cap, cur, hv, hb, hg, hn, _⟩
  · refine .inl ⟨h0, ?_⟩
    obtain ⟨p, c, hv, hl', _⟩ := h.row hk hk0
    rw [h0] at hv; cases hv
    exact ⟨rfl, List.length_eq_zero_iff.1 hl⟩
  · exact .inr ⟨g, cap, hv, hn, hb⟩

theorem sortFunc_nil (w : World) :
    Calls Tryd.prog 42 #[.slice none 0 0, .func (.func 43) #[] #[]] w fun e w' => e = .returned (.tuple #[]) ∧ w' = w :=
  AnyF.slices_SortFunc_none { Tryd.sortAtoms with } none 0 _ w

theorem compact_nil (w : World) : Calls Tryd.prog 44 #[.slice none 0 0] w fun e w' => e = .returned (.slice none 0 0) ∧ w' = w := by
  go_enter Tryd.func44, Tryd.ntmps44
  go_wp2_with fail
  go_ret
  exact ⟨rfl, rfl⟩

theorem OwnE.drop_base {α : Type} {enc : α → List Value} {k : Nat} {w w' : World} {g base : Nat} {w0 : World} (hg : w.grownBy w' (some g)) (hbg : base ≤ g) (hb : Below base w0 w) (hs : base ≤ w.heap.size) : Below base w0 w' :=
  hb.grown hg hs (fun k hk => by cases hk; exact hbg)

set_option maxHeartbeats 1000000 in
theorem effect_Of_any (p : Option Addr) (n cap : Nat) (l : List Atom) (w : World) (hn : l.length = n) (hm : n ≤ 1000000) (hr : RowA w p l) :
    Calls Tryd.prog 15 #[.slice p n cap] w fun e w' => ∃ v m, e = .returned v ∧ m ≤ n ∧ OwnE encA 3 w' w.heap.size 34 v m (sortA (l.filter atomB)) ∧ Below w.heap.size w w' := by
  have HR := Lib.hid hr
  have HN := Lib.hid hn
  clear hr hn
  go_enter Tryd.func15, Tryd.ntmps15
  go_wp2_with fail
  go_loopw [3, 8] (fun u i wr => ∃ k m : Nat, k ≤ n ∧ i = .int .i64 k ∧ m ≤ k ∧ OwnE encA 3 wr w.heap.size 34 u m ((l.take k).filter atomB) ∧ Below w.heap.size w wr) (fun _ i _ => n - (intOf i).toNat)
  case atStart => exact ⟨0, 0, by omega, rfl, by omega, OwnE.nil _ _ _ _ _, Below.refl _ _⟩
  case round =>
    obtain ⟨k, m, hk, rfl, hmk, hown, hb⟩ := hrel
    have HOWN := Lib.hid hown
    have HB := Lib.hid hb
    clear hown hb
    by_cases hlt : k < n
    · obtain ⟨x, hx⟩ := get_of_lt (l := l) (j := k) (by rw [HN.out]; exact hlt)
      have HE := Lib.hid hx
      obtain ⟨b, o, rfl, hbl, d0, d1, d2⟩ := RowA.atom (HR.out.below HB.out) hx
      clear hx hbl
      go_wp2_with fail
      refine (atom_any x _).mono ?_
      rintro e w1 ⟨rfl, hb⟩
      have HB1 : Hid (Below w.heap.size w w1) := (HB.out.alloc HB.out.size _).trans (hb.mono (by have := HB.out.size; simp; omega))
      have HOWN1 := Lib.hid ((HOWN.out.below ((Below.refl _ wr).alloc (Nat.le_refl _) (.cells #[.int .u8 x.kind, .int .i64 x.rho, .string x.exn] 34))).below hb)
      have f0 : w1.cell? ⟨wr.heap.size, 0, none⟩ = some (.int .u8 x.kind) := by rw [hb.cell (by simp), cell_new]; rfl
      have f1 : w1.cell? ⟨wr.heap.size, 1, none⟩ = some (.int .i64 x.rho) := by rw [hb.cell (by simp), cell_new]; rfl
      have f2 : w1.cell? ⟨wr.heap.size, 2, none⟩ = some (.string x.exn) := by rw [hb.cell (by simp), cell_new]; rfl
      clear hb d0 d1 d2
      cases ha : atomB x
      · have HA := Lib.hid ha
        clear ha
        go_wp2_with fail
        go_roundw
        case rel => exact ⟨k + 1, m, by omega, by go_num, by omega, by rw [take_succ_get HE.out, List.filter_append]; simpa [HA.out] using HOWN1.out, HB1.out⟩
        case measure => simp [intOf]; omega
      · have HA := Lib.hid ha
        clear ha
        go_wp2_with (at_builtin; refine wpList_append1 rfl _ _ 30 rfl w.heap.size 34 _ 3 32 Tryd.underlying30 infoA rfl (by decide) encA encA_len encA_one x _ _ _ HOWN1.out rfl rfl ?c1 ?c2 ?c3 ?_)
        case c1 => omega
        case c2 => omega
        case c3 => exact HB1.out.size
        · intro v' w4 hown' hg
          have HO := Lib.hid hown'
          have HB4 := Lib.hid (Below.own HB1.out hg HB1.out.size HOWN1.out)
          clear hown' hg f0 f1 f2
          go_wp2_with fail
          go_roundw
          case rel => exact ⟨k + 1, m + 1, by omega, by go_num, by omega, by rw [take_succ_get HE.out, List.filter_append]; simpa [HA.out] using HO.out, HB4.out⟩
          case measure => simp [intOf]; omega
    · have hkn : k = n := by omega
      subst hkn
      have HT : Hid ((l.take k).filter atomB = l.filter atomB) := by show (l.take k).filter atomB = l.filter atomB; rw [take_full (by rw [HN.out]; omega)]
      rcases HOWN.out.split encA_len (by omega) with ⟨rfl, rfl, hnil⟩ | ⟨g, cp, rfl, hcp, hbg⟩
      · have HNIL := Lib.hid hnil
        clear hnil
        go_wp2_with fail
        refine (sortFunc_nil _).mono ?_
        rintro e w1 ⟨rfl, rfl⟩
        go_wp2_with fail
        refine (compact_nil _).mono ?_
        rintro e w2 ⟨rfl, rfl⟩
        go_wp2_with fail
        go_ret
        exact ⟨_, 0, rfl, by omega, by rw [← HT.out, HNIL.out]; exact OwnE.nil _ _ _ _ _, HB.out⟩
      · go_wp2_with fail
        refine (sortFunc_any g cp m _ w.heap.size wr HOWN.out (by omega)).mono ?_
        rintro e w1 ⟨rfl, ho1, hg1⟩
        have HB1 := Lib.hid (OwnE.drop_base (enc := encA) (k := 3) hg1 hbg HB.out HB.out.size)
        have HO1 := Lib.hid ho1
        clear ho1 hg1
        go_wp2_with fail
        refine (compact_any g cp m _ w.heap.size w1 HO1.out hcp (by omega)).mono ?_
        rintro e w2 ⟨m', rfl, hm', ho2, hg2⟩
        have HB2 := Lib.hid (OwnE.drop_base (enc := encA) (k := 3) hg2 hbg HB1.out HB1.out.size)
        have HO2 := Lib.hid ho2
        clear ho2 hg2
        go_wp2_with fail
        go_ret
        have h2 := HO2.out
        rw [compact_msort, HT.out] at h2
        exact ⟨_, m', rfl, by omega, h2, HB2.out⟩

theorem mem_putPos (a x : Atom) : ∀ l : List Atom, x ∈ putPos a l ↔ x = a ∨ x ∈ l
  | [] => by simp [putPos]
  | b :: l => by
    unfold putPos
    by_cases h : Atom.lt a b = true
    · rw [if_pos h]; simp
    · rw [if_neg h, List.mem_cons, mem_putPos a x l, List.mem_cons]
      constructor
      · rintro (h | h | h)
        · exact .inr (.inl h)
        · exact .inl h
        · exact .inr (.inr h)
      · rintro (h | h | h)
        · exact .inr (.inl h)
        · exact .inl h
        · exact .inr (.inr h)
theorem rising_putPos (a : Atom) : ∀ l : List Atom, Rising Atom.lt l → a ∉ l → Rising Atom.lt (putPos a l)
  | [], _, _ => by simp [putPos, Rising]
  | b :: l, hr, hn => by
    obtain ⟨hb, hl⟩ := List.pairwise_cons.1 hr
    unfold putPos
    by_cases h : Atom.lt a b = true
    · rw [if_pos h]
      refine List.pairwise_cons.2 ⟨fun x hx => ?_, hr⟩
      rcases List.mem_cons.1 hx with rfl | hx
      · exact h
      · exact Atom.lt_trans h (hb x hx)
    · rw [if_neg h]
      refine List.pairwise_cons.2 ⟨fun x hx => ?_, rising_putPos a l hl (fun h => hn (List.mem_cons_of_mem _ h))⟩
      rcases (mem_putPos a x l).1 hx with rfl | hx
      · cases e : Atom.lt b x with
        | true => rfl
        | false => exact absurd (List.mem_cons.2 (.inl (Atom.lt_tri (by simpa using h) e))) hn
      · exact hb x hx
theorem inA_iff (l : List Atom) (a : Atom) : inA l a = true ↔ a ∈ l := by
  unfold inA eqA
  simp
theorem mem_putA (a x : Atom) (l : List Atom) : x ∈ putA a l ↔ (x = a ∧ atomB a = true) ∨ x ∈ l := by
  unfold putA
  by_cases h : (atomB a && !inA l a) = true
  · rw [if_pos h, mem_putPos]
    have : atomB a = true := by simp at h; exact h.1
    simp [this]
  · rw [if_neg h]
    constructor
    · exact .inr
    · rintro (⟨rfl, ha⟩ | h')
      · have : inA l x = true := by simpa [ha] using h
        exact (inA_iff l x).1 this
      · exact h'
theorem rising_putA (a : Atom) (l : List Atom) (hr : Rising Atom.lt l) : Rising Atom.lt (putA a l) := by
  unfold putA
  by_cases h : (atomB a && !inA l a) = true
  · rw [if_pos h]
    refine rising_putPos a l hr (fun hm => ?_)
    rw [(inA_iff l a).2 hm] at h; simp at h
  · rw [if_neg h]; exact hr
theorem refOf_fold : ∀ (l e : List Atom), Rising Atom.lt e → Rising Atom.lt (l.foldl (fun e a => putA a e) e) ∧ ∀ x, x ∈ l.foldl (fun e a => putA a e) e ↔ x ∈ e ∨ (x ∈ l ∧ atomB x = true)
  | [], e, h => ⟨h, fun x => by simp⟩
  | a :: l, e, h => by
    obtain ⟨h1, h2⟩ := refOf_fold l (putA a e) (rising_putA a e h)
    refine ⟨h1, fun x => ?_⟩
    rw [List.foldl_cons, h2, mem_putA, List.mem_cons]
    constructor
    · rintro ((⟨rfl, h⟩ | h) | ⟨h, h'⟩)
      · exact .inr ⟨.inl rfl, h⟩
      · exact .inl h
      · exact .inr ⟨.inr h, h'⟩
    · rintro (h | ⟨rfl | h, h'⟩)
      · exact .inl (.inr h)
      · exact .inl (.inl ⟨rfl, h'⟩)
      · exact .inr ⟨h, h'⟩
/-- the reference's effect is the same set -/
theorem refOf_eq (l : List Atom) : refOf l = sortA (l.filter atomB) := by
  obtain ⟨h1, h2⟩ := refOf_fold l [] (by simp [Rising])
  refine eq_sortA h1 (fun x => ?_)
  show x ∈ l.foldl (fun e a => putA a e) [] ↔ _
  rw [h2, List.mem_filter]
  simp
theorem mem_refOf (l : List Atom) (x : Atom) : x ∈ refOf l ↔ x ∈ l ∧ atomB x = true := by
  rw [refOf_eq, mem_sortA, List.mem_filter]
theorem rising_refOf (l : List Atom) : Rising Atom.lt (refOf l) := by rw [refOf_eq]; exact rising_sortA _
end Go.Proofs.YtekhblomdlehhaaDoor
