/- Part 7 of the texts: Eff7, Eff8, Eff15, Del, IsRow. -/
import Derived.Test.YtdlbjngpohkglaaGreatDoorG06
import Derived.Test.YtdlbjngpohkglaaGreatDoorG05
import Derived.Test.YtdlbjngpohkglaaGreatDoorG04
section
set_option linter.unusedVariables false
set_option maxRecDepth 100000
set_option linter.unusedSimpArgs false
namespace Go.Proofs.YtdlbjngpohkglaaGreatDoor
open Go.RowKit Go.Sort Go.Lib

theorem OwnE.split {α : Type} {enc : α → List Value} {k : Nat} {w : World} {base e n : Nat} {v : Value} {l : List α} (hk : ∀ x, (enc x).length = k) (hk0 : 0 < k) (h : OwnE enc k w base e v n l) :
    (v = .slice none 0 0 ∧ n = 0 ∧ l = []) ∨ ∃ g cap, v = .slice (some ⟨g, 0, none⟩) n cap ∧ n ≤ cap ∧ base ≤ g := by
  have hl := h.len hk hk0
  rcases h.2 with ⟨h0, h1⟩ | ⟨g, cap, cur, hv, hb, hg, hn, _⟩
  · refine .inl ⟨h0, ?_⟩
    obtain ⟨p, c, hv, hl', _⟩ := h.row hk hk0
    rw [h0] at hv; cases hv
    exact ⟨rfl, List.length_eq_zero_iff.1 hl⟩
  · exact .inr ⟨g, cap, hv, hn, hb⟩

theorem sortFunc_nil (w : World) :
    Calls Tryz.prog 175 #[.slice none 0 0, .func (.func 92) #[] #[]] w fun e w' => e = .returned (.tuple #[]) ∧ w' = w :=
  AnyF.slices_SortFunc_none { Tryz.sortAtoms with } none 0 _ w

theorem compact_nil (w : World) : Calls Tryz.prog 176 #[.slice none 0 0] w fun e w' => e = .returned (.slice none 0 0) ∧ w' = w := by
  go_enter Tryz.func176, Tryz.ntmps176
  go_wp2_with fail
  go_ret
  exact ⟨rfl, rfl⟩

theorem OwnE.drop_base {α : Type} {enc : α → List Value} {k : Nat} {w w' : World} {g base : Nat} {w0 : World} (hg : w.grownBy w' (some g)) (hbg : base ≤ g) (hb : Below base w0 w) (hs : base ≤ w.heap.size) : Below base w0 w' :=
  hb.grown hg hs (fun k hk => by cases hk; exact hbg)

set_option maxHeartbeats 1000000 in
theorem effect_Of_any (p : Option Addr) (n cap : Nat) (l : List Atom) (w : World) (hn : l.length = n) (hm : n ≤ 1000000) (hr : RowA w p l) :
    Calls Tryz.prog 150 #[.slice p n cap] w fun e w' => ∃ v m, e = .returned v ∧ m ≤ n ∧ OwnE encA 3 w' w.heap.size 78 v m (sortA (l.filter atomB)) ∧ Below w.heap.size w w' := by
  have HR := Lib.hid hr
  have HN := Lib.hid hn
  clear hr hn
  go_enter Tryz.func150, Tryz.ntmps150
  go_wp2_with fail
  go_loopw [3, 8] (fun u i wr => ∃ k m : Nat, k ≤ n ∧ i = .int .i64 k ∧ m ≤ k ∧ OwnE encA 3 wr w.heap.size 78 u m ((l.take k).filter atomB) ∧ Below w.heap.size w wr) (fun _ i _ => n - (intOf i).toNat)
  case atStart => exact ⟨0, 0, by omega, rfl, by omega, OwnE.nil _ _ _ _ _, Below.refl _ _⟩
  case round =>
    obtain ⟨k, m, hk, rfl, hmk, hown, hb⟩ := hrel
    have HOWN := Lib.hid hown
    have HB := Lib.hid hb
    clear hown hb
    by_cases hlt : k < n
    · obtain ⟨x, hx⟩ := get_of_lt (l := l) (j := k) (by rw [HN.out]; exact hlt)
      have HE := Lib.hid hx
      obtain ⟨b, o, rfl, hbl, d0, d1, d2⟩ := RowA.atom (HR.out.below HB.out) hx
      clear hx hbl
      go_wp2_with fail
      refine (atom_any x _).mono ?_
      rintro e w1 ⟨rfl, hb⟩
      have HB1 : Hid (Below w.heap.size w w1) := (HB.out.alloc HB.out.size _).trans (hb.mono (by have := HB.out.size; simp; omega))
      have HOWN1 := Lib.hid ((HOWN.out.below ((Below.refl _ wr).alloc (Nat.le_refl _) (.cells #[.int .u8 x.kind, .int .i64 x.rho, .string x.exn] 78))).below hb)
      have f0 : w1.cell? ⟨wr.heap.size, 0, none⟩ = some (.int .u8 x.kind) := by rw [hb.cell (by simp), cell_new]; rfl
      have f1 : w1.cell? ⟨wr.heap.size, 1, none⟩ = some (.int .i64 x.rho) := by rw [hb.cell (by simp), cell_new]; rfl
      have f2 : w1.cell? ⟨wr.heap.size, 2, none⟩ = some (.string x.exn) := by rw [hb.cell (by simp), cell_new]; rfl
      clear hb d0 d1 d2
      cases ha : atomB x
      · have HA := Lib.hid ha
        clear ha
        go_wp2_with fail
        go_roundw
        case rel => exact ⟨k + 1, m, by omega, by go_num, by omega, by rw [take_succ_get HE.out, List.filter_append]; simpa [HA.out] using HOWN1.out, HB1.out⟩
        case measure => simp [intOf]; omega
      · have HA := Lib.hid ha
        clear ha
        go_wp2_with (at_builtin; refine wpList_append1 rfl _ _ 25 rfl w.heap.size 78 _ 3 32 Tryz.underlying25 infoA rfl (by decide) encA encA_len encA_one x _ _ _ HOWN1.out rfl rfl ?c1 ?c2 ?c3 ?_)
        case c1 => omega
        case c2 => omega
        case c3 => exact HB1.out.size
        · intro v' w4 hown' hg
          have HO := Lib.hid hown'
          have HB4 := Lib.hid (Below.own HB1.out hg HB1.out.size HOWN1.out)
          clear hown' hg f0 f1 f2
          go_wp2_with fail
          go_roundw
          case rel => exact ⟨k + 1, m + 1, by omega, by go_num, by omega, by rw [take_succ_get HE.out, List.filter_append]; simpa [HA.out] using HO.out, HB4.out⟩
          case measure => simp [intOf]; omega
    · have hkn : k = n := by omega
      subst hkn
      have HT : Hid ((l.take k).filter atomB = l.filter atomB) := by show (l.take k).filter atomB = l.filter atomB; rw [take_full (by rw [HN.out]; omega)]
      rcases HOWN.out.split encA_len (by omega) with ⟨rfl, rfl, hnil⟩ | ⟨g, cp, rfl, hcp, hbg⟩
      · have HNIL := Lib.hid hnil
        clear hnil
        go_wp2_with fail
        refine (sortFunc_nil _).mono ?_
        rintro e w1 ⟨rfl, rfl⟩
        go_wp2_with fail
        refine (compact_nil _).mono ?_
        rintro e w2 ⟨rfl, rfl⟩
        go_wp2_with fail
        go_ret
        exact ⟨_, 0, rfl, by omega, by rw [← HT.out, HNIL.out]; exact OwnE.nil _ _ _ _ _, HB.out⟩
      · go_wp2_with fail
        refine (sortFunc_any g cp m _ w.heap.size wr HOWN.out (by omega)).mono ?_
        rintro e w1 ⟨rfl, ho1, hg1⟩
        have HB1 := Lib.hid (OwnE.drop_base (enc := encA) (k := 3) hg1 hbg HB.out HB.out.size)
        have HO1 := Lib.hid ho1
        clear ho1 hg1
        go_wp2_with fail
        refine (compact_any g cp m _ w.heap.size w1 HO1.out hcp (by omega)).mono ?_
        rintro e w2 ⟨m', rfl, hm', ho2, hg2⟩
        have HB2 := Lib.hid (OwnE.drop_base (enc := encA) (k := 3) hg2 hbg HB1.out HB1.out.size)
        have HO2 := Lib.hid ho2
        clear ho2 hg2
        go_wp2_with fail
        go_ret
        have h2 := HO2.out
        rw [compact_msort, HT.out] at h2
        exact ⟨_, m', rfl, by omega, h2, HB2.out⟩

theorem mem_putPos (a x : Atom) : ∀ l : List Atom, x ∈ putPos a l ↔ x = a ∨ x ∈ l
  | [] => by simp [putPos]
  | b :: l => by
    unfold putPos
    by_cases h : Atom.lt a b = true
    · rw [if_pos h]; simp
    · rw [if_neg h, List.mem_cons, mem_putPos a x l, List.mem_cons]
      constructor
      · rintro (h | h | h)
        · exact .inr (.inl h)
        · exact .inl h
        · exact .inr (.inr h)
      · rintro (h | h | h)
        · exact .inr (.inl h)
        · exact .inl h
        · exact .inr (.inr h)
theorem rising_putPos (a : Atom) : ∀ l : List Atom, Rising Atom.lt l → a ∉ l → Rising Atom.lt (putPos a l)
  | [], _, _ => by simp [putPos, Rising]
  | b :: l, hr, hn => by
    obtain ⟨hb, hl⟩ := List.pairwise_cons.1 hr
    unfold putPos
    by_cases h : Atom.lt a b = true
    · rw [if_pos h]
      refine List.pairwise_cons.2 ⟨fun x hx => ?_, hr⟩
      rcases List.mem_cons.1 hx with rfl | hx
      · exact h
      · exact Atom.lt_trans h (hb x hx)
    · rw [if_neg h]
      refine List.pairwise_cons.2 ⟨fun x hx => ?_, rising_putPos a l hl (fun h => hn (List.mem_cons_of_mem _ h))⟩
      rcases (mem_putPos a x l).1 hx with rfl | hx
      · cases e : Atom.lt b x with
        | true => rfl
        | false => exact absurd (List.mem_cons.2 (.inl (Atom.lt_tri (by simpa using h) e))) hn
      · exact hb x hx
theorem inA_iff (l : List Atom) (a : Atom) : inA l a = true ↔ a ∈ l := by
  unfold inA eqA
  simp
theorem mem_putA (a x : Atom) (l : List Atom) : x ∈ putA a l ↔ (x = a ∧ atomB a = true) ∨ x ∈ l := by
  unfold putA
  by_cases h : (atomB a && !inA l a) = true
  · rw [if_pos h, mem_putPos]
    have : atomB a = true := by simp at h; exact h.1
    simp [this]
  · rw [if_neg h]
    constructor
    · exact .inr
    · rintro (⟨rfl, ha⟩ | h')
      · have : inA l x = true := by simpa [ha] using h
        exact (inA_iff l x).1 this
      · exact h'
theorem rising_putA (a : Atom) (l : List Atom) (hr : Rising Atom.lt l) : Rising Atom.lt (putA a l) := by
  unfold putA
  by_cases h : (atomB a && !inA l a) = true
  · rw [if_pos h]
    refine rising_putPos a l hr (fun hm => ?_)
    rw [(inA_iff l a).2 hm] at h; simp at h
  · rw [if_neg h]; exact hr
theorem refOf_fold : ∀ (l e : List Atom), Rising Atom.lt e → Rising Atom.lt (l.foldl (fun e a => putA a e) e) ∧ ∀ x, x ∈ l.foldl (fun e a => putA a e) e ↔ x ∈ e ∨ (x ∈ l ∧ atomB x = true)
  | [], e, h => ⟨h, fun x => by simp⟩
  | a :: l, e, h => by
    obtain ⟨h1, h2⟩ := refOf_fold l (putA a e) (rising_putA a e h)
    refine ⟨h1, fun x => ?_⟩
    rw [List.foldl_cons, h2, mem_putA, List.mem_cons]
    constructor
    · rintro ((⟨rfl, h⟩ | h) | ⟨h, h'⟩)
      · exact .inr ⟨.inl rfl, h⟩
      · exact .inl h
      · exact .inr ⟨.inr h, h'⟩
    · rintro (h | ⟨rfl | h, h'⟩)
      · exact .inl (.inr h)
      · exact .inl (.inl ⟨rfl, h'⟩)
      · exact .inr ⟨h, h'⟩
/-- the reference's effect is the same set -/
theorem refOf_eq (l : List Atom) : refOf l = sortA (l.filter atomB) := by
  obtain ⟨h1, h2⟩ := refOf_fold l [] (by simp [Rising])
  refine eq_sortA h1 (fun x => ?_)
  show x ∈ l.foldl (fun e a => putA a e) [] ↔ _
  rw [h2, List.mem_filter]
  simp
theorem mem_refOf (l : List Atom) (x : Atom) : x ∈ refOf l ↔ x ∈ l ∧ atomB x = true := by
  rw [refOf_eq, mem_sortA, List.mem_filter]
theorem rising_refOf (l : List Atom) : Rising Atom.lt (refOf l) := by rw [refOf_eq]; exact rising_sortA _
end Go.Proofs.YtdlbjngpohkglaaGreatDoor
end
section
set_option linter.unusedVariables false
set_option maxRecDepth 100000
set_option linter.unusedSimpArgs false
namespace Go.Proofs.YtdlbjngpohkglaaGreatDoor
open Go.RowKit

theorem eff_atom_is {a : Atom} {r : Bool} (h : atomB a = r) (w : World) :
    Calls Tryz.prog 91 #[.agg #[.int .u8 a.kind, .int .i64 a.rho, .string a.exn]] w fun e w' => e = .returned (.bool r) ∧ Below w.heap.size w w' := by
  subst h; exact atom_any a w
theorem below_grow (W : World) (q : Nat) (os' : Array Obj) : Below W.heap.size W (Go.Sort.grow (W.drewN q) os') :=
  ⟨rfl, rfl, rfl, by simp [Go.Sort.grow], fun k hk => by rw [Go.Sort.heap_grow_old _ _ (by simpa using hk)]; rfl⟩
theorem compare_is {a b : Atom} {r : Int} (h : cmpA a b = r) (w : World) : Calls Tryz.prog 92 #[.agg #[.int .u8 a.kind, .int .i64 a.rho, .string a.exn], .agg #[.int .u8 b.kind, .int .i64 b.rho, .string b.exn]] w fun e w' =>
    e = .returned (.int .i64 r) ∧ Below w.heap.size w w' := by
  subst h
  refine (compare_any a b w).mono ?_
  rintro e w' ⟨he, q, os', rfl⟩
  exact ⟨he, below_grow w q os'⟩

set_option maxHeartbeats 1000000 in
theorem effect_May_any (p : Option Addr) (n cap : Nat) (l : List Atom) (w : World) (hn : l.length = n) (hm : n ≤ 9223372036854775807) (hr : RowA w p l) :
    Calls Tryz.prog 73 #[.slice p n cap] w fun e w' => (∃ r, e = .returned (.bool r) ∧ (r = true ↔ MayTo l n)) ∧ Below w.heap.size w w' := by
  have HR := Lib.hid hr
  have HN := Lib.hid hn
  clear hr hn
  go_enter Tryz.func73, Tryz.ntmps73
  go_wp2_with fail
  go_loopw [7] (fun i wr => ∃ k : Nat, k ≤ n ∧ i = .int .i64 k ∧ MayTo l k ∧ Below w.heap.size w wr) (fun i _ => n - (intOf i).toNat)
  case atStart => exact ⟨0, by omega, rfl, ⟨by simp, fun j _ _ h => by omega⟩, Below.refl _ _⟩
  case round =>
    obtain ⟨k, hk, rfl, hno, hb⟩ := hrel
    have HNO := Lib.hid hno
    have HB := Lib.hid hb
    clear hno hb
    by_cases hlt : k < n
    · obtain ⟨x, hx⟩ := get_of_lt (l := l) (j := k) (by rw [HN.out]; exact hlt)
      have HE := Lib.hid hx
      obtain ⟨b, o, rfl, hbl, d0, d1, d2⟩ := RowA.atom (HR.out.below HB.out) hx
      have HBL := Lib.hid hbl
      clear hx hbl
      have v0 := fun g => gw_cell (a := ⟨wr.heap.size, 0, none⟩) (v := .int .u8 x.kind) (w := wr.alloc (.cells #[.int .u8 x.kind, .int .i64 x.rho, .string x.exn] 78)) (by rw [cell_new]; rfl) g
      have v1 := fun g => gw_cell (a := ⟨wr.heap.size, 1, none⟩) (v := .int .i64 x.rho) (w := wr.alloc (.cells #[.int .u8 x.kind, .int .i64 x.rho, .string x.exn] 78)) (by rw [cell_new]; rfl) g
      have v2 := fun g => gw_cell (a := ⟨wr.heap.size, 2, none⟩) (v := .string x.exn) (w := wr.alloc (.cells #[.int .u8 x.kind, .int .i64 x.rho, .string x.exn] 78)) (by rw [cell_new]; rfl) g
      cases ha : atomB x
      · have HA := Lib.hid ha
        clear ha
        have hW := gw_below (wr.alloc (.cells #[.int .u8 x.kind, .int .i64 x.rho, .string x.exn] 78))
        go_wp2_with fail
        refine wp_region_gw (by kernel_rfl) (by kernel_rfl) ?_
        repeat ((with_reducible refine wpQuiet_step (fun K hK => ?_)); go_simp; refine hK _ ?_; clear hK K)
        refine wpQuiet_step (fun K hK => ?_); go_simp; refine ⟨.bool false, fun _ => calls_gw (eff_atom_is HA.out _), hK _ ?_⟩; clear hK K
        repeat ((with_reducible refine wpQuiet_step (fun K hK => ?_)); go_simp; refine hK _ ?_; clear hK K)
        refine wpQuiet_nil ?_
        rintro w3 ⟨g, rfl⟩
        have HB3 := Lib.hid ((HB.out.alloc HB.out.size _).trans ((hW g).mono (by have := HB.out.size; simp; omega)))
        clear hW
        go_wp2_with fail
        go_ret
        exact ⟨⟨false, rfl, by
          constructor
          · intro h; cases h
          · intro h
            have h1 := h.1
            rw [take_full (by rw [HN.out]; omega), all_get HE.out HA.out] at h1
            cases h1⟩, HB3.out⟩
      · have HA := Lib.hid ha
        clear ha
        have hW := gw_below (wr.alloc (.cells #[.int .u8 x.kind, .int .i64 x.rho, .string x.exn] 78))
        by_cases hk0 : k = 0
        · have hd : decide ((0 : Int) < (k : Int)) = false := by simp; omega
          have hd' : decide (0 < k) = false := by simp; omega
          have HK0 := Lib.hid hk0
          clear hk0
          go_wp2_with fail
          refine wp_region_gw (by kernel_rfl) (by kernel_rfl) ?_
          repeat ((with_reducible refine wpQuiet_step (fun K hK => ?_)); go_simp; refine hK _ ?_; clear hK K)
          refine wpQuiet_step (fun K hK => ?_); go_simp; refine ⟨.bool true, fun _ => calls_gw (eff_atom_is HA.out _), hK _ ?_⟩; clear hK K
          repeat ((with_reducible refine wpQuiet_step (fun K hK => ?_)); go_simp; refine hK _ ?_; clear hK K)
          refine wpQuiet_nil ?_
          rintro w3 ⟨g, rfl⟩
          have HB3 := Lib.hid ((HB.out.alloc HB.out.size _).trans ((hW g).mono (by have := HB.out.size; simp; omega)))
          clear hW
          go_wp2_with fail
          go_roundw
          case rel => exact ⟨k + 1, by omega, by go_num, ⟨by rw [all_take_get HE.out, HNO.out.1, HA.out]; rfl, fun j _ _ h => by have := HK0.out; omega⟩, HB3.out⟩
          case measure => simp [intOf]; omega
        · obtain ⟨y, hy⟩ := get_of_lt (l := l) (j := k - 1) (by rw [HN.out]; omega)
          have HY := Lib.hid hy
          obtain ⟨b', o', hbo, _, e0, e1, e2⟩ := RowA.atom ((HR.out.below HB.out).alloc (.cells #[.int .u8 x.kind, .int .i64 x.rho, .string x.exn] 78)) hy
          cases hbo
          have he0 := fun g => gw_cell e0 g
          have he1 := fun g => gw_cell e1 g
          have he2 := fun g => gw_cell e2 g
          have hk1 : Hid (0 < k) := show 0 < k by omega
          have hd : decide ((0 : Int) < (k : Int)) = true := by simp; omega
          have hd' : decide (0 < k) = true := by simp; omega
          have hkp : 0 < k := hk1.out
          have a1 : IntKind.i64.wrap ((k : Int) - 1) = (k : Int) - 1 := IntWalk.i64_in _ (by omega)
          have a2 : (0 : Int) ≤ (k : Int) - 1 := by omega
          have a3 : ((k : Int) - 1).toNat = k - 1 := by omega
          have a4 : (k : Int) - 1 < (n : Int) := by omega
          have a5 : (1 : Int) ≤ (k : Int) := by omega
          clear hy hk0
          have hcl := cmpA_lt y x
          generalize hcc : cmpA y x = c at hcl
          have HCC := Lib.hid hcc
          clear hcc
          cases hl : Atom.lt y x
          · have HL := Lib.hid hl
            rw [hl] at hcl
            have hc5 : decide ((0 : Int) ≤ c) = true := by simp at hcl ⊢; omega
            clear hl hcl
            go_wp2_with fail
            refine wp_region_gw (by kernel_rfl) (by kernel_rfl) ?_
            repeat ((with_reducible refine wpQuiet_step (fun K hK => ?_)); go_simp; refine hK _ ?_; clear hK K)
            refine wpQuiet_step (fun K hK => ?_); go_simp; refine ⟨.bool true, fun _ => calls_gw (eff_atom_is HA.out _), hK _ ?_⟩; clear hK K
            repeat ((with_reducible refine wpQuiet_step (fun K hK => ?_)); go_simp; refine hK _ ?_; clear hK K)
            refine wpQuiet_step (fun K hK => ?_); go_simp; refine ⟨.int .i64 c, fun _ => calls_gw (compare_is HCC.out _), hK _ ?_⟩; clear hK K
            repeat ((with_reducible refine wpQuiet_step (fun K hK => ?_)); go_simp; refine hK _ ?_; clear hK K)
            refine wpQuiet_nil ?_
            rintro w3 ⟨g, rfl⟩
            have HB3 := Lib.hid ((HB.out.alloc HB.out.size _).trans ((hW g).mono (by have := HB.out.size; simp; omega)))
            clear hW
            go_wp2_with fail
            go_ret
            exact ⟨⟨false, rfl, by
              constructor
              · intro h; cases h
              · intro h
                have h1 := h.2 (k - 1) y x (by have := hk1.out; omega) HY.out (by rw [show k - 1 + 1 = k from by have := hk1.out; omega]; exact HE.out)
                rw [HL.out] at h1
                cases h1⟩, HB3.out⟩
          · have HL := Lib.hid hl
            rw [hl] at hcl
            have hc5 : decide ((0 : Int) ≤ c) = false := by simp at hcl ⊢; omega
            clear hl hcl
            go_wp2_with fail
            refine wp_region_gw (by kernel_rfl) (by kernel_rfl) ?_
            repeat ((with_reducible refine wpQuiet_step (fun K hK => ?_)); go_simp; refine hK _ ?_; clear hK K)
            refine wpQuiet_step (fun K hK => ?_); go_simp; refine ⟨.bool true, fun _ => calls_gw (eff_atom_is HA.out _), hK _ ?_⟩; clear hK K
            repeat ((with_reducible refine wpQuiet_step (fun K hK => ?_)); go_simp; refine hK _ ?_; clear hK K)
            refine wpQuiet_step (fun K hK => ?_); go_simp; refine ⟨.int .i64 c, fun _ => calls_gw (compare_is HCC.out _), hK _ ?_⟩; clear hK K
            repeat ((with_reducible refine wpQuiet_step (fun K hK => ?_)); go_simp; refine hK _ ?_; clear hK K)
            refine wpQuiet_nil ?_
            rintro w3 ⟨g, rfl⟩
            have HB3 := Lib.hid ((HB.out.alloc HB.out.size _).trans ((hW g).mono (by have := HB.out.size; simp; omega)))
            clear hW
            go_wp2_with fail
            go_roundw
            case rel => exact ⟨k + 1, by omega, by go_num, ⟨by rw [all_take_get HE.out, HNO.out.1, HA.out]; rfl, fun i u v hi hu hv => by
              have hk1 := hk1.out
              rcases (by omega : i = k - 1 ∨ i + 1 < k) with rfl | hlt'
              · rw [HY.out] at hu; cases hu; rw [show k - 1 + 1 = k from by omega, HE.out] at hv; cases hv; exact HL.out
              · exact HNO.out.2 i u v hlt' hu hv⟩, HB3.out⟩
            case measure => simp [intOf]; omega
    · go_wp2_with fail
      go_ret
      obtain rfl : k = n := by omega
      exact ⟨⟨true, rfl, by simp [HNO.out]⟩, HB.out⟩
end Go.Proofs.YtdlbjngpohkglaaGreatDoor
end
section
set_option linter.unusedVariables false
set_option maxRecDepth 100000
set_option linter.unusedSimpArgs false
namespace Go.Proofs.YtdlbjngpohkglaaGreatDoor
open Go.RowKit

theorem any_eqA_comm (l : List Atom) (a : Atom) : l.any (fun x => eqA a x) = inA l a := by
  unfold inA
  congr 1
  funext x
  unfold eqA
  exact decide_eq_decide.2 ⟨fun h => h.symm, fun h => h.symm⟩

end Go.Proofs.YtdlbjngpohkglaaGreatDoor
end
section
set_option linter.unusedVariables false
set_option maxRecDepth 100000
set_option linter.unusedSimpArgs false
namespace Go.Proofs.YtdlbjngpohkglaaGreatDoor
open Go.RowKit Go.Sort Go.Lib

/-- so far: the kept ones of the first j at the head, the rest as it was -/
structure DelInv (q : Atom → Bool) (l : List Atom) (j i : Nat) (dk : List Atom) : Prop where
  size : dk.length = l.length
  low : dk.take i = (l.take j).filter (fun x => !q x)
  high : ∀ t, j ≤ t → dk[t]? = l[t]?
  lt : i < j
theorem DelInv.start {q : Atom → Bool} {l : List Atom} {k : Nat} {x : Atom} (hx : l[k]? = some x) (hq : q x = true) (hno : (l.take k).any q = false) : DelInv q l (k + 1) k l := by
  refine ⟨rfl, ?_, fun _ _ => rfl, by omega⟩
  rw [take_succ_get hx, List.filter_append]
  have h1 : (l.take k).filter (fun x => !q x) = l.take k := by
    rw [List.filter_eq_self]
    intro a ha
    have := List.any_eq_false.1 hno a ha
    simpa using this
  rw [h1]
  simp [hq]
theorem DelInv.skip {q : Atom → Bool} {l dk : List Atom} {j i : Nat} {x : Atom} (h : DelInv q l j i dk) (hx : l[j]? = some x) (hq : q x = true) : DelInv q l (j + 1) i dk := by
  refine ⟨h.size, ?_, fun t ht => h.high t (by omega), by have := h.lt; omega⟩
  rw [take_succ_get hx, List.filter_append, h.low]
  simp [hq]
theorem DelInv.keep {q : Atom → Bool} {l dk : List Atom} {j i : Nat} {x : Atom} (h : DelInv q l j i dk) (hx : l[j]? = some x) (hq : q x = false) : DelInv q l (j + 1) (i + 1) (dk.set i x) := by
  have hj := get_lt hx
  have hi : i < dk.length := by have := h.lt; have := h.size; omega
  refine ⟨by rw [List.length_set]; exact h.size, ?_, fun t ht => ?_, by have := h.lt; omega⟩
  · rw [take_succ_get hx, List.filter_append, ← h.low]
    rw [take_succ_get (List.getElem?_set_self hi), List.take_set_of_le (Nat.le_refl _)]
    simp [hq]
  · rw [List.getElem?_set_ne (by have := h.lt; omega)]
    exact h.high t (by omega)

end Go.Proofs.YtdlbjngpohkglaaGreatDoor
end
section
set_option linter.unusedVariables false
set_option maxRecDepth 100000
set_option linter.unusedSimpArgs false
namespace Go.Proofs.YtdlbjngpohkglaaGreatDoor
open Go.RowKit

/-- The slice p n cap holds the elements l. -/
structure IsRow {α : Type} (enc : α → List Value) (k : Nat) (w : World) (p : Option Addr) (n cap : Nat) (l : List α) : Prop where
  len : l.length = n
  max : n ≤ 9223372036854775807
  le : n ≤ cap
  nil : p = none → cap = 0
  row : RowE enc k w p l
section
variable {α : Type} {enc : α → List Value} {k : Nat} {w w' : World} {p : Option Addr} {n cap : Nat} {l : List α}
theorem IsRow.below (h : IsRow enc k w p n cap l) (hb : Below w.heap.size w w') : IsRow enc k w' p n cap l := ⟨h.1, h.2, h.3, h.4, h.5.below hb⟩
theorem IsRow.alloc (h : IsRow enc k w p n cap l) (o : Obj) : IsRow enc k (w.alloc o) p n cap l := h.below ((Below.refl _ _).alloc (Nat.le_refl _) _)
theorem OwnE.isRow {base e : Nat} {v : Value} (hk : ∀ x, (enc x).length = k) (hk0 : 0 < k) (h : OwnE enc k w base e v n l) : ∃ p cap, v = .slice p n cap ∧ IsRow enc k w p n cap l := by
  obtain ⟨p, cap, hv, hl, hc, hr, hm, hn, _⟩ := h.row hk hk0
  unfold maxLen at hm
  exact ⟨p, cap, hv, hl, by omega, hc, fun e => (hn e).2, hr⟩
theorem IsRow.none (enc : α → List Value) (k : Nat) (w : World) : IsRow enc k w Option.none 0 0 [] := ⟨rfl, by omega, by omega, fun _ => rfl, .inl rfl⟩
end
end Go.Proofs.YtdlbjngpohkglaaGreatDoor
end
