/- Part 6 of the texts: Eff8, Eff15, Del, IsRow, Eff9, Eff10. -/
import Derived.Test.YtkdjnegfnhldpaaGreatDoorG05
import Derived.Test.YtkdjnegfnhldpaaGreatDoorG03
import Derived.Test.YtkdjnegfnhldpaaGreatDoorG04
import Derived.Lib.ItoaNum
import Derived.Lib.Join
import Derived.Lib.ItoaMem
import Derived.Lib.ItoaLen
set_option linter.unusedVariables false
set_option maxRecDepth 100000
set_option linter.unusedSimpArgs false
section
namespace Go.Proofs.YtkdjnegfnhldpaaGreatDoor
open Go.RowKit
theorem eff_atom_is {a : Atom} {r : Bool} (h : atomB a = r) (w : World) :
    Calls Tryz.prog 127 #[.agg #[.int .u8 a.kind, .int .i64 a.rho, .string a.exn]] w fun e w' => e = .returned (.bool r) ∧ Below w.heap.size w w' := by
  subst h; exact atom_any a w
theorem below_grow (W : World) (q : Nat) (os' : Array Obj) : Below W.heap.size W (Go.Sort.grow (W.drewN q) os') :=
  ⟨rfl, rfl, rfl, by simp [Go.Sort.grow], fun k hk => by rw [Go.Sort.heap_grow_old _ _ (by simpa using hk)]; rfl⟩
theorem compare_is {a b : Atom} {r : Int} (h : cmpA a b = r) (w : World) : Calls Tryz.prog 128 #[.agg #[.int .u8 a.kind, .int .i64 a.rho, .string a.exn], .agg #[.int .u8 b.kind, .int .i64 b.rho, .string b.exn]] w fun e w' =>
    e = .returned (.int .i64 r) ∧ Below w.heap.size w w' := by
  subst h
  refine (compare_any a b w).mono ?_
  rintro e w' ⟨he, q, os', rfl⟩
  exact ⟨he, below_grow w q os'⟩
set_option maxHeartbeats 1000000 in
theorem effect_May_any (p : Option Addr) (n cap : Nat) (l : List Atom) (w : World) (hn : l.length = n) (hm : n ≤ 9223372036854775807) (hr : RowA w p l) :
    Calls Tryz.prog 93 #[.slice p n cap] w fun e w' => (∃ r, e = .returned (.bool r) ∧ (r = true ↔ MayTo l n)) ∧ Below w.heap.size w w' := by
  have HR := Lib.hid hr
  have HN := Lib.hid hn
  clear hr hn
  go_enter Tryz.func93, Tryz.ntmps93
  go_wp2_with fail
  go_loopw [7] (fun i wr => ∃ k : Nat, k ≤ n ∧ i = .int .i64 k ∧ MayTo l k ∧ Below w.heap.size w wr) (fun i _ => n - (intOf i).toNat)
  case atStart => exact ⟨0, by omega, rfl, ⟨by simp, fun j _ _ h => by omega⟩, Below.refl _ _⟩
  case round =>
    obtain ⟨k, hk, rfl, hno, hb⟩ := hrel
    have HNO := Lib.hid hno
    have HB := Lib.hid hb
    clear hno hb
    by_cases hlt : k < n
    · obtain ⟨x, hx⟩ := get_of_lt (l := l) (j := k) (by rw [HN.out]; exact hlt)
      have HE := Lib.hid hx
      obtain ⟨b, o, rfl, hbl, d0, d1, d2⟩ := RowA.atom (HR.out.below HB.out) hx
      have HBL := Lib.hid hbl
      clear hx hbl
      have v0 := fun g => gw_cell (a := ⟨wr.heap.size, 0, none⟩) (v := .int .u8 x.kind) (w := wr.alloc (.cells #[.int .u8 x.kind, .int .i64 x.rho, .string x.exn] 59)) (by rw [cell_new]; rfl) g
      have v1 := fun g => gw_cell (a := ⟨wr.heap.size, 1, none⟩) (v := .int .i64 x.rho) (w := wr.alloc (.cells #[.int .u8 x.kind, .int .i64 x.rho, .string x.exn] 59)) (by rw [cell_new]; rfl) g
      have v2 := fun g => gw_cell (a := ⟨wr.heap.size, 2, none⟩) (v := .string x.exn) (w := wr.alloc (.cells #[.int .u8 x.kind, .int .i64 x.rho, .string x.exn] 59)) (by rw [cell_new]; rfl) g
      cases ha : atomB x
      · have HA := Lib.hid ha
        clear ha
        have hW := gw_below (wr.alloc (.cells #[.int .u8 x.kind, .int .i64 x.rho, .string x.exn] 59))
        go_wp2_with fail
        refine wp_region_gw (by kernel_rfl) (by kernel_rfl) ?_
        repeat ((with_reducible refine wpQuiet_step (fun K hK => ?_)); go_simp; refine hK _ ?_; clear hK K)
        refine wpQuiet_step (fun K hK => ?_); go_simp; refine ⟨.bool false, fun _ => calls_gw (eff_atom_is HA.out _), hK _ ?_⟩; clear hK K
        repeat ((with_reducible refine wpQuiet_step (fun K hK => ?_)); go_simp; refine hK _ ?_; clear hK K)
        refine wpQuiet_nil ?_
        rintro w3 ⟨g, rfl⟩
        have HB3 := Lib.hid ((HB.out.alloc HB.out.size _).trans ((hW g).mono (by have := HB.out.size; simp; omega)))
        clear hW
        go_wp2_with fail
        go_ret
        exact ⟨⟨false, rfl, by
          constructor
          · intro h; cases h
          · intro h
            have h1 := h.1
            rw [take_full (by rw [HN.out]; omega), all_get HE.out HA.out] at h1
            cases h1⟩, HB3.out⟩
      · have HA := Lib.hid ha
        clear ha
        have hW := gw_below (wr.alloc (.cells #[.int .u8 x.kind, .int .i64 x.rho, .string x.exn] 59))
        by_cases hk0 : k = 0
        · have hd : decide ((0 : Int) < (k : Int)) = false := by simp; omega
          have hd' : decide (0 < k) = false := by simp; omega
          have HK0 := Lib.hid hk0
          clear hk0
          go_wp2_with fail
          refine wp_region_gw (by kernel_rfl) (by kernel_rfl) ?_
          repeat ((with_reducible refine wpQuiet_step (fun K hK => ?_)); go_simp; refine hK _ ?_; clear hK K)
          refine wpQuiet_step (fun K hK => ?_); go_simp; refine ⟨.bool true, fun _ => calls_gw (eff_atom_is HA.out _), hK _ ?_⟩; clear hK K
          repeat ((with_reducible refine wpQuiet_step (fun K hK => ?_)); go_simp; refine hK _ ?_; clear hK K)
          refine wpQuiet_nil ?_
          rintro w3 ⟨g, rfl⟩
          have HB3 := Lib.hid ((HB.out.alloc HB.out.size _).trans ((hW g).mono (by have := HB.out.size; simp; omega)))
          clear hW
          go_wp2_with fail
          go_roundw
          case rel => exact ⟨k + 1, by omega, by go_num, ⟨by rw [all_take_get HE.out, HNO.out.1, HA.out]; rfl, fun j _ _ h => by have := HK0.out; omega⟩, HB3.out⟩
          case measure => simp [intOf]; omega
        · obtain ⟨y, hy⟩ := get_of_lt (l := l) (j := k - 1) (by rw [HN.out]; omega)
          have HY := Lib.hid hy
          obtain ⟨b', o', hbo, _, e0, e1, e2⟩ := RowA.atom ((HR.out.below HB.out).alloc (.cells #[.int .u8 x.kind, .int .i64 x.rho, .string x.exn] 59)) hy
          cases hbo
          have he0 := fun g => gw_cell e0 g
          have he1 := fun g => gw_cell e1 g
          have he2 := fun g => gw_cell e2 g
          have hk1 : Hid (0 < k) := show 0 < k by omega
          have hd : decide ((0 : Int) < (k : Int)) = true := by simp; omega
          have hd' : decide (0 < k) = true := by simp; omega
          have hkp : 0 < k := hk1.out
          have a1 : IntKind.i64.wrap ((k : Int) - 1) = (k : Int) - 1 := IntWalk.i64_in _ (by omega)
          have a2 : (0 : Int) ≤ (k : Int) - 1 := by omega
          have a3 : ((k : Int) - 1).toNat = k - 1 := by omega
          have a4 : (k : Int) - 1 < (n : Int) := by omega
          have a5 : (1 : Int) ≤ (k : Int) := by omega
          clear hy hk0
          have hcl := cmpA_lt y x
          generalize hcc : cmpA y x = c at hcl
          have HCC := Lib.hid hcc
          clear hcc
          cases hl : Atom.lt y x
          · have HL := Lib.hid hl
            rw [hl] at hcl
            have hc5 : decide ((0 : Int) ≤ c) = true := by simp at hcl ⊢; omega
            clear hl hcl
            go_wp2_with fail
            refine wp_region_gw (by kernel_rfl) (by kernel_rfl) ?_
            repeat ((with_reducible refine wpQuiet_step (fun K hK => ?_)); go_simp; refine hK _ ?_; clear hK K)
            refine wpQuiet_step (fun K hK => ?_); go_simp; refine ⟨.bool true, fun _ => calls_gw (eff_atom_is HA.out _), hK _ ?_⟩; clear hK K
            repeat ((with_reducible refine wpQuiet_step (fun K hK => ?_)); go_simp; refine hK _ ?_; clear hK K)
            refine wpQuiet_step (fun K hK => ?_); go_simp; refine ⟨.int .i64 c, fun _ => calls_gw (compare_is HCC.out _), hK _ ?_⟩; clear hK K
            repeat ((with_reducible refine wpQuiet_step (fun K hK => ?_)); go_simp; refine hK _ ?_; clear hK K)
            refine wpQuiet_nil ?_
            rintro w3 ⟨g, rfl⟩
            have HB3 := Lib.hid ((HB.out.alloc HB.out.size _).trans ((hW g).mono (by have := HB.out.size; simp; omega)))
            clear hW
            go_wp2_with fail
            go_ret
            exact ⟨⟨false, rfl, by
              constructor
              · intro h; cases h
              · intro h
                have h1 := h.2 (k - 1) y x (by have := hk1.out; omega) HY.out (by rw [show k - 1 + 1 = k from by have := hk1.out; omega]; exact HE.out)
                rw [HL.out] at h1
                cases h1⟩, HB3.out⟩
          · have HL := Lib.hid hl
            rw [hl] at hcl
            have hc5 : decide ((0 : Int) ≤ c) = false := by simp at hcl ⊢; omega
            clear hl hcl
            go_wp2_with fail
            refine wp_region_gw (by kernel_rfl) (by kernel_rfl) ?_
            repeat ((with_reducible refine wpQuiet_step (fun K hK => ?_)); go_simp; refine hK _ ?_; clear hK K)
            refine wpQuiet_step (fun K hK => ?_); go_simp; refine ⟨.bool true, fun _ => calls_gw (eff_atom_is HA.out _), hK _ ?_⟩; clear hK K
            repeat ((with_reducible refine wpQuiet_step (fun K hK => ?_)); go_simp; refine hK _ ?_; clear hK K)
            refine wpQuiet_step (fun K hK => ?_); go_simp; refine ⟨.int .i64 c, fun _ => calls_gw (compare_is HCC.out _), hK _ ?_⟩; clear hK K
            repeat ((with_reducible refine wpQuiet_step (fun K hK => ?_)); go_simp; refine hK _ ?_; clear hK K)
            refine wpQuiet_nil ?_
            rintro w3 ⟨g, rfl⟩
            have HB3 := Lib.hid ((HB.out.alloc HB.out.size _).trans ((hW g).mono (by have := HB.out.size; simp; omega)))
            clear hW
            go_wp2_with fail
            go_roundw
            case rel => exact ⟨k + 1, by omega, by go_num, ⟨by rw [all_take_get HE.out, HNO.out.1, HA.out]; rfl, fun i u v hi hu hv => by
              have hk1 := hk1.out
              rcases (by omega : i = k - 1 ∨ i + 1 < k) with rfl | hlt'
              · rw [HY.out] at hu; cases hu; rw [show k - 1 + 1 = k from by omega, HE.out] at hv; cases hv; exact HL.out
              · exact HNO.out.2 i u v hlt' hu hv⟩, HB3.out⟩
            case measure => simp [intOf]; omega
    · go_wp2_with fail
      go_ret
      obtain rfl : k = n := by omega
      exact ⟨⟨true, rfl, by simp [HNO.out]⟩, HB.out⟩
end Go.Proofs.YtkdjnegfnhldpaaGreatDoor
end
section
namespace Go.Proofs.YtkdjnegfnhldpaaGreatDoor
open Go.RowKit
theorem any_eqA_comm (l : List Atom) (a : Atom) : l.any (fun x => eqA a x) = inA l a := by
  unfold inA
  congr 1
  funext x
  unfold eqA
  exact decide_eq_decide.2 ⟨fun h => h.symm, fun h => h.symm⟩
theorem a_index_any (p : Option Addr) (n cap : Nat) (l : List Atom) (a : Atom) (w : World) (hn : l.length = n) (hm : n ≤ 9223372036854775807) (hr : RowA w p l) :
    Calls Tryz.prog 218 #[.slice p n cap, .agg #[.int .u8 a.kind, .int .i64 a.rho, .string a.exn]] w fun e w' =>
      (∃ r : Int, e = .returned (.int .i64 r) ∧ (inA l a = decide (0 ≤ r))) ∧ Below w.heap.size w w' := by
  have HR := Lib.hid (hr.alloc (.cells #[.int .u8 a.kind, .int .i64 a.rho, .string a.exn] 59))
  have HN := Lib.hid hn
  have HC : Hid (l.any (fun x => eqA a x) = inA l a) := any_eqA_comm l a
  clear hr hn
  go_enter Tryz.func218, Tryz.ntmps218
  go_wp2_with fail
  go_loopw [5, 8] (fun _ i wr => ∃ k : Nat, k ≤ n ∧ i = .int .i64 k ∧ (l.take k).any (fun x => eqA a x) = false ∧ ∃ q, wr = (w.alloc (.cells #[.int .u8 a.kind, .int .i64 a.rho, .string a.exn] 59)).drewN q) (fun _ i _ => n - (intOf i).toNat)
  case atStart => exact ⟨0, by omega, rfl, by simp, 0, rfl⟩
  case round =>
    obtain ⟨k, hk, rfl, hno, q, rfl⟩ := hrel
    have HNO := Lib.hid hno
    clear hno
    by_cases hlt : k < n
    · obtain ⟨x, hx⟩ := get_of_lt (l := l) (j := k) (by rw [HN.out]; exact hlt)
      obtain ⟨b, o, rfl, hb, c0, c1, c2⟩ := RowA.atom HR.out hx
      have HE := Lib.hid hx
      clear hx hb
      have he := fun W => run_eqA a x W
      cases hq : eqA a x
      · go_wp2_with fail
        go_quiet (fail)
        go_wp2_with fail
        go_roundw
        case rel => exact ⟨k + 1, by omega, by go_num, by rw [any_take_get HE.out, HNO.out, hq]; rfl, _, rfl⟩
        case measure => simp [intOf]; omega
      · go_wp2_with fail
        go_quiet (fail)
        go_wp2_with fail
        go_ret
        exact ⟨⟨k, rfl, by rw [← HC.out, any_get HE.out hq]; simp⟩, below_drewN (below_drewN ((Below.refl _ _).alloc (Nat.le_refl _) _) _) _⟩
    · go_wp2_with fail
      go_ret
      have h := HNO.out
      rw [take_full (by rw [HN.out]; omega)] at h
      exact ⟨⟨-1, rfl, by rw [← HC.out, h]; simp⟩, below_drewN ((Below.refl _ _).alloc (Nat.le_refl _) _) _⟩
theorem a_contains_any (p : Option Addr) (n cap : Nat) (l : List Atom) (a : Atom) (w : World) (hn : l.length = n) (hm : n ≤ 9223372036854775807) (hr : RowA w p l) :
    Calls Tryz.prog 189 #[.slice p n cap, .agg #[.int .u8 a.kind, .int .i64 a.rho, .string a.exn]] w fun e w' =>
      e = .returned (.bool (inA l a)) ∧ Below w.heap.size w w' := by
  have hc := fun W h => a_index_any p n cap l a W hn hm h
  have HR := Lib.hid (hr.alloc (.cells #[.int .u8 a.kind, .int .i64 a.rho, .string a.exn] 59))
  generalize inA l a = r at hc ⊢
  have HC := Lib.hid hc
  clear hr hn hc
  go_enter Tryz.func189, Tryz.ntmps189
  go_wp2_with fail
  refine (HC.out _ HR.out).mono ?_
  rintro e w1 ⟨⟨r', rfl, hr⟩, hb⟩
  have HRR := Lib.hid hr
  have HB := Lib.hid (((Below.refl _ w).alloc (Nat.le_refl _) _).trans (hb.mono (by simp)))
  clear hr hb
  go_wp2_with fail
  go_ret
  exact ⟨ret_bool HRR.out.symm, HB.out⟩
set_option maxHeartbeats 400000 in
theorem within1_any (x : Atom) (ad : Addr) (q : Option Addr) (m mc : Nat) (l : List Atom) (w : World) (hbox : w.cell? ad = some (.slice q m mc)) (hn : l.length = m) (hm : m ≤ 9223372036854775807) (hr : RowA w q l) :
    Calls Tryz.prog 188 #[aggA x, .pointer (some ad)] w fun e w' => e = .returned (.bool (atomB x && !inA l x)) ∧ Below w.heap.size w w' := by
  have HX := Lib.hid hbox
  have HR := Lib.hid hr
  have HN := Lib.hid hn
  clear hr hn
  clear hbox
  cases ha : atomB x
  · have HA := Lib.hid ha
    clear ha
    go_enter Tryz.func188, Tryz.ntmps188
    go_wp2_with fail
    refine (eff_atom_is HA.out _).mono ?_
    rintro e w1 ⟨rfl, hb⟩
    have HB := Lib.hid (((Below.refl _ w).alloc (Nat.le_refl _) _).trans (hb.mono (by simp)))
    clear hb
    go_wp2_with fail
    go_ret
    exact ⟨rfl, HB.out⟩
  · have HA := Lib.hid ha
    clear ha
    go_enter Tryz.func188, Tryz.ntmps188
    go_wp2_with fail
    refine (eff_atom_is HA.out _).mono ?_
    rintro e w1 ⟨rfl, hb⟩
    have HB := Lib.hid (((Below.refl _ w).alloc (Nat.le_refl _) (.cells #[.int .u8 x.kind, .int .i64 x.rho, .string x.exn] 59)).trans (hb.mono (by simp)))
    have f0 : w1.cell? ⟨w.heap.size, 0, none⟩ = some (.int .u8 x.kind) := by rw [hb.cell (by simp), cell_new]; rfl
    have f1 : w1.cell? ⟨w.heap.size, 1, none⟩ = some (.int .i64 x.rho) := by rw [hb.cell (by simp), cell_new]; rfl
    have f2 : w1.cell? ⟨w.heap.size, 2, none⟩ = some (.string x.exn) := by rw [hb.cell (by simp), cell_new]; rfl
    have hbx : w1.cell? ad = some (.slice q m mc) := by rw [HB.out.cell (cell_block HX.out)]; exact HX.out
    clear hb
    go_wp2_with fail
    refine (a_contains_any q m mc l x w1 HN.out hm (HR.out.below HB.out)).mono ?_
    rintro e w2 ⟨rfl, hb⟩
    have HB2 := Lib.hid (HB.out.trans (hb.mono HB.out.size))
    clear hb
    go_wp2_with fail
    go_ret
    exact ⟨rfl, HB2.out⟩
theorem effect_Within_any (p : Option Addr) (n cap : Nat) (l : List Atom) (q : Option Addr) (m mc : Nat) (l' : List Atom) (w : World) (hn : l.length = n) (hm : n ≤ 9223372036854775807) (hr : RowA w p l)
    (hn' : l'.length = m) (hm' : m ≤ 9223372036854775807) (hr' : RowA w q l') :
    Calls Tryz.prog 135 #[.slice p n cap, .slice q m mc] w fun e w' => e = .returned (.bool (withinB l l')) ∧ Below w.heap.size w w' := by
  have hc : ∀ t, Calls Tryz.prog 187 #[.slice p n cap, .func (.func 188) #[] #[.pointer (some ⟨w.heap.size, 0, none⟩)]] (w.alloc (.cells #[.slice q m mc] t)) fun e w' =>
      e = .returned (.bool (l.any (fun x => atomB x && !inA l' x))) ∧ Below (w.alloc (.cells #[.slice q m mc] t)).heap.size (w.alloc (.cells #[.slice q m mc] t)) w' := fun t =>
    a_containsFunc_any 188 #[.pointer (some ⟨w.heap.size, 0, none⟩)] (fun x => atomB x && !inA l' x) (fun a w => Tryz.call188 a w) p n cap l _ hn hm (hr.alloc _)
      (fun x _ W hW => by
        have := within1_any x ⟨w.heap.size, 0, none⟩ q m mc l' W (by rw [hW.cell (by simp), cell_new]; rfl) hn' hm' ((hr'.alloc _).below hW)
        simpa using this)
  have he : Hid (withinB l l' = !l.any (fun x => atomB x && !inA l' x)) := by
    show withinB l l' = _
    unfold withinB
    rw [List.all_eq_not_any_not]
    congr 2
    funext x
    cases atomB x <;> simp
  generalize l.any (fun x => atomB x && !inA l' x) = r at hc he
  have HC := Lib.hid hc
  clear hr hn hc hr' hn'
  go_enter Tryz.func135, Tryz.ntmps135
  go_wp2_with fail
  refine (HC.out _).mono ?_
  rintro e w1 ⟨rfl, hb⟩
  have HB := Lib.hid (((Below.refl _ w).alloc (Nat.le_refl _) _).trans (hb.mono (by simp)))
  clear hb
  go_wp2_with fail
  go_ret
  exact ⟨ret_bool he.out.symm, HB.out⟩
theorem effect_Within_is {p : Option Addr} {n cap : Nat} {l : List Atom} {q : Option Addr} {m mc : Nat} {l' : List Atom} {w : World} {r : Bool} (hq : withinB l l' = r) (hn : l.length = n) (hm : n ≤ 9223372036854775807) (hr : RowA w p l)
    (hn' : l'.length = m) (hm' : m ≤ 9223372036854775807) (hr' : RowA w q l') :
    Calls Tryz.prog 135 #[.slice p n cap, .slice q m mc] w fun e w' => e = .returned (.bool r) ∧ Below w.heap.size w w' := by
  subst hq; exact effect_Within_any p n cap l q m mc l' w hn hm hr hn' hm' hr'
theorem effect_Same_any (p : Option Addr) (n cap : Nat) (l : List Atom) (q : Option Addr) (m mc : Nat) (l' : List Atom) (w : World) (hn : l.length = n) (hm : n ≤ 9223372036854775807) (hr : RowA w p l)
    (hn' : l'.length = m) (hm' : m ≤ 9223372036854775807) (hr' : RowA w q l') :
    Calls Tryz.prog 191 #[.slice p n cap, .slice q m mc] w fun e w' => e = .returned (.bool (withinB l l' && withinB l' l)) ∧ Below w.heap.size w w' := by
  have HR := Lib.hid hr
  have HN := Lib.hid hn
  have HR' := Lib.hid hr'
  have HN' := Lib.hid hn'
  clear hr hn hr' hn'
  cases ha : withinB l l'
  · have HA := Lib.hid ha
    clear ha
    go_enter Tryz.func191, Tryz.ntmps191
    go_wp2_with fail
    refine (effect_Within_is HA.out HN.out hm HR.out HN'.out hm' HR'.out).mono ?_
    rintro e w1 ⟨rfl, hb⟩
    have HB := Lib.hid hb
    clear hb
    go_wp2_with fail
    go_ret
    exact ⟨rfl, HB.out⟩
  · have HA := Lib.hid ha
    clear ha
    go_enter Tryz.func191, Tryz.ntmps191
    go_wp2_with fail
    refine (effect_Within_is HA.out HN.out hm HR.out HN'.out hm' HR'.out).mono ?_
    rintro e w1 ⟨rfl, hb⟩
    have HB := Lib.hid hb
    clear hb
    go_wp2_with fail
    refine (effect_Within_any q m mc l' p n cap l w1 HN'.out hm' (HR'.out.below HB.out) HN.out hm (HR.out.below HB.out)).mono ?_
    rintro e w2 ⟨rfl, hb⟩
    have HB2 := Lib.hid (HB.out.trans (hb.mono HB.out.size))
    clear hb
    go_wp2_with fail
    go_ret
    exact ⟨rfl, HB2.out⟩
theorem effect_Union_any (p : Option Addr) (n cap : Nat) (rows : List (SlE Atom)) (w : World) (hn : rows.length = n) (hm : n ≤ 1000000) (hr : RowE encSl 1 w p rows) (hok : ∀ r ∈ rows, r.Ok encA 3 w) (htot : (rows.map (·.n)).sum ≤ 1000000) :
    Calls Tryz.prog 85 #[.slice p n cap] w fun e w' => ∃ v m, e = .returned v ∧ m ≤ (rows.map (·.n)).sum ∧ OwnE encA 3 w' w.heap.size 59 v m (sortA ((rows.flatMap (·.l)).filter atomB)) ∧ Below w.heap.size w w' := by
  have HT := Lib.hid htot
  have hc := concat_any p n cap rows w hn hm hr hok htot
  have HC := Lib.hid hc
  clear hr hn hok hc htot
  go_enter Tryz.func85, Tryz.ntmps85
  go_wp2_with fail
  refine HC.out.mono ?_
  rintro e w1 ⟨v, rfl, ho, hb⟩
  obtain ⟨q, mc, rfl, hl, hmc, hrow, _⟩ := ho.row encA_len (by omega)
  have HL := Lib.hid hl
  have HROW := Lib.hid hrow
  have HB := Lib.hid hb
  clear hb
  clear ho hl hrow
  generalize hSS : (rows.map (·.n)).sum = S at *
  have HSS := Lib.hid hSS
  clear hSS
  have hS := HT.out
  go_wp2_with fail
  refine (effect_Of_any q S mc _ w1 HL.out hS HROW.out).mono ?_
  rintro e w2 ⟨v, m, rfl, hmn, hown, hb⟩
  have HO := Lib.hid (hown.lower HB.out.size)
  have HB2 := Lib.hid (HB.out.trans (hb.mono HB.out.size))
  clear hb
  clear hown
  go_wp2_with fail
  go_ret
  exact ⟨_, m, rfl, by rw [HSS.out]; exact hmn, HO.out, HB2.out⟩
end Go.Proofs.YtkdjnegfnhldpaaGreatDoor
end
section
namespace Go.Proofs.YtkdjnegfnhldpaaGreatDoor
open Go.RowKit Go.Sort Go.Lib
structure DelInv (q : Atom → Bool) (l : List Atom) (j i : Nat) (dk : List Atom) : Prop where
  size : dk.length = l.length
  low : dk.take i = (l.take j).filter (fun x => !q x)
  high : ∀ t, j ≤ t → dk[t]? = l[t]?
  lt : i < j
theorem DelInv.start {q : Atom → Bool} {l : List Atom} {k : Nat} {x : Atom} (hx : l[k]? = some x) (hq : q x = true) (hno : (l.take k).any q = false) : DelInv q l (k + 1) k l := by
  refine ⟨rfl, ?_, fun _ _ => rfl, by omega⟩
  rw [take_succ_get hx, List.filter_append]
  have h1 : (l.take k).filter (fun x => !q x) = l.take k := by
    rw [List.filter_eq_self]
    intro a ha
    have := List.any_eq_false.1 hno a ha
    simpa using this
  rw [h1]
  simp [hq]
theorem DelInv.skip {q : Atom → Bool} {l dk : List Atom} {j i : Nat} {x : Atom} (h : DelInv q l j i dk) (hx : l[j]? = some x) (hq : q x = true) : DelInv q l (j + 1) i dk := by
  refine ⟨h.size, ?_, fun t ht => h.high t (by omega), by have := h.lt; omega⟩
  rw [take_succ_get hx, List.filter_append, h.low]
  simp [hq]
theorem DelInv.keep {q : Atom → Bool} {l dk : List Atom} {j i : Nat} {x : Atom} (h : DelInv q l j i dk) (hx : l[j]? = some x) (hq : q x = false) : DelInv q l (j + 1) (i + 1) (dk.set i x) := by
  have hj := get_lt hx
  have hi : i < dk.length := by have := h.lt; have := h.size; omega
  refine ⟨by rw [List.length_set]; exact h.size, ?_, fun t ht => ?_, by have := h.lt; omega⟩
  · rw [take_succ_get hx, List.filter_append, ← h.low]
    rw [take_succ_get (List.getElem?_set_self hi), List.take_set_of_le (Nat.le_refl _)]
    simp [hq]
  · rw [List.getElem?_set_ne (by have := h.lt; omega)]
    exact h.high t (by omega)
set_option maxHeartbeats 2000000 in
theorem deleteFunc_any (fid : FuncId) (caps : Array Value) (q : Atom → Bool) (hent : Enters fid) (g cap n : Nat) (l : List Atom) (base : Nat) (w : World) (h : OwnE encA 3 w base 59 (.slice (some ⟨g, 0, none⟩) n cap) n l) (hcap : n ≤ cap) (hn : n ≤ 1000000)
    (hbw : base ≤ w.heap.size) (hf : PredB fid caps base w l q) :
    Calls Tryz.prog 250 #[.slice (some ⟨g, 0, none⟩) n cap, .func (.func fid) #[] caps] w fun e w' =>
      ∃ m, e = .returned (.slice (some ⟨g, 0, none⟩) m cap) ∧ m ≤ n ∧ OwnE encA 3 w' base 59 (.slice (some ⟨g, 0, none⟩) m cap) m (l.filter (fun x => !q x)) ∧ Below base w w' := by
  have hl : l.length = n := h.len encA_len (by omega)
  have hrow : RowA w (some ⟨g, 0, none⟩) l := by
    obtain ⟨p', c', hv, _, _, hr, _⟩ := h.row encA_len (by omega)
    cases hv; exact hr
  have HIX := Lib.hid (a_indexFunc_any fid caps q hent (some ⟨g, 0, none⟩) n cap l w hl (by omega) hrow (hf.a (Below.refl _ _) hbw))
  have hent' := hent
  unfold Enters at hent'
  have HO := Lib.hid h
  have HL := Lib.hid hl
  have HF := Lib.hid hf
  clear h hl hf
  clear hrow
  go_enter Tryz.func250, Tryz.ntmps250
  go_wp2_with fail
  refine HIX.out.mono ?_
  rintro e w1 ⟨⟨r, rfl, hr⟩, hb⟩
  have HB1 := Lib.hid (hb.mono hbw)
  have HO1 := Lib.hid (HO.out.below hb)
  clear hb
  rcases hr with ⟨rfl, hno⟩ | ⟨k, x, rfl, hx, hq, hno⟩
  · have HNO := Lib.hid hno
    clear hno
    go_wp2_with fail
    go_ret
    refine ⟨n, rfl, Nat.le_refl _, ?_, HB1.out⟩
    have e1 : l.filter (fun x => !q x) = l := by
      rw [List.filter_eq_self]
      intro a ha
      have := List.any_eq_false.1 HNO.out a ha
      simpa using this
    rw [e1]; exact HO1.out
  · have hk := get_lt hx
    have hkn : k < n := by have := HL.out; omega
    have HST := Lib.hid (DelInv.start hx hq hno)
    have hkb : ((k : Int) == -1) = false := by rw [beq_eq_false_iff_ne]; omega
    clear hx hq hno hk
    go_wp2_with fail
    go_loopw [5, 6] (fun si sj wr => ∃ (i j : Nat) (dk : List Atom), si = .int .i64 i ∧ sj = .int .i64 j ∧ j ≤ n ∧ i < j ∧ DelInv q l j i dk ∧ OwnE encA 3 wr base 59 (.slice (some ⟨g, 0, none⟩) n cap) n dk ∧ Below base w wr) (fun _ sj _ => n - (intOf sj).toNat)
    case atStart => exact ⟨k, k + 1, l, rfl, by go_num, by omega, by omega, HST.out, HO1.out, HB1.out⟩
    case round =>
      obtain ⟨i, j, dk, rfl, rfl, hj, hij, hI, hown, hb⟩ := hrel
      have HI := Lib.hid hI
      have HOWN := Lib.hid hown
      have HB := Lib.hid hb
      clear hI hown hb
      by_cases hlt : j < n
      · obtain ⟨x, hx⟩ := get_of_lt (l := l) (j := j) (by rw [HL.out]; exact hlt)
        have HE := Lib.hid hx
        have hdx : dk[j]? = some x := by rw [HI.out.high j (Nat.le_refl _)]; exact hx
        have d0 := (HOWN.out.at encA_len hdx (i := 0) (by omega)).1
        have d1 := (HOWN.out.at encA_len hdx (i := 1) (by omega)).1
        have d2 := (HOWN.out.at encA_len hdx (i := 2) (by omega)).1
        simp only [encA, List.getElem?_cons_zero, List.getElem?_cons_succ, Nat.add_zero] at d0 d1 d2
        clear hx hdx
        have hwr : base ≤ wr.heap.size := Nat.le_trans hbw HB.out.size
        cases hq : q x
        · have HQ := Lib.hid hq
          clear hq
          go_wp2_with fail
          refine (HF.out.is (List.mem_of_getElem? HE.out) HQ.out (HB.out.alloc hwr _)).mono ?_
          rintro e w2 ⟨rfl, hb⟩
          have HB2 := Lib.hid ((HB.out.alloc hwr (.cells #[.int .u8 x.kind, .int .i64 x.rho, .string x.exn] 59)).trans (hb.mono (by simp; omega)))
          have HO2 := Lib.hid ((HOWN.out.below ((Below.refl _ wr).alloc (Nat.le_refl _) (.cells #[.int .u8 x.kind, .int .i64 x.rho, .string x.exn] 59))).below hb)
          have f0 : w2.cell? ⟨wr.heap.size, 0, none⟩ = some (.int .u8 x.kind) := by rw [hb.cell (by simp), cell_new]; rfl
          have f1 : w2.cell? ⟨wr.heap.size, 1, none⟩ = some (.int .i64 x.rho) := by rw [hb.cell (by simp), cell_new]; rfl
          have f2 : w2.cell? ⟨wr.heap.size, 2, none⟩ = some (.string x.exn) := by rw [hb.cell (by simp), cell_new]; rfl
          obtain ⟨o0, g0⟩ := HO2.out.cellSome (o := i * 3) (by omega)
          obtain ⟨o1, g1⟩ := HO2.out.cellSome (o := i * 3 + 1) (by omega)
          obtain ⟨o2, g2⟩ := HO2.out.cellSome (o := i * 3 + 2) (by omega)
          obtain ⟨u0, o0⟩ := Option.isSome_iff_exists.1 o0
          obtain ⟨u1, o1⟩ := Option.isSome_iff_exists.1 o1
          obtain ⟨u2, o2⟩ := Option.isSome_iff_exists.1 o2
          clear hb d0 d1 d2
          go_wp2_with fail
          go_roundw
          case rel =>
            refine ⟨i + 1, j + 1, dk.set i x, by go_num, by go_num, by omega, by omega, HI.out.keep HE.out HQ.out, HO2.out.setA i x (by omega), ?_⟩
            have hgb : base ≤ g := by
              rcases HO2.out.2 with ⟨h0, _⟩ | ⟨g', cap', cur, hv, hb, _⟩
              · cases h0
              · cases hv; exact hb
            exact ((HB2.out.setCell (p := ⟨g, i * 3, none⟩) hgb _).setCell (p := ⟨g, i * 3 + 1, none⟩) hgb _).setCell (p := ⟨g, i * 3 + 2, none⟩) hgb _
          case measure => simp [intOf]; omega
        · have HQ := Lib.hid hq
          clear hq
          go_wp2_with fail
          refine (HF.out.is (List.mem_of_getElem? HE.out) HQ.out (HB.out.alloc hwr _)).mono ?_
          rintro e w2 ⟨rfl, hb⟩
          have HB2 := Lib.hid ((HB.out.alloc hwr (.cells #[.int .u8 x.kind, .int .i64 x.rho, .string x.exn] 59)).trans (hb.mono (by simp; omega)))
          have HO2 := Lib.hid ((HOWN.out.below ((Below.refl _ wr).alloc (Nat.le_refl _) (.cells #[.int .u8 x.kind, .int .i64 x.rho, .string x.exn] 59))).below hb)
          clear hb d0 d1 d2
          go_wp2_with fail
          go_roundw
          case rel => exact ⟨i, j + 1, dk, rfl, by go_num, by omega, by omega, HI.out.skip HE.out HQ.out, HO2.out, HB2.out⟩
          case measure => simp [intOf]; omega
      · have hend : j = n := by omega
        have hcl := fun ty => run_clear_atoms wr ty g (i * 3) (n - i) (cap - i) (by omega) (fun t ht => (HOWN.out.cellSome (by omega)).1) (fun t ht => (HOWN.out.cellSome (by omega)).2)
        go_wp2_with fail
        go_ret
        have hlow := HI.out.low
        rw [hend, take_full (l := l) (by rw [HL.out]; omega)] at hlow
        refine ⟨i, rfl, by omega, ?_, ?_⟩
        · have := (OwnE.cut (n := n) (m := i) encA_len HOWN.out (by rw [HI.out.size, HL.out]) (by omega)).clearBehind encA_len (i * 3) (List.replicate (n - i) [Value.int .u8 0, .int .i64 0, .string .empty]).flatten (Nat.le_refl _)
          rw [hlow] at this
          exact this
        · have hgb : base ≤ g := by
            rcases HOWN.out.2 with ⟨h0, _⟩ | ⟨g', cap', cur, hv, hb, _⟩
            · cases h0
            · cases hv; exact hb
          exact OwnE.drop_base (enc := encA) (k := 3) (grown_setCells g _ _ _) hgb HB.out (Nat.le_trans hbw HB.out.size)
end Go.Proofs.YtkdjnegfnhldpaaGreatDoor
end
section
namespace Go.Proofs.YtkdjnegfnhldpaaGreatDoor
open Go.RowKit
structure IsRow {α : Type} (enc : α → List Value) (k : Nat) (w : World) (p : Option Addr) (n cap : Nat) (l : List α) : Prop where
  len : l.length = n
  max : n ≤ 9223372036854775807
  le : n ≤ cap
  nil : p = none → cap = 0
  row : RowE enc k w p l
section
variable {α : Type} {enc : α → List Value} {k : Nat} {w w' : World} {p : Option Addr} {n cap : Nat} {l : List α}
theorem IsRow.below (h : IsRow enc k w p n cap l) (hb : Below w.heap.size w w') : IsRow enc k w' p n cap l := ⟨h.1, h.2, h.3, h.4, h.5.below hb⟩
theorem IsRow.alloc (h : IsRow enc k w p n cap l) (o : Obj) : IsRow enc k (w.alloc o) p n cap l := h.below ((Below.refl _ _).alloc (Nat.le_refl _) _)
theorem OwnE.isRow {base e : Nat} {v : Value} (hk : ∀ x, (enc x).length = k) (hk0 : 0 < k) (h : OwnE enc k w base e v n l) : ∃ p cap, v = .slice p n cap ∧ IsRow enc k w p n cap l := by
  obtain ⟨p, cap, hv, hl, hc, hr, hm, hn, _⟩ := h.row hk hk0
  unfold maxLen at hm
  exact ⟨p, cap, hv, hl, by omega, hc, fun e => (hn e).2, hr⟩
theorem IsRow.none (enc : α → List Value) (k : Nat) (w : World) : IsRow enc k w Option.none 0 0 [] := ⟨rfl, by omega, by omega, fun _ => rfl, .inl rfl⟩
end
end Go.Proofs.YtkdjnegfnhldpaaGreatDoor
end
section
namespace Go.Proofs.YtkdjnegfnhldpaaGreatDoor
open Go.RowKit Go.Sort Go.Lib
end Go.Proofs.YtkdjnegfnhldpaaGreatDoor
end
section
namespace Go.Proofs.YtkdjnegfnhldpaaGreatDoor
open Go.RowKit Go.Sort Go.Lib
def turnI (r : Int) : List Int → List Int → Int
  | [], _ => r
  | f :: fs, t => if f = r then (t[0]?).getD r else turnI r fs (t.drop 1)
def swA (f t : List Int) (a : Atom) : Atom := if a.kind = 3 then a else { a with rho := turnI a.rho f t }
end Go.Proofs.YtkdjnegfnhldpaaGreatDoor
end
