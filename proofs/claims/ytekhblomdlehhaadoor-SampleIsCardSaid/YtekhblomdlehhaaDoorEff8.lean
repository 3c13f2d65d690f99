/- effect.May. -/
import Derived.Test.YtekhblomdlehhaaDoorEff7
import Derived.Test.YtekhblomdlehhaaDoorEff6
set_option linter.unusedVariables false
set_option maxRecDepth 100000
set_option linter.unusedSimpArgs false
namespace Go.Proofs.YtekhblomdlehhaaDoor
open Go.RowKit

theorem eff_atom_is {a : Atom} {r : Bool} (h : atomB a = r) (w : World) :
    Calls Tryd.prog 41 #[.agg #[.int .u8 a.kind, .int .i64 a.rho, .string a.exn]] w fun e w' => e = .returned (.bool r) ∧ Below w.heap.size w w' := by
  subst h; exact atom_any a w
theorem below_grow (W : World) (q : Nat) (os' : Array Obj) : Below W.heap.size W (Go.Sort.grow (W.drewN q) os') :=
  ⟨rfl, rfl, rfl, by simp [Go.Sort.grow], fun k hk => by rw [Go.Sort.heap_grow_old _ _ (by simpa using hk)]; rfl⟩
theorem compare_is {a b : Atom} {r : Int} (h : cmpA a b = r) (w : World) : Calls Tryd.prog 43 #[.agg #[.int .u8 a.kind, .int .i64 a.rho, .string a.exn], .agg #[.int .u8 b.kind, .int .i64 b.rho, .string b.exn]] w fun e w' =>
    e = .returned (.int .i64 r) ∧ Below w.heap.size w w' := by
  subst h
  refine (compare_any a b w).mono ?_
  rintro e w' ⟨he, q, os', rfl⟩
  exact ⟨he, below_grow w q os'⟩

set_option maxHeartbeats 1000000 in
theorem effect_May_any (p : Option Addr) (n cap : Nat) (l : List Atom) (w : World) (hn : l.length = n) (hm : n ≤ 9223372036854775807) (hr : RowA w p l) :
    Calls Tryd.prog 18 #[.slice p n cap] w fun e w' => (∃ r, e = .returned (.bool r) ∧ (r = true ↔ MayTo l n)) ∧ Below w.heap.size w w' := by
  have HR := Lib.hid hr
  have HN := Lib.hid hn
  clear hr hn
  go_enter Tryd.func18, Tryd.ntmps18
  go_wp2_with fail
  go_loopw [7] (fun i wr => ∃ k : Nat, k ≤ n ∧ i = .int .i64 k ∧ MayTo l k ∧ Below w.heap.size w wr) (fun i _ => n - (intOf i).toNat)
  case atStart => exact ⟨0, by omega, rfl, ⟨by simp, fun j _ _ h => by omega⟩, Below.refl _ _⟩
  case round =>
    obtain ⟨k, hk, rfl, hno, hb⟩ := hrel
    have HNO := Lib.hid hno
    have HB := Lib.hid hb
    clear hno hb
    by_cases hlt : k < n
    · obtain ⟨x, hx⟩ := get_of_lt (l := l) (j := k) (by rw [HN.out]; exact hlt)
      have HE := Lib.hid hx
      obtain ⟨b, o, rfl, hbl, d0, d1, d2⟩ := RowA.atom (HR.out.below HB.out) hx
      have HBL := Lib.hid hbl
      clear hx hbl
      have v0 := fun g => gw_cell (a := ⟨wr.heap.size, 0, none⟩) (v := .int .u8 x.kind) (w := wr.alloc (.cells #[.int .u8 x.kind, .int .i64 x.rho, .string x.exn] 34)) (by rw [cell_new]; rfl) g
      have v1 := fun g => gw_cell (a := ⟨wr.heap.size, 1, none⟩) (v := .int .i64 x.rho) (w := wr.alloc (.cells #[.int .u8 x.kind, .int .i64 x.rho, .string x.exn] 34)) (by rw [cell_new]; rfl) g
      have v2 := fun g => gw_cell (a := ⟨wr.heap.size, 2, none⟩) (v := .string x.exn) (w := wr.alloc (.cells #[.int .u8 x.kind, .int .i64 x.rho, .string x.exn] 34)) (by rw [cell_new]; rfl) g
      cases ha : atomB x
      · have HA := Lib.hid ha
        clear ha
        have hW := gw_below (wr.alloc (.cells #[.int .u8 x.kind, .int .i64 x.rho, .string x.exn] 34))
        go_wp2_with fail
        refine wp_region_gw (by kernel_rfl) (by kernel_rfl) ?_
        repeat ((with_reducible refine wpQuiet_step (fun K hK => ?_)); go_simp; refine hK _ ?_; clear hK K)
        refine wpQuiet_step (fun K hK => ?_); go_simp; refine ⟨.bool false, fun _ => calls_gw (eff_atom_is HA.out _), hK _ ?_⟩; clear hK K
        repeat ((with_reducible refine wpQuiet_step (fun K hK => ?_)); go_simp; refine hK _ ?_; clear hK K)
        refine wpQuiet_nil ?_
        rintro w3 ⟨g, rfl⟩
        have HB3 := Lib.hid ((HB.out.alloc HB.out.size _).trans ((hW g).mono (by have := HB.out.size; simp; omega)))
        clear hW
        go_wp2_with fail
        go_ret
        exact ⟨⟨false, rfl, by
          constructor
          · intro h; cases h
          · intro h
            have h1 := h.1
            rw [take_full (by rw [HN.out]; omega), all_get HE.out HA.out] at h1
            cases h1⟩, HB3.out⟩
      · have HA := Lib.hid ha
        clear ha
        have hW := gw_below (wr.alloc (.cells #[.int .u8 x.kind, .int .i64 x.rho, .string x.exn] 34))
        by_cases hk0 : k = 0
        · have hd : decide ((0 : Int) < (k : Int)) = false := by simp; omega
          have hd' : decide (0 < k) = false := by simp; omega
          have HK0 := Lib.hid hk0
          clear hk0
          go_wp2_with fail
          refine wp_region_gw (by kernel_rfl) (by kernel_rfl) ?_
          repeat ((with_reducible refine wpQuiet_step (fun K hK => ?_)); go_simp; refine hK _ ?_; clear hK K)
          refine wpQuiet_step (fun K hK => ?_); go_simp; refine ⟨.bool true, fun _ => calls_gw (eff_atom_is HA.out _), hK _ ?_⟩; clear hK K
          repeat ((with_reducible refine wpQuiet_step (fun K hK => ?_)); go_simp; refine hK _ ?_; clear hK K)
          refine wpQuiet_nil ?_
          rintro w3 ⟨g, rfl⟩
          have HB3 := Lib.hid ((HB.out.alloc HB.out.size _).trans ((hW g).mono (by have := HB.out.size; simp; omega)))
          clear hW
          go_wp2_with fail
          go_roundw
          case rel => exact ⟨k + 1, by omega, by go_num, ⟨by rw [all_take_get HE.out, HNO.out.1, HA.out]; rfl, fun j _ _ h => by have := HK0.out; omega⟩, HB3.out⟩
          case measure => simp [intOf]; omega
        · obtain ⟨y, hy⟩ := get_of_lt (l := l) (j := k - 1) (by rw [HN.out]; omega)
          have HY := Lib.hid hy
          obtain ⟨b', o', hbo, _, e0, e1, e2⟩ := RowA.atom ((HR.out.below HB.out).alloc (.cells #[.int .u8 x.kind, .int .i64 x.rho, .string x.exn] 34)) hy
          cases hbo
          have he0 := fun g => gw_cell e0 g
          have he1 := fun g => gw_cell e1 g
          have he2 := fun g => gw_cell e2 g
          have hk1 : Hid (0 < k) := show 0 < k by omega
          have hd : decide ((0 : Int) < (k : Int)) = true := by simp; omega
          have hd' : decide (0 < k) = true := by simp; omega
          have hkp : 0 < k := hk1.out
          have a1 : IntKind.i64.wrap ((k : Int) - 1) = (k : Int) - 1 := IntWalk.i64_in _ (by omega)
          have a2 : (0 : Int) ≤ (k : Int) - 1 := by omega
          have a3 : ((k : Int) - 1).toNat = k - 1 := by omega
          have a4 : (k : Int) - 1 < (n : Int) := by omega
          have a5 : (1 : Int) ≤ (k : Int) := by omega
          clear hy hk0
          have hcl := cmpA_lt y x
          generalize hcc : cmpA y x = c at hcl
          have HCC := Lib.hid hcc
          clear hcc
          cases hl : Atom.lt y x
          · have HL := Lib.hid hl
            rw [hl] at hcl
            have hc5 : decide ((0 : Int) ≤ c) = true := by simp at hcl ⊢; omega
            clear hl hcl
            go_wp2_with fail
            refine wp_region_gw (by kernel_rfl) (by kernel_rfl) ?_
            repeat ((with_reducible refine wpQuiet_step (fun K hK => ?_)); go_simp; refine hK _ ?_; clear hK K)
            refine wpQuiet_step (fun K hK => ?_); go_simp; refine ⟨.bool true, fun _ => calls_gw (eff_atom_is HA.out _), hK _ ?_⟩; clear hK K
            repeat ((with_reducible refine wpQuiet_step (fun K hK => ?_)); go_simp; refine hK _ ?_; clear hK K)
            refine wpQuiet_step (fun K hK => ?_); go_simp; refine ⟨.int .i64 c, fun _ => calls_gw (compare_is HCC.out _), hK _ ?_⟩; clear hK K
            repeat ((with_reducible refine wpQuiet_step (fun K hK => ?_)); go_simp; refine hK _ ?_; clear hK K)
            refine wpQuiet_nil ?_
            rintro w3 ⟨g, rfl⟩
            have HB3 := Lib.hid ((HB.out.alloc HB.out.size _).trans ((hW g).mono (by have := HB.out.size; simp; omega)))
            clear hW
            go_wp2_with fail
            go_ret
            exact ⟨⟨false, rfl, by
              constructor
              · intro h; cases h
              · intro h
                have h1 := h.2 (k - 1) y x (by have := hk1.out; omega) HY.out (by rw [show k - 1 + 1 = k from by have := hk1.out; omega]; exact HE.out)
                rw [HL.out] at h1
                cases h1⟩, HB3.out⟩
          · have HL := Lib.hid hl
            rw [hl] at hcl
            have hc5 : decide ((0 : Int) ≤ c) = false := by simp at hcl ⊢; omega
            clear hl hcl
            go_wp2_with fail
            refine wp_region_gw (by kernel_rfl) (by kernel_rfl) ?_
            repeat ((with_reducible refine wpQuiet_step (fun K hK => ?_)); go_simp; refine hK _ ?_; clear hK K)
            refine wpQuiet_step (fun K hK => ?_); go_simp; refine ⟨.bool true, fun _ => calls_gw (eff_atom_is HA.out _), hK _ ?_⟩; clear hK K
            repeat ((with_reducible refine wpQuiet_step (fun K hK => ?_)); go_simp; refine hK _ ?_; clear hK K)
            refine wpQuiet_step (fun K hK => ?_); go_simp; refine ⟨.int .i64 c, fun _ => calls_gw (compare_is HCC.out _), hK _ ?_⟩; clear hK K
            repeat ((with_reducible refine wpQuiet_step (fun K hK => ?_)); go_simp; refine hK _ ?_; clear hK K)
            refine wpQuiet_nil ?_
            rintro w3 ⟨g, rfl⟩
            have HB3 := Lib.hid ((HB.out.alloc HB.out.size _).trans ((hW g).mono (by have := HB.out.size; simp; omega)))
            clear hW
            go_wp2_with fail
            go_roundw
            case rel => exact ⟨k + 1, by omega, by go_num, ⟨by rw [all_take_get HE.out, HNO.out.1, HA.out]; rfl, fun i u v hi hu hv => by
              have hk1 := hk1.out
              rcases (by omega : i = k - 1 ∨ i + 1 < k) with rfl | hlt'
              · rw [HY.out] at hu; cases hu; rw [show k - 1 + 1 = k from by omega, HE.out] at hv; cases hv; exact HL.out
              · exact HNO.out.2 i u v hlt' hu hv⟩, HB3.out⟩
            case measure => simp [intOf]; omega
    · go_wp2_with fail
      go_ret
      obtain rfl : k = n := by omega
      exact ⟨⟨true, rfl, by simp [HNO.out]⟩, HB.out⟩
end Go.Proofs.YtekhblomdlehhaaDoor
