/- slices.Index, Contains at atoms; effect.Atom, Within, Same, Union. -/
import Derived.Test.YtekhblomdlehhaaGreatDoorEff14
import Derived.Test.YtekhblomdlehhaaGreatDoorConcat
import Derived.Test.YtekhblomdlehhaaGreatDoorEff8
set_option linter.unusedVariables false
set_option maxRecDepth 100000
set_option linter.unusedSimpArgs false
namespace Go.Proofs.YtekhblomdlehhaaGreatDoor
open Go.RowKit

theorem any_eqA_comm (l : List Atom) (a : Atom) : l.any (fun x => eqA a x) = inA l a := by
  unfold inA
  congr 1
  funext x
  unfold eqA
  exact decide_eq_decide.2 ⟨fun h => h.symm, fun h => h.symm⟩

theorem a_index_any (p : Option Addr) (n cap : Nat) (l : List Atom) (a : Atom) (w : World) (hn : l.length = n) (hm : n ≤ 9223372036854775807) (hr : RowA w p l) :
    Calls Tryz.prog 138 #[.slice p n cap, .agg #[.int .u8 a.kind, .int .i64 a.rho, .string a.exn]] w fun e w' =>
      (∃ r : Int, e = .returned (.int .i64 r) ∧ (inA l a = decide (0 ≤ r))) ∧ Below w.heap.size w w' := by
  have HR := Lib.hid (hr.alloc (.cells #[.int .u8 a.kind, .int .i64 a.rho, .string a.exn] 70))
  have HN := Lib.hid hn
  have HC : Hid (l.any (fun x => eqA a x) = inA l a) := any_eqA_comm l a
  clear hr hn
  go_enter Tryz.func138, Tryz.ntmps138
  go_wp2_with fail
  go_loopw [5, 8] (fun _ i wr => ∃ k : Nat, k ≤ n ∧ i = .int .i64 k ∧ (l.take k).any (fun x => eqA a x) = false ∧ ∃ q, wr = (w.alloc (.cells #[.int .u8 a.kind, .int .i64 a.rho, .string a.exn] 70)).drewN q) (fun _ i _ => n - (intOf i).toNat)
  case atStart => exact ⟨0, by omega, rfl, by simp, 0, rfl⟩
  case round =>
    obtain ⟨k, hk, rfl, hno, q, rfl⟩ := hrel
    have HNO := Lib.hid hno
    clear hno
    by_cases hlt : k < n
    · obtain ⟨x, hx⟩ := get_of_lt (l := l) (j := k) (by rw [HN.out]; exact hlt)
      obtain ⟨b, o, rfl, hb, c0, c1, c2⟩ := RowA.atom HR.out hx
      have HE := Lib.hid hx
      clear hx hb
      have he := fun W => run_eqA a x W
      cases hq : eqA a x
      · go_wp2_with fail
        go_quiet (fail)
        go_wp2_with fail
        go_roundw
        case rel => exact ⟨k + 1, by omega, by go_num, by rw [any_take_get HE.out, HNO.out, hq]; rfl, _, rfl⟩
        case measure => simp [intOf]; omega
      · go_wp2_with fail
        go_quiet (fail)
        go_wp2_with fail
        go_ret
        exact ⟨⟨k, rfl, by rw [← HC.out, any_get HE.out hq]; simp⟩, below_drewN (below_drewN ((Below.refl _ _).alloc (Nat.le_refl _) _) _) _⟩
    · go_wp2_with fail
      go_ret
      have h := HNO.out
      rw [take_full (by rw [HN.out]; omega)] at h
      exact ⟨⟨-1, rfl, by rw [← HC.out, h]; simp⟩, below_drewN ((Below.refl _ _).alloc (Nat.le_refl _) _) _⟩

theorem a_contains_any (p : Option Addr) (n cap : Nat) (l : List Atom) (a : Atom) (w : World) (hn : l.length = n) (hm : n ≤ 9223372036854775807) (hr : RowA w p l) :
    Calls Tryz.prog 114 #[.slice p n cap, .agg #[.int .u8 a.kind, .int .i64 a.rho, .string a.exn]] w fun e w' =>
      e = .returned (.bool (inA l a)) ∧ Below w.heap.size w w' := by
  have hc := fun W h => a_index_any p n cap l a W hn hm h
  have HR := Lib.hid (hr.alloc (.cells #[.int .u8 a.kind, .int .i64 a.rho, .string a.exn] 70))
  generalize inA l a = r at hc ⊢
  have HC := Lib.hid hc
  clear hr hn hc
  go_enter Tryz.func114, Tryz.ntmps114
  go_wp2_with fail
  refine (HC.out _ HR.out).mono ?_
  rintro e w1 ⟨⟨r', rfl, hr⟩, hb⟩
  have HRR := Lib.hid hr
  have HB := Lib.hid (((Below.refl _ w).alloc (Nat.le_refl _) _).trans (hb.mono (by simp)))
  clear hr hb
  go_wp2_with fail
  go_ret
  exact ⟨ret_bool HRR.out.symm, HB.out⟩
theorem a_contains_is {p : Option Addr} {n cap : Nat} {l : List Atom} {a : Atom} {w : World} {r : Bool} (hi : inA l a = r) (hn : l.length = n) (hm : n ≤ 9223372036854775807) (hr : RowA w p l) :
    Calls Tryz.prog 114 #[.slice p n cap, .agg #[.int .u8 a.kind, .int .i64 a.rho, .string a.exn]] w fun e w' =>
      e = .returned (.bool r) ∧ Below w.heap.size w w' := by subst hi; exact a_contains_any p n cap l a w hn hm hr

set_option maxHeartbeats 400000 in
/-- effect.Within's closure -/
theorem within1_any (x : Atom) (ad : Addr) (q : Option Addr) (m mc : Nat) (l : List Atom) (w : World) (hbox : w.cell? ad = some (.slice q m mc)) (hn : l.length = m) (hm : m ≤ 9223372036854775807) (hr : RowA w q l) :
    Calls Tryz.prog 113 #[aggA x, .pointer (some ad)] w fun e w' => e = .returned (.bool (atomB x && !inA l x)) ∧ Below w.heap.size w w' := by
  have HX := Lib.hid hbox
  have HR := Lib.hid hr
  have HN := Lib.hid hn
  clear hr hn
  clear hbox
  cases ha : atomB x
  · have HA := Lib.hid ha
    clear ha
    go_enter Tryz.func113, Tryz.ntmps113
    go_wp2_with fail
    refine (eff_atom_is HA.out _).mono ?_
    rintro e w1 ⟨rfl, hb⟩
    have HB := Lib.hid (((Below.refl _ w).alloc (Nat.le_refl _) _).trans (hb.mono (by simp)))
    clear hb
    go_wp2_with fail
    go_ret
    exact ⟨rfl, HB.out⟩
  · have HA := Lib.hid ha
    clear ha
    go_enter Tryz.func113, Tryz.ntmps113
    go_wp2_with fail
    refine (eff_atom_is HA.out _).mono ?_
    rintro e w1 ⟨rfl, hb⟩
    have HB := Lib.hid (((Below.refl _ w).alloc (Nat.le_refl _) (.cells #[.int .u8 x.kind, .int .i64 x.rho, .string x.exn] 70)).trans (hb.mono (by simp)))
    have f0 : w1.cell? ⟨w.heap.size, 0, none⟩ = some (.int .u8 x.kind) := by rw [hb.cell (by simp), cell_new]; rfl
    have f1 : w1.cell? ⟨w.heap.size, 1, none⟩ = some (.int .i64 x.rho) := by rw [hb.cell (by simp), cell_new]; rfl
    have f2 : w1.cell? ⟨w.heap.size, 2, none⟩ = some (.string x.exn) := by rw [hb.cell (by simp), cell_new]; rfl
    have hbx : w1.cell? ad = some (.slice q m mc) := by rw [HB.out.cell (cell_block HX.out)]; exact HX.out
    clear hb
    go_wp2_with fail
    refine (a_contains_any q m mc l x w1 HN.out hm (HR.out.below HB.out)).mono ?_
    rintro e w2 ⟨rfl, hb⟩
    have HB2 := Lib.hid (HB.out.trans (hb.mono HB.out.size))
    clear hb
    go_wp2_with fail
    go_ret
    exact ⟨rfl, HB2.out⟩

theorem effect_Within_any (p : Option Addr) (n cap : Nat) (l : List Atom) (q : Option Addr) (m mc : Nat) (l' : List Atom) (w : World) (hn : l.length = n) (hm : n ≤ 9223372036854775807) (hr : RowA w p l)
    (hn' : l'.length = m) (hm' : m ≤ 9223372036854775807) (hr' : RowA w q l') :
    Calls Tryz.prog 88 #[.slice p n cap, .slice q m mc] w fun e w' => e = .returned (.bool (withinB l l')) ∧ Below w.heap.size w w' := by
  have hc : ∀ t, Calls Tryz.prog 112 #[.slice p n cap, .func (.func 113) #[] #[.pointer (some ⟨w.heap.size, 0, none⟩)]] (w.alloc (.cells #[.slice q m mc] t)) fun e w' =>
      e = .returned (.bool (l.any (fun x => atomB x && !inA l' x))) ∧ Below (w.alloc (.cells #[.slice q m mc] t)).heap.size (w.alloc (.cells #[.slice q m mc] t)) w' := fun t =>
    a_containsFunc_any 113 #[.pointer (some ⟨w.heap.size, 0, none⟩)] (fun x => atomB x && !inA l' x) (fun a w => Tryz.call113 a w) p n cap l _ hn hm (hr.alloc _)
      (fun x _ W hW => by
        have := within1_any x ⟨w.heap.size, 0, none⟩ q m mc l' W (by rw [hW.cell (by simp), cell_new]; rfl) hn' hm' ((hr'.alloc _).below hW)
        simpa using this)
  have he : Hid (withinB l l' = !l.any (fun x => atomB x && !inA l' x)) := by
    show withinB l l' = _
    unfold withinB
    rw [List.all_eq_not_any_not]
    congr 2
    funext x
    cases atomB x <;> simp
  generalize l.any (fun x => atomB x && !inA l' x) = r at hc he
  have HC := Lib.hid hc
  clear hr hn hc hr' hn'
  go_enter Tryz.func88, Tryz.ntmps88
  go_wp2_with fail
  refine (HC.out _).mono ?_
  rintro e w1 ⟨rfl, hb⟩
  have HB := Lib.hid (((Below.refl _ w).alloc (Nat.le_refl _) _).trans (hb.mono (by simp)))
  clear hb
  go_wp2_with fail
  go_ret
  exact ⟨ret_bool he.out.symm, HB.out⟩
theorem effect_Within_is {p : Option Addr} {n cap : Nat} {l : List Atom} {q : Option Addr} {m mc : Nat} {l' : List Atom} {w : World} {r : Bool} (hq : withinB l l' = r) (hn : l.length = n) (hm : n ≤ 9223372036854775807) (hr : RowA w p l)
    (hn' : l'.length = m) (hm' : m ≤ 9223372036854775807) (hr' : RowA w q l') :
    Calls Tryz.prog 88 #[.slice p n cap, .slice q m mc] w fun e w' => e = .returned (.bool r) ∧ Below w.heap.size w w' := by
  subst hq; exact effect_Within_any p n cap l q m mc l' w hn hm hr hn' hm' hr'

theorem effect_Same_any (p : Option Addr) (n cap : Nat) (l : List Atom) (q : Option Addr) (m mc : Nat) (l' : List Atom) (w : World) (hn : l.length = n) (hm : n ≤ 9223372036854775807) (hr : RowA w p l)
    (hn' : l'.length = m) (hm' : m ≤ 9223372036854775807) (hr' : RowA w q l') :
    Calls Tryz.prog 69 #[.slice p n cap, .slice q m mc] w fun e w' => e = .returned (.bool (withinB l l' && withinB l' l)) ∧ Below w.heap.size w w' := by
  have HR := Lib.hid hr
  have HN := Lib.hid hn
  have HR' := Lib.hid hr'
  have HN' := Lib.hid hn'
  clear hr hn hr' hn'
  cases ha : withinB l l'
  · have HA := Lib.hid ha
    clear ha
    go_enter Tryz.func69, Tryz.ntmps69
    go_wp2_with fail
    refine (effect_Within_is HA.out HN.out hm HR.out HN'.out hm' HR'.out).mono ?_
    rintro e w1 ⟨rfl, hb⟩
    have HB := Lib.hid hb
    clear hb
    go_wp2_with fail
    go_ret
    exact ⟨rfl, HB.out⟩
  · have HA := Lib.hid ha
    clear ha
    go_enter Tryz.func69, Tryz.ntmps69
    go_wp2_with fail
    refine (effect_Within_is HA.out HN.out hm HR.out HN'.out hm' HR'.out).mono ?_
    rintro e w1 ⟨rfl, hb⟩
    have HB := Lib.hid hb
    clear hb
    go_wp2_with fail
    refine (effect_Within_any q m mc l' p n cap l w1 HN'.out hm' (HR'.out.below HB.out) HN.out hm (HR.out.below HB.out)).mono ?_
    rintro e w2 ⟨rfl, hb⟩
    have HB2 := Lib.hid (HB.out.trans (hb.mono HB.out.size))
    clear hb
    go_wp2_with fail
    go_ret
    exact ⟨rfl, HB2.out⟩

theorem effect_Union_any (p : Option Addr) (n cap : Nat) (rows : List (SlE Atom)) (w : World) (hn : rows.length = n) (hm : n ≤ 1000000) (hr : RowE encSl 1 w p rows) (hok : ∀ r ∈ rows, r.Ok encA 3 w) (htot : (rows.map (·.n)).sum ≤ 1000000) :
    Calls Tryz.prog 13 #[.slice p n cap] w fun e w' => ∃ v m, e = .returned v ∧ m ≤ (rows.map (·.n)).sum ∧ OwnE encA 3 w' w.heap.size 70 v m (sortA ((rows.flatMap (·.l)).filter atomB)) ∧ Below w.heap.size w w' := by
  have HT := Lib.hid htot
  have hc := concat_any p n cap rows w hn hm hr hok htot
  have HC := Lib.hid hc
  clear hr hn hok hc htot
  go_enter Tryz.func13, Tryz.ntmps13
  go_wp2_with fail
  refine HC.out.mono ?_
  rintro e w1 ⟨v, rfl, ho, hb⟩
  obtain ⟨q, mc, rfl, hl, hmc, hrow, _⟩ := ho.row encA_len (by omega)
  have HL := Lib.hid hl
  have HROW := Lib.hid hrow
  have HB := Lib.hid hb
  clear hb
  clear ho hl hrow
  generalize hSS : (rows.map (·.n)).sum = S at *
  have HSS := Lib.hid hSS
  clear hSS
  have hS := HT.out
  go_wp2_with fail
  refine (effect_Of_any q S mc _ w1 HL.out hS HROW.out).mono ?_
  rintro e w2 ⟨v, m, rfl, hmn, hown, hb⟩
  have HO := Lib.hid (hown.lower HB.out.size)
  have HB2 := Lib.hid (HB.out.trans (hb.mono HB.out.size))
  clear hb
  clear hown
  go_wp2_with fail
  go_ret
  exact ⟨_, m, rfl, by rw [HSS.out]; exact hmn, HO.out, HB2.out⟩
end Go.Proofs.YtekhblomdlehhaaGreatDoor
