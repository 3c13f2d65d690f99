/- What CheckWraps leans on besides, part 1: Eff3, Eff5, Eff7, Facts, RtS, Nd, Cp1, Cp3, Mk, Lg, Lh, Li. -/
import Derived.Test.YtkdjnegfnhldpaaGreatDoorH02
import Derived.Laws.StructEq
import Derived.Test.YtkdjnegfnhldpaaGreatDoorH03
import Derived.Test.YtkdjnegfnhldpaaGreatDoorH05
import Derived.Test.YtkdjnegfnhldpaaGreatDoorH06
import Derived.Test.YtkdjnegfnhldpaaGreatDoorH09
import Derived.Test.YtkdjnegfnhldpaaGreatDoorH11
import Derived.Test.YtkdjnegfnhldpaaGreatDoorH07
import Derived.Test.YtkdjnegfnhldpaaGreatDoorH16
import Derived.Test.YtkdjnegfnhldpaaGreatDoorH18
import Derived.Test.YtkdjnegfnhldpaaGreatDoorH36
import Derived.Test.YtkdjnegfnhldpaaGreatDoorH15
import Derived.Test.YtkdjnegfnhldpaaGreatDoorH37
import Derived.Test.YtkdjnegfnhldpaaGreatDoorH24
import Derived.Test.YtkdjnegfnhldpaaGreatDoorH12
import Derived.Test.YtkdjnegfnhldpaaGreatDoorH17
set_option linter.unusedVariables false
set_option maxRecDepth 100000
set_option linter.unusedSimpArgs false
namespace Go.Proofs.YtkdjnegfnhldpaaGreatDoor
open Go.Lib (hid)
section
open Go.RowKit
theorem ref_In_any (p : Option Addr) (n cap : Nat) (l : List Atom) (a : Atom) (w : World) (hn : l.length = n) (hm : n ≤ 9223372036854775807) (hr : RowA w p l) :
    Calls Tryz.prog 51 #[.slice p n cap, .agg #[.int .u8 a.kind, .int .i64 a.rho, .string a.exn]] w fun e w' => e = .returned (.bool (inA l a)) ∧ Below w.heap.size w w' := by
  have HR := hid (hr.alloc (.cells #[.int .u8 a.kind, .int .i64 a.rho, .string a.exn] 59))
  have HN := hid hn
  clear hr hn
  go_enter Tryz.func51, Tryz.ntmps51
  go_wp2_with fail
  go_loopw [5, 8] (fun _ i wr => ∃ k : Nat, k ≤ n ∧ i = .int .i64 k ∧ (l.take k).any (fun x => eqA x a) = false ∧ ∃ q, wr = (w.alloc (.cells #[.int .u8 a.kind, .int .i64 a.rho, .string a.exn] 59)).drewN q) (fun _ i _ => n - (intOf i).toNat)
  case atStart => exact ⟨0, by omega, rfl, by simp, 0, rfl⟩
  case round =>
    obtain ⟨k, hk, rfl, hno, q, rfl⟩ := hrel
    have HNO := hid hno
    clear hno
    by_cases hlt : k < n
    · obtain ⟨x, hx⟩ := get_of_lt (l := l) (j := k) (by rw [HN.out]; exact hlt)
      obtain ⟨b, o, rfl, hb, c0, c1, c2⟩ := RowA.atom HR.out hx
      have HE := hid hx
      clear hx hb
      have he := fun W => run_eqA x a W
      cases hq : eqA x a
      · go_wp2_with fail
        go_quiet (fail)
        go_wp2_with fail
        go_roundw
        case rel => exact ⟨k + 1, by omega, by go_num, by rw [any_take_get HE.out, HNO.out, hq]; rfl, _, rfl⟩
        case measure => simp [intOf]; omega
      · go_wp2_with fail
        go_quiet (fail)
        go_wp2_with fail
        go_ret
        exact ⟨ret_bool (any_get HE.out hq).symm, below_drewN (below_drewN ((Below.refl _ _).alloc (Nat.le_refl _) _) _) _⟩
    · go_wp2_with fail
      go_ret
      have h := HNO.out
      rw [take_full (by rw [HN.out]; omega)] at h
      exact ⟨ret_bool h.symm, below_drewN ((Below.refl _ _).alloc (Nat.le_refl _) _) _⟩
def eqL (l m : List Atom) : Bool := decide (l = m)
theorem eq_of_take {α : Type} {l m : List α} {n : Nat} (hl : l.length = n) (hm : m.length = n) (h : l.take n = m.take n) : l = m := by
  rwa [take_full (by omega), take_full (by omega)] at h
theorem take_eq_succ {α : Type} {l m : List α} {k : Nat} {x y : α} (hx : l[k]? = some x) (hy : m[k]? = some y) (h : l.take k = m.take k) (e : x = y) : l.take (k + 1) = m.take (k + 1) := by
  rw [take_succ_get hx, take_succ_get hy, h, e]
theorem ref_Equal_any (p : Option Addr) (n cap : Nat) (l : List Atom) (q : Option Addr) (m mc : Nat) (l' : List Atom) (w : World) (hn : l.length = n) (hm : n ≤ 9223372036854775807) (hr : RowA w p l)
    (hn' : l'.length = m) (hm' : m ≤ 9223372036854775807) (hr' : RowA w q l') :
    Calls Tryz.prog 14 #[.slice p n cap, .slice q m mc] w fun e w' => e = .returned (.bool (eqL l l')) ∧ ∃ j, w' = w.drewN j := by
  by_cases hnm : n = m
  · subst hnm
    have HR := hid hr
    have HN := hid hn
    have HR' := hid hr'
    have HN' := hid hn'
    clear hr hn hr' hn'
    go_enter Tryz.func14, Tryz.ntmps14
    go_wp2_with fail
    go_loopw [5, 13] (fun _ i wr => ∃ k : Nat, k ≤ n ∧ i = .int .i64 k ∧ l.take k = l'.take k ∧ ∃ j, wr = w.drewN j) (fun _ i _ => n - (intOf i).toNat)
    case atStart => exact ⟨0, by omega, rfl, by simp, 0, rfl⟩
    case round =>
      obtain ⟨k, hk, rfl, hno, j, rfl⟩ := hrel
      have HNO := hid hno
      clear hno
      by_cases hlt : k < n
      · obtain ⟨x, hx⟩ := get_of_lt (l := l) (j := k) (by rw [HN.out]; exact hlt)
        obtain ⟨y, hy⟩ := get_of_lt (l := l') (j := k) (by rw [HN'.out]; exact hlt)
        obtain ⟨b, o, rfl, hb, c0, c1, c2⟩ := RowA.atom HR.out hx
        obtain ⟨b', o', rfl, hb', d0, d1, d2⟩ := RowA.atom HR'.out hy
        have HE := hid hx
        have HE' := hid hy
        clear hx hb hy hb'
        have he := fun W => run_neA x y W
        cases hq : eqA x y
        · have hne : Hid (eqL l l' = false) := by
            show eqL l l' = false
            unfold eqL
            rw [decide_eq_false_iff_not]
            intro e
            have h1 := HE.out
            rw [e, HE'.out] at h1
            cases h1
            simp [eqA] at hq
          go_wp2_with fail
          go_quiet (fail)
          go_wp2_with fail
          go_ret
          exact ⟨ret_bool hne.out.symm, _, World.drewN_drewN _ _ _⟩
        · have hxy : Hid (x = y) := by show x = y; simpa [eqA] using hq
          go_wp2_with fail
          go_quiet (fail)
          go_wp2_with fail
          go_roundw
          case rel => exact ⟨k + 1, by omega, by go_num, take_eq_succ HE.out HE'.out HNO.out hxy.out, _, rfl⟩
          case measure => simp [intOf]; omega
      · have hkn : k = n := by omega
        subst hkn
        go_wp2_with fail
        go_ret
        exact ⟨ret_bool (by unfold eqL; rw [eq_of_take HN.out HN'.out HNO.out]; simp), _, rfl⟩
  · have hne : Hid (eqL l l' = false) := by
      show eqL l l' = false
      unfold eqL
      rw [decide_eq_false_iff_not]
      intro e
      subst e
      omega
    have hb : ((n : Int) != (m : Int)) = true := by rw [bne_iff_ne]; omega
    clear hr hr' hn hn' hnm
    go_enter Tryz.func14, Tryz.ntmps14
    go_wp2_with fail
    go_ret
    exact ⟨ret_bool hne.out.symm, 0, rfl⟩
end
section
open Go.RowKit
set_option maxHeartbeats 400000 in
theorem ref_Within_any (p : Option Addr) (n cap : Nat) (l : List Atom) (q : Option Addr) (m mc : Nat) (l' : List Atom) (w : World) (hn : l.length = n) (hm : n ≤ 9223372036854775807) (hr : RowA w p l)
    (hn' : l'.length = m) (hm' : m ≤ 9223372036854775807) (hr' : RowA w q l') :
    Calls Tryz.prog 25 #[.slice p n cap, .slice q m mc] w fun e w' => e = .returned (.bool (withinB l l')) ∧ Below w.heap.size w w' := by
  have HR := hid hr
  have HN := hid hn
  have HR' := hid hr'
  have HN' := hid hn'
  clear hr hn hr' hn'
  go_enter Tryz.func25, Tryz.ntmps25
  go_wp2_with fail
  go_loopw [5, 8] (fun _ i wr => ∃ k : Nat, k ≤ n ∧ i = .int .i64 k ∧ (l.take k).all (fun x => !atomB x || inA l' x) = true ∧ Below w.heap.size w wr) (fun _ i _ => n - (intOf i).toNat)
  case atStart => exact ⟨0, by omega, rfl, by simp, Below.refl _ _⟩
  case round =>
    obtain ⟨k, hk, rfl, hno, hb⟩ := hrel
    have HNO := hid hno
    have HB := hid hb
    clear hno hb
    by_cases hlt : k < n
    · obtain ⟨x, hx⟩ := get_of_lt (l := l) (j := k) (by rw [HN.out]; exact hlt)
      have HE := hid hx
      obtain ⟨b, o, rfl, hbl, d0, d1, d2⟩ := RowA.atom (HR.out.below HB.out) hx
      go_wp2_with fail
      refine (ref_Atom_any x wr).mono ?_
      rintro e w1 ⟨rfl, hb⟩
      have HB1 := hid (HB.out.trans (hb.mono HB.out.size))
      have f0 : w1.cell? ⟨b, o + k * 3, none⟩ = some (.int .u8 x.kind) := by rw [hb.cell hbl]; exact d0
      have f1 : w1.cell? ⟨b, o + k * 3 + 1, none⟩ = some (.int .i64 x.rho) := by rw [hb.cell hbl]; exact d1
      have f2 : w1.cell? ⟨b, o + k * 3 + 2, none⟩ = some (.string x.exn) := by rw [hb.cell hbl]; exact d2
      clear hb d0 d1 d2 hx hbl
      cases ha : atomB x
      · have HA := hid ha
        clear ha
        go_wp2_with fail
        go_roundw
        case rel => exact ⟨k + 1, by omega, by go_num, by rw [all_take_get HE.out, HNO.out, HA.out]; rfl, HB1.out⟩
        case measure => simp [intOf]; omega
      · have HA := hid ha
        clear ha
        go_wp2_with fail
        refine (ref_In_any q m mc l' x w1 HN'.out hm' (HR'.out.below HB1.out)).mono ?_
        rintro e w2 ⟨rfl, hb⟩
        have HB2 := hid (HB1.out.trans (hb.mono HB1.out.size))
        clear hb f0 f1 f2
        cases hi : inA l' x
        · have HI := hid hi
          clear hi
          go_wp2_with fail
          go_ret
          exact ⟨ret_bool (by unfold withinB; rw [all_get HE.out (by rw [HA.out, HI.out]; rfl)]), HB2.out⟩
        · have HI := hid hi
          clear hi
          go_wp2_with fail
          go_roundw
          case rel => exact ⟨k + 1, by omega, by go_num, by rw [all_take_get HE.out, HNO.out, HA.out, HI.out]; rfl, HB2.out⟩
          case measure => simp [intOf]; omega
    · go_wp2_with fail
      go_ret
      have h := HNO.out
      rw [take_full (by rw [HN.out]; omega)] at h
      exact ⟨ret_bool h.symm, HB.out⟩
end
section
open Go.RowKit Go.Sort Go.Lib
theorem inA_iff (l : List Atom) (a : Atom) : inA l a = true ↔ a ∈ l := by
  unfold inA eqA
  simp
end
section
open Go.RowKit Go.Sort Go.Lib
theorem withinB_iff (a b : List Atom) : withinB a b = true ↔ ∀ x ∈ a, atomB x = true → x ∈ b := by
  unfold withinB
  rw [List.all_eq_true]
  constructor
  · intro h x hx ha
    have := h x hx
    rw [ha] at this
    exact (inA_iff b x).1 (by simpa using this)
  · intro h x hx
    cases ha : atomB x
    · rfl
    · simp [(inA_iff b x).2 (h x hx ha)]
theorem withinB_refl (a : List Atom) : withinB a a = true := (withinB_iff a a).2 (fun x hx _ => hx)
end
section
open Go.RowKit Go.Sort Go.Lib
theorem sameH_refl (a : LH) : sameH a a = true := by simp [sameH, withinB_refl]
theorem sameP_refl (x : PT) : sameP x x = true := by
  refine Rose.ind (P := fun (x : PT) => sameP x x = true) (fun a l ih => ?_) x
  rw [sameP_node, sameH_refl, Bool.true_and]
  refine sameK_true rfl (fun j x y hx hy => ?_)
  rw [hx] at hy; cases hy
  exact ih x (List.mem_of_getElem? hx)
theorem ref_Within_is {p : Option Addr} {n cap : Nat} {l : List Atom} {q : Option Addr} {m mc : Nat} {l' : List Atom} {w : World} {r : Bool} (h : withinB l l' = r) (hr : IsRow encA 3 w p n cap l) (hr' : IsRow encA 3 w q m mc l') :
    Calls Tryz.prog 25 #[.slice p n cap, .slice q m mc] w fun e w' => e = .returned (.bool r) ∧ Below w.heap.size w w' := by
  subst h; exact ref_Within_any p n cap l q m mc l' w hr.len hr.max hr.row hr'.len hr'.max hr'.row
def RSameAt (x y : PT) (W : World) : Prop := ∀ r, sameP x y = r → Calls Tryz.prog 13 #[aggR x.head, aggR y.head] W fun e w' => e = .returned (.bool r) ∧ Below W.heap.size W w'
set_option maxHeartbeats 4000000 in
theorem ref_Same12_of {a b : RH} {l m : List PT} {w : World} (ha : NodeIn w a l) (hb : NodeIn w b m) (hf : ∀ x ∈ l, ∀ y ∈ m, ∀ W, Below w.heap.size w W → RSameAt x y W) {r : Bool} (hrr : sameP (.node a l) (.node b m) = r) :
    Calls Tryz.prog 13 #[aggR a, aggR b] w fun e w' => e = .returned (.bool r) ∧ Below w.heap.size w w' := by
  have HBX := hid (boxes_below w a b)
  have HNA := hid ha
  have HNB := hid hb
  have HF := hid hf
  have HP := hid (sameP_node a b l m)
  have HRR := hid hrr
  have hla := ha.kids.len
  have hlb := hb.kids.len
  have hma := ha.own.kmax
  have hmb := hb.own.kmax
  clear ha hb hf hrr
  by_cases h1 : a.kind = b.kind
  · have b1 : (a.kind != b.kind) = false := by simpa using h1
    by_cases h2 : a.rho = b.rho
    · have b2 : (a.rho != b.rho) = false := by simpa using h2
      by_cases hn : a.kn = b.kn
      · have b3 : ((a.kn : Int) != (b.kn : Int)) = false := by rw [hn]; simp
        have HNK := hid hn
        clear hn
        cases h3 : withinB a.eff b.eff
        · have HS : Hid (r = false) := by show _ = _; rw [← HRR.out, HP.out]; simp [sameH, RH.plain, h3]
          have H3 := hid h3
          clear h1 h2 h3
          go_enter Tryz.func13, Tryz.ntmps13
          go_wp2_with fail
          refine (ref_Within_is H3.out (HNA.out.below HBX.out).own.eff (HNB.out.below HBX.out).own.eff).mono ?_
          rintro e w1 ⟨rfl, hb⟩
          have HB1 := hid (HBX.out.trans (hb.mono HBX.out.size))
          clear hb
          go_wp2_with fail
          go_ret
          exact ⟨ret_bool HS.out.symm, HB1.out⟩
        · have H3 := hid h3
          cases h4 : withinB b.eff a.eff
          · have HS : Hid (r = false) := by show _ = _; rw [← HRR.out, HP.out]; simp [sameH, RH.plain, h4]
            have H4 := hid h4
            clear h1 h2 h3 h4
            go_enter Tryz.func13, Tryz.ntmps13
            go_wp2_with fail
            refine (ref_Within_is H3.out (HNA.out.below HBX.out).own.eff (HNB.out.below HBX.out).own.eff).mono ?_
            rintro e w1 ⟨rfl, hb⟩
            have HB1 := hid (HBX.out.trans (hb.mono HBX.out.size))
            have HC : Hid (Below (w.heap.size + 2) (boxes w a b) w1) := by show Below _ _ _; simpa using hb
            clear hb
            obtain ⟨⟨d0, d1, d2, d3⟩, e0, e1, e2, e3⟩ := boxes_cells HC.out
            go_wp2_with fail
            refine (ref_Within_is H4.out (HNB.out.below HB1.out).own.eff (HNA.out.below HB1.out).own.eff).mono ?_
            rintro e w2 ⟨rfl, hb⟩
            have HB2 := hid (HB1.out.trans (hb.mono HB1.out.size))
            clear hb d0 d1 d2 d3 e0 e1 e2 e3
            go_wp2_with fail
            go_ret
            exact ⟨ret_bool HS.out.symm, HB2.out⟩
          · have HS : Hid (r = sameK l m) := by show _ = _; rw [← HRR.out, HP.out]; simp only [sameH, RH.plain, h1, h2, h3, h4, decide_true, Bool.true_and]
            have H4 := hid h4
            clear h1 h2 h3 h4
            go_enter Tryz.func13, Tryz.ntmps13
            go_wp2_with fail
            refine (ref_Within_is H3.out (HNA.out.below HBX.out).own.eff (HNB.out.below HBX.out).own.eff).mono ?_
            rintro e w1 ⟨rfl, hb⟩
            have HB1 := hid (HBX.out.trans (hb.mono HBX.out.size))
            have HC : Hid (Below (w.heap.size + 2) (boxes w a b) w1) := by show Below _ _ _; simpa using hb
            clear hb
            obtain ⟨⟨d0, d1, d2, d3⟩, e0, e1, e2, e3⟩ := boxes_cells HC.out
            go_wp2_with fail
            refine (ref_Within_is H4.out (HNB.out.below HB1.out).own.eff (HNA.out.below HB1.out).own.eff).mono ?_
            rintro e w2 ⟨rfl, hb⟩
            have HB2 := hid (HB1.out.trans (hb.mono HB1.out.size))
            have HC2 := hid (HC.out.trans (hb.mono (by have := HC.out.size; simpa using this)))
            clear hb d0 d1 d2 d3 e0 e1 e2 e3
            obtain ⟨⟨d0, d1, d2, d3⟩, e0, e1, e2, e3⟩ := boxes_cells HC2.out
            go_wp2_with fail
            clear d0 d1 d2 d3 e0 e1 e2 e3
            go_loopw [5, 46] (fun _ i wr => ∃ k : Nat, k ≤ a.kn ∧ i = .int .i64 k ∧ (∀ (j : Nat) (x y : PT), j < k → l[j]? = some x → m[j]? = some y → sameP x y = true) ∧ Below w2.heap.size w2 wr) (fun _ i _ => a.kn - (intOf i).toNat)
            case atStart => exact ⟨0, by omega, rfl, fun j x y hj => by omega, Below.refl _ _⟩
            case round =>
              obtain ⟨k, hk, rfl, hno, hb⟩ := hrel
              have HNO := hid hno
              have HB := hid hb
              clear hno hb
              have HBW := hid (HB2.out.trans (HB.out.mono HB2.out.size))
              have HCW := hid (HC2.out.trans (HB.out.mono (by have := HC2.out.size; simpa using this)))
              by_cases hlt : k < a.kn
              · obtain ⟨x, hx⟩ := HNA.out.rowT.at (j := k) hlt
                have hltb : k < b.kn := by have := HNK.out; omega
                obtain ⟨y, hy⟩ := HNB.out.rowT.at (j := k) hltb
                have HX := hid hx
                have HY := hid hy
                obtain ⟨g, o, hbo, hbl, d0, d1, d2, d3⟩ := (HNA.out.rowT.below HBW.out).kid hx
                obtain ⟨g', o', hbo', hbl', e0, e1, e2, e3⟩ := (HNB.out.rowT.below HBW.out).kid hy
                obtain ⟨⟨_, _, _, c3⟩, _, _, _, c3'⟩ := boxes_cells HCW.out
                rw [hbo] at c3
                rw [hbo'] at c3'
                have i0 : (0 : Int) ≤ (k : Int) := by omega
                have i1 : (k : Int) < (a.kn : Int) := by omega
                have i2 : (k : Int) < (b.kn : Int) := by omega
                have HSS : Hid (∀ W, Below wr.heap.size wr W → W.cell? ⟨w.heap.size, 3, none⟩ = some (.slice (some ⟨g, o, none⟩) a.kn a.kc) ∧ W.cell? ⟨w.heap.size + 1, 3, none⟩ = some (.slice (some ⟨g', o', none⟩) b.kn b.kc) ∧ W.cell? ⟨g, o + k * 4, none⟩ = some (.int .u8 x.head.kind) ∧ W.cell? ⟨g, o + k * 4 + 1, none⟩ = some (.int .i64 x.head.rho) ∧ W.cell? ⟨g, o + k * 4 + 2, none⟩ = some (.slice x.head.ep x.head.en x.head.ec) ∧ W.cell? ⟨g, o + k * 4 + 3, none⟩ = some (.slice x.head.kp x.head.kn x.head.kc) ∧
                    W.cell? ⟨g', o' + k * 4, none⟩ = some (.int .u8 y.head.kind) ∧ W.cell? ⟨g', o' + k * 4 + 1, none⟩ = some (.int .i64 y.head.rho) ∧ W.cell? ⟨g', o' + k * 4 + 2, none⟩ = some (.slice y.head.ep y.head.en y.head.ec) ∧ W.cell? ⟨g', o' + k * 4 + 3, none⟩ = some (.slice y.head.kp y.head.kn y.head.kc) ∧ Below wr.heap.size wr W) := fun W h =>
                  ⟨by rw [h.cell (cell_block c3)]; exact c3, by rw [h.cell (cell_block c3')]; exact c3', by rw [h.cell hbl]; exact d0, by rw [h.cell hbl]; exact d1, by rw [h.cell hbl]; exact d2, by rw [h.cell hbl]; exact d3, by rw [h.cell hbl']; exact e0, by rw [h.cell hbl']; exact e1, by rw [h.cell hbl']; exact e2, by rw [h.cell hbl']; exact e3, h⟩
                clear hx hy hbo hbo' hbl hbl' c3 c3' d0 d1 d2 d3 e0 e1 e2 e3
                cases hq : sameP x y
                · have HQ := hid hq
                  clear hq
                  go_wp2_with fail
                  go_region_held3 (fun W => W.cell? ⟨w.heap.size, 3, none⟩ = some (.slice (some ⟨g, o, none⟩) a.kn a.kc) ∧ W.cell? ⟨w.heap.size + 1, 3, none⟩ = some (.slice (some ⟨g', o', none⟩) b.kn b.kc) ∧ W.cell? ⟨g, o + k * 4, none⟩ = some (.int .u8 x.head.kind) ∧ W.cell? ⟨g, o + k * 4 + 1, none⟩ = some (.int .i64 x.head.rho) ∧ W.cell? ⟨g, o + k * 4 + 2, none⟩ = some (.slice x.head.ep x.head.en x.head.ec) ∧ W.cell? ⟨g, o + k * 4 + 3, none⟩ = some (.slice x.head.kp x.head.kn x.head.kc) ∧
                      W.cell? ⟨g', o' + k * 4, none⟩ = some (.int .u8 y.head.kind) ∧ W.cell? ⟨g', o' + k * 4 + 1, none⟩ = some (.int .i64 y.head.rho) ∧ W.cell? ⟨g', o' + k * 4 + 2, none⟩ = some (.slice y.head.ep y.head.en y.head.ec) ∧ W.cell? ⟨g', o' + k * 4 + 3, none⟩ = some (.slice y.head.kp y.head.kn y.head.kc) ∧ Below wr.heap.size wr W)
                    (first
                      | exact HSS.out _ (bel_drew _)
                      | exact HSS.out _ hZ)
                    ((go_at_call 13; refine (HF.out x (List.mem_of_getElem? HX.out) y (List.mem_of_getElem? HY.out) _ (HBW.out.trans (Below.mono (by go_split_ands; assumption) HBW.out.size)) _ HQ.out).mono ?_; rintro e w8 ⟨rfl, hb8⟩; have hZ := bel_step (w0 := wr) (by go_split_ands; assumption) hb8))
                  rename_i hH
                  clear hH hb8
                  have hb8 := hZ
                  clear hZ
                  have HB3 := hid (HBW.out.trans (hb8.mono HBW.out.size))
                  go_wp2_with fail
                  go_ret
                  exact ⟨ret_bool (by rw [HS.out]; exact (sameK_false HX.out HY.out HQ.out).symm), HB3.out⟩
                · have HQ := hid hq
                  clear hq
                  go_wp2_with fail
                  go_region_held3 (fun W => W.cell? ⟨w.heap.size, 3, none⟩ = some (.slice (some ⟨g, o, none⟩) a.kn a.kc) ∧ W.cell? ⟨w.heap.size + 1, 3, none⟩ = some (.slice (some ⟨g', o', none⟩) b.kn b.kc) ∧ W.cell? ⟨g, o + k * 4, none⟩ = some (.int .u8 x.head.kind) ∧ W.cell? ⟨g, o + k * 4 + 1, none⟩ = some (.int .i64 x.head.rho) ∧ W.cell? ⟨g, o + k * 4 + 2, none⟩ = some (.slice x.head.ep x.head.en x.head.ec) ∧ W.cell? ⟨g, o + k * 4 + 3, none⟩ = some (.slice x.head.kp x.head.kn x.head.kc) ∧
                      W.cell? ⟨g', o' + k * 4, none⟩ = some (.int .u8 y.head.kind) ∧ W.cell? ⟨g', o' + k * 4 + 1, none⟩ = some (.int .i64 y.head.rho) ∧ W.cell? ⟨g', o' + k * 4 + 2, none⟩ = some (.slice y.head.ep y.head.en y.head.ec) ∧ W.cell? ⟨g', o' + k * 4 + 3, none⟩ = some (.slice y.head.kp y.head.kn y.head.kc) ∧ Below wr.heap.size wr W)
                    (first
                      | exact HSS.out _ (bel_drew _)
                      | exact HSS.out _ hZ)
                    ((go_at_call 13; refine (HF.out x (List.mem_of_getElem? HX.out) y (List.mem_of_getElem? HY.out) _ (HBW.out.trans (Below.mono (by go_split_ands; assumption) HBW.out.size)) _ HQ.out).mono ?_; rintro e w8 ⟨rfl, hb8⟩; have hZ := bel_step (w0 := wr) (by go_split_ands; assumption) hb8))
                  rename_i hH
                  clear hH hb8
                  have hb8 := hZ
                  clear hZ
                  have HB3 := hid (HBW.out.trans (hb8.mono HBW.out.size))
                  go_wp2_with fail
                  go_roundw
                  case rel =>
                    refine ⟨k + 1, by omega, by go_num, fun j x' y' hj hx' hy' => ?_, HB.out.trans (hb8.mono HB.out.size)⟩
                    by_cases hjk : j = k
                    · subst hjk
                      have h1 := HX.out; have h2 := HY.out
                      rw [hx'] at h1; rw [hy'] at h2
                      cases h1; cases h2
                      exact HQ.out
                    · exact HNO.out j x' y' (by omega) hx' hy'
                  case measure => simp [intOf]; omega
              · have hkn : k = a.kn := by omega
                have hs : Hid (sameK l m = true) := sameK_true (by have := HNK.out; omega) (fun j x y hx hy => HNO.out j x y (by have h1 := (List.getElem?_eq_some_iff.1 hx).1; omega) hx hy)
                clear hkn
                go_wp2_with fail
                go_ret
                exact ⟨ret_bool (by rw [HS.out, hs.out]), HBW.out⟩
      · have b3 : ((a.kn : Int) != (b.kn : Int)) = true := by rw [bne_iff_ne]; omega
        have HS : Hid (r = false) := by show _ = _; rw [← HRR.out, HP.out, sameK_len (by omega)]; simp
        clear h1 h2 hn
        go_enter Tryz.func13, Tryz.ntmps13
        go_wp2_with fail
        go_ret
        exact ⟨ret_bool HS.out.symm, HBX.out⟩
    · have b2 : (a.rho != b.rho) = true := by simpa using h2
      have HS : Hid (r = false) := by show _ = _; rw [← HRR.out, HP.out]; simp [sameH, RH.plain, h2]
      clear h1 h2
      go_enter Tryz.func13, Tryz.ntmps13
      go_wp2_with fail
      go_ret
      exact ⟨ret_bool HS.out.symm, HBX.out⟩
  · have b1 : (a.kind != b.kind) = true := by simpa using h1
    have HS : Hid (r = false) := by show _ = _; rw [← HRR.out, HP.out]; simp [sameH, RH.plain, h1]
    clear h1
    go_enter Tryz.func13, Tryz.ntmps13
    go_wp2_with fail
    go_ret
    exact ⟨ret_bool HS.out.symm, HBX.out⟩
theorem rsameAt_any (x : PT) : ∀ y w, LR.lies w x → LR.lies w y → RSameAt x y w := by
  refine Rose.ind (P := fun (x : PT) => ∀ y w, LR.lies w x → LR.lies w y → RSameAt x y w) (fun a l ih => ?_) x
  intro y w hx hy r hr
  obtain ⟨b, m⟩ := y
  have HX := nodeIn hx
  have HY := nodeIn hy
  exact ref_Same12_of HX HY (fun x hx y _ W hW => ih x hx y W (LR.lies_below hW x (HX.each x hx)) (LR.lies_below hW y (HY.each y (by assumption)))) hr
end
section
open Go.RowKit
theorem ref_Ints_b {p : Option Addr} {n cap : Nat} {l : List Int} {x : Int} {w : World} {r : Bool} (hq : inN l x = r) (h : IsRow encN 1 w p n cap l) :
    Calls Tryz.prog 21 #[.slice p n cap, .int .i64 x] w fun e w' => e = .returned (.bool r) ∧ Below w.heap.size w w' :=
  (ref_Ints_of hq h).mono (fun _ _ ⟨h1, h2⟩ => ⟨h1, h2 ▸ Below.refl _ _⟩)
end
section
open Go.RowKit
theorem chkL_of {env : List Bnd} {rhos : List Int} {a : LAH} : ∀ (l : List AT) (i : Nat) (acc rs : List TE), rs.length = l.length →
    (∀ j t, l[j]? = some t → ∃ r, rs[j]? = some r ∧ chk (innerE env a (i + j) (acc ++ rs.take j)) (innerR rhos a (i + j)) t = .ok r) → chkL env rhos a i acc l = .ok (acc ++ rs)
  | [], i, acc, rs, hl, _ => by
    have : rs = [] := List.length_eq_zero_iff.1 (by simpa using hl)
    subst this
    rw [chkL_nil, List.append_nil]
  | t :: l, i, acc, [], hl, _ => by simp at hl
  | t :: l, i, acc, r :: rs, hl, h => by
    rw [chkL_cons]
    obtain ⟨r', h1, h2⟩ := h 0 t rfl
    simp at h1
    subst h1
    simp only [Nat.add_zero, List.take_zero, List.append_nil] at h2
    rw [h2]
    have := chkL_of l (i + 1) (acc ++ [r]) rs (by simpa using hl) (fun j u hu => by
      obtain ⟨r', h1, h2⟩ := h (j + 1) u (by simpa using hu)
      refine ⟨r', by simpa using h1, ?_⟩
      have e1 : i + (j + 1) = i + 1 + j := by omega
      rw [e1] at h2
      simpa using h2)
    simpa using this
theorem regionsB_mono {a : LAH} {rhos rhos' : List Int} (h : ∀ z ∈ rhos, z ∈ rhos') : regionsB a rhos = true → regionsB a rhos' = true := by
  rw [regionsB_iff, regionsB_iff]
  rintro ⟨h1, h2, h3, h4⟩
  exact ⟨h1.imp id (h _), fun hk z hz => h _ (h2 hk z hz), fun z hz => (h3 z hz).imp (h _) id, fun z hz => (h4 z hz).imp (h _) id⟩
theorem chk_mono (t : AT) : ∀ env rhos rhos' r, (∀ z ∈ rhos, z ∈ rhos') → chk env rhos t = .ok r → chk env rhos' t = .ok r := by
  refine Rose.ind (P := fun (t : AT) => ∀ env rhos rhos' r, (∀ z ∈ rhos, z ∈ rhos') → chk env rhos t = .ok r → chk env rhos' t = .ok r) (fun a l ih env rhos rhos' r hr h => ?_) t
  rw [chk_ok, found_ok] at h ⊢
  obtain ⟨⟨h1, h2⟩, h3⟩ := h
  refine ⟨⟨regionsB_mono hr h1, h2.imp id (fun h => h.imp id ?_)⟩, h3⟩
  rintro ⟨k2, k18, ks, hks, hx⟩
  refine ⟨k2, k18, ks, ?_, hx⟩
  obtain ⟨rs, rfl, hl, hj⟩ := chkL_ok _ _ _ _ hks
  refine chkL_of _ _ _ _ hl (fun j t ht => ?_)
  obtain ⟨r', e1, e2⟩ := hj j t ht
  exact ⟨r', e1, ih t (List.mem_of_getElem? ht) _ _ _ _ (fun z hz => by
    rw [innerR_mem] at hz ⊢
    exact hz.imp (hr z) id) e2⟩
end
section
open Go.RowKit
theorem clashP_false : ∀ (l met : List Int), clashP met l = false ↔ l.Nodup ∧ ∀ z ∈ l, z ∉ met
  | [], met => by simp [clashP]
  | r :: l, met => by
    simp only [clashP, Bool.or_eq_false_iff, clashP_false l (met ++ [r]), List.nodup_cons, List.mem_cons, List.mem_append, List.mem_singleton, List.not_mem_nil, or_false]
    have hin : inN met r = false ↔ r ∉ met := by
      rw [← Bool.not_eq_true, inN_mem']
    rw [hin]
    constructor
    · rintro ⟨h1, h2, h3⟩
      refine ⟨⟨fun h => h3 r h (.inr rfl), h2⟩, ?_⟩
      rintro z (rfl | hz)
      · exact h1
      · exact fun h => h3 z hz (.inl h)
    · rintro ⟨⟨h1, h2⟩, h3⟩
      refine ⟨h3 r (.inl rfl), h2, fun z hz => ?_⟩
      rintro (h | rfl)
      · exact h3 z (.inr hz) h
      · exact h1 hz
def bindsG (l : List LAH) : List Int := l.flatMap bindsR
theorem apartG_none : ∀ (l : List LAH) (met : List Int), apartG l met = none ↔ (bindsG l).Nodup ∧ ∀ z ∈ bindsG l, z ∉ met
  | [], met => by simp [apartG, bindsG]
  | a :: l, met => by
    unfold apartG
    have e : bindsG (a :: l) = bindsR a ++ bindsG l := by simp [bindsG]
    rw [e, List.nodup_append]
    cases h : clashP met (bindsR a) with
    | true =>
      simp only [if_true, reduceCtorEq, false_iff, not_and]
      rintro ⟨h1, _, _⟩ h2
      have := (clashP_false (bindsR a) met).2 ⟨h1, fun z hz => h2 z (List.mem_append.2 (.inl hz))⟩
      rw [h] at this; cases this
    | false =>
      rw [clashP_false] at h
      simp only [Bool.false_eq_true, if_false, apartG_none l (met ++ bindsR a), List.mem_append]
      constructor
      · rintro ⟨h1, h2⟩
        refine ⟨⟨h.1, h1, fun x hx y hy e => ?_⟩, ?_⟩
        · subst e; exact h2 x hy (.inr hx)
        · rintro z (hz | hz)
          · exact h.2 z hz
          · exact fun hm => h2 z hz (.inl hm)
      · rintro ⟨⟨_, h1, h2⟩, h3⟩
        refine ⟨h1, fun z hz => ?_⟩
        rintro (hm | hm)
        · exact h3 z (.inr hz) hm
        · exact h2 z hm z hz rfl
theorem apartG_at : ∀ (l : List LAH) (met : List Int) (z : Int), apartG l met = some z → ∃ a ∈ l, z = a.at_
  | [], met, z, h => by simp [apartG] at h
  | a :: l, met, z, h => by
    unfold apartG at h
    split at h
    · cases h; exact ⟨a, by simp, rfl⟩
    · obtain ⟨b, hb, e⟩ := apartG_at l _ z h
      exact ⟨b, by simp [hb], e⟩
def bindsT (t : AT) : List Int := bindsG (Rose.nodes t)
theorem apartP_none (t : AT) : apartP t = none ↔ (bindsT t).Nodup := by
  unfold apartP bindsT
  rw [apartG_none]
  simp
def wrapN (rho : Int) : LAH := ⟨17, 0, 0, 0, ⟨#[]⟩, ⟨#[]⟩, ⟨#[]⟩, rho, [], [], tZero, tZero⟩
def wrapA (rho : Int) (t : AT) : AT := .node (wrapN rho) [t]
theorem wraps_binds (rho : Int) (t : AT) : bindsT (wrapA rho t) = rho :: bindsT t := by
  unfold bindsT wrapA
  rw [Rose.nodes_node]
  simp [bindsG, wrapN, bindsR]
theorem withoutL_none {l : List Atom} {r : Int} (hc : mayB l = true) (h : ∀ z ∈ rhosOf l, z ≠ r) : withoutL l [r] = l := by
  unfold withoutL
  have e : sortA (l.filter atomB) = l := effL_can hc
  rw [e, List.filter_eq_self]
  intro x hx
  have hat := (mayB_atoms hc).2 x hx
  by_cases h3 : x.kind = 3
  · simp [goesR, h3]
  · have := h x.rho ((mem_rhosOf _ _).2 ⟨x, hx, hat, h3, rfl⟩)
    simp [goesR, h3, inN, Ne.symm this]
theorem wraps_plain {rho : Int} {t : AT} {x : TE} (hg : GoodT t) (hr : 1 ≤ rho) (h : checkA t = .ok x) (hn : rho ∉ bindsT t) : checkA (wrapA rho t) = .ok x := by
  obtain ⟨ha, hx⟩ := checkA_ok.1 h
  obtain ⟨o1, o2⟩ := outer_plain h
  have hgx := chk_good t [] [0] x hg (fun b hb => by cases hb) hx
  have hsz : x.1.size ≤ 500 := by
    cases t with
    | node a l => exact (chk_ok.1 hx).2
  rw [checkA_ok, apartP_none, wraps_binds, List.nodup_cons]
  refine ⟨⟨hn, (apartP_none t).1 ha⟩, ?_⟩
  unfold wrapA
  rw [chk_ok, found_ok]
  refine ⟨⟨?_, .inr (.inr ⟨by show (17 : Int) ≠ 2; decide, by show (17 : Int) ≠ 18; decide, [x], ?_, ?_⟩)⟩, hsz⟩
  · rw [regionsB_iff]
    refine ⟨.inl rfl, fun _ z hz => by simp [wrapN] at hz, fun z hz => by simp [wrapN, rhosOf, sortR] at hz, fun z hz => .inl ?_⟩
    have : z = 0 := by simpa [wrapN, gath_tZero] using hz
    subst this; simp
  · have := chkL_of (env := []) (rhos := [0]) (a := wrapN rho) [t] 0 [] [x] rfl (fun j u hu => by
      cases j with
      | succ j => simp at hu
      | zero =>
        simp at hu; subst hu
        refine ⟨x, rfl, ?_⟩
        exact chk_mono t _ [0] _ x (fun z hz => (innerR_mem _ _ _ _).2 (.inl hz)) hx)
    exact this
  · rw [ruleP_ok]
    have hr2 : RuleOk (wrapN rho) [x] (([x].getD 0 dTE).1, withoutL ([x].getD 0 dTE).2 [(wrapN rho).rho]) := .region rfl (by
      rw [← Bool.not_eq_true, inN_mem', mem_sortI]
      intro hz
      have : (wrapN rho).rho = 0 := o1 _ hz
      have : rho = 0 := this
      omega)
    have e : withoutL x.2 [rho] = x.2 := withoutL_none hgx.can (fun z hz e => by have := o2 z hz; omega)
    have e2 : (([x].getD 0 dTE).1, withoutL ([x].getD 0 dTE).2 [(wrapN rho).rho]) = x := by
      show (x.1, withoutL x.2 [rho]) = x
      rw [e]
    rw [e2] at hr2
    exact hr2
theorem good_at {t : AT} (h : GoodT t) : ∀ a ∈ Rose.nodes t, 0 ≤ a.at_ := by
  refine Rose.ind (P := fun (t : AT) => GoodT t → ∀ a ∈ Rose.nodes t, 0 ≤ a.at_) (fun a l ih h x hx => ?_) t h
  rw [Rose.nodes_node, List.mem_cons, List.mem_flatten] at hx
  rcases hx with rfl | ⟨m, hm, hx⟩
  · exact h.head.at0
  · obtain ⟨u, hu, rfl⟩ := List.mem_map.1 hm
    exact ih u hu (h.kid u hu) x hx
theorem wraps_bound {rho : Int} {t : AT} (hg : GoodT t) (hb : rho ∈ bindsT t) : ∃ z, 0 ≤ z ∧ checkA (wrapA rho t) = .error (z, 6) := by
  unfold checkA
  cases h : apartP (wrapA rho t) with
  | none =>
    rw [apartP_none, wraps_binds, List.nodup_cons] at h
    exact absurd hb h.1
  | some z =>
    refine ⟨z, ?_, rfl⟩
    obtain ⟨a, ha, rfl⟩ := apartG_at _ _ _ h
    unfold wrapA at ha
    rw [Rose.nodes_node, List.mem_cons] at ha
    rcases ha with rfl | ha
    · exact Int.le_refl 0
    · exact good_at hg a (by simpa using ha)
end
section
open Go.RowKit
theorem mayA_node (a : AH) (l : List PA) : mayA (.node a l) = (node13 a && l.all mayA) := by
  unfold mayA
  rw [Rose.nodes_node, List.all_cons, List.all_flatten, List.all_map]
  rfl
theorem region_node (r : Int) (kp : Option Addr) (h1 : 1 ≤ r) : node13 (mkA 17 0 r kp 1 1) = true := by
  have e1 : decide (r < 0) = false := by simp; omega
  have e2 : (r == 0) = false := by simp; omega
  unfold node13
  show (!(!(headB _ 1) || decide (r < 0) || ((17 : Int) == 17 && (r == 0)) || _) && _ && _ && _ && _ && _) = true
  rw [e1, e2]
  kernel_rfl
theorem region_may (r : Int) (kp : Option Addr) (t : PA) (h1 : 1 ≤ r) : mayA (.node (mkA 17 0 r kp 1 1) [t]) = mayA t := by
  rw [mayA_node, region_node r kp h1]
  simp
end
section
open Go.RowKit
theorem same_er {x y : PT} (h : PT.er x = PT.er y) : sameP x y = true := by
  have e := sameP_refl y
  unfold sameP at e ⊢
  rw [h]; exact e
end
section
open Go.RowKit
theorem ref_Equal_rowC {p : Option Addr} {n cap : Nat} {l : List Atom} {q : Option Addr} {m mc : Nat} {w : World} (hr : IsRow encA 3 w p n cap l) (hr' : IsRow encA 3 w q m mc l) :
    Calls Tryz.prog 14 #[.slice p n cap, .slice q m mc] w fun e w' => e = .returned (.bool true) ∧ Below w.heap.size w w' := by
  refine (ref_Equal_any p n cap l q m mc l w hr.len hr.max hr.row hr'.len hr'.max hr'.row).mono ?_
  rintro e w' ⟨rfl, j, rfl⟩
  exact ⟨by simp [eqL], below_drewN (Below.refl _ _) _⟩
end
section
open Go.RowKit
set_option maxHeartbeats 4000000 in
theorem ref13_Own_any (a : AH) {w : World} (hr : IsRow encN 1 w a.rp a.rn a.rc a.rhos) :
    Calls Tryz.prog 47 #[aggT a] w fun e w' => ∃ p n c, e = .returned (.slice p n c) ∧ IsRow encN 1 w' p n c (bindsR a.plain) ∧ Below w.heap.size w w' := by
  have HR := hid hr
  have HB := hid (boxA_new w a)
  have HB1 : Hid (Below w.heap.size w (w.alloc (boxA a))) := (Below.refl _ _).alloc (Nat.le_refl _) _
  have c0 := HB.out.c 0 _ rfl
  have c7 := HB.out.c 7 _ rfl
  have c8 := HB.out.c 8 _ rfl
  clear hr
  by_cases h17 : a.kind = 17
  · have e17 : (a.kind == 17) = true := by simp [h17]
    have HQ : Hid (bindsR a.plain = [a.rho]) := by
      show _ = _
      unfold bindsR
      rw [if_pos (show a.plain.kind = 17 from h17)]; rfl
    clear h17
    go_enter Tryz.func47, Tryz.ntmps47
    go_wp2_with fail
    go_ret
    exact ⟨_, _, _, rfl, by rw [HQ.out]; have h := row_made encN_len (by omega) (w.alloc (boxA a)) 3 [a.rho] 1 _ rfl rfl (by decide); rw [World.size_alloc] at h; exact h, bel_alloc HB1.out _⟩
  · have e17 : (a.kind == 17) = false := by simp [h17]
    by_cases h13 : a.kind = 13
    · have e13 : (a.kind == 13) = true := by simp [h13]
      have HQ : Hid (bindsR a.plain = a.rhos) := by
        show _ = _
        unfold bindsR
        rw [if_neg (show ¬ a.plain.kind = 17 from h17), if_pos (show a.plain.kind = 13 from h13)]; rfl
      clear h17 h13
      go_enter Tryz.func47, Tryz.ntmps47
      go_wp2_with fail
      go_ret
      exact ⟨_, _, _, rfl, by rw [HQ.out]; exact HR.out.below HB1.out, HB1.out⟩
    · have e13 : (a.kind == 13) = false := by simp [h13]
      have HQ : Hid (bindsR a.plain = []) := by
        show _ = _
        unfold bindsR
        rw [if_neg (show ¬ a.plain.kind = 17 from h17), if_neg (show ¬ a.plain.kind = 13 from h13)]
      clear h17 h13
      go_enter Tryz.func47, Tryz.ntmps47
      go_wp2_with fail
      go_ret
      exact ⟨_, 0, 0, rfl, by rw [HQ.out]; exact ⟨rfl, by decide, Nat.le_refl _, fun h => rfl, .inl rfl⟩, bel_alloc HB1.out _⟩
theorem bindsA_len {l : List AH} (h : ∀ a ∈ l, a.rhos.length ≤ 50) : (bindsA l).length ≤ 50 * l.length := by
  induction l with
  | nil => simp [bindsA]
  | cons a l ih =>
    have h1 := ih (fun x hx => h x (by simp [hx]))
    have h2 := bindsR_len (h a (by simp)) (by decide)
    simp only [bindsA, List.flatMap_cons, List.length_append, List.length_cons] at h1 ⊢
    omega
theorem bindsA_t (t : PA) : bindsA (Rose.nodes t) = bindsT (PA.er t) := by
  unfold bindsA bindsT bindsG
  rw [nodes_mapA, List.flatMap_map]
set_option maxHeartbeats 8000000 in
theorem ref13_Binds_any {t : PA} {w : World} (hl : LA.lies w t) (hs : SmallNs t) (hz : t.size ≤ 1000) :
    Calls Tryz.prog 22 #[aggT t.head] w fun e w' => ∃ p n c, e = .returned (.slice p n c) ∧ IsRow encN 1 w' p n c (bindsT (PA.er t)) ∧ Below w.heap.size w w' := by
  have HBX := hid (boxA_new w t.head)
  have HL := hid hl
  have HOW := hid (nodes_ownA hl)
  have HS := hid hs
  have hln := nodes_length t
  have hb1 : Below w.heap.size w ((w.alloc (boxA t.head)).alloc (.cells #[] 3)) := ((Below.refl _ _).alloc (Nat.le_refl _) _).alloc (by simp) _
  have HB1 := hid hb1
  have HBX1 := hid (HBX.out.below ((Below.refl _ _).alloc (Nat.le_refl _) (.cells #[] 3)))
  have HO1 := hid (OwnE.lit encN (w.alloc (boxA t.head)) (w.heap.size + 1) 3 1 (by simp))
  have hsz1 : (w.alloc (boxA t.head)).heap.size = w.heap.size + 1 := by simp
  have hsz2 : ((w.alloc (boxA t.head)).alloc (.cells #[] 3)).heap.size = w.heap.size + 2 := by simp
  have HSZ2 := hid hsz2
  rw [hsz1] at HO1
  have HZ := hid hz
  have HLN := hid hln
  clear hl hs hb1 hsz1 hsz2 hz hln
  go_enter Tryz.func22, Tryz.ntmps22
  go_upto_region 2 with fail
  generalize ((w.alloc (boxA t.head)).alloc (.cells #[] 3)) = W1 at *
  go_upto_region 3 with (first
    | (refine wpList_load_row rfl 31 _ rfl w.heap.size rfl 31 _ (0, 0) _ HBX1.out.blk Tryz.underlying31 rfl (by kernel_rfl) ?_)
    | (go_at_call 26; refine (allAt_any t _ (LA.lies_below HB1.out t HL.out) HZ.out).mono ?_; rintro e w2 ⟨⟨p2, c2, rfl, hown2⟩, hb⟩; have HB2 := hid (HB1.out.trans (hb.mono HB1.out.size)); have HO2 := hid (HO1.out.below hb); have HBC := hid hb; have HN2 := hid hown2; clear hb hown2))
  obtain ⟨q2, cc2, hv2, hrow2⟩ := OwnE.isRow encAH_len (by omega) HN2.out
  cases hv2
  have HROW := hid hrow2
  have HFR : Hid (∀ b : Addr, p2 = some b → W1.heap.size ≤ b.block ∧ b.block < w2.heap.size) := fun b e => World.ownsRow.lt HN2.out b.block (by rw [e]; rfl)
  have hlen := HROW.out.len
  have HSW : Hid (w.heap.size + 1 ≤ w2.heap.size) := by have h1 := HSZ2.out; have h2 := HBC.out.size; show _ ≤ _; omega
  clear hrow2
  go_wp2_with fail
  go_loopw [3, 5, 11] (fun u _ i wr => ∃ k : Nat, k ≤ t.size ∧ i = .int .i64 k ∧ BnI w W1 w2 p2 t.size c2 (Rose.nodes t) u k wr) (fun _ _ i _ => t.size - (intOf i).toNat)
  case atStart => exact ⟨0, Nat.zero_le _, rfl, ⟨HO2.out, fun b e => by have h1 := HSZ2.out; have h2 : w.heap.size + 1 = b := Option.some.inj e; exact .inl (by omega), HROW.out, HB2.out, Nat.le_refl _⟩⟩
  case round =>
    obtain ⟨k, hk, rfl, hbn⟩ := hrel
    have HBN := hid hbn
    clear hbn
    by_cases hlt : k < t.size
    · obtain ⟨x, hx⟩ : ∃ x, (Rose.nodes t)[k]? = some x := get_of_lt (by rw [hlen]; exact hlt)
      obtain ⟨b, o, hbo, hbl, hcs⟩ := HBN.out.row.row.elem hx
      subst hbo
      have hxm := List.mem_of_getElem? hx
      have HX := hid hx
      have HCS := hid (show ∀ i v, (encAH x)[i]? = some v → wr.cell? ⟨b, o + k * 19 + i, none⟩ = some v from hcs)
      have HRH := hid ((HOW.out x hxm).rhos.below (Below.mono HBN.out.below (Nat.le_refl _)))
      have hacc := bindsA_len (l := (Rose.nodes t).take k) (fun a ha => by have h1 := (HOW.out a (List.mem_of_mem_take ha)).rhos.len; have h2 := (HS.out a (List.mem_of_mem_take ha)).rhos; omega)
      have hxl := bindsR_len (a := x) (n := 50) (by have h1 := (HOW.out x hxm).rhos.len; have h2 := (HS.out x hxm).rhos; omega) (by decide)
      rw [List.length_take] at hacc
      have hzz := HZ.out
      clear hx hbl hcs hxm
      go_wp2_with (first
        | (refine wpList_load_mid rfl 31 _ rfl b (o + k * 19) rfl (encAH x) _ HCS.out Tryz.underlying31 rfl (by kernel_rfl) ?_)
        | (go_at_call 47; refine (ref13_Own_any x HRH.out).mono ?_; rintro e w3 ⟨p3, n3, c3, rfl, hrow3, hb3⟩; have HR3 := hid hrow3; have hn3 := hrow3.len; have HBN3 := hid (HBN.out.step hb3); have hsz3 := HBN3.out.below.size; clear hrow3 hb3)
        | (at_builtin; refine wpList_appendF rfl _ _ 24 rfl (w.heap.size + 1) 3 _ 1 8 Tryz.underlying24 infoN rfl (by decide) encN encN_len encN_one (bindsR x.plain) (bindsA ((Rose.nodes t).take k)) (bindsA ((Rose.nodes t).take k)).length _ HBN3.out.own _ n3 _ rfl rfl hn3 HR3.out.nil HR3.out.row (by omega) (by omega) (HBN3.out.base HSW.out) ?_; intro v4 w4 hown4 hg4 hf4; have HBN4 := hid (HBN3.out.add HFR.out HX.out hn3 hown4 hg4 hf4); clear hown4 hg4 hf4))
      go_roundw
      case rel => exact ⟨k + 1, by omega, by go_num, HBN4.out⟩
      case measure => simp [intOf]; omega
    · have hkn : k = t.size := by omega
      subst hkn
      have hown := HBN.out.own
      rw [List.take_of_length_le (by omega), bindsA_t] at hown
      obtain ⟨p5, c5, rfl, hrow5⟩ := OwnE.isRow encN_len (by omega) hown
      have HR5 := hid hrow5
      clear hown hrow5
      go_wp2_with fail
      go_ret
      exact ⟨_, _, _, rfl, HR5.out, HBN.out.below⟩
end
end Go.Proofs.YtkdjnegfnhldpaaGreatDoor
