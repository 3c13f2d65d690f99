/- Part 37 of the texts: RtS, Qn, Qs, Sa0. -/
import Derived.Test.YtdlbjngpohkglaaGreatDoorG14
import Derived.Test.YtdlbjngpohkglaaGreatDoorShelf
import Derived.WalkKit
import Derived.Laws.StructEq
import Derived.Test.YtdlbjngpohkglaaGreatDoorG36
import Derived.Test.YtdlbjngpohkglaaGreatDoorG34
import Derived.Test.YtdlbjngpohkglaaGreatDoorG09
import Derived.Test.YtdlbjngpohkglaaGreatDoorG24
import Derived.Deep.RegionHeld3
section
set_option linter.unusedVariables false
set_option maxRecDepth 100000
set_option linter.unusedSimpArgs false
namespace Go.Proofs.YtdlbjngpohkglaaGreatDoor
open Go.RowKit Go.Sort Go.Lib

/-- are two nodes the same? -/
def sameH (a b : LH) : Bool := decide (a.kind = b.kind) && decide (a.rho = b.rho) && (withinB a.eff b.eff && withinB b.eff a.eff)
def sameP (x y : PT) : Bool := Rose.same sameH x.er y.er
def sameK (l m : List PT) : Bool := Rose.sameL sameH (l.map PT.er) (m.map PT.er)
theorem sameP_node (a b : RH) (l m : List PT) : sameP (.node a l) (.node b m) = (sameH a.plain b.plain && sameK l m) := by
  unfold sameP
  rw [PT.er_node, PT.er_node, Rose.same_node]; rfl
theorem sameK_true {l m : List PT} (hl : l.length = m.length) (h : ∀ (j : Nat) (x y : PT), l[j]? = some x → m[j]? = some y → sameP x y = true) : sameK l m = true := by
  unfold sameK
  rw [Rose.sameL_get]
  refine ⟨by simp [hl], fun j t u ht hu => ?_⟩
  rw [List.getElem?_map] at ht hu
  obtain ⟨x, hx, rfl⟩ := Option.map_eq_some_iff.1 ht
  obtain ⟨y, hy, rfl⟩ := Option.map_eq_some_iff.1 hu
  exact h j x y hx hy
theorem sameK_len {l m : List PT} (hl : l.length ≠ m.length) : sameK l m = false := by
  rw [Bool.eq_false_iff]
  intro h
  exact hl (by simpa using Rose.sameL_length _ _ _ h)
theorem sameK_false {l m : List PT} {j : Nat} {x y : PT} (hx : l[j]? = some x) (hy : m[j]? = some y) (h : sameP x y = false) : sameK l m = false := by
  rw [Bool.eq_false_iff]
  intro hs
  unfold sameK at hs
  rw [Rose.sameL_get] at hs
  have := hs.2 j x.er y.er (by rw [List.getElem?_map, hx]; rfl) (by rw [List.getElem?_map, hy]; rfl)
  unfold sameP at h
  rw [h] at this; cases this
theorem sameH_refl (a : LH) : sameH a a = true := by simp [sameH, withinB_refl]
theorem sameH_symm (a b : LH) : sameH a b = sameH b a := by
  unfold sameH
  rw [Bool.and_comm (withinB a.eff b.eff)]
  congr 1
  congr 1
  · exact decide_eq_decide.2 eq_comm
  · exact decide_eq_decide.2 eq_comm
theorem sameP_refl (x : PT) : sameP x x = true := by
  refine Rose.ind (P := fun (x : PT) => sameP x x = true) (fun a l ih => ?_) x
  rw [sameP_node, sameH_refl, Bool.true_and]
  refine sameK_true rfl (fun j x y hx hy => ?_)
  rw [hx] at hy; cases hy
  exact ih x (List.mem_of_getElem? hx)
theorem bool_ext {a b : Bool} (h : a = true → b = true) (h' : b = true → a = true) : a = b := by
  cases a <;> cases b <;> simp_all
theorem sameP_symm (x : PT) : ∀ y, sameP x y = sameP y x := by
  refine Rose.ind (P := fun (x : PT) => ∀ y, sameP x y = sameP y x) (fun a l ih y => ?_) x
  obtain ⟨b, m⟩ := y
  rw [sameP_node, sameP_node, sameH_symm]
  congr 1
  by_cases hl : l.length = m.length
  · refine bool_ext (fun h => ?_) (fun h => ?_)
    · refine sameK_true hl.symm (fun j x y hx hy => ?_)
      cases hq : sameP x y
      · have : sameP y x = false := by rw [ih y (List.mem_of_getElem? hy)]; exact hq
        rw [sameK_false hy hx this] at h; cases h
      · rfl
    · refine sameK_true hl (fun j x y hx hy => ?_)
      cases hq : sameP x y
      · have : sameP y x = false := by rw [← ih x (List.mem_of_getElem? hx)]; exact hq
        rw [sameK_false hy hx this] at h; cases h
      · rfl
  · rw [sameK_len hl, sameK_len (Ne.symm hl)]

/-- the function answers so, in all worlds behind w -/
def PredT2 (fid : FuncId) (w : World) (l m : List PT) : Prop :=
  ∀ x ∈ l, ∀ y ∈ m, ∀ r, sameP x y = r → ∀ W, Below w.heap.size w W → Calls Tryz.prog fid #[aggR x.head, aggR y.head] W fun e w' => e = .returned (.bool r) ∧ Below W.heap.size W w'

theorem ref_Within_is {p : Option Addr} {n cap : Nat} {l : List Atom} {q : Option Addr} {m mc : Nat} {l' : List Atom} {w : World} {r : Bool} (h : withinB l l' = r) (hr : IsRow encA 3 w p n cap l) (hr' : IsRow encA 3 w q m mc l') :
    Calls Tryz.prog 26 #[.slice p n cap, .slice q m mc] w fun e w' => e = .returned (.bool r) ∧ Below w.heap.size w w' := by
  subst h; exact ref_Within_any p n cap l q m mc l' w hr.len hr.max hr.row hr'.len hr'.max hr'.row
/-- two boxes -/
theorem boxes_cells {w w1 : World} {a b : RH} (hb : Below (w.heap.size + 2) ((w.alloc (.cells #[.int .u8 a.kind, .int .i64 a.rho, .slice a.ep a.en a.ec, .slice a.kp a.kn a.kc] 28)).alloc (.cells #[.int .u8 b.kind, .int .i64 b.rho, .slice b.ep b.en b.ec, .slice b.kp b.kn b.kc] 28)) w1) :
    (w1.cell? ⟨w.heap.size, 0, none⟩ = some (.int .u8 a.kind) ∧ w1.cell? ⟨w.heap.size, 1, none⟩ = some (.int .i64 a.rho) ∧ w1.cell? ⟨w.heap.size, 2, none⟩ = some (.slice a.ep a.en a.ec) ∧ w1.cell? ⟨w.heap.size, 3, none⟩ = some (.slice a.kp a.kn a.kc)) ∧
    (w1.cell? ⟨w.heap.size + 1, 0, none⟩ = some (.int .u8 b.kind) ∧ w1.cell? ⟨w.heap.size + 1, 1, none⟩ = some (.int .i64 b.rho) ∧ w1.cell? ⟨w.heap.size + 1, 2, none⟩ = some (.slice b.ep b.en b.ec) ∧ w1.cell? ⟨w.heap.size + 1, 3, none⟩ = some (.slice b.kp b.kn b.kc)) := by
  refine ⟨⟨?_, ?_, ?_, ?_⟩, ?_, ?_, ?_, ?_⟩ <;> (rw [hb.cell (by simp)]; go_simp)
abbrev boxes (w : World) (a b : RH) : World := (w.alloc (.cells #[.int .u8 a.kind, .int .i64 a.rho, .slice a.ep a.en a.ec, .slice a.kp a.kn a.kc] 28)).alloc (.cells #[.int .u8 b.kind, .int .i64 b.rho, .slice b.ep b.en b.ec, .slice b.kp b.kn b.kc] 28)
theorem boxes_below (w : World) (a b : RH) : Below w.heap.size w (boxes w a b) := ((Below.refl w.heap.size w).alloc (Nat.le_refl _) _).alloc (by simp) _

/-- what the reference's Same answers -/
def RSameAt (x y : PT) (W : World) : Prop := ∀ r, sameP x y = r → Calls Tryz.prog 27 #[aggR x.head, aggR y.head] W fun e w' => e = .returned (.bool r) ∧ Below W.heap.size W w'
set_option maxHeartbeats 4000000 in
theorem ref_Same12_of {a b : RH} {l m : List PT} {w : World} (ha : NodeIn w a l) (hb : NodeIn w b m) (hf : ∀ x ∈ l, ∀ y ∈ m, ∀ W, Below w.heap.size w W → RSameAt x y W) {r : Bool} (hrr : sameP (.node a l) (.node b m) = r) :
    Calls Tryz.prog 27 #[aggR a, aggR b] w fun e w' => e = .returned (.bool r) ∧ Below w.heap.size w w' := by
  have HBX := Lib.hid (boxes_below w a b)
  have HNA := Lib.hid ha
  have HNB := Lib.hid hb
  have HF := Lib.hid hf
  have HP := Lib.hid (sameP_node a b l m)
  have HRR := Lib.hid hrr
  have hla := ha.kids.len
  have hlb := hb.kids.len
  have hma := ha.own.kmax
  have hmb := hb.own.kmax
  clear ha hb hf hrr
  by_cases h1 : a.kind = b.kind
  · have b1 : (a.kind != b.kind) = false := by simpa using h1
    by_cases h2 : a.rho = b.rho
    · have b2 : (a.rho != b.rho) = false := by simpa using h2
      by_cases hn : a.kn = b.kn
      · have b3 : ((a.kn : Int) != (b.kn : Int)) = false := by rw [hn]; simp
        have HNK := Lib.hid hn
        clear hn
        cases h3 : withinB a.eff b.eff
        · have HS : Hid (r = false) := by show _ = _; rw [← HRR.out, HP.out]; simp [sameH, RH.plain, h3]
          have H3 := Lib.hid h3
          clear h1 h2 h3
          go_enter Tryz.func27, Tryz.ntmps27
          go_wp2_with fail
          refine (ref_Within_is H3.out (HNA.out.below HBX.out).own.eff (HNB.out.below HBX.out).own.eff).mono ?_
          rintro e w1 ⟨rfl, hb⟩
          have HB1 := Lib.hid (HBX.out.trans (hb.mono HBX.out.size))
          clear hb
          go_wp2_with fail
          go_ret
          exact ⟨ret_bool HS.out.symm, HB1.out⟩
        · have H3 := Lib.hid h3
          cases h4 : withinB b.eff a.eff
          · have HS : Hid (r = false) := by show _ = _; rw [← HRR.out, HP.out]; simp [sameH, RH.plain, h4]
            have H4 := Lib.hid h4
            clear h1 h2 h3 h4
            go_enter Tryz.func27, Tryz.ntmps27
            go_wp2_with fail
            refine (ref_Within_is H3.out (HNA.out.below HBX.out).own.eff (HNB.out.below HBX.out).own.eff).mono ?_
            rintro e w1 ⟨rfl, hb⟩
            have HB1 := Lib.hid (HBX.out.trans (hb.mono HBX.out.size))
            have HC : Hid (Below (w.heap.size + 2) (boxes w a b) w1) := by show Below _ _ _; simpa using hb
            clear hb
            obtain ⟨⟨d0, d1, d2, d3⟩, e0, e1, e2, e3⟩ := boxes_cells HC.out
            go_wp2_with fail
            refine (ref_Within_is H4.out (HNB.out.below HB1.out).own.eff (HNA.out.below HB1.out).own.eff).mono ?_
            rintro e w2 ⟨rfl, hb⟩
            have HB2 := Lib.hid (HB1.out.trans (hb.mono HB1.out.size))
            clear hb d0 d1 d2 d3 e0 e1 e2 e3
            go_wp2_with fail
            go_ret
            exact ⟨ret_bool HS.out.symm, HB2.out⟩
          · have HS : Hid (r = sameK l m) := by show _ = _; rw [← HRR.out, HP.out]; simp only [sameH, RH.plain, h1, h2, h3, h4, decide_true, Bool.true_and]
            have H4 := Lib.hid h4
            clear h1 h2 h3 h4
            go_enter Tryz.func27, Tryz.ntmps27
            go_wp2_with fail
            refine (ref_Within_is H3.out (HNA.out.below HBX.out).own.eff (HNB.out.below HBX.out).own.eff).mono ?_
            rintro e w1 ⟨rfl, hb⟩
            have HB1 := Lib.hid (HBX.out.trans (hb.mono HBX.out.size))
            have HC : Hid (Below (w.heap.size + 2) (boxes w a b) w1) := by show Below _ _ _; simpa using hb
            clear hb
            obtain ⟨⟨d0, d1, d2, d3⟩, e0, e1, e2, e3⟩ := boxes_cells HC.out
            go_wp2_with fail
            refine (ref_Within_is H4.out (HNB.out.below HB1.out).own.eff (HNA.out.below HB1.out).own.eff).mono ?_
            rintro e w2 ⟨rfl, hb⟩
            have HB2 := Lib.hid (HB1.out.trans (hb.mono HB1.out.size))
            have HC2 := Lib.hid (HC.out.trans (hb.mono (by have := HC.out.size; simpa using this)))
            clear hb d0 d1 d2 d3 e0 e1 e2 e3
            obtain ⟨⟨d0, d1, d2, d3⟩, e0, e1, e2, e3⟩ := boxes_cells HC2.out
            go_wp2_with fail
            clear d0 d1 d2 d3 e0 e1 e2 e3
            go_loopw [5, 46] (fun _ i wr => ∃ k : Nat, k ≤ a.kn ∧ i = .int .i64 k ∧ (∀ (j : Nat) (x y : PT), j < k → l[j]? = some x → m[j]? = some y → sameP x y = true) ∧ Below w2.heap.size w2 wr) (fun _ i _ => a.kn - (intOf i).toNat)
            case atStart => exact ⟨0, by omega, rfl, fun j x y hj => by omega, Below.refl _ _⟩
            case round =>
              obtain ⟨k, hk, rfl, hno, hb⟩ := hrel
              have HNO := Lib.hid hno
              have HB := Lib.hid hb
              clear hno hb
              have HBW := Lib.hid (HB2.out.trans (HB.out.mono HB2.out.size))
              have HCW := Lib.hid (HC2.out.trans (HB.out.mono (by have := HC2.out.size; simpa using this)))
              by_cases hlt : k < a.kn
              · obtain ⟨x, hx⟩ := HNA.out.rowT.at (j := k) hlt
                have hltb : k < b.kn := by have := HNK.out; omega
                obtain ⟨y, hy⟩ := HNB.out.rowT.at (j := k) hltb
                have HX := Lib.hid hx
                have HY := Lib.hid hy
                obtain ⟨g, o, hbo, hbl, d0, d1, d2, d3⟩ := (HNA.out.rowT.below HBW.out).kid hx
                obtain ⟨g', o', hbo', hbl', e0, e1, e2, e3⟩ := (HNB.out.rowT.below HBW.out).kid hy
                obtain ⟨⟨_, _, _, c3⟩, _, _, _, c3'⟩ := boxes_cells HCW.out
                rw [hbo] at c3
                rw [hbo'] at c3'
                have i0 : (0 : Int) ≤ (k : Int) := by omega
                have i1 : (k : Int) < (a.kn : Int) := by omega
                have i2 : (k : Int) < (b.kn : Int) := by omega
                have HSS : Hid (∀ W, Below wr.heap.size wr W → W.cell? ⟨w.heap.size, 3, none⟩ = some (.slice (some ⟨g, o, none⟩) a.kn a.kc) ∧ W.cell? ⟨w.heap.size + 1, 3, none⟩ = some (.slice (some ⟨g', o', none⟩) b.kn b.kc) ∧ W.cell? ⟨g, o + k * 4, none⟩ = some (.int .u8 x.head.kind) ∧ W.cell? ⟨g, o + k * 4 + 1, none⟩ = some (.int .i64 x.head.rho) ∧ W.cell? ⟨g, o + k * 4 + 2, none⟩ = some (.slice x.head.ep x.head.en x.head.ec) ∧ W.cell? ⟨g, o + k * 4 + 3, none⟩ = some (.slice x.head.kp x.head.kn x.head.kc) ∧
                    W.cell? ⟨g', o' + k * 4, none⟩ = some (.int .u8 y.head.kind) ∧ W.cell? ⟨g', o' + k * 4 + 1, none⟩ = some (.int .i64 y.head.rho) ∧ W.cell? ⟨g', o' + k * 4 + 2, none⟩ = some (.slice y.head.ep y.head.en y.head.ec) ∧ W.cell? ⟨g', o' + k * 4 + 3, none⟩ = some (.slice y.head.kp y.head.kn y.head.kc) ∧ Below wr.heap.size wr W) := fun W h =>
                  ⟨by rw [h.cell (cell_block c3)]; exact c3, by rw [h.cell (cell_block c3')]; exact c3', by rw [h.cell hbl]; exact d0, by rw [h.cell hbl]; exact d1, by rw [h.cell hbl]; exact d2, by rw [h.cell hbl]; exact d3, by rw [h.cell hbl']; exact e0, by rw [h.cell hbl']; exact e1, by rw [h.cell hbl']; exact e2, by rw [h.cell hbl']; exact e3, h⟩
                clear hx hy hbo hbo' hbl hbl' c3 c3' d0 d1 d2 d3 e0 e1 e2 e3
                cases hq : sameP x y
                · have HQ := Lib.hid hq
                  clear hq
                  go_wp2_with fail
                  go_region_held3 (fun W => W.cell? ⟨w.heap.size, 3, none⟩ = some (.slice (some ⟨g, o, none⟩) a.kn a.kc) ∧ W.cell? ⟨w.heap.size + 1, 3, none⟩ = some (.slice (some ⟨g', o', none⟩) b.kn b.kc) ∧ W.cell? ⟨g, o + k * 4, none⟩ = some (.int .u8 x.head.kind) ∧ W.cell? ⟨g, o + k * 4 + 1, none⟩ = some (.int .i64 x.head.rho) ∧ W.cell? ⟨g, o + k * 4 + 2, none⟩ = some (.slice x.head.ep x.head.en x.head.ec) ∧ W.cell? ⟨g, o + k * 4 + 3, none⟩ = some (.slice x.head.kp x.head.kn x.head.kc) ∧
                      W.cell? ⟨g', o' + k * 4, none⟩ = some (.int .u8 y.head.kind) ∧ W.cell? ⟨g', o' + k * 4 + 1, none⟩ = some (.int .i64 y.head.rho) ∧ W.cell? ⟨g', o' + k * 4 + 2, none⟩ = some (.slice y.head.ep y.head.en y.head.ec) ∧ W.cell? ⟨g', o' + k * 4 + 3, none⟩ = some (.slice y.head.kp y.head.kn y.head.kc) ∧ Below wr.heap.size wr W)
                    (first
                      | exact HSS.out _ (bel_drew _)
                      | exact HSS.out _ hZ)
                    ((go_at_call 27; refine (HF.out x (List.mem_of_getElem? HX.out) y (List.mem_of_getElem? HY.out) _ (HBW.out.trans (Below.mono (by go_split_ands; assumption) HBW.out.size)) _ HQ.out).mono ?_; rintro e w8 ⟨rfl, hb8⟩; have hZ := bel_step (w0 := wr) (by go_split_ands; assumption) hb8))
                  rename_i hH
                  clear hH hb8
                  have hb8 := hZ
                  clear hZ
                  have HB3 := Lib.hid (HBW.out.trans (hb8.mono HBW.out.size))
                  go_wp2_with fail
                  go_ret
                  exact ⟨ret_bool (by rw [HS.out]; exact (sameK_false HX.out HY.out HQ.out).symm), HB3.out⟩
                · have HQ := Lib.hid hq
                  clear hq
                  go_wp2_with fail
                  go_region_held3 (fun W => W.cell? ⟨w.heap.size, 3, none⟩ = some (.slice (some ⟨g, o, none⟩) a.kn a.kc) ∧ W.cell? ⟨w.heap.size + 1, 3, none⟩ = some (.slice (some ⟨g', o', none⟩) b.kn b.kc) ∧ W.cell? ⟨g, o + k * 4, none⟩ = some (.int .u8 x.head.kind) ∧ W.cell? ⟨g, o + k * 4 + 1, none⟩ = some (.int .i64 x.head.rho) ∧ W.cell? ⟨g, o + k * 4 + 2, none⟩ = some (.slice x.head.ep x.head.en x.head.ec) ∧ W.cell? ⟨g, o + k * 4 + 3, none⟩ = some (.slice x.head.kp x.head.kn x.head.kc) ∧
                      W.cell? ⟨g', o' + k * 4, none⟩ = some (.int .u8 y.head.kind) ∧ W.cell? ⟨g', o' + k * 4 + 1, none⟩ = some (.int .i64 y.head.rho) ∧ W.cell? ⟨g', o' + k * 4 + 2, none⟩ = some (.slice y.head.ep y.head.en y.head.ec) ∧ W.cell? ⟨g', o' + k * 4 + 3, none⟩ = some (.slice y.head.kp y.head.kn y.head.kc) ∧ Below wr.heap.size wr W)
                    (first
                      | exact HSS.out _ (bel_drew _)
                      | exact HSS.out _ hZ)
                    ((go_at_call 27; refine (HF.out x (List.mem_of_getElem? HX.out) y (List.mem_of_getElem? HY.out) _ (HBW.out.trans (Below.mono (by go_split_ands; assumption) HBW.out.size)) _ HQ.out).mono ?_; rintro e w8 ⟨rfl, hb8⟩; have hZ := bel_step (w0 := wr) (by go_split_ands; assumption) hb8))
                  rename_i hH
                  clear hH hb8
                  have hb8 := hZ
                  clear hZ
                  have HB3 := Lib.hid (HBW.out.trans (hb8.mono HBW.out.size))
                  go_wp2_with fail
                  go_roundw
                  case rel =>
                    refine ⟨k + 1, by omega, by go_num, fun j x' y' hj hx' hy' => ?_, HB.out.trans (hb8.mono HB.out.size)⟩
                    by_cases hjk : j = k
                    · subst hjk
                      have h1 := HX.out; have h2 := HY.out
                      rw [hx'] at h1; rw [hy'] at h2
                      cases h1; cases h2
                      exact HQ.out
                    · exact HNO.out j x' y' (by omega) hx' hy'
                  case measure => simp [intOf]; omega
              · have hkn : k = a.kn := by omega
                have hs : Hid (sameK l m = true) := sameK_true (by have := HNK.out; omega) (fun j x y hx hy => HNO.out j x y (by have h1 := (List.getElem?_eq_some_iff.1 hx).1; omega) hx hy)
                clear hkn
                go_wp2_with fail
                go_ret
                exact ⟨ret_bool (by rw [HS.out, hs.out]), HBW.out⟩
      · have b3 : ((a.kn : Int) != (b.kn : Int)) = true := by rw [bne_iff_ne]; omega
        have HS : Hid (r = false) := by show _ = _; rw [← HRR.out, HP.out, sameK_len (by omega)]; simp
        clear h1 h2 hn
        go_enter Tryz.func27, Tryz.ntmps27
        go_wp2_with fail
        go_ret
        exact ⟨ret_bool HS.out.symm, HBX.out⟩
    · have b2 : (a.rho != b.rho) = true := by simpa using h2
      have HS : Hid (r = false) := by show _ = _; rw [← HRR.out, HP.out]; simp [sameH, RH.plain, h2]
      clear h1 h2
      go_enter Tryz.func27, Tryz.ntmps27
      go_wp2_with fail
      go_ret
      exact ⟨ret_bool HS.out.symm, HBX.out⟩
  · have b1 : (a.kind != b.kind) = true := by simpa using h1
    have HS : Hid (r = false) := by show _ = _; rw [← HRR.out, HP.out]; simp [sameH, RH.plain, h1]
    clear h1
    go_enter Tryz.func27, Tryz.ntmps27
    go_wp2_with fail
    go_ret
    exact ⟨ret_bool HS.out.symm, HBX.out⟩
theorem rsameAt_any (x : PT) : ∀ y w, LR.lies w x → LR.lies w y → RSameAt x y w := by
  refine Rose.ind (P := fun (x : PT) => ∀ y w, LR.lies w x → LR.lies w y → RSameAt x y w) (fun a l ih => ?_) x
  intro y w hx hy r hr
  obtain ⟨b, m⟩ := y
  have HX := nodeIn hx
  have HY := nodeIn hy
  exact ref_Same12_of HX HY (fun x hx y _ W hW => ih x hx y W (LR.lies_below hW x (HX.each x hx)) (LR.lies_below hW y (HY.each y (by assumption)))) hr
end Go.Proofs.YtdlbjngpohkglaaGreatDoor
end
section
set_option linter.unusedVariables false
set_option linter.unusedSimpArgs false
namespace Go.Proofs.YtdlbjngpohkglaaGreatDoor

theorem wpList_neq {P : Program} {ops : Array Oper} {rest : List Oper} {op : Oper} {a : Act} {w : World} {Q : Exit → Act → World → Prop} (hgd : op.guard = none) (t t' : TypeId) (x y : Operand) (ho : op.op = .binOp .neq t x y t')
    (xs ys : Array Value) (hx : a.eval x = .agg xs) (hy : a.eval y = .agg ys) (hm : P.eqGuardType P.depth t = false) (b : Bool) (hrun : (binOp .neq t (.agg xs) (.agg ys)).run P w = .ok (.bool b) w)
    (h : wpList P ops Q rest (a.put op.dst (.bool b)) w) : wpList P ops Q (op :: rest) a w := by
  refine wpList_plain hgd fun _ hK => ?_
  unfold Oper.wp execOp
  simp only [ho, hx, hy, Sem.run_bind, Sem.run_pure, run_eqGuard_agg _ _ _ _ _ _ _ hm, Result.andThen_ok, hrun]
  exact hK _ _ h
/-- filters: of what kind is the operation that comes up? -/
theorem isLoad {P : Program} {ops : Array Oper} {rest : List Oper} {d : Option Nat} {ty t : TypeId} {x : Operand} {p : String} {af : Array Edge} {g : Option (Nat × Bool)} {a : Act} {w : World} {Q : Exit → Act → World → Prop}
    (h : wpList P ops Q ({ dst := d, op := .load ty x, type := t, pos := p, after := af, guard := g } :: rest) a w) : wpList P ops Q ({ dst := d, op := .load ty x, type := t, pos := p, after := af, guard := g } :: rest) a w := h
theorem isCall {P : Program} {ops : Array Oper} {rest : List Oper} {d : Option Nat} {t : TypeId} {c : Call} {p : String} {af : Array Edge} {g : Option (Nat × Bool)} {a : Act} {w : World} {Q : Exit → Act → World → Prop}
    (h : wpList P ops Q ({ dst := d, op := .call c, type := t, pos := p, after := af, guard := g } :: rest) a w) : wpList P ops Q ({ dst := d, op := .call c, type := t, pos := p, after := af, guard := g } :: rest) a w := h
theorem isNeq {P : Program} {ops : Array Oper} {rest : List Oper} {d : Option Nat} {ty ty' t : TypeId} {x y : Operand} {p : String} {af : Array Edge} {g : Option (Nat × Bool)} {a : Act} {w : World} {Q : Exit → Act → World → Prop}
    (h : wpList P ops Q ({ dst := d, op := .binOp .neq ty x y ty', type := t, pos := p, after := af, guard := g } :: rest) a w) : wpList P ops Q ({ dst := d, op := .binOp .neq ty x y ty', type := t, pos := p, after := af, guard := g } :: rest) a w := h
end Go.Proofs.YtdlbjngpohkglaaGreatDoor
end
section
set_option linter.unusedVariables false
set_option linter.unusedSimpArgs false
namespace Go.Proofs.YtdlbjngpohkglaaGreatDoor

theorem wpList_skip {P : Program} {ops : Array Oper} {rest : List Oper} {op : Oper} {a : Act} {w : World} {Q : Exit → Act → World → Prop} (hw : Region.wanted op (yielded ops a.tmps) = false)
    (h : wpList P ops Q rest (a.put op.dst undef) w) : wpList P ops Q (op :: rest) a w := by
  unfold wpList
  rw [if_neg (by rw [hw]; simp)]
  exact h
end Go.Proofs.YtdlbjngpohkglaaGreatDoor
end
section
set_option linter.unusedVariables false
set_option maxRecDepth 100000
set_option linter.unusedSimpArgs false
namespace Go.Proofs.YtdlbjngpohkglaaGreatDoor
open Go.RowKit Go.Sort Go.Lib

/-- '==' of two heads -/
def hdB (x y : KH) : Bool := (x.kind == y.kind) && ((x.op == y.op) && ((x.at_ == y.at_) && ((x.n == y.n) && ((x.name.toList == y.name.toList) && ((x.arg.toList == y.arg.toList) && (x.exn.toList == y.exn.toList))))))
theorem run_neH (a b : AH) (w : World) : (binOp .neq 23 (.agg #[.int .u8 a.kind, .int .u8 a.op, .int .i64 a.at_, .int .i64 a.n, .string a.name, .string a.arg, .string a.exn]) (.agg #[.int .u8 b.kind, .int .u8 b.op, .int .i64 b.at_, .int .i64 b.n, .string b.name, .string b.arg, .string b.exn])).run Tryz.prog w = .ok (.bool (!hdB a.kh b.kh)) w := by
  have u2 := Tryz.underlying2
  have u3 := Tryz.underlying3
  have u5 := Tryz.underlying5
  have u9 := Tryz.underlying9
  have hS : Tryz.prog.underlying 23 = some (.struct (Tryz.prog.fieldsOf 23)) := by kernel_rfl
  have hp : Tryz.prog.stoodInHeld 23 = false := by kernel_rfl
  rw [run_neq_struct, show (10000 : Nat) = 9999 + 1 from rfl, run_equalIn_agg w 9999 23 _ _ hS hp]
  simp only [Program.fieldsOf, Tryz.underlying23]
  unfold hdB AH.kh
  go_simp
  by_cases h1 : a.kind = b.kind
  · by_cases h2 : a.op = b.op
    · by_cases h3 : a.at_ = b.at_
      · by_cases h4 : a.n = b.n
        · by_cases h5 : a.name.toList = b.name.toList
          · by_cases h6 : a.arg.toList = b.arg.toList
            · by_cases h7 : a.exn.toList = b.exn.toList <;> simp [h1, h2, h3, h4, h5, h6, h7]
            · simp [h1, h2, h3, h4, h5, h6]
          · simp [h1, h2, h3, h4, h5]
        · simp [h1, h2, h3, h4]
      · simp [h1, h2, h3]
    · simp [h1, h2]
  · simp [h1]
/-- the same nodes? -/
def sameKH (a b : KH) : Bool := hdB a b && (decide (a.rho = b.rho) && (eqN a.rhos b.rhos && (withinB a.eff b.eff && (withinB b.eff a.eff && (Rose.same sameH a.ty b.ty && Rose.same sameH a.res b.res)))))
def sameA (x y : PA) : Bool := Rose.same (fun a b : AH => sameKH a.kh b.kh) x y
def sameAL (l m : List PA) : Bool := Rose.sameL (fun a b : AH => sameKH a.kh b.kh) l m
theorem sameA_node (a b : AH) (l m : List PA) : sameA (.node a l) (.node b m) = (sameKH a.kh b.kh && sameAL l m) := Rose.same_node _ a b l m
theorem sameAL_true {l m : List PA} (hl : l.length = m.length) (h : ∀ (j : Nat) (x y : PA), l[j]? = some x → m[j]? = some y → sameA x y = true) : sameAL l m = true := by
  unfold sameAL
  rw [Rose.sameL_get]
  exact ⟨hl, h⟩
theorem sameAL_len {l m : List PA} (hl : l.length ≠ m.length) : sameAL l m = false := by
  rw [Bool.eq_false_iff]
  intro h
  exact hl (Rose.sameL_length _ _ _ h)
theorem sameAL_false {l m : List PA} {j : Nat} {x y : PA} (hx : l[j]? = some x) (hy : m[j]? = some y) (h : sameA x y = false) : sameAL l m = false := by
  rw [Bool.eq_false_iff]
  intro hs
  unfold sameAL at hs
  rw [Rose.sameL_get] at hs
  have := hs.2 j x y hx hy
  unfold sameA at h
  rw [h] at this; cases this
/-- the two boxes -/
structure Two2 (w W : World) (a b : AH) : Prop where
  b0 : BoxA W w.heap.size a
  b1 : BoxA W (w.heap.size + 1) b
  below : Below w.heap.size w W
theorem Two2.step {w W W' : World} {a b : AH} (h : Two2 w W a b) (hb : Below W.heap.size W W') : Two2 w W' a b := ⟨h.b0.below hb, h.b1.below hb, h.below.trans (hb.mono h.below.size)⟩
def RSame13At (x y : PA) (W : World) : Prop := ∀ r, sameA x y = r → Calls Tryz.prog 12 #[aggT x.head, aggT y.head] W fun e w' => e = .returned (.bool r) ∧ Below W.heap.size W w'
theorem eqInts_is {p : Option Addr} {n cap : Nat} {l : List Int} {q : Option Addr} {m mc : Nat} {l' : List Int} {w : World} {r : Bool} (h : eqN l l' = r) (hr : IsRow encN 1 w p n cap l) (hr' : IsRow encN 1 w q m mc l') :
    Calls Tryz.prog 25 #[.slice p n cap, .slice q m mc] w fun e w' => e = .returned (.bool r) ∧ Below w.heap.size w w' := by
  subst h
  refine (ref_EqualInts_any hr hr').mono ?_
  rintro e w' ⟨rfl, j, rfl⟩
  exact ⟨rfl, below_drewN (Below.refl _ _) _⟩
theorem range_part {W : World} {g : Nat} {a : AH} (h : BoxA W g a) (o n : Nat) {cs : List Value} (hc : cs = ((encAH a).drop o).take n) : W.rangeAt g o cs := fun j v hj => by
  subst hc
  rw [List.getElem?_take] at hj
  split at hj
  · rw [List.getElem?_drop] at hj
    exact h.c (o + j) v hj
  · cases hj
theorem Two2.r0 {w W : World} {a b : AH} (h : Two2 w W a b) (o n : Nat) {cs : List Value} (hc : cs = ((encAH a).drop o).take n) : W.rangeAt w.heap.size o cs := range_part h.b0 o n hc
theorem Two2.r1 {w W : World} {a b : AH} (h : Two2 w W a b) (o n : Nat) {cs : List Value} (hc : cs = ((encAH b).drop o).take n) : W.rangeAt (w.heap.size + 1) o cs := range_part h.b1 o n hc
end Go.Proofs.YtdlbjngpohkglaaGreatDoor
end
