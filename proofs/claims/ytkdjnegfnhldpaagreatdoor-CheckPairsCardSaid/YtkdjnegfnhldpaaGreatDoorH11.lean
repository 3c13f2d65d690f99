/- Part 11: RtS, RtP, RtB, Eff19, RtC. -/
import Derived.Test.YtkdjnegfnhldpaaGreatDoorH10
import Derived.Deep.RegionLaw
import Derived.Test.YtkdjnegfnhldpaaGreatDoorH09
import Derived.Test.YtkdjnegfnhldpaaGreatDoorH07
set_option linter.unusedVariables false
set_option maxRecDepth 100000
set_option linter.unusedSimpArgs false
namespace Go.Proofs.YtkdjnegfnhldpaaGreatDoor
open Go.Lib (hid)
section
open Go.RowKit Go.Sort Go.Lib
def sameH (a b : LH) : Bool := decide (a.kind = b.kind) && decide (a.rho = b.rho) && (withinB a.eff b.eff && withinB b.eff a.eff)
def sameP (x y : PT) : Bool := Rose.same sameH x.er y.er
def sameK (l m : List PT) : Bool := Rose.sameL sameH (l.map PT.er) (m.map PT.er)
theorem sameP_node (a b : RH) (l m : List PT) : sameP (.node a l) (.node b m) = (sameH a.plain b.plain && sameK l m) := by
  unfold sameP
  rw [PT.er_node, PT.er_node, Rose.same_node]; rfl
theorem sameK_true {l m : List PT} (hl : l.length = m.length) (h : ∀ (j : Nat) (x y : PT), l[j]? = some x → m[j]? = some y → sameP x y = true) : sameK l m = true := by
  unfold sameK
  rw [Rose.sameL_get]
  refine ⟨by simp [hl], fun j t u ht hu => ?_⟩
  rw [List.getElem?_map] at ht hu
  obtain ⟨x, hx, rfl⟩ := Option.map_eq_some_iff.1 ht
  obtain ⟨y, hy, rfl⟩ := Option.map_eq_some_iff.1 hu
  exact h j x y hx hy
theorem sameK_len {l m : List PT} (hl : l.length ≠ m.length) : sameK l m = false := by
  rw [Bool.eq_false_iff]
  intro h
  exact hl (by simpa using Rose.sameL_length _ _ _ h)
theorem sameK_false {l m : List PT} {j : Nat} {x y : PT} (hx : l[j]? = some x) (hy : m[j]? = some y) (h : sameP x y = false) : sameK l m = false := by
  rw [Bool.eq_false_iff]
  intro hs
  unfold sameK at hs
  rw [Rose.sameL_get] at hs
  have := hs.2 j x.er y.er (by rw [List.getElem?_map, hx]; rfl) (by rw [List.getElem?_map, hy]; rfl)
  unfold sameP at h
  rw [h] at this; cases this
theorem sameH_refl (a : LH) : sameH a a = true := by simp [sameH, withinB_refl]
theorem sameP_refl (x : PT) : sameP x x = true := by
  refine Rose.ind (P := fun (x : PT) => sameP x x = true) (fun a l ih => ?_) x
  rw [sameP_node, sameH_refl, Bool.true_and]
  refine sameK_true rfl (fun j x y hx hy => ?_)
  rw [hx] at hy; cases hy
  exact ih x (List.mem_of_getElem? hx)
def SameAt (x y : PT) (W : World) : Prop := Calls Tryz.prog 142 #[aggR x.head, aggR y.head] W fun e w' => e = .returned (.bool (sameP x y)) ∧ Below W.heap.size W w'
def PredT2 (fid : FuncId) (w : World) (l m : List PT) : Prop :=
  ∀ x ∈ l, ∀ y ∈ m, ∀ r, sameP x y = r → ∀ W, Below w.heap.size w W → Calls Tryz.prog fid #[aggR x.head, aggR y.head] W fun e w' => e = .returned (.bool r) ∧ Below W.heap.size W w'
set_option maxHeartbeats 1000000 in
theorem t_equalFunc_any (fid : FuncId) (hent : Enters fid) {p : Option Addr} {n cap : Nat} {l : List PT} {q : Option Addr} {m mc : Nat} {l' : List PT} {w : World} (hr : RowT w p n cap l) (hr' : RowT w q m mc l') (hf : PredT2 fid w l l') :
    Calls Tryz.prog 192 #[.slice p n cap, .slice q m mc, .func (.func fid) #[] #[]] w fun e w' => e = .returned (.bool (sameK l l')) ∧ Below w.heap.size w w' := by
  unfold Enters at hent
  have hm := hr.row.max
  have HR := hid hr
  have HR' := hid hr'
  have HF := hid hf
  clear hr hr' hf
  by_cases hnm : n = m
  · subst hnm
    go_enter Tryz.func192, Tryz.ntmps192
    go_wp2_with fail
    go_loopw [7, 8, 9, 17] (fun _ _ _ i wr => ∃ k : Nat, k ≤ n ∧ i = .int .i64 k ∧ (∀ (j : Nat) (x y : PT), j < k → l[j]? = some x → l'[j]? = some y → sameP x y = true) ∧ Below w.heap.size w wr) (fun _ _ _ i _ => n - (intOf i).toNat)
    case atStart => exact ⟨0, by omega, rfl, fun j x y hj => by omega, Below.refl _ _⟩
    case round =>
      obtain ⟨k, hk, rfl, hno, hb⟩ := hrel
      have HNO := hid hno
      have HB := hid hb
      clear hno hb
      by_cases hlt : k < n
      · obtain ⟨x, hx⟩ := HR.out.at (j := k) hlt
        obtain ⟨y, hy⟩ := HR'.out.at (j := k) hlt
        have HX := hid hx
        have HY := hid hy
        obtain ⟨b, o, rfl, hbl, d0, d1, d2, d3⟩ := (HR.out.below HB.out).kid hx
        obtain ⟨b', o', rfl, hbl', e0, e1, e2, e3⟩ := (HR'.out.below HB.out).kid hy
        have hB2 := (HB.out.alloc HB.out.size (.cells #[.int .u8 x.head.kind, .int .i64 x.head.rho, .slice x.head.ep x.head.en x.head.ec, .slice x.head.kp x.head.kn x.head.kc] 28))
        have HB2 := hid (hB2.alloc hB2.size (.cells #[.int .u8 y.head.kind, .int .i64 y.head.rho, .slice y.head.ep y.head.en y.head.ec, .slice y.head.kp y.head.kn y.head.kc] 28))
        clear hx hy hB2
        cases hq : sameP x y
        · have HQ := hid hq
          clear hq
          go_wp2_with fail
          refine (HF.out x (List.mem_of_getElem? HX.out) y (List.mem_of_getElem? HY.out) _ HQ.out _ HB2.out).mono ?_
          rintro e w1 ⟨rfl, hb⟩
          have HB3 := hid (HB2.out.trans (hb.mono HB2.out.size))
          clear hb d0 d1 d2 d3 e0 e1 e2 e3
          go_wp2_with fail
          go_ret
          exact ⟨ret_bool (sameK_false HX.out HY.out HQ.out).symm, HB3.out⟩
        · have HQ := hid hq
          clear hq
          go_wp2_with fail
          refine (HF.out x (List.mem_of_getElem? HX.out) y (List.mem_of_getElem? HY.out) _ HQ.out _ HB2.out).mono ?_
          rintro e w1 ⟨rfl, hb⟩
          have HB3 := hid (HB2.out.trans (hb.mono HB2.out.size))
          clear hb d0 d1 d2 d3 e0 e1 e2 e3
          go_wp2_with fail
          go_roundw
          case rel =>
            refine ⟨k + 1, by omega, by go_num, fun j x' y' hj hx' hy' => ?_, HB3.out⟩
            by_cases hjk : j = k
            · subst hjk
              have h1 := HX.out; have h2 := HY.out
              rw [hx'] at h1; rw [hy'] at h2
              cases h1; cases h2
              exact HQ.out
            · exact HNO.out j x' y' (by omega) hx' hy'
          case measure => simp [intOf]; omega
      · have hkn : k = n := by omega
        go_wp2_with fail
        go_ret
        have hs : sameK l l' = true := sameK_true (by rw [HR.out.row.len, HR'.out.row.len]) (fun j x y hx hy => HNO.out j x y (by have h1 := (List.getElem?_eq_some_iff.1 hx).1; have h2 := HR.out.row.len; omega) hx hy)
        exact ⟨ret_bool hs.symm, HB.out⟩
  · have hne : Hid (sameK l l' = false) := sameK_len (by rw [HR.out.row.len, HR'.out.row.len]; exact hnm)
    have hb : ((n : Int) != (m : Int)) = true := by rw [bne_iff_ne]; omega
    clear hnm
    go_enter Tryz.func192, Tryz.ntmps192
    go_wp2_with fail
    go_ret
    exact ⟨ret_bool hne.out.symm, Below.refl _ _⟩
theorem effect_Same_is {p : Option Addr} {n cap : Nat} {l : List Atom} {q : Option Addr} {m mc : Nat} {l' : List Atom} {w : World} {r : Bool} (h : (withinB l l' && withinB l' l) = r) (hr : IsRow encA 3 w p n cap l) (hr' : IsRow encA 3 w q m mc l') :
    Calls Tryz.prog 191 #[.slice p n cap, .slice q m mc] w fun e w' => e = .returned (.bool r) ∧ Below w.heap.size w w' := by
  subst h; exact effect_Same_any p n cap l q m mc l' w hr.len hr.max hr.row hr'.len hr'.max hr'.row
theorem ref_Within_is {p : Option Addr} {n cap : Nat} {l : List Atom} {q : Option Addr} {m mc : Nat} {l' : List Atom} {w : World} {r : Bool} (h : withinB l l' = r) (hr : IsRow encA 3 w p n cap l) (hr' : IsRow encA 3 w q m mc l') :
    Calls Tryz.prog 25 #[.slice p n cap, .slice q m mc] w fun e w' => e = .returned (.bool r) ∧ Below w.heap.size w w' := by
  subst h; exact ref_Within_any p n cap l q m mc l' w hr.len hr.max hr.row hr'.len hr'.max hr'.row
theorem boxes_cells {w w1 : World} {a b : RH} (hb : Below (w.heap.size + 2) ((w.alloc (.cells #[.int .u8 a.kind, .int .i64 a.rho, .slice a.ep a.en a.ec, .slice a.kp a.kn a.kc] 28)).alloc (.cells #[.int .u8 b.kind, .int .i64 b.rho, .slice b.ep b.en b.ec, .slice b.kp b.kn b.kc] 28)) w1) :
    (w1.cell? ⟨w.heap.size, 0, none⟩ = some (.int .u8 a.kind) ∧ w1.cell? ⟨w.heap.size, 1, none⟩ = some (.int .i64 a.rho) ∧ w1.cell? ⟨w.heap.size, 2, none⟩ = some (.slice a.ep a.en a.ec) ∧ w1.cell? ⟨w.heap.size, 3, none⟩ = some (.slice a.kp a.kn a.kc)) ∧
    (w1.cell? ⟨w.heap.size + 1, 0, none⟩ = some (.int .u8 b.kind) ∧ w1.cell? ⟨w.heap.size + 1, 1, none⟩ = some (.int .i64 b.rho) ∧ w1.cell? ⟨w.heap.size + 1, 2, none⟩ = some (.slice b.ep b.en b.ec) ∧ w1.cell? ⟨w.heap.size + 1, 3, none⟩ = some (.slice b.kp b.kn b.kc)) := by
  refine ⟨⟨?_, ?_, ?_, ?_⟩, ?_, ?_, ?_, ?_⟩ <;> (rw [hb.cell (by simp)]; go_simp)
abbrev boxes (w : World) (a b : RH) : World := (w.alloc (.cells #[.int .u8 a.kind, .int .i64 a.rho, .slice a.ep a.en a.ec, .slice a.kp a.kn a.kc] 28)).alloc (.cells #[.int .u8 b.kind, .int .i64 b.rho, .slice b.ep b.en b.ec, .slice b.kp b.kn b.kc] 28)
theorem boxes_below (w : World) (a b : RH) : Below w.heap.size w (boxes w a b) := ((Below.refl w.heap.size w).alloc (Nat.le_refl _) _).alloc (by simp) _
set_option maxHeartbeats 1000000 in
theorem rtype_Same_of {a b : RH} {l m : List PT} {w : World} (ha : NodeIn w a l) (hb : NodeIn w b m) (hf : PredT2 142 w l m) : SameAt (.node a l) (.node b m) w := by
  have HBX := hid (boxes_below w a b)
  have HNA := hid ha
  have HNB := hid hb
  have HF := hid hf
  have HP := hid (sameP_node a b l m)
  show Calls _ _ #[aggR a, aggR b] w _
  clear ha hb hf
  by_cases h1 : a.kind = b.kind
  · have b1 : (a.kind == b.kind) = true := by simpa using h1
    by_cases h2 : a.rho = b.rho
    · have b2 : (a.rho == b.rho) = true := by simpa using h2
      cases h3 : (withinB a.eff b.eff && withinB b.eff a.eff)
      · have HS : Hid (sameP (.node a l) (.node b m) = false) := by show _ = _; rw [HP.out]; simp only [sameH, RH.plain, h3, Bool.and_false, Bool.false_and]
        have H3 := hid h3
        clear h1 h2 h3
        go_enter Tryz.func142, Tryz.ntmps142
        go_wp2_with fail
        refine (effect_Same_is H3.out (HNA.out.below HBX.out).own.eff (HNB.out.below HBX.out).own.eff).mono ?_
        rintro e w1 ⟨rfl, hb⟩
        have HB1 := hid (HBX.out.trans (hb.mono HBX.out.size))
        clear hb
        go_wp2_with fail
        go_ret
        exact ⟨ret_bool HS.out.symm, HB1.out⟩
      · have HS : Hid (sameP (.node a l) (.node b m) = sameK l m) := by show _ = _; rw [HP.out]; simp only [sameH, RH.plain, h1, h2, h3, decide_true, Bool.true_and]
        have H3 := hid h3
        clear h1 h2 h3
        generalize hk : sameK l m = K at HS
        have HK := hid hk
        clear hk
        go_enter Tryz.func142, Tryz.ntmps142
        go_wp2_with fail
        refine (effect_Same_is H3.out (HNA.out.below HBX.out).own.eff (HNB.out.below HBX.out).own.eff).mono ?_
        rintro e w1 ⟨rfl, hb⟩
        have HB1 := hid (HBX.out.trans (hb.mono HBX.out.size))
        have HC : Hid (Below (w.heap.size + 2) (boxes w a b) w1) := by show Below _ _ _; simpa using hb
        clear hb
        obtain ⟨⟨d0, d1, d2, d3⟩, e0, e1, e2, e3⟩ := boxes_cells HC.out
        go_wp2_with fail
        refine (t_equalFunc_any 142 (fun a w => Tryz.call142 a w) (HNA.out.below HB1.out).rowT (HNB.out.below HB1.out).rowT (fun x hx y hy r hq W hW => HF.out x hx y hy r hq W (HB1.out.trans (hW.mono HB1.out.size)))).mono ?_
        rintro e w2 ⟨rfl, hb⟩
        have HB2 := hid (HB1.out.trans (hb.mono HB1.out.size))
        rw [HK.out]
        clear hb d0 d1 d2 d3 e0 e1 e2 e3
        go_wp2_with fail
        go_ret
        exact ⟨ret_bool HS.out.symm, HB2.out⟩
    · have b2 : (a.rho == b.rho) = false := by rw [beq_eq_false_iff_ne]; exact h2
      have HS : Hid (sameP (.node a l) (.node b m) = false) := by show _ = _; rw [HP.out]; simp [sameH, RH.plain, h2]
      clear h1 h2
      go_enter Tryz.func142, Tryz.ntmps142
      go_wp2_with fail
      go_ret
      exact ⟨ret_bool HS.out.symm, HBX.out⟩
  · have b1 : (a.kind == b.kind) = false := by rw [beq_eq_false_iff_ne]; exact h1
    have HS : Hid (sameP (.node a l) (.node b m) = false) := by show _ = _; rw [HP.out]; simp [sameH, RH.plain, h1]
    clear h1
    go_enter Tryz.func142, Tryz.ntmps142
    go_wp2_with fail
    go_ret
    exact ⟨ret_bool HS.out.symm, HBX.out⟩
theorem sameAt_any (x : PT) : ∀ y w, LR.lies w x → LR.lies w y → SameAt x y w := by
  refine Rose.ind (P := fun (x : PT) => ∀ y w, LR.lies w x → LR.lies w y → SameAt x y w) (fun a l ih => ?_) x
  intro y w hx hy
  obtain ⟨b, m⟩ := y
  have HX := nodeIn hx
  have HY := nodeIn hy
  refine rtype_Same_of HX HY (fun x hx y hy r hq W hW => ?_)
  have := ih x hx y W (LR.lies_below hW x (HX.each x hx)) (LR.lies_below hW y (HY.each y hy))
  unfold SameAt at this
  rw [hq] at this
  exact this
def RSameAt (x y : PT) (W : World) : Prop := ∀ r, sameP x y = r → Calls Tryz.prog 13 #[aggR x.head, aggR y.head] W fun e w' => e = .returned (.bool r) ∧ Below W.heap.size W w'
set_option maxHeartbeats 4000000 in
theorem ref_Same12_of {a b : RH} {l m : List PT} {w : World} (ha : NodeIn w a l) (hb : NodeIn w b m) (hf : ∀ x ∈ l, ∀ y ∈ m, ∀ W, Below w.heap.size w W → RSameAt x y W) {r : Bool} (hrr : sameP (.node a l) (.node b m) = r) :
    Calls Tryz.prog 13 #[aggR a, aggR b] w fun e w' => e = .returned (.bool r) ∧ Below w.heap.size w w' := by
  have HBX := hid (boxes_below w a b)
  have HNA := hid ha
  have HNB := hid hb
  have HF := hid hf
  have HP := hid (sameP_node a b l m)
  have HRR := hid hrr
  have hla := ha.kids.len
  have hlb := hb.kids.len
  have hma := ha.own.kmax
  have hmb := hb.own.kmax
  clear ha hb hf hrr
  by_cases h1 : a.kind = b.kind
  · have b1 : (a.kind != b.kind) = false := by simpa using h1
    by_cases h2 : a.rho = b.rho
    · have b2 : (a.rho != b.rho) = false := by simpa using h2
      by_cases hn : a.kn = b.kn
      · have b3 : ((a.kn : Int) != (b.kn : Int)) = false := by rw [hn]; simp
        have HNK := hid hn
        clear hn
        cases h3 : withinB a.eff b.eff
        · have HS : Hid (r = false) := by show _ = _; rw [← HRR.out, HP.out]; simp [sameH, RH.plain, h3]
          have H3 := hid h3
          clear h1 h2 h3
          go_enter Tryz.func13, Tryz.ntmps13
          go_wp2_with fail
          refine (ref_Within_is H3.out (HNA.out.below HBX.out).own.eff (HNB.out.below HBX.out).own.eff).mono ?_
          rintro e w1 ⟨rfl, hb⟩
          have HB1 := hid (HBX.out.trans (hb.mono HBX.out.size))
          clear hb
          go_wp2_with fail
          go_ret
          exact ⟨ret_bool HS.out.symm, HB1.out⟩
        · have H3 := hid h3
          cases h4 : withinB b.eff a.eff
          · have HS : Hid (r = false) := by show _ = _; rw [← HRR.out, HP.out]; simp [sameH, RH.plain, h4]
            have H4 := hid h4
            clear h1 h2 h3 h4
            go_enter Tryz.func13, Tryz.ntmps13
            go_wp2_with fail
            refine (ref_Within_is H3.out (HNA.out.below HBX.out).own.eff (HNB.out.below HBX.out).own.eff).mono ?_
            rintro e w1 ⟨rfl, hb⟩
            have HB1 := hid (HBX.out.trans (hb.mono HBX.out.size))
            have HC : Hid (Below (w.heap.size + 2) (boxes w a b) w1) := by show Below _ _ _; simpa using hb
            clear hb
            obtain ⟨⟨d0, d1, d2, d3⟩, e0, e1, e2, e3⟩ := boxes_cells HC.out
            go_wp2_with fail
            refine (ref_Within_is H4.out (HNB.out.below HB1.out).own.eff (HNA.out.below HB1.out).own.eff).mono ?_
            rintro e w2 ⟨rfl, hb⟩
            have HB2 := hid (HB1.out.trans (hb.mono HB1.out.size))
            clear hb d0 d1 d2 d3 e0 e1 e2 e3
            go_wp2_with fail
            go_ret
            exact ⟨ret_bool HS.out.symm, HB2.out⟩
          · have HS : Hid (r = sameK l m) := by show _ = _; rw [← HRR.out, HP.out]; simp only [sameH, RH.plain, h1, h2, h3, h4, decide_true, Bool.true_and]
            have H4 := hid h4
            clear h1 h2 h3 h4
            go_enter Tryz.func13, Tryz.ntmps13
            go_wp2_with fail
            refine (ref_Within_is H3.out (HNA.out.below HBX.out).own.eff (HNB.out.below HBX.out).own.eff).mono ?_
            rintro e w1 ⟨rfl, hb⟩
            have HB1 := hid (HBX.out.trans (hb.mono HBX.out.size))
            have HC : Hid (Below (w.heap.size + 2) (boxes w a b) w1) := by show Below _ _ _; simpa using hb
            clear hb
            obtain ⟨⟨d0, d1, d2, d3⟩, e0, e1, e2, e3⟩ := boxes_cells HC.out
            go_wp2_with fail
            refine (ref_Within_is H4.out (HNB.out.below HB1.out).own.eff (HNA.out.below HB1.out).own.eff).mono ?_
            rintro e w2 ⟨rfl, hb⟩
            have HB2 := hid (HB1.out.trans (hb.mono HB1.out.size))
            have HC2 := hid (HC.out.trans (hb.mono (by have := HC.out.size; simpa using this)))
            clear hb d0 d1 d2 d3 e0 e1 e2 e3
            obtain ⟨⟨d0, d1, d2, d3⟩, e0, e1, e2, e3⟩ := boxes_cells HC2.out
            go_wp2_with fail
            clear d0 d1 d2 d3 e0 e1 e2 e3
            go_loopw [5, 46] (fun _ i wr => ∃ k : Nat, k ≤ a.kn ∧ i = .int .i64 k ∧ (∀ (j : Nat) (x y : PT), j < k → l[j]? = some x → m[j]? = some y → sameP x y = true) ∧ Below w2.heap.size w2 wr) (fun _ i _ => a.kn - (intOf i).toNat)
            case atStart => exact ⟨0, by omega, rfl, fun j x y hj => by omega, Below.refl _ _⟩
            case round =>
              obtain ⟨k, hk, rfl, hno, hb⟩ := hrel
              have HNO := hid hno
              have HB := hid hb
              clear hno hb
              have HBW := hid (HB2.out.trans (HB.out.mono HB2.out.size))
              have HCW := hid (HC2.out.trans (HB.out.mono (by have := HC2.out.size; simpa using this)))
              by_cases hlt : k < a.kn
              · obtain ⟨x, hx⟩ := HNA.out.rowT.at (j := k) hlt
                have hltb : k < b.kn := by have := HNK.out; omega
                obtain ⟨y, hy⟩ := HNB.out.rowT.at (j := k) hltb
                have HX := hid hx
                have HY := hid hy
                obtain ⟨g, o, hbo, hbl, d0, d1, d2, d3⟩ := (HNA.out.rowT.below HBW.out).kid hx
                obtain ⟨g', o', hbo', hbl', e0, e1, e2, e3⟩ := (HNB.out.rowT.below HBW.out).kid hy
                obtain ⟨⟨_, _, _, c3⟩, _, _, _, c3'⟩ := boxes_cells HCW.out
                rw [hbo] at c3
                rw [hbo'] at c3'
                have i0 : (0 : Int) ≤ (k : Int) := by omega
                have i1 : (k : Int) < (a.kn : Int) := by omega
                have i2 : (k : Int) < (b.kn : Int) := by omega
                have HSS : Hid (∀ W, Below wr.heap.size wr W → W.cell? ⟨w.heap.size, 3, none⟩ = some (.slice (some ⟨g, o, none⟩) a.kn a.kc) ∧ W.cell? ⟨w.heap.size + 1, 3, none⟩ = some (.slice (some ⟨g', o', none⟩) b.kn b.kc) ∧ W.cell? ⟨g, o + k * 4, none⟩ = some (.int .u8 x.head.kind) ∧ W.cell? ⟨g, o + k * 4 + 1, none⟩ = some (.int .i64 x.head.rho) ∧ W.cell? ⟨g, o + k * 4 + 2, none⟩ = some (.slice x.head.ep x.head.en x.head.ec) ∧ W.cell? ⟨g, o + k * 4 + 3, none⟩ = some (.slice x.head.kp x.head.kn x.head.kc) ∧
                    W.cell? ⟨g', o' + k * 4, none⟩ = some (.int .u8 y.head.kind) ∧ W.cell? ⟨g', o' + k * 4 + 1, none⟩ = some (.int .i64 y.head.rho) ∧ W.cell? ⟨g', o' + k * 4 + 2, none⟩ = some (.slice y.head.ep y.head.en y.head.ec) ∧ W.cell? ⟨g', o' + k * 4 + 3, none⟩ = some (.slice y.head.kp y.head.kn y.head.kc) ∧ Below wr.heap.size wr W) := fun W h =>
                  ⟨by rw [h.cell (cell_block c3)]; exact c3, by rw [h.cell (cell_block c3')]; exact c3', by rw [h.cell hbl]; exact d0, by rw [h.cell hbl]; exact d1, by rw [h.cell hbl]; exact d2, by rw [h.cell hbl]; exact d3, by rw [h.cell hbl']; exact e0, by rw [h.cell hbl']; exact e1, by rw [h.cell hbl']; exact e2, by rw [h.cell hbl']; exact e3, h⟩
                clear hx hy hbo hbo' hbl hbl' c3 c3' d0 d1 d2 d3 e0 e1 e2 e3
                cases hq : sameP x y
                · have HQ := hid hq
                  clear hq
                  go_wp2_with fail
                  go_region_held3 (fun W => W.cell? ⟨w.heap.size, 3, none⟩ = some (.slice (some ⟨g, o, none⟩) a.kn a.kc) ∧ W.cell? ⟨w.heap.size + 1, 3, none⟩ = some (.slice (some ⟨g', o', none⟩) b.kn b.kc) ∧ W.cell? ⟨g, o + k * 4, none⟩ = some (.int .u8 x.head.kind) ∧ W.cell? ⟨g, o + k * 4 + 1, none⟩ = some (.int .i64 x.head.rho) ∧ W.cell? ⟨g, o + k * 4 + 2, none⟩ = some (.slice x.head.ep x.head.en x.head.ec) ∧ W.cell? ⟨g, o + k * 4 + 3, none⟩ = some (.slice x.head.kp x.head.kn x.head.kc) ∧
                      W.cell? ⟨g', o' + k * 4, none⟩ = some (.int .u8 y.head.kind) ∧ W.cell? ⟨g', o' + k * 4 + 1, none⟩ = some (.int .i64 y.head.rho) ∧ W.cell? ⟨g', o' + k * 4 + 2, none⟩ = some (.slice y.head.ep y.head.en y.head.ec) ∧ W.cell? ⟨g', o' + k * 4 + 3, none⟩ = some (.slice y.head.kp y.head.kn y.head.kc) ∧ Below wr.heap.size wr W)
                    (first
                      | exact HSS.out _ (bel_drew _)
                      | exact HSS.out _ hZ)
                    ((go_at_call 13; refine (HF.out x (List.mem_of_getElem? HX.out) y (List.mem_of_getElem? HY.out) _ (HBW.out.trans (Below.mono (by go_split_ands; assumption) HBW.out.size)) _ HQ.out).mono ?_; rintro e w8 ⟨rfl, hb8⟩; have hZ := bel_step (w0 := wr) (by go_split_ands; assumption) hb8))
                  rename_i hH
                  clear hH hb8
                  have hb8 := hZ
                  clear hZ
                  have HB3 := hid (HBW.out.trans (hb8.mono HBW.out.size))
                  go_wp2_with fail
                  go_ret
                  exact ⟨ret_bool (by rw [HS.out]; exact (sameK_false HX.out HY.out HQ.out).symm), HB3.out⟩
                · have HQ := hid hq
                  clear hq
                  go_wp2_with fail
                  go_region_held3 (fun W => W.cell? ⟨w.heap.size, 3, none⟩ = some (.slice (some ⟨g, o, none⟩) a.kn a.kc) ∧ W.cell? ⟨w.heap.size + 1, 3, none⟩ = some (.slice (some ⟨g', o', none⟩) b.kn b.kc) ∧ W.cell? ⟨g, o + k * 4, none⟩ = some (.int .u8 x.head.kind) ∧ W.cell? ⟨g, o + k * 4 + 1, none⟩ = some (.int .i64 x.head.rho) ∧ W.cell? ⟨g, o + k * 4 + 2, none⟩ = some (.slice x.head.ep x.head.en x.head.ec) ∧ W.cell? ⟨g, o + k * 4 + 3, none⟩ = some (.slice x.head.kp x.head.kn x.head.kc) ∧
                      W.cell? ⟨g', o' + k * 4, none⟩ = some (.int .u8 y.head.kind) ∧ W.cell? ⟨g', o' + k * 4 + 1, none⟩ = some (.int .i64 y.head.rho) ∧ W.cell? ⟨g', o' + k * 4 + 2, none⟩ = some (.slice y.head.ep y.head.en y.head.ec) ∧ W.cell? ⟨g', o' + k * 4 + 3, none⟩ = some (.slice y.head.kp y.head.kn y.head.kc) ∧ Below wr.heap.size wr W)
                    (first
                      | exact HSS.out _ (bel_drew _)
                      | exact HSS.out _ hZ)
                    ((go_at_call 13; refine (HF.out x (List.mem_of_getElem? HX.out) y (List.mem_of_getElem? HY.out) _ (HBW.out.trans (Below.mono (by go_split_ands; assumption) HBW.out.size)) _ HQ.out).mono ?_; rintro e w8 ⟨rfl, hb8⟩; have hZ := bel_step (w0 := wr) (by go_split_ands; assumption) hb8))
                  rename_i hH
                  clear hH hb8
                  have hb8 := hZ
                  clear hZ
                  have HB3 := hid (HBW.out.trans (hb8.mono HBW.out.size))
                  go_wp2_with fail
                  go_roundw
                  case rel =>
                    refine ⟨k + 1, by omega, by go_num, fun j x' y' hj hx' hy' => ?_, HB.out.trans (hb8.mono HB.out.size)⟩
                    by_cases hjk : j = k
                    · subst hjk
                      have h1 := HX.out; have h2 := HY.out
                      rw [hx'] at h1; rw [hy'] at h2
                      cases h1; cases h2
                      exact HQ.out
                    · exact HNO.out j x' y' (by omega) hx' hy'
                  case measure => simp [intOf]; omega
              · have hkn : k = a.kn := by omega
                have hs : Hid (sameK l m = true) := sameK_true (by have := HNK.out; omega) (fun j x y hx hy => HNO.out j x y (by have h1 := (List.getElem?_eq_some_iff.1 hx).1; omega) hx hy)
                clear hkn
                go_wp2_with fail
                go_ret
                exact ⟨ret_bool (by rw [HS.out, hs.out]), HBW.out⟩
      · have b3 : ((a.kn : Int) != (b.kn : Int)) = true := by rw [bne_iff_ne]; omega
        have HS : Hid (r = false) := by show _ = _; rw [← HRR.out, HP.out, sameK_len (by omega)]; simp
        clear h1 h2 hn
        go_enter Tryz.func13, Tryz.ntmps13
        go_wp2_with fail
        go_ret
        exact ⟨ret_bool HS.out.symm, HBX.out⟩
    · have b2 : (a.rho != b.rho) = true := by simpa using h2
      have HS : Hid (r = false) := by show _ = _; rw [← HRR.out, HP.out]; simp [sameH, RH.plain, h2]
      clear h1 h2
      go_enter Tryz.func13, Tryz.ntmps13
      go_wp2_with fail
      go_ret
      exact ⟨ret_bool HS.out.symm, HBX.out⟩
  · have b1 : (a.kind != b.kind) = true := by simpa using h1
    have HS : Hid (r = false) := by show _ = _; rw [← HRR.out, HP.out]; simp [sameH, RH.plain, h1]
    clear h1
    go_enter Tryz.func13, Tryz.ntmps13
    go_wp2_with fail
    go_ret
    exact ⟨ret_bool HS.out.symm, HBX.out⟩
theorem rsameAt_any (x : PT) : ∀ y w, LR.lies w x → LR.lies w y → RSameAt x y w := by
  refine Rose.ind (P := fun (x : PT) => ∀ y w, LR.lies w x → LR.lies w y → RSameAt x y w) (fun a l ih => ?_) x
  intro y w hx hy r hr
  obtain ⟨b, m⟩ := y
  have HX := nodeIn hx
  have HY := nodeIn hy
  exact ref_Same12_of HX HY (fun x hx y _ W hW => ih x hx y W (LR.lies_below hW x (HX.each x hx)) (LR.lies_below hW y (HY.each y (by assumption)))) hr
theorem rtype_Same_is {x y : PT} {w : World} {r : Bool} (h : sameP x y = r) (hx : LR.lies w x) (hy : LR.lies w y) :
    Calls Tryz.prog 142 #[aggR x.head, aggR y.head] w fun e w' => e = .returned (.bool r) ∧ Below w.heap.size w w' := by
  subst h; exact sameAt_any x y w hx hy
end
section
open Go.RowKit Go.Sort Go.Lib
theorem boxT_cells {w w1 : World} {t : PT} (hb : Below (w.heap.size + 1) (w.alloc (.cells #[.int .u8 t.head.kind, .int .i64 t.head.rho, .slice t.head.ep t.head.en t.head.ec, .slice t.head.kp t.head.kn t.head.kc] 28)) w1) :
    w1.cell? ⟨w.heap.size, 0, none⟩ = some (.int .u8 t.head.kind) ∧ w1.cell? ⟨w.heap.size, 1, none⟩ = some (.int .i64 t.head.rho) ∧ w1.cell? ⟨w.heap.size, 2, none⟩ = some (.slice t.head.ep t.head.en t.head.ec) ∧ w1.cell? ⟨w.heap.size, 3, none⟩ = some (.slice t.head.kp t.head.kn t.head.kc) := by
  refine ⟨?_, ?_, ?_, ?_⟩ <;> (rw [hb.cell (by simp), cell_new]; rfl)
end
section
open Go.RowKit Go.Sort Go.Lib
structure LBH where
  kind : Int
  var : Int
structure BH where
  kind : Int
  var : Int
  kp : Option Addr
  kn : Nat
  kc : Nat
abbrev PB := Rose BH
abbrev BT := Rose LBH
def BH.plain (a : BH) : LBH := ⟨a.kind, a.var⟩
def PB.er (t : PB) : BT := Rose.map BH.plain t
theorem PB.er_node (a : BH) (l : List PB) : PB.er (.node a l) = .node a.plain (l.map PB.er) := Rose.map_node _ a l
def encBH (a : BH) : List Value := [.int .u8 a.kind, .int .i64 a.var, .slice a.kp a.kn a.kc]
structure BH.Own (a : BH) : Prop where
  kmax : a.kn ≤ 9223372036854775807
  kle : a.kn ≤ a.kc
  knil : a.kp = none → a.kc = 0
def LB : Laid BH where
  enc := encBH
  k := 3
  own := fun _ => BH.Own
  kp := BH.kp
  kn := BH.kn
  len := fun _ => rfl
  below := fun h _ => h
def Span (B E : Nat) (t : PB) : Prop := ∀ a ∈ t.nodes, ∀ ad, a.kp = some ad → B ≤ ad.block ∧ ad.block < E
theorem Span.mono {B E B' E' : Nat} {t : PB} (h : Span B E t) (hB : B' ≤ B) (hE : E ≤ E') : Span B' E' t := fun a ha ad hp => by have := h a ha ad hp; omega
theorem Span.node {B E : Nat} {a : BH} {l : List PB} (ha : ∀ ad, a.kp = some ad → B ≤ ad.block ∧ ad.block < E) (hl : ∀ t ∈ l, Span B E t) : Span B E (.node a l) := by
  intro x hx
  rw [Rose.nodes_node, List.mem_cons] at hx
  rcases hx with rfl | hx
  · exact ha
  · rw [List.mem_flatten] at hx
    obtain ⟨m, hm, hx⟩ := hx
    obtain ⟨t, ht, rfl⟩ := List.mem_map.1 hm
    exact hl t ht x hx
theorem rowE_grown {α : Type} {enc : α → List Value} {k : Nat} {w w' : World} {r : Option Nat} {p : Option Addr} {l : List α} (hg : w.grownBy w' r) (hne : ∀ ad, p = some ad → r ≠ some ad.block) (h : RowE enc k w p l) : RowE enc k w' p l := by
  rcases h with h | ⟨b, o, rfl, hb, hc⟩
  · exact .inl h
  · refine .inr ⟨b, o, rfl, Nat.lt_of_lt_of_le hb hg.size, fun j x hx i u hi => held_cell hg (by exact hne ⟨b, o, none⟩ rfl) (hc j x hx i u hi)⟩
structure Box3 (w : World) (g : Nat) (x y z : Value) : Prop where
  blk : w.heap[g]? = some (.cells #[x, y, z] 45 (0, 0))
theorem Box3.cells {w : World} {g : Nat} {x y z : Value} (h : Box3 w g x y z) : w.cell? ⟨g, 0, none⟩ = some x ∧ w.cell? ⟨g, 1, none⟩ = some y ∧ w.cell? ⟨g, 2, none⟩ = some z ∧ w.frozen? ⟨g, 0, none⟩ = false ∧ w.frozen? ⟨g, 1, none⟩ = false ∧ w.frozen? ⟨g, 2, none⟩ = false := by
  have hb := h.blk
  refine ⟨?_, ?_, ?_, ?_, ?_, ?_⟩ <;> simp [World.cell?, World.frozen?, hb]
theorem Box3.lt {w : World} {g : Nat} {x y z : Value} (h : Box3 w g x y z) : g < w.heap.size := (Array.getElem?_eq_some_iff.1 h.blk).1
theorem Box3.grown {w w' : World} {g : Nat} {x y z : Value} {r : Option Nat} (h : Box3 w g x y z) (hg : w.grownBy w' r) (hr : r ≠ some g) : Box3 w' g x y z := ⟨by rw [hg.block g h.lt hr.symm]; exact h.blk⟩
theorem Box3.below {w w' : World} {g : Nat} {x y z : Value} (h : Box3 w g x y z) (hb : Below w.heap.size w w') : Box3 w' g x y z := ⟨by rw [hb.block g h.lt]; exact h.blk⟩
theorem OwnE.other {α : Type} {enc : α → List Value} {k : Nat} {w w' : World} {base e n : Nat} {v : Value} {l : List α} {r : Option Nat} (h : OwnE enc k w base e v n l) (hg : w.grownBy w' r) (hr : ∀ b, v.ownBlock = some b → r ≠ some b) : OwnE enc k w' base e v n l := by
  refine ⟨h.1, ?_⟩
  rcases h.2 with hn | ⟨g, cap, cur, rfl, hb', hgg, rest⟩
  · exact .inl hn
  · refine .inr ⟨g, cap, cur, rfl, hb', ?_, rest⟩
    rw [hg.block g (Array.getElem?_eq_some_iff.1 hgg).1 (hr g rfl).symm]; exact hgg
end
section
open Go.RowKit Go.Sort Go.Lib
end
section
open Go.RowKit Go.Sort Go.Lib
theorem kids_le (l : List PT) : l.length ≤ sizes l := by
  unfold sizes
  induction l with
  | nil => simp
  | cons x l ih => have := Rose.size_pos x; simp only [List.length_cons, List.map_cons, List.sum_cons]; omega
structure NodeB (w : World) (a : BH) (l : List PB) : Prop where
  own : BH.Own a
  len : l.length = a.kn
  row : RowE LB.encT 3 w a.kp l
  each : ∀ t ∈ l, LB.lies w t
theorem NodeB.below {w w' : World} {a : BH} {l : List PB} (h : NodeB w a l) (hb : Below w.heap.size w w') : NodeB w' a l := ⟨h.own, h.len, h.row.below hb, fun t ht => LB.lies_below hb t (h.each t ht)⟩
theorem NodeB.kid {w : World} {a : BH} {l : List PB} (h : NodeB w a l) {j : Nat} {t : PB} (hx : l[j]? = some t) :
    ∃ b o, a.kp = some ⟨b, o, none⟩ ∧ b < w.heap.size ∧ w.cell? ⟨b, o + j * 3, none⟩ = some (.int .u8 t.head.kind) ∧ w.cell? ⟨b, o + j * 3 + 1, none⟩ = some (.int .i64 t.head.var) ∧ w.cell? ⟨b, o + j * 3 + 2, none⟩ = some (.slice t.head.kp t.head.kn t.head.kc) := by
  obtain ⟨b, o, hp, hb, hc⟩ := h.row.elem hx
  exact ⟨b, o, hp, hb, by simpa using hc 0 _ rfl, hc 1 _ rfl, hc 2 _ rfl⟩
end
end Go.Proofs.YtkdjnegfnhldpaaGreatDoor
