/- slices.EqualFunc at types with regions; rtype.Same, enclaveref12.Same; RtypeSame. -/
import Derived.Test.YtekhblomdlehhaaGreatDoorRtA
set_option linter.unusedVariables false
set_option maxRecDepth 100000
set_option linter.unusedSimpArgs false
namespace Go.Proofs.YtekhblomdlehhaaGreatDoor
open Go.RowKit Go.Sort Go.Lib

/-- are two nodes the same? -/
def sameH (a b : LH) : Bool := decide (a.kind = b.kind) && decide (a.rho = b.rho) && (withinB a.eff b.eff && withinB b.eff a.eff)
def sameP (x y : PT) : Bool := Rose.same sameH x.er y.er
def sameK (l m : List PT) : Bool := Rose.sameL sameH (l.map PT.er) (m.map PT.er)
theorem sameP_node (a b : RH) (l m : List PT) : sameP (.node a l) (.node b m) = (sameH a.plain b.plain && sameK l m) := by
  unfold sameP
  rw [PT.er_node, PT.er_node, Rose.same_node]; rfl
theorem sameK_true {l m : List PT} (hl : l.length = m.length) (h : ∀ (j : Nat) (x y : PT), l[j]? = some x → m[j]? = some y → sameP x y = true) : sameK l m = true := by
  unfold sameK
  rw [Rose.sameL_get]
  refine ⟨by simp [hl], fun j t u ht hu => ?_⟩
  rw [List.getElem?_map] at ht hu
  obtain ⟨x, hx, rfl⟩ := Option.map_eq_some_iff.1 ht
  obtain ⟨y, hy, rfl⟩ := Option.map_eq_some_iff.1 hu
  exact h j x y hx hy
theorem sameK_len {l m : List PT} (hl : l.length ≠ m.length) : sameK l m = false := by
  rw [Bool.eq_false_iff]
  intro h
  exact hl (by simpa using Rose.sameL_length _ _ _ h)
theorem sameK_false {l m : List PT} {j : Nat} {x y : PT} (hx : l[j]? = some x) (hy : m[j]? = some y) (h : sameP x y = false) : sameK l m = false := by
  rw [Bool.eq_false_iff]
  intro hs
  unfold sameK at hs
  rw [Rose.sameL_get] at hs
  have := hs.2 j x.er y.er (by rw [List.getElem?_map, hx]; rfl) (by rw [List.getElem?_map, hy]; rfl)
  unfold sameP at h
  rw [h] at this; cases this
theorem sameH_refl (a : LH) : sameH a a = true := by simp [sameH, withinB_refl]
theorem sameH_symm (a b : LH) : sameH a b = sameH b a := by
  unfold sameH
  rw [Bool.and_comm (withinB a.eff b.eff)]
  congr 1
  congr 1
  · exact decide_eq_decide.2 eq_comm
  · exact decide_eq_decide.2 eq_comm
theorem sameP_refl (x : PT) : sameP x x = true := by
  refine Rose.ind (P := fun (x : PT) => sameP x x = true) (fun a l ih => ?_) x
  rw [sameP_node, sameH_refl, Bool.true_and]
  refine sameK_true rfl (fun j x y hx hy => ?_)
  rw [hx] at hy; cases hy
  exact ih x (List.mem_of_getElem? hx)
theorem bool_ext {a b : Bool} (h : a = true → b = true) (h' : b = true → a = true) : a = b := by
  cases a <;> cases b <;> simp_all
theorem sameP_symm (x : PT) : ∀ y, sameP x y = sameP y x := by
  refine Rose.ind (P := fun (x : PT) => ∀ y, sameP x y = sameP y x) (fun a l ih y => ?_) x
  obtain ⟨b, m⟩ := y
  rw [sameP_node, sameP_node, sameH_symm]
  congr 1
  by_cases hl : l.length = m.length
  · refine bool_ext (fun h => ?_) (fun h => ?_)
    · refine sameK_true hl.symm (fun j x y hx hy => ?_)
      cases hq : sameP x y
      · have : sameP y x = false := by rw [ih y (List.mem_of_getElem? hy)]; exact hq
        rw [sameK_false hy hx this] at h; cases h
      · rfl
    · refine sameK_true hl (fun j x y hx hy => ?_)
      cases hq : sameP x y
      · have : sameP y x = false := by rw [← ih x (List.mem_of_getElem? hx)]; exact hq
        rw [sameK_false hy hx this] at h; cases h
      · rfl
  · rw [sameK_len hl, sameK_len (Ne.symm hl)]

/-- what Same answers -/
def SameAt (x y : PT) (W : World) : Prop := Calls Tryz.prog 41 #[aggR x.head, aggR y.head] W fun e w' => e = .returned (.bool (sameP x y)) ∧ Below W.heap.size W w'
/-- the function answers so, in all worlds behind w -/
def PredT2 (fid : FuncId) (w : World) (l m : List PT) : Prop :=
  ∀ x ∈ l, ∀ y ∈ m, ∀ r, sameP x y = r → ∀ W, Below w.heap.size w W → Calls Tryz.prog fid #[aggR x.head, aggR y.head] W fun e w' => e = .returned (.bool r) ∧ Below W.heap.size W w'

set_option maxHeartbeats 1000000 in
theorem t_equalFunc_any (fid : FuncId) (hent : Enters fid) {p : Option Addr} {n cap : Nat} {l : List PT} {q : Option Addr} {m mc : Nat} {l' : List PT} {w : World} (hr : RowT w p n cap l) (hr' : RowT w q m mc l') (hf : PredT2 fid w l l') :
    Calls Tryz.prog 70 #[.slice p n cap, .slice q m mc, .func (.func fid) #[] #[]] w fun e w' => e = .returned (.bool (sameK l l')) ∧ Below w.heap.size w w' := by
  unfold Enters at hent
  have hm := hr.row.max
  have HR := Lib.hid hr
  have HR' := Lib.hid hr'
  have HF := Lib.hid hf
  clear hr hr' hf
  by_cases hnm : n = m
  · subst hnm
    go_enter Tryz.func70, Tryz.ntmps70
    go_wp2_with fail
    go_loopw [7, 8, 9, 17] (fun _ _ _ i wr => ∃ k : Nat, k ≤ n ∧ i = .int .i64 k ∧ (∀ (j : Nat) (x y : PT), j < k → l[j]? = some x → l'[j]? = some y → sameP x y = true) ∧ Below w.heap.size w wr) (fun _ _ _ i _ => n - (intOf i).toNat)
    case atStart => exact ⟨0, by omega, rfl, fun j x y hj => by omega, Below.refl _ _⟩
    case round =>
      obtain ⟨k, hk, rfl, hno, hb⟩ := hrel
      have HNO := Lib.hid hno
      have HB := Lib.hid hb
      clear hno hb
      by_cases hlt : k < n
      · obtain ⟨x, hx⟩ := HR.out.at (j := k) hlt
        obtain ⟨y, hy⟩ := HR'.out.at (j := k) hlt
        have HX := Lib.hid hx
        have HY := Lib.hid hy
        obtain ⟨b, o, rfl, hbl, d0, d1, d2, d3⟩ := (HR.out.below HB.out).kid hx
        obtain ⟨b', o', rfl, hbl', e0, e1, e2, e3⟩ := (HR'.out.below HB.out).kid hy
        have hB2 := (HB.out.alloc HB.out.size (.cells #[.int .u8 x.head.kind, .int .i64 x.head.rho, .slice x.head.ep x.head.en x.head.ec, .slice x.head.kp x.head.kn x.head.kc] 47))
        have HB2 := Lib.hid (hB2.alloc hB2.size (.cells #[.int .u8 y.head.kind, .int .i64 y.head.rho, .slice y.head.ep y.head.en y.head.ec, .slice y.head.kp y.head.kn y.head.kc] 47))
        clear hx hy hB2
        cases hq : sameP x y
        · have HQ := Lib.hid hq
          clear hq
          go_wp2_with fail
          refine (HF.out x (List.mem_of_getElem? HX.out) y (List.mem_of_getElem? HY.out) _ HQ.out _ HB2.out).mono ?_
          rintro e w1 ⟨rfl, hb⟩
          have HB3 := Lib.hid (HB2.out.trans (hb.mono HB2.out.size))
          clear hb d0 d1 d2 d3 e0 e1 e2 e3
          go_wp2_with fail
          go_ret
          exact ⟨ret_bool (sameK_false HX.out HY.out HQ.out).symm, HB3.out⟩
        · have HQ := Lib.hid hq
          clear hq
          go_wp2_with fail
          refine (HF.out x (List.mem_of_getElem? HX.out) y (List.mem_of_getElem? HY.out) _ HQ.out _ HB2.out).mono ?_
          rintro e w1 ⟨rfl, hb⟩
          have HB3 := Lib.hid (HB2.out.trans (hb.mono HB2.out.size))
          clear hb d0 d1 d2 d3 e0 e1 e2 e3
          go_wp2_with fail
          go_roundw
          case rel =>
            refine ⟨k + 1, by omega, by go_num, fun j x' y' hj hx' hy' => ?_, HB3.out⟩
            by_cases hjk : j = k
            · subst hjk
              have h1 := HX.out; have h2 := HY.out
              rw [hx'] at h1; rw [hy'] at h2
              cases h1; cases h2
              exact HQ.out
            · exact HNO.out j x' y' (by omega) hx' hy'
          case measure => simp [intOf]; omega
      · have hkn : k = n := by omega
        go_wp2_with fail
        go_ret
        have hs : sameK l l' = true := sameK_true (by rw [HR.out.row.len, HR'.out.row.len]) (fun j x y hx hy => HNO.out j x y (by have h1 := (List.getElem?_eq_some_iff.1 hx).1; have h2 := HR.out.row.len; omega) hx hy)
        exact ⟨ret_bool hs.symm, HB.out⟩
  · have hne : Hid (sameK l l' = false) := sameK_len (by rw [HR.out.row.len, HR'.out.row.len]; exact hnm)
    have hb : ((n : Int) != (m : Int)) = true := by rw [bne_iff_ne]; omega
    clear hnm
    go_enter Tryz.func70, Tryz.ntmps70
    go_wp2_with fail
    go_ret
    exact ⟨ret_bool hne.out.symm, Below.refl _ _⟩

theorem effect_Same_is {p : Option Addr} {n cap : Nat} {l : List Atom} {q : Option Addr} {m mc : Nat} {l' : List Atom} {w : World} {r : Bool} (h : (withinB l l' && withinB l' l) = r) (hr : IsRow encA 3 w p n cap l) (hr' : IsRow encA 3 w q m mc l') :
    Calls Tryz.prog 69 #[.slice p n cap, .slice q m mc] w fun e w' => e = .returned (.bool r) ∧ Below w.heap.size w w' := by
  subst h; exact effect_Same_any p n cap l q m mc l' w hr.len hr.max hr.row hr'.len hr'.max hr'.row
theorem ref_Within_is {p : Option Addr} {n cap : Nat} {l : List Atom} {q : Option Addr} {m mc : Nat} {l' : List Atom} {w : World} {r : Bool} (h : withinB l l' = r) (hr : IsRow encA 3 w p n cap l) (hr' : IsRow encA 3 w q m mc l') :
    Calls Tryz.prog 68 #[.slice p n cap, .slice q m mc] w fun e w' => e = .returned (.bool r) ∧ Below w.heap.size w w' := by
  subst h; exact ref_Within_any p n cap l q m mc l' w hr.len hr.max hr.row hr'.len hr'.max hr'.row
/-- two boxes -/
theorem boxes_cells {w w1 : World} {a b : RH} (hb : Below (w.heap.size + 2) ((w.alloc (.cells #[.int .u8 a.kind, .int .i64 a.rho, .slice a.ep a.en a.ec, .slice a.kp a.kn a.kc] 47)).alloc (.cells #[.int .u8 b.kind, .int .i64 b.rho, .slice b.ep b.en b.ec, .slice b.kp b.kn b.kc] 47)) w1) :
    (w1.cell? ⟨w.heap.size, 0, none⟩ = some (.int .u8 a.kind) ∧ w1.cell? ⟨w.heap.size, 1, none⟩ = some (.int .i64 a.rho) ∧ w1.cell? ⟨w.heap.size, 2, none⟩ = some (.slice a.ep a.en a.ec) ∧ w1.cell? ⟨w.heap.size, 3, none⟩ = some (.slice a.kp a.kn a.kc)) ∧
    (w1.cell? ⟨w.heap.size + 1, 0, none⟩ = some (.int .u8 b.kind) ∧ w1.cell? ⟨w.heap.size + 1, 1, none⟩ = some (.int .i64 b.rho) ∧ w1.cell? ⟨w.heap.size + 1, 2, none⟩ = some (.slice b.ep b.en b.ec) ∧ w1.cell? ⟨w.heap.size + 1, 3, none⟩ = some (.slice b.kp b.kn b.kc)) := by
  refine ⟨⟨?_, ?_, ?_, ?_⟩, ?_, ?_, ?_, ?_⟩ <;> (rw [hb.cell (by simp)]; go_simp)
abbrev boxes (w : World) (a b : RH) : World := (w.alloc (.cells #[.int .u8 a.kind, .int .i64 a.rho, .slice a.ep a.en a.ec, .slice a.kp a.kn a.kc] 47)).alloc (.cells #[.int .u8 b.kind, .int .i64 b.rho, .slice b.ep b.en b.ec, .slice b.kp b.kn b.kc] 47)
theorem boxes_below (w : World) (a b : RH) : Below w.heap.size w (boxes w a b) := ((Below.refl w.heap.size w).alloc (Nat.le_refl _) _).alloc (by simp) _

set_option maxHeartbeats 1000000 in
theorem rtype_Same_of {a b : RH} {l m : List PT} {w : World} (ha : NodeIn w a l) (hb : NodeIn w b m) (hf : PredT2 41 w l m) : SameAt (.node a l) (.node b m) w := by
  have HBX := Lib.hid (boxes_below w a b)
  have HNA := Lib.hid ha
  have HNB := Lib.hid hb
  have HF := Lib.hid hf
  have HP := Lib.hid (sameP_node a b l m)
  show Calls _ _ #[aggR a, aggR b] w _
  clear ha hb hf
  by_cases h1 : a.kind = b.kind
  · have b1 : (a.kind == b.kind) = true := by simpa using h1
    by_cases h2 : a.rho = b.rho
    · have b2 : (a.rho == b.rho) = true := by simpa using h2
      cases h3 : (withinB a.eff b.eff && withinB b.eff a.eff)
      · have HS : Hid (sameP (.node a l) (.node b m) = false) := by show _ = _; rw [HP.out]; simp only [sameH, RH.plain, h3, Bool.and_false, Bool.false_and]
        have H3 := Lib.hid h3
        clear h1 h2 h3
        go_enter Tryz.func41, Tryz.ntmps41
        go_wp2_with fail
        refine (effect_Same_is H3.out (HNA.out.below HBX.out).own.eff (HNB.out.below HBX.out).own.eff).mono ?_
        rintro e w1 ⟨rfl, hb⟩
        have HB1 := Lib.hid (HBX.out.trans (hb.mono HBX.out.size))
        clear hb
        go_wp2_with fail
        go_ret
        exact ⟨ret_bool HS.out.symm, HB1.out⟩
      · have HS : Hid (sameP (.node a l) (.node b m) = sameK l m) := by show _ = _; rw [HP.out]; simp only [sameH, RH.plain, h1, h2, h3, decide_true, Bool.true_and]
        have H3 := Lib.hid h3
        clear h1 h2 h3
        generalize hk : sameK l m = K at HS
        have HK := Lib.hid hk
        clear hk
        go_enter Tryz.func41, Tryz.ntmps41
        go_wp2_with fail
        refine (effect_Same_is H3.out (HNA.out.below HBX.out).own.eff (HNB.out.below HBX.out).own.eff).mono ?_
        rintro e w1 ⟨rfl, hb⟩
        have HB1 := Lib.hid (HBX.out.trans (hb.mono HBX.out.size))
        have HC : Hid (Below (w.heap.size + 2) (boxes w a b) w1) := by show Below _ _ _; simpa using hb
        clear hb
        obtain ⟨⟨d0, d1, d2, d3⟩, e0, e1, e2, e3⟩ := boxes_cells HC.out
        go_wp2_with fail
        refine (t_equalFunc_any 41 (fun a w => Tryz.call41 a w) (HNA.out.below HB1.out).rowT (HNB.out.below HB1.out).rowT (fun x hx y hy r hq W hW => HF.out x hx y hy r hq W (HB1.out.trans (hW.mono HB1.out.size)))).mono ?_
        rintro e w2 ⟨rfl, hb⟩
        have HB2 := Lib.hid (HB1.out.trans (hb.mono HB1.out.size))
        rw [HK.out]
        clear hb d0 d1 d2 d3 e0 e1 e2 e3
        go_wp2_with fail
        go_ret
        exact ⟨ret_bool HS.out.symm, HB2.out⟩
    · have b2 : (a.rho == b.rho) = false := by rw [beq_eq_false_iff_ne]; exact h2
      have HS : Hid (sameP (.node a l) (.node b m) = false) := by show _ = _; rw [HP.out]; simp [sameH, RH.plain, h2]
      clear h1 h2
      go_enter Tryz.func41, Tryz.ntmps41
      go_wp2_with fail
      go_ret
      exact ⟨ret_bool HS.out.symm, HBX.out⟩
  · have b1 : (a.kind == b.kind) = false := by rw [beq_eq_false_iff_ne]; exact h1
    have HS : Hid (sameP (.node a l) (.node b m) = false) := by show _ = _; rw [HP.out]; simp [sameH, RH.plain, h1]
    clear h1
    go_enter Tryz.func41, Tryz.ntmps41
    go_wp2_with fail
    go_ret
    exact ⟨ret_bool HS.out.symm, HBX.out⟩
theorem sameAt_any (x : PT) : ∀ y w, LR.lies w x → LR.lies w y → SameAt x y w := by
  refine Rose.ind (P := fun (x : PT) => ∀ y w, LR.lies w x → LR.lies w y → SameAt x y w) (fun a l ih => ?_) x
  intro y w hx hy
  obtain ⟨b, m⟩ := y
  have HX := nodeIn hx
  have HY := nodeIn hy
  refine rtype_Same_of HX HY (fun x hx y hy r hq W hW => ?_)
  have := ih x hx y W (LR.lies_below hW x (HX.each x hx)) (LR.lies_below hW y (HY.each y hy))
  unfold SameAt at this
  rw [hq] at this
  exact this

/-- what the reference's Same answers -/
def RSameAt (x y : PT) (W : World) : Prop := ∀ r, sameP x y = r → Calls Tryz.prog 40 #[aggR x.head, aggR y.head] W fun e w' => e = .returned (.bool r) ∧ Below W.heap.size W w'
set_option maxHeartbeats 4000000 in
theorem ref_Same12_of {a b : RH} {l m : List PT} {w : World} (ha : NodeIn w a l) (hb : NodeIn w b m) (hf : ∀ x ∈ l, ∀ y ∈ m, ∀ W, Below w.heap.size w W → RSameAt x y W) {r : Bool} (hrr : sameP (.node a l) (.node b m) = r) :
    Calls Tryz.prog 40 #[aggR a, aggR b] w fun e w' => e = .returned (.bool r) ∧ Below w.heap.size w w' := by
  have HBX := Lib.hid (boxes_below w a b)
  have HNA := Lib.hid ha
  have HNB := Lib.hid hb
  have HF := Lib.hid hf
  have HP := Lib.hid (sameP_node a b l m)
  have HRR := Lib.hid hrr
  have hla := ha.kids.len
  have hlb := hb.kids.len
  have hma := ha.own.kmax
  have hmb := hb.own.kmax
  clear ha hb hf hrr
  by_cases h1 : a.kind = b.kind
  · have b1 : (a.kind != b.kind) = false := by simpa using h1
    by_cases h2 : a.rho = b.rho
    · have b2 : (a.rho != b.rho) = false := by simpa using h2
      by_cases hn : a.kn = b.kn
      · have b3 : ((a.kn : Int) != (b.kn : Int)) = false := by rw [hn]; simp
        have HNK := Lib.hid hn
        clear hn
        cases h3 : withinB a.eff b.eff
        · have HS : Hid (r = false) := by show _ = _; rw [← HRR.out, HP.out]; simp [sameH, RH.plain, h3]
          have H3 := Lib.hid h3
          clear h1 h2 h3
          go_enter Tryz.func40, Tryz.ntmps40
          go_wp2_with fail
          refine (ref_Within_is H3.out (HNA.out.below HBX.out).own.eff (HNB.out.below HBX.out).own.eff).mono ?_
          rintro e w1 ⟨rfl, hb⟩
          have HB1 := Lib.hid (HBX.out.trans (hb.mono HBX.out.size))
          clear hb
          go_wp2_with fail
          go_ret
          exact ⟨ret_bool HS.out.symm, HB1.out⟩
        · have H3 := Lib.hid h3
          cases h4 : withinB b.eff a.eff
          · have HS : Hid (r = false) := by show _ = _; rw [← HRR.out, HP.out]; simp [sameH, RH.plain, h4]
            have H4 := Lib.hid h4
            clear h1 h2 h3 h4
            go_enter Tryz.func40, Tryz.ntmps40
            go_wp2_with fail
            refine (ref_Within_is H3.out (HNA.out.below HBX.out).own.eff (HNB.out.below HBX.out).own.eff).mono ?_
            rintro e w1 ⟨rfl, hb⟩
            have HB1 := Lib.hid (HBX.out.trans (hb.mono HBX.out.size))
            have HC : Hid (Below (w.heap.size + 2) (boxes w a b) w1) := by show Below _ _ _; simpa using hb
            clear hb
            obtain ⟨⟨d0, d1, d2, d3⟩, e0, e1, e2, e3⟩ := boxes_cells HC.out
            go_wp2_with fail
            refine (ref_Within_is H4.out (HNB.out.below HB1.out).own.eff (HNA.out.below HB1.out).own.eff).mono ?_
            rintro e w2 ⟨rfl, hb⟩
            have HB2 := Lib.hid (HB1.out.trans (hb.mono HB1.out.size))
            clear hb d0 d1 d2 d3 e0 e1 e2 e3
            go_wp2_with fail
            go_ret
            exact ⟨ret_bool HS.out.symm, HB2.out⟩
          · have HS : Hid (r = sameK l m) := by show _ = _; rw [← HRR.out, HP.out]; simp only [sameH, RH.plain, h1, h2, h3, h4, decide_true, Bool.true_and]
            have H4 := Lib.hid h4
            clear h1 h2 h3 h4
            go_enter Tryz.func40, Tryz.ntmps40
            go_wp2_with fail
            refine (ref_Within_is H3.out (HNA.out.below HBX.out).own.eff (HNB.out.below HBX.out).own.eff).mono ?_
            rintro e w1 ⟨rfl, hb⟩
            have HB1 := Lib.hid (HBX.out.trans (hb.mono HBX.out.size))
            have HC : Hid (Below (w.heap.size + 2) (boxes w a b) w1) := by show Below _ _ _; simpa using hb
            clear hb
            obtain ⟨⟨d0, d1, d2, d3⟩, e0, e1, e2, e3⟩ := boxes_cells HC.out
            go_wp2_with fail
            refine (ref_Within_is H4.out (HNB.out.below HB1.out).own.eff (HNA.out.below HB1.out).own.eff).mono ?_
            rintro e w2 ⟨rfl, hb⟩
            have HB2 := Lib.hid (HB1.out.trans (hb.mono HB1.out.size))
            have HC2 := Lib.hid (HC.out.trans (hb.mono (by have := HC.out.size; simpa using this)))
            clear hb d0 d1 d2 d3 e0 e1 e2 e3
            obtain ⟨⟨d0, d1, d2, d3⟩, e0, e1, e2, e3⟩ := boxes_cells HC2.out
            go_wp2_with fail
            clear d0 d1 d2 d3 e0 e1 e2 e3
            go_loopw [5, 46] (fun _ i wr => ∃ k : Nat, k ≤ a.kn ∧ i = .int .i64 k ∧ (∀ (j : Nat) (x y : PT), j < k → l[j]? = some x → m[j]? = some y → sameP x y = true) ∧ Below w2.heap.size w2 wr) (fun _ i _ => a.kn - (intOf i).toNat)
            case atStart => exact ⟨0, by omega, rfl, fun j x y hj => by omega, Below.refl _ _⟩
            case round =>
              obtain ⟨k, hk, rfl, hno, hb⟩ := hrel
              have HNO := Lib.hid hno
              have HB := Lib.hid hb
              clear hno hb
              have HBW := Lib.hid (HB2.out.trans (HB.out.mono HB2.out.size))
              have HCW := Lib.hid (HC2.out.trans (HB.out.mono (by have := HC2.out.size; simpa using this)))
              by_cases hlt : k < a.kn
              · obtain ⟨x, hx⟩ := HNA.out.rowT.at (j := k) hlt
                have hltb : k < b.kn := by have := HNK.out; omega
                obtain ⟨y, hy⟩ := HNB.out.rowT.at (j := k) hltb
                have HX := Lib.hid hx
                have HY := Lib.hid hy
                obtain ⟨g, o, hbo, hbl, d0, d1, d2, d3⟩ := (HNA.out.rowT.below HBW.out).kid hx
                obtain ⟨g', o', hbo', hbl', e0, e1, e2, e3⟩ := (HNB.out.rowT.below HBW.out).kid hy
                obtain ⟨⟨_, _, _, c3⟩, _, _, _, c3'⟩ := boxes_cells HCW.out
                rw [hbo] at c3
                rw [hbo'] at c3'
                have i0 : (0 : Int) ≤ (k : Int) := by omega
                have i1 : (k : Int) < (a.kn : Int) := by omega
                have i2 : (k : Int) < (b.kn : Int) := by omega
                have HSS : Hid (∀ W, Below wr.heap.size wr W → W.cell? ⟨w.heap.size, 3, none⟩ = some (.slice (some ⟨g, o, none⟩) a.kn a.kc) ∧ W.cell? ⟨w.heap.size + 1, 3, none⟩ = some (.slice (some ⟨g', o', none⟩) b.kn b.kc) ∧ W.cell? ⟨g, o + k * 4, none⟩ = some (.int .u8 x.head.kind) ∧ W.cell? ⟨g, o + k * 4 + 1, none⟩ = some (.int .i64 x.head.rho) ∧ W.cell? ⟨g, o + k * 4 + 2, none⟩ = some (.slice x.head.ep x.head.en x.head.ec) ∧ W.cell? ⟨g, o + k * 4 + 3, none⟩ = some (.slice x.head.kp x.head.kn x.head.kc) ∧
                    W.cell? ⟨g', o' + k * 4, none⟩ = some (.int .u8 y.head.kind) ∧ W.cell? ⟨g', o' + k * 4 + 1, none⟩ = some (.int .i64 y.head.rho) ∧ W.cell? ⟨g', o' + k * 4 + 2, none⟩ = some (.slice y.head.ep y.head.en y.head.ec) ∧ W.cell? ⟨g', o' + k * 4 + 3, none⟩ = some (.slice y.head.kp y.head.kn y.head.kc) ∧ Below wr.heap.size wr W) := fun W h =>
                  ⟨by rw [h.cell (cell_block c3)]; exact c3, by rw [h.cell (cell_block c3')]; exact c3', by rw [h.cell hbl]; exact d0, by rw [h.cell hbl]; exact d1, by rw [h.cell hbl]; exact d2, by rw [h.cell hbl]; exact d3, by rw [h.cell hbl']; exact e0, by rw [h.cell hbl']; exact e1, by rw [h.cell hbl']; exact e2, by rw [h.cell hbl']; exact e3, h⟩
                clear hx hy hbo hbo' hbl hbl' c3 c3' d0 d1 d2 d3 e0 e1 e2 e3
                cases hq : sameP x y
                · have HQ := Lib.hid hq
                  clear hq
                  go_wp2_with fail
                  go_region_held3 (fun W => W.cell? ⟨w.heap.size, 3, none⟩ = some (.slice (some ⟨g, o, none⟩) a.kn a.kc) ∧ W.cell? ⟨w.heap.size + 1, 3, none⟩ = some (.slice (some ⟨g', o', none⟩) b.kn b.kc) ∧ W.cell? ⟨g, o + k * 4, none⟩ = some (.int .u8 x.head.kind) ∧ W.cell? ⟨g, o + k * 4 + 1, none⟩ = some (.int .i64 x.head.rho) ∧ W.cell? ⟨g, o + k * 4 + 2, none⟩ = some (.slice x.head.ep x.head.en x.head.ec) ∧ W.cell? ⟨g, o + k * 4 + 3, none⟩ = some (.slice x.head.kp x.head.kn x.head.kc) ∧
                      W.cell? ⟨g', o' + k * 4, none⟩ = some (.int .u8 y.head.kind) ∧ W.cell? ⟨g', o' + k * 4 + 1, none⟩ = some (.int .i64 y.head.rho) ∧ W.cell? ⟨g', o' + k * 4 + 2, none⟩ = some (.slice y.head.ep y.head.en y.head.ec) ∧ W.cell? ⟨g', o' + k * 4 + 3, none⟩ = some (.slice y.head.kp y.head.kn y.head.kc) ∧ Below wr.heap.size wr W)
                    (first
                      | exact HSS.out _ (bel_drew _)
                      | exact HSS.out _ hZ)
                    ((go_at_call 40; refine (HF.out x (List.mem_of_getElem? HX.out) y (List.mem_of_getElem? HY.out) _ (HBW.out.trans (Below.mono (by go_split_ands; assumption) HBW.out.size)) _ HQ.out).mono ?_; rintro e w8 ⟨rfl, hb8⟩; have hZ := bel_step (w0 := wr) (by go_split_ands; assumption) hb8))
                  rename_i hH
                  clear hH hb8
                  have hb8 := hZ
                  clear hZ
                  have HB3 := Lib.hid (HBW.out.trans (hb8.mono HBW.out.size))
                  go_wp2_with fail
                  go_ret
                  exact ⟨ret_bool (by rw [HS.out]; exact (sameK_false HX.out HY.out HQ.out).symm), HB3.out⟩
                · have HQ := Lib.hid hq
                  clear hq
                  go_wp2_with fail
                  go_region_held3 (fun W => W.cell? ⟨w.heap.size, 3, none⟩ = some (.slice (some ⟨g, o, none⟩) a.kn a.kc) ∧ W.cell? ⟨w.heap.size + 1, 3, none⟩ = some (.slice (some ⟨g', o', none⟩) b.kn b.kc) ∧ W.cell? ⟨g, o + k * 4, none⟩ = some (.int .u8 x.head.kind) ∧ W.cell? ⟨g, o + k * 4 + 1, none⟩ = some (.int .i64 x.head.rho) ∧ W.cell? ⟨g, o + k * 4 + 2, none⟩ = some (.slice x.head.ep x.head.en x.head.ec) ∧ W.cell? ⟨g, o + k * 4 + 3, none⟩ = some (.slice x.head.kp x.head.kn x.head.kc) ∧
                      W.cell? ⟨g', o' + k * 4, none⟩ = some (.int .u8 y.head.kind) ∧ W.cell? ⟨g', o' + k * 4 + 1, none⟩ = some (.int .i64 y.head.rho) ∧ W.cell? ⟨g', o' + k * 4 + 2, none⟩ = some (.slice y.head.ep y.head.en y.head.ec) ∧ W.cell? ⟨g', o' + k * 4 + 3, none⟩ = some (.slice y.head.kp y.head.kn y.head.kc) ∧ Below wr.heap.size wr W)
                    (first
                      | exact HSS.out _ (bel_drew _)
                      | exact HSS.out _ hZ)
                    ((go_at_call 40; refine (HF.out x (List.mem_of_getElem? HX.out) y (List.mem_of_getElem? HY.out) _ (HBW.out.trans (Below.mono (by go_split_ands; assumption) HBW.out.size)) _ HQ.out).mono ?_; rintro e w8 ⟨rfl, hb8⟩; have hZ := bel_step (w0 := wr) (by go_split_ands; assumption) hb8))
                  rename_i hH
                  clear hH hb8
                  have hb8 := hZ
                  clear hZ
                  have HB3 := Lib.hid (HBW.out.trans (hb8.mono HBW.out.size))
                  go_wp2_with fail
                  go_roundw
                  case rel =>
                    refine ⟨k + 1, by omega, by go_num, fun j x' y' hj hx' hy' => ?_, HB.out.trans (hb8.mono HB.out.size)⟩
                    by_cases hjk : j = k
                    · subst hjk
                      have h1 := HX.out; have h2 := HY.out
                      rw [hx'] at h1; rw [hy'] at h2
                      cases h1; cases h2
                      exact HQ.out
                    · exact HNO.out j x' y' (by omega) hx' hy'
                  case measure => simp [intOf]; omega
              · have hkn : k = a.kn := by omega
                have hs : Hid (sameK l m = true) := sameK_true (by have := HNK.out; omega) (fun j x y hx hy => HNO.out j x y (by have h1 := (List.getElem?_eq_some_iff.1 hx).1; omega) hx hy)
                clear hkn
                go_wp2_with fail
                go_ret
                exact ⟨ret_bool (by rw [HS.out, hs.out]), HBW.out⟩
      · have b3 : ((a.kn : Int) != (b.kn : Int)) = true := by rw [bne_iff_ne]; omega
        have HS : Hid (r = false) := by show _ = _; rw [← HRR.out, HP.out, sameK_len (by omega)]; simp
        clear h1 h2 hn
        go_enter Tryz.func40, Tryz.ntmps40
        go_wp2_with fail
        go_ret
        exact ⟨ret_bool HS.out.symm, HBX.out⟩
    · have b2 : (a.rho != b.rho) = true := by simpa using h2
      have HS : Hid (r = false) := by show _ = _; rw [← HRR.out, HP.out]; simp [sameH, RH.plain, h2]
      clear h1 h2
      go_enter Tryz.func40, Tryz.ntmps40
      go_wp2_with fail
      go_ret
      exact ⟨ret_bool HS.out.symm, HBX.out⟩
  · have b1 : (a.kind != b.kind) = true := by simpa using h1
    have HS : Hid (r = false) := by show _ = _; rw [← HRR.out, HP.out]; simp [sameH, RH.plain, h1]
    clear h1
    go_enter Tryz.func40, Tryz.ntmps40
    go_wp2_with fail
    go_ret
    exact ⟨ret_bool HS.out.symm, HBX.out⟩
theorem rsameAt_any (x : PT) : ∀ y w, LR.lies w x → LR.lies w y → RSameAt x y w := by
  refine Rose.ind (P := fun (x : PT) => ∀ y w, LR.lies w x → LR.lies w y → RSameAt x y w) (fun a l ih => ?_) x
  intro y w hx hy r hr
  obtain ⟨b, m⟩ := y
  have HX := nodeIn hx
  have HY := nodeIn hy
  exact ref_Same12_of HX HY (fun x hx y _ W hW => ih x hx y W (LR.lies_below hW x (HX.each x hx)) (LR.lies_below hW y (HY.each y (by assumption)))) hr
theorem rtype_Same_is {x y : PT} {w : World} {r : Bool} (h : sameP x y = r) (hx : LR.lies w x) (hy : LR.lies w y) :
    Calls Tryz.prog 41 #[aggR x.head, aggR y.head] w fun e w' => e = .returned (.bool r) ∧ Below w.heap.size w w' := by
  subst h; exact sameAt_any x y w hx hy

set_option maxHeartbeats 4000000 in
theorem rtypeSame_walk {w : World} (hT : Tab w) (x : PT) (hx : LR.lies w x) (y : PT) (hy : LR.lies w y) :
    Calls Tryz.prog 7 #[aggR x.head, aggR y.head] w fun e w' => e = .returned (.bool true) ∧ Below w.heap.size w w' := by
  have HTAB := Lib.hid hT
  have HBX := Lib.hid (boxes_below w x.head y.head)
  have HLX := Lib.hid (fun W (h : Below w.heap.size w W) => LR.lies_below h x hx)
  have HLY := Lib.hid (fun W (h : Below w.heap.size w W) => LR.lies_below h y hy)
  have HSYM := Lib.hid (sameP_symm x y)
  have HREF := Lib.hid (sameP_refl x)
  clear hT hx hy
  generalize hs : sameP x y = same at HSYM
  have HSA := Lib.hid hs
  have HSB : Hid (sameP y x = same) := HSYM.out.symm
  clear hs
  go_enter Tryz.func7, Tryz.ntmps7
  go_wp2_with fail
  refine (ref_Great12_any (HLX.out _ HBX.out)).mono ?_
  rintro e w1 ⟨⟨r, rfl, hsm⟩, hb⟩
  have HB1 := Lib.hid (HBX.out.trans (hb.mono HBX.out.size))
  have HC1 : Hid (Below (w.heap.size + 2) (boxes w x.head y.head) w1) := by show Below _ _ _; simpa using hb
  clear hb hsm
  cases r
  · obtain ⟨⟨d0, d1, d2, d3⟩, e0, e1, e2, e3⟩ := boxes_cells HC1.out
    go_wp2_with fail
    refine (ref_Great12_any (HLY.out _ HB1.out)).mono ?_
    rintro e w2 ⟨⟨r, rfl, hsm⟩, hb⟩
    clear hsm
    have HB2 := Lib.hid (HB1.out.trans (hb.mono HB1.out.size))
    have HC2 := Lib.hid (HC1.out.trans (hb.mono (by have := HC1.out.size; simpa using this)))
    clear hb d0 d1 d2 d3 e0 e1 e2 e3
    obtain ⟨⟨d0, d1, d2, d3⟩, e0, e1, e2, e3⟩ := boxes_cells HC2.out
    cases r
    · go_wp2_with fail
      refine (rsameAt_any x y _ (HLX.out _ HB2.out) (HLY.out _ HB2.out) _ HSA.out).mono ?_
      rintro e w3 ⟨rfl, hb⟩
      have HB3 := Lib.hid (HB2.out.trans (hb.mono HB2.out.size))
      have HC3 := Lib.hid (HC2.out.trans (hb.mono (by have := HC2.out.size; simpa using this)))
      clear hb d0 d1 d2 d3 e0 e1 e2 e3
      obtain ⟨⟨d0, d1, d2, d3⟩, e0, e1, e2, e3⟩ := boxes_cells HC3.out
      go_wp2_with fail
      refine (rtype_Same_is HSA.out (HLX.out _ HB3.out) (HLY.out _ HB3.out)).mono ?_
      rintro e w4 ⟨rfl, hb⟩
      have HB4 := Lib.hid (HB3.out.trans (hb.mono HB3.out.size))
      have HC4 := Lib.hid (HC3.out.trans (hb.mono (by have := HC3.out.size; simpa using this)))
      clear hb d0 d1 d2 d3 e0 e1 e2 e3
      obtain ⟨⟨d0, d1, d2, d3⟩, e0, e1, e2, e3⟩ := boxes_cells HC4.out
      go_wp2_with fail
      refine (rtype_Same_is HSB.out (HLY.out _ HB4.out) (HLX.out _ HB4.out)).mono ?_
      rintro e w5 ⟨rfl, hb⟩
      have HB5 := Lib.hid (HB4.out.trans (hb.mono HB4.out.size))
      have HC5 := Lib.hid (HC4.out.trans (hb.mono (by have := HC4.out.size; simpa using this)))
      clear hb d0 d1 d2 d3 e0 e1 e2 e3
      obtain ⟨⟨d0, d1, d2, d3⟩, e0, e1, e2, e3⟩ := boxes_cells HC5.out
      go_wp2_with fail
      refine (rtype_Same_is HREF.out (HLX.out _ HB5.out) (HLX.out _ HB5.out)).mono ?_
      rintro e w6 ⟨rfl, hb⟩
      have HB6 := Lib.hid (HB5.out.trans (hb.mono HB5.out.size))
      have HC6 := Lib.hid (HC5.out.trans (hb.mono (by have := HC5.out.size; simpa using this)))
      clear hb d0 d1 d2 d3 e0 e1 e2 e3
      obtain ⟨⟨d0, d1, d2, d3⟩, e0, e1, e2, e3⟩ := boxes_cells HC6.out
      go_wp2_with fail
      refine (awake12_any (HTAB.out.below HB6.out)).mono ?_
      rintro e w9 ⟨rfl, hb⟩
      have HB9 := Lib.hid (HB6.out.trans (hb.mono HB6.out.size))
      clear hb
      go_wp2_with fail
      go_ret
      exact ⟨rfl, HB9.out⟩
    · go_wp2_with fail
      refine (awake12_any (HTAB.out.below HB2.out)).mono ?_
      rintro e w9 ⟨rfl, hb⟩
      have HB9 := Lib.hid (HB2.out.trans (hb.mono HB2.out.size))
      clear hb
      go_wp2_with fail
      go_ret
      exact ⟨rfl, HB9.out⟩
  · go_wp2_with fail
    refine (awake12_any (HTAB.out.below HB1.out)).mono ?_
    rintro e w9 ⟨rfl, hb⟩
    have HB9 := Lib.hid (HB1.out.trans (hb.mono HB1.out.size))
    clear hb
    go_wp2_with fail
    go_ret
    exact ⟨rfl, HB9.out⟩
end Go.Proofs.YtekhblomdlehhaaGreatDoor
