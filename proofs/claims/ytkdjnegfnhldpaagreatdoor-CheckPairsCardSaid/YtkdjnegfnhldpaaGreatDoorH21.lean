/- Part 21: Al, Re. -/
import Derived.Test.YtkdjnegfnhldpaaGreatDoorH20
import Derived.Test.YtkdjnegfnhldpaaGreatDoorH08
import Derived.Test.YtkdjnegfnhldpaaGreatDoorH12
import Derived.Test.YtkdjnegfnhldpaaGreatDoorH16
import Derived.Deep.RegionHeld3
import Derived.Test.YtkdjnegfnhldpaaGreatDoorH01
set_option linter.unusedVariables false
set_option maxRecDepth 100000
set_option linter.unusedSimpArgs false
namespace Go.Proofs.YtkdjnegfnhldpaaGreatDoor
open Go.Lib (hid)
section
open Go.RowKit
def isV (k : Int) (r : RV) : Bool := r.ty.head.kind == k
theorem ints1_any (r : RV) (w : World) : Calls Tryz.prog 194 #[aggRV r] w fun e w' => e = .returned (.bool (!isV 1 r)) ∧ Below w.heap.size w w' := by
  have hb : Below w.heap.size w (w.alloc (.cells #[.int .u8 r.ty.head.kind, .int .i64 r.ty.head.rho, .slice r.ty.head.ep r.ty.head.en r.ty.head.ec, .slice r.ty.head.kp r.ty.head.kn r.ty.head.kc, .slice r.ep r.en r.ec] 81)) := (Below.refl _ _).alloc (Nat.le_refl _) _
  have HB := hid hb
  clear hb
  go_enter Tryz.func194, Tryz.ntmps194
  go_wp2_with fail
  refine (result_is_any r 1 _).mono ?_
  rintro e w1 ⟨rfl, hb⟩
  have HB2 := hid (HB.out.trans (hb.mono HB.out.size))
  clear hb
  go_wp2_with fail
  go_ret
  exact ⟨ret_bool rfl, HB2.out⟩
set_option maxHeartbeats 1000000 in
theorem check_ints_any {p : Option Addr} {n c : Nat} {l : List RV} {w : World} (hr : IsRow encRV 5 w p n c l) :
    Calls Tryz.prog 143 #[.slice p n c] w fun e w' => e = .returned (.bool (l.all (isV 1))) ∧ Below w.heap.size w w' := by
  have HC := hid (v_containsFunc_any 194 #[] (fun r => !isV 1 r) (fun args w => rfl) hr (fun x hx W hb => ints1_any x W))
  have HE : Hid ((!l.any (fun r => !isV 1 r)) = l.all (isV 1)) := by show _ = _; rw [List.not_any_eq_all_not]; simp
  generalize l.any (fun r => !isV 1 r) = b at HC HE
  clear hr
  go_enter Tryz.func143, Tryz.ntmps143
  go_wp2_with fail
  refine HC.out.mono ?_
  rintro e w1 ⟨rfl, hb⟩
  have HB2 := hid hb
  clear hb
  go_wp2_with fail
  go_ret
  exact ⟨ret_bool HE.out, HB2.out⟩
def slR (r : RV) : SlE Atom := ⟨r.ep, r.en, r.ec, r.eff⟩
theorem infoSl : (Tryz.prog.info? 25).map (fun i => (i.zero, i.size, i.bytes)) = some (some (.slice none 0 0), 1, 24) := by kernel_rfl
theorem encSlA_len (r : SlE Atom) : (encSl r).length = 1 := rfl
theorem encSlA_one : ∀ r : SlE Atom, ∀ u ∈ encSl r, u.oneCell' = true := by
  intro r u hu
  simp [encSl] at hu
  subst hu; rfl
theorem all_flat (q : Option Addr) (m mc : Nat) (more : List Atom) (l : List RV) : effL (((⟨q, m, mc, more⟩ : SlE Atom) :: l.map slR).flatMap (·.l)) = allE (erL l) more := by
  unfold allE erL
  have h : (l.map slR).flatMap (·.l) = (l.map RV.er).flatMap (·.2) := by rw [List.flatMap_map, List.flatMap_map]; rfl
  rw [List.flatMap_cons, h]
set_option maxHeartbeats 4000000 in
theorem check_all_any {p : Option Addr} {n c : Nat} {l : List RV} {w : World} (hr : IsRow encRV 5 w p n c l) (he : ∀ r ∈ l, IsRow encA 3 w r.ep r.en r.ec r.eff) {q : Option Addr} {m mc : Nat} {more : List Atom} (hm : IsRow encA 3 w q m mc more) (hn : n ≤ 1000) (htot : m + (l.map (·.en)).sum ≤ 1000000) :
    Calls Tryz.prog 140 #[.slice p n c, .slice q m mc] w fun e w' => ∃ v k, e = .returned v ∧ OwnE encA 3 w' w.heap.size 59 v k (allE (erL l) more) ∧ Below w.heap.size w w' := by
  have HR := hid hr
  have HEE := hid he
  have HM := hid hm
  clear hr he hm
  go_enter Tryz.func140, Tryz.ntmps140
  go_wp2_with fail
  have HV0 : Hid (OwnE encSl 1 (w.alloc (.cells #[.slice q m mc] 25)) w.heap.size 25 (.slice (some ⟨w.heap.size, 0, none⟩) 1 1) 1 [(⟨q, m, mc, more⟩ : SlE Atom)]) := own_made encSlA_len w w.heap.size _ [(⟨q, m, mc, more⟩ : SlE Atom)] 1 _ rfl rfl (by decide) (Nat.le_refl _)
  have HB0 := hid ((Below.refl w.heap.size w).alloc (Nat.le_refl _) (.cells #[.slice q m mc] 25))
  have hmax := HR.out.max
  go_loopw [5, 7, 12] (fun u _ i wr => ∃ (k : Nat) (v0 : Value), k ≤ n ∧ i = .int .i64 k ∧ v0 = u ∧ OwnE encSl 1 wr w.heap.size 25 v0 (k + 1) ((⟨q, m, mc, more⟩ : SlE Atom) :: (l.take k).map slR) ∧ Below w.heap.size w wr) (fun _ _ i _ => n - (intOf i).toNat)
  case atStart => exact ⟨0, _, by omega, rfl, rfl, by simpa using HV0.out, HB0.out⟩
  case round =>
    obtain ⟨k, v0, hk, rfl, rfl, hv, hb⟩ := hrel
    have HV := hid hv
    have HB := hid hb
    clear hv hb
    by_cases hlt : k < n
    · obtain ⟨x, hx⟩ := get_of_lt (l := l) (j := k) (by rw [HR.out.len]; exact hlt)
      have HT := hid (take_succ_get hx)
      obtain ⟨b, o, rfl, hbl, d0, d1, d2, d3, d4⟩ := rv_kid (HR.out.below HB.out) hx
      clear hx hbl
      have HW1 : Hid (Below wr.heap.size wr (wr.alloc (.cells #[.int .u8 x.ty.head.kind, .int .i64 x.ty.head.rho, .slice x.ty.head.ep x.ty.head.en x.ty.head.ec, .slice x.ty.head.kp x.ty.head.kn x.ty.head.kc, .slice x.ep x.en x.ec] 81))) := (Below.refl _ _).alloc (Nat.le_refl _) _
      have HRY := hid (row_made encSlA_len (by omega) (wr.alloc (.cells #[.int .u8 x.ty.head.kind, .int .i64 x.ty.head.rho, .slice x.ty.head.ep x.ty.head.en x.ty.head.ec, .slice x.ty.head.kp x.ty.head.kn x.ty.head.kc, .slice x.ep x.en x.ec] 81)) 25 [slR x] 1 #[.slice x.ep x.en x.ec] rfl rfl (by decide))
      have hws := HB.out.size
      go_wp2_with (at_builtin; (refine wpList_appendR rfl _ _ 66 rfl w.heap.size 25 _ 1 24 Tryz.underlying66 infoSl rfl (by decide) encSl encSlA_len encSlA_one [slR x] _ _ _ (own_alloc (own_alloc HV.out _) _) (some ⟨wr.heap.size + 1, 0, none⟩) 1 1 rfl rfl rfl (by intro h; cases h) (by simpa using HRY.out.row) (by omega) (by omega) (by simp <;> omega) ?_; intro v3 w3 hown3 hg3; have HV3 := hid hown3; have HB3 := hid (Below.own ((HB.out.alloc hws _).alloc (by simp <;> omega) _) hg3 (by simp <;> omega) (own_alloc (own_alloc HV.out _) _)); clear hown3 hg3))
      go_roundw
      case rel => exact ⟨k + 1, _, by omega, by go_num, rfl, by rw [HT.out, List.map_append]; exact HV3.out, HB3.out⟩
      case measure => simp [intOf]; omega
    · obtain rfl : k = n := by omega
      have hfull : l.take k = l := take_full (by rw [HR.out.len]; exact Nat.le_refl _)
      rw [hfull] at HV
      obtain ⟨q2, c2, rfl, hrow⟩ := OwnE.isRow encSlA_len (by omega) HV.out
      have hall : ∀ r ∈ (⟨q, m, mc, more⟩ : SlE Atom) :: l.map slR, r.Ok encA 3 wr := fun r hr => by
        rcases List.mem_cons.1 hr with rfl | hr
        · have h := HM.out.below HB.out
          exact ⟨h.len, h.le, h.nil, h.row⟩
        · obtain ⟨x, hx, rfl⟩ := List.mem_map.1 hr
          have h := (HEE.out x hx).below HB.out
          exact ⟨h.len, h.le, h.nil, h.row⟩
      have htt : (((⟨q, m, mc, more⟩ : SlE Atom) :: l.map slR).map (·.n)).sum ≤ 1000000 := by
        rw [List.map_cons, List.sum_cons, List.map_map]
        exact htot
      have HU := hid (effect_Union_any q2 (k + 1) c2 _ wr hrow.len (by omega) hrow.row hall htt)
      clear hrow hall htt hfull
      go_wp2_with fail
      refine HU.out.mono ?_
      rintro e w3 ⟨v, j, rfl, _, hown, hb3⟩
      have HO := hid hown
      have HB3 := hid (HB.out.trans (hb3.mono HB.out.size))
      clear hown hb3
      go_wp2_with fail
      go_ret
      exact ⟨v, j, rfl, by rw [← all_flat q m mc more l]; exact HO.out.lower HB.out.size, HB3.out⟩
end
section
open Go.RowKit
structure RgB (w W : World) (a : AH) (x y : Value) : Prop where
  b0 : W.heap[w.heap.size]? = some (.cells #[x, y] 84 (0, 0))
  b1 : BoxA W (w.heap.size + 1) a
  below : Below w.heap.size w W
theorem rgb_new (w : World) (a : AH) (x y : Value) : RgB w ((w.alloc (.cells #[x, y] 84)).alloc (boxA a)) a x y := by
  have e1 := boxA_new (w.alloc (.cells #[x, y] 84)) a
  rw [show (w.alloc (.cells #[x, y] 84)).heap.size = w.heap.size + 1 by simp] at e1
  refine ⟨?_, e1, ((Below.refl w.heap.size w).alloc (Nat.le_refl _) _).alloc (by simp) _⟩
  rw [Below.heap_alloc _ _ _ (by simp)]; exact heap_alloc_new w _
theorem RgB.step {w W W' : World} {a : AH} {x y : Value} (h : RgB w W a x y) (hb : Below W.heap.size W W') : RgB w W' a x y :=
  ⟨(hb.block _ (Array.getElem?_eq_some_iff.1 h.b0).1).trans h.b0, h.b1.below hb, h.below.trans (hb.mono h.below.size)⟩
theorem RgB.scells {w W : World} {a : AH} {x y : Value} (h : RgB w W a x y) : W.cell? ⟨w.heap.size, 0, none⟩ = some x ∧ W.cell? ⟨w.heap.size, 1, none⟩ = some y := by
  constructor <;> simp only [World.cell?, h.b0] <;> rfl
theorem RgB.set {w W : World} {a : AH} {x y x' : Value} (h : RgB w W a x y) (y' : Value) : RgB w (W.setRow w.heap.size #[x', y']) a x' y' :=
  ⟨setRow_heap _ _ _ _ _ _ h.b0, ⟨(setRow_other _ _ _ _ (by omega)).trans h.b1.blk⟩, h.below.grown row_set h.below.size (fun k e => by cases e; exact Nat.le_refl _)⟩
theorem BoxA.lt {W : World} {g : Nat} {a : AH} (h : BoxA W g a) : g < W.heap.size := (Array.getElem?_eq_some_iff.1 h.blk).1
theorem range2 {W : World} {g : Nat} {x y : Value} {t : TypeId} (h : W.heap[g]? = some (.cells #[x, y] t (0, 0))) : W.rangeAt g 0 [x, y] := fun j v hj => by
  rw [Nat.zero_add, Lib.cell_of_heap h]
  simpa using hj
theorem RgB.r0 {w W : World} {a : AH} {x y : Value} (h : RgB w W a x y) : W.rangeAt w.heap.size 0 [x, y] := range2 h.b0
theorem scope_has_is {w : World} {p : Option Addr} {n c : Nat} {l : List Int} {q : Option Addr} {m mc : Nat} {rhos : List Int} {u : Bool} (hu : scopedB rhos l = u) (hr : IsRow encN 1 w p n c l) (ep : Option Addr) (en ec : Nat) (hq : IsRow encN 1 w q m mc rhos) :
    Calls Tryz.prog 130 #[.agg #[.slice ep en ec, .slice q m mc], .slice p n c] w fun e w' => e = .returned (.bool u) ∧ Below w.heap.size w w' := by
  subst hu; exact scope_has_any hr ep en ec hq
theorem range_part' {W : World} {g : Nat} {a : AH} (h : BoxA W g a) (o n : Nat) {cs : List Value} (hc : cs = ((encAH a).drop o).take n) : W.rangeAt g o cs := fun j v hj => by
  subst hc
  rw [List.getElem?_take] at hj
  split at hj
  · rw [List.getElem?_drop] at hj
    exact h.c (o + j) v hj
  · cases hj
theorem rowT_two {w : World} {x y : PT} (hx : LR.lies w x) (hy : LR.lies w y) (e : Nat) : RowT (w.alloc (.cells #[.int .u8 x.head.kind, .int .i64 x.head.rho, .slice x.head.ep x.head.en x.head.ec, .slice x.head.kp x.head.kn x.head.kc, .int .u8 y.head.kind, .int .i64 y.head.rho, .slice y.head.ep y.head.en y.head.ec, .slice y.head.kp y.head.kn y.head.kc] e)) (some ⟨w.heap.size, 0, none⟩) 2 2 [x, y] := by
  refine ⟨row_made LRlen (by omega) w e [x, y] 2 _ ?_ rfl (by decide), fun t ht => ?_⟩
  · simp [Laid.encT, LR, encRH]
  · have hb : Below w.heap.size w (w.alloc (.cells #[.int .u8 x.head.kind, .int .i64 x.head.rho, .slice x.head.ep x.head.en x.head.ec, .slice x.head.kp x.head.kn x.head.kc, .int .u8 y.head.kind, .int .i64 y.head.rho, .slice y.head.ep y.head.en y.head.ec, .slice y.head.kp y.head.kn y.head.kc] e)) := (Below.refl _ _).alloc (Nat.le_refl _) _
    simp only [List.mem_cons, List.not_mem_nil, or_false] at ht
    rcases ht with rfl | rfl
    · exact LR.lies_below hb _ hx
    · exact LR.lies_below hb _ hy
def RegOut (a : AH) (b : Bool) (e : Ending) : Prop := (b = true → e = .returned (.tuple #[])) ∧ (b = false → e = .panicked [{ v := wrongV a.at_ 4, recovered := false }])
theorem regOut_yes {a : AH} {b : Bool} (h : b = true) : RegOut a b (.returned (.tuple #[])) := ⟨fun _ => rfl, fun h' => (by rw [h] at h'; cases h')⟩
theorem regOut_no {a : AH} {b : Bool} (h : b = false) : RegOut a b (.panicked [{ v := wrongV a.at_ 4, recovered := false }]) := ⟨fun h' => (by rw [h] at h'; cases h'), fun _ => rfl⟩
set_option maxHeartbeats 20000000 in
theorem scope_regions_any {w : World} {a : AH} (ha : AH.Own w a) (hs : SmallN a) (ep : Option Addr) (en ec : Nat) {q : Option Addr} {m mc : Nat} {rhos : List Int} (hq : IsRow encN 1 w q m mc rhos) (hm : m ≤ 900000) :
    Calls Tryz.prog 95 #[.agg #[.slice ep en ec, .slice q m mc], aggT a] w fun e w' => RegOut a (regionsB a.plain rhos) e ∧ Below w.heap.size w w' := by
  have HX := hid (rgb_new w a (.slice ep en ec) (.slice q m mc))
  have HQ := hid hq
  have HRH := hid ha.rhos
  have HEF := hid ha.eff
  have HTY := hid ha.ty
  have HRS := hid ha.res
  have hen : a.en ≤ 1000000 := by have h1 := ha.eff.len; have h2 := greatB_len hs.eff; omega
  have hrn : a.rn ≤ 50 := hs.rhos
  have HEN := hid hen
  have hgl : (gathL [a.ty, a.res]).length ≤ 1000000 := by
    have h1 := gath_le _ hs.ty.effs
    have h2 := gath_le _ hs.res.effs
    have h3 := hs.ty.size
    have h4 := hs.res.size
    simp only [gathL, List.flatMap_cons, List.flatMap_nil, List.append_nil, List.length_append]
    omega
  have HGL := hid hgl
  have HGO : Hid (enOK [a.ty, a.res]) := fun x hx => by
    simp only [List.mem_cons, List.not_mem_nil, or_false] at hx
    rcases hx with rfl | rfl
    · exact enOK_one _ ha.ty hs.ty.effs
    · exact enOK_one _ ha.res hs.res.effs
  obtain ⟨u1, hu1⟩ : ∃ u1, scopedB rhos [a.rho] = u1 := ⟨_, rfl⟩
  obtain ⟨u2, hu2⟩ : ∃ u2, scopedB rhos a.rhos = u2 := ⟨_, rfl⟩
  have HU1 := hid hu1
  have HU2 := hid hu2
  have HREG : Hid (regionsB a.plain rhos = ((decide (a.kind = 17) || u1) && (!decide (a.kind = 18) || u2) && (scopedB (if a.kind = 13 then rhos ++ a.rhos else rhos) (rhosOf a.eff) && scopedB (if a.kind = 13 then rhos ++ a.rhos else rhos) (sortI (gathL [a.ty, a.res]))))) := by
    show _ = _
    rw [← hu1, ← hu2]
    simp [regionsB, scopedB, AH.plain, gathL]
    rfl
  clear hq ha hs hen hgl hu1 hu2
  have c0 := HX.out.b1.c 0 _ rfl
  go_enter Tryz.func95, Tryz.ntmps95
  go_upto_if 7 with fail
  go_cut [] from 4 to 15 (fun wx => RgB w wx a (.slice ep en ec) (.slice q m mc) ∧ (decide (a.kind = 17) || u1) = true)
  case first =>
    by_cases k17 : a.kind = 17
    · have e17 : (a.kind != 17) = false := by simp [k17]
      go_wp2_with fail
      go_meet
      case rel => exact ⟨HX.out, by simp [k17]⟩
    · have e17 : (a.kind != 17) = true := by simp [k17]
      have HK17 := hid k17
      have HR0 := HREG
      clear c0
      go_upto_region 2 with fail
      generalize (w.alloc (.cells #[.slice ep en ec, .slice q m mc] 84)).alloc (.cells #[.int .u8 a.kind, .int .u8 a.op, .int .i64 a.at_, .int .i64 a.n, .string a.name, .string a.arg, .string a.exn, .int .i64 a.rho, .slice a.rp a.rn a.rc, .slice a.ep a.en a.ec, .int .u8 a.ty.head.kind, .int .i64 a.ty.head.rho, .slice a.ty.head.ep a.ty.head.en a.ty.head.ec, .slice a.ty.head.kp a.ty.head.kn a.ty.head.kc, .int .u8 a.res.head.kind, .int .i64 a.res.head.rho, .slice a.res.head.ep a.res.head.en a.res.head.ec, .slice a.res.head.kp a.res.head.kn a.res.head.kc, .slice a.kp a.kn a.kc] 31) = W1 at *
      refine wp_region_held_drew (S := fun W' => Below W1.heap.size W1 W') (by kernel_rfl) ?_ (fun hHeld => ?_)
      · exact bel_drew W1
      refine tk (i := 0) (oi := ⟨some 8, _, _, _, _, none⟩) (v := .agg ([.slice ep en ec, .slice q m mc] : List Value).toArray) rfl (yieldsIf_load_mid (by rfl) 84 _ rfl w.heap.size 0 rfl _ _ (fun W' hSw => (HX.out.step hSw).r0) Tryz.underlying84 rfl (by kernel_rfl)) ?_
      try simp only [Act.put, zA, zB, zC]
      refine tk (i := 1) (oi := ⟨some 9, _, _, _, _, none⟩) (v := ?_) rfl (Or.inl ⟨by rfl, ?_⟩) ?_
      rotate_left; · intro w h; go_simp; try with_reducible rfl
      try simp only [Act.put, zA, zB, zC]
      refine tk (i := 2) (oi := ⟨some 10, _, _, _, _, none⟩) (v := ?_) rfl (Or.inl ⟨by rfl, ?_⟩) ?_
      rotate_left
      · intro w hSw; (try dsimp only at hSw); have q7 := (HX.out.step hSw).b1.c 7 _ rfl; go_simp; try with_reducible rfl
      try simp only [Act.put, zA, zB, zC]
      refine tk (i := 5) (oi := ⟨some 13, _, _, _, _, none⟩) (v := .agg ([.int .u8 a.kind, .int .u8 a.op, .int .i64 a.at_, .int .i64 a.n, .string a.name, .string a.arg, .string a.exn, .int .i64 a.rho, .slice a.rp a.rn a.rc, .slice a.ep a.en a.ec, .int .u8 a.ty.head.kind, .int .i64 a.ty.head.rho, .slice a.ty.head.ep a.ty.head.en a.ty.head.ec, .slice a.ty.head.kp a.ty.head.kn a.ty.head.kc, .int .u8 a.res.head.kind, .int .i64 a.res.head.rho, .slice a.res.head.ep a.res.head.en a.res.head.ec, .slice a.res.head.kp a.res.head.kn a.res.head.kc, .slice a.kp a.kn a.kc] : List Value).toArray) rfl (yieldsIf_load_mid (by rfl) 31 _ rfl (w.heap.size + 1) 0 rfl _ _ (fun W' hSw => (HX.out.step hSw).b1.range) Tryz.underlying31 rfl (by kernel_rfl)) ?_
      try simp only [Act.put, zA, zB, zC]
      refine wpAnyH_ready (rs := [3]) (by kernel_rfl) (by simp) ?_
      refine AllReadyH.cons (o := ⟨some 11, _, _, _, _, none⟩) rfl (fun K hK => ?_) AllReadyH.nil
      go_simp
      refine hK.out _ _ ?_ (fun hNew => ?_)
      · (try dsimp only); exact bel_alloc hHeld _
      clear hHeld hK K; have hHeld := hNew; clear hNew
      try simp only [Act.put, zA, zB, zC]
      refine wpAnyH_ready (rs := [4]) (by kernel_rfl) (by simp) ?_
      refine AllReadyH.cons (o := ⟨some 12, _, _, _, _, none⟩) rfl (fun K hK => ?_) AllReadyH.nil
      go_simp
      go_at_call 130
      refine (scope_has_is HU1.out ((row_made encN_len (by omega) W1 3 [a.rho] 1 #[.int .i64 a.rho] rfl rfl (by decide)).below (bel_drew _)) ep en ec (HQ.out.below (HX.out.below.trans (hHeld.mono HX.out.below.size)))).mono ?_
      rintro e w8 ⟨rfl, hb⟩
      try go_wp2_with fail
      refine hK.out _ _ ?_ (fun hNew => ?_)
      · (try dsimp only); exact bel_step hHeld hb
      clear hHeld hK K; have hHeld := hNew; clear hNew
      try simp only [Act.put, zA, zB, zC]
      refine wpAnyH_ready (rs := [6]) (by kernel_rfl) (by simp) ?_
      refine AllReadyH.cons (o := ⟨some 14, _, _, _, _, none⟩) rfl (fun K hK => ?_) AllReadyH.nil
      go_simp
      cases u1
      · go_at_call 64
        refine (must_no a 4 _).mono ?_
        rintro e w9 ⟨rfl, hb⟩
        exact ⟨rfl, regOut_no (HR0.out.trans (by simp [HK17.out])), HX.out.below.trans ((bel_step hHeld hb).mono HX.out.below.size)⟩
      go_at_call 64
      refine (must_yes a 4 _).mono ?_
      rintro e w9 ⟨rfl, hb⟩
      try go_wp2_with fail
      refine hK.out _ _ ?_ (fun hNew => ?_)
      · (try dsimp only); exact bel_step hHeld hb
      clear hHeld hK K; have hHeld := hNew; clear hNew
      try simp only [Act.put, zA, zB, zC]
      refine wpAnyH_done (by kernel_rfl) ?_ _
      have HX2 := hid (HX.out.step hHeld)
      clear hHeld
      go_wp2_with fail
      go_meet
      case rel => exact ⟨HX2.out, by simp⟩
  case rest =>
    obtain ⟨hx, hc1⟩ := hcut
    clear HX c0
    have HX := hid hx
    have HC1 := hid hc1
    have c0 := HX.out.b1.c 0 _ rfl
    clear hx hc1
    go_upto_if 18 with fail
    go_cut [] from 4 to 24 (fun wx => RgB w wx a (.slice ep en ec) (.slice q m mc) ∧ (!decide (a.kind = 18) || u2) = true)
    case first =>
      by_cases k18 : a.kind = 18
      · have e18 : (a.kind == 18) = true := by simp [k18]
        have HK18 := hid k18
        have HR0 := HREG
        clear c0 k18
        go_upto_region 4 with fail
        refine wp_region_held_drew (S := fun W' => Below wc.heap.size wc W') (by kernel_rfl) ?_ (fun hHeld => ?_)
        · exact bel_drew wc
        refine tk (i := 0) (oi := ⟨some 19, _, _, _, _, none⟩) (v := .agg ([.slice ep en ec, .slice q m mc] : List Value).toArray) rfl (yieldsIf_load_mid (by rfl) 84 _ rfl w.heap.size 0 rfl _ _ (fun W' hSw => (HX.out.step hSw).r0) Tryz.underlying84 rfl (by kernel_rfl)) ?_
        try simp only [Act.put, zA, zB, zC]
        refine tk (i := 1) (oi := ⟨some 20, _, _, _, _, none⟩) (v := ?_) rfl (Or.inl ⟨by rfl, ?_⟩) ?_
        rotate_left; · intro w h; go_simp; try with_reducible rfl
        try simp only [Act.put, zA, zB, zC]
        refine tk (i := 2) (oi := ⟨some 21, _, _, _, _, none⟩) (v := ?_) rfl (Or.inl ⟨by rfl, ?_⟩) ?_
        rotate_left
        · intro w hSw; (try dsimp only at hSw); have q8 := (HX.out.step hSw).b1.c 8 _ rfl; go_simp; try with_reducible rfl
        try simp only [Act.put, zA, zB, zC]
        refine tk (i := 4) (oi := ⟨some 23, _, _, _, _, none⟩) (v := .agg ([.int .u8 a.kind, .int .u8 a.op, .int .i64 a.at_, .int .i64 a.n, .string a.name, .string a.arg, .string a.exn, .int .i64 a.rho, .slice a.rp a.rn a.rc, .slice a.ep a.en a.ec, .int .u8 a.ty.head.kind, .int .i64 a.ty.head.rho, .slice a.ty.head.ep a.ty.head.en a.ty.head.ec, .slice a.ty.head.kp a.ty.head.kn a.ty.head.kc, .int .u8 a.res.head.kind, .int .i64 a.res.head.rho, .slice a.res.head.ep a.res.head.en a.res.head.ec, .slice a.res.head.kp a.res.head.kn a.res.head.kc, .slice a.kp a.kn a.kc] : List Value).toArray) rfl (yieldsIf_load_mid (by rfl) 31 _ rfl (w.heap.size + 1) 0 rfl _ _ (fun W' hSw => (HX.out.step hSw).b1.range) Tryz.underlying31 rfl (by kernel_rfl)) ?_
        try simp only [Act.put, zA, zB, zC]
        refine wpAnyH_ready (rs := [3]) (by kernel_rfl) (by simp) ?_
        refine AllReadyH.cons (o := ⟨some 22, _, _, _, _, none⟩) rfl (fun K hK => ?_) AllReadyH.nil
        go_simp
        go_at_call 130
        refine (scope_has_is HU2.out (HRH.out.below (HX.out.below.trans (hHeld.mono HX.out.below.size))) ep en ec (HQ.out.below (HX.out.below.trans (hHeld.mono HX.out.below.size)))).mono ?_
        rintro e w8 ⟨rfl, hb⟩
        try go_wp2_with fail
        refine hK.out _ _ ?_ (fun hNew => ?_)
        · (try dsimp only); exact bel_step hHeld hb
        clear hHeld hK K; have hHeld := hNew; clear hNew
        try simp only [Act.put, zA, zB, zC]
        refine wpAnyH_ready (rs := [5]) (by kernel_rfl) (by simp) ?_
        refine AllReadyH.cons (o := ⟨some 24, _, _, _, _, none⟩) rfl (fun K hK => ?_) AllReadyH.nil
        go_simp
        cases u2
        · go_at_call 64
          refine (must_no a 4 _).mono ?_
          rintro e w9 ⟨rfl, hb⟩
          exact ⟨rfl, regOut_no (HR0.out.trans (by simp [HK18.out])), HX.out.below.trans ((bel_step hHeld hb).mono HX.out.below.size)⟩
        go_at_call 64
        refine (must_yes a 4 _).mono ?_
        rintro e w9 ⟨rfl, hb⟩
        try go_wp2_with fail
        refine hK.out _ _ ?_ (fun hNew => ?_)
        · (try dsimp only); exact bel_step hHeld hb
        clear hHeld hK K; have hHeld := hNew; clear hNew
        try simp only [Act.put, zA, zB, zC]
        refine wpAnyH_done (by kernel_rfl) ?_ _
        have HX2 := hid (HX.out.step hHeld)
        clear hHeld
        go_wp2_with fail
        go_meet
        case rel => exact ⟨HX2.out, by simp⟩
      · have e18 : (a.kind == 18) = false := by simp [k18]
        go_wp2_with fail
        go_meet
        case rel => exact ⟨HX.out, by simp [k18]⟩
    case rest =>
      obtain ⟨hx, hc2⟩ := hcut
      clear HX c0
      have HX := hid hx
      have HC2 := hid hc2
      have c0 := HX.out.b1.c 0 _ rfl
      clear hx hc2
      go_upto_if 28 with fail
      go_cut [] from 4 to 33 (fun wx => ∃ (q7 : Option Addr) (m7 c7 : Nat), RgB w wx a (.slice ep en ec) (.slice q7 m7 c7) ∧ IsRow encN 1 wx q7 m7 c7 (if a.kind = 13 then rhos ++ a.rhos else rhos))
      case first =>
        by_cases k13 : a.kind = 13
        · have e13 : (a.kind == 13) = true := by simp [k13]
          have HK13 := hid k13
          have c8 := HX.out.b1.c 8 _ rfl
          obtain ⟨s0, s1⟩ := HX.out.scells
          clear k13
          go_wp2_with (first
            | (refine wpList_store_row rfl 84 _ _ rfl w.heap.size #[.slice ep en ec, .slice p' (m + a.rn) c'] rfl rfl 84 _ HXA.out.b0 (by kernel_rfl) rfl (by simp [Value.oneCell']) ?_)
            | (go_at_call 131; refine (scope_open_any (HQ.out.below HX.out.below) ep en ec (HRH.out.below HX.out.below) (by omega)).mono ?_; rintro e wA ⟨p', c', rfl, hrow, hb, hwh⟩; have HROW := hid hrow; have HWH := hid hwh; have HXA := hid (HX.out.step hb); have hszc := HX.out.b1.lt; clear hrow hb hwh))
          go_meet
          case rel =>
            refine ⟨p', _, c', HXA.out.set _, ?_⟩
            rw [if_pos HK13.out]
            refine row_far HROW.out row_set (fun hl ad hp e => ?_)
            rcases HWH.out with ⟨h1, h2⟩ | h2
            · have hlt := rowE_lt HQ.out.row (by intro h0; apply hl; rw [h0, h1]; rfl) (h2 ▸ hp)
              omega
            · have := h2 ad hp
              omega
        · have e13 : (a.kind == 13) = false := by simp [k13]
          go_wp2_with fail
          go_meet
          case rel => exact ⟨q, m, mc, HX.out, by rw [if_neg k13]; exact HQ.out.below HX.out.below⟩
      case rest =>
        obtain ⟨q7, m7, c7, hx, hrow⟩ := hcut
        clear HX c0
        have HX := hid hx
        have HQ7 := hid hrow
        clear hx hrow
        obtain ⟨R, hR⟩ : ∃ R, (if a.kind = 13 then rhos ++ a.rhos else rhos) = R := ⟨_, rfl⟩
        rw [hR] at HREG HQ7
        clear hR
        have HR0 : Hid (regionsB a.plain rhos = (scopedB R (rhosOf a.eff) && scopedB R (sortI (gathL [a.ty, a.res])))) := by
          show _ = _
          rw [HREG.out, HC1.out, HC2.out]; simp
        obtain ⟨u3, hu3⟩ : ∃ u3, scopedB R (rhosOf a.eff) = u3 := ⟨_, rfl⟩
        obtain ⟨u4, hu4⟩ : ∃ u4, scopedB R (sortI (gathL [a.ty, a.res])) = u4 := ⟨_, rfl⟩
        rw [hu3, hu4] at HR0
        have HU3 := hid hu3
        have HU4 := hid hu4
        clear hu3 hu4 HREG
        go_upto_region 7 with fail
        cases u3
        · skip
          refine wp_region_held_drew (S := fun W' => Below wc.heap.size wc W') (by kernel_rfl) ?_ (fun hHeld => ?_)
          · exact bel_drew wc
          refine tk (i := 0) (oi := ⟨some 33, _, _, _, _, none⟩) (v := .agg ([.slice ep en ec, .slice q7 m7 c7] : List Value).toArray) rfl (yieldsIf_load_mid (by rfl) 84 _ rfl w.heap.size 0 rfl _ _ (fun W' hSw => (HX.out.step hSw).r0) Tryz.underlying84 rfl (by kernel_rfl)) ?_
          try simp only [Act.put, zA, zB, zC]
          refine tk (i := 1) (oi := ⟨some 34, _, _, _, _, none⟩) (v := ?_) rfl (Or.inl ⟨by rfl, ?_⟩) ?_
          rotate_left; · intro w h; go_simp; try with_reducible rfl
          try simp only [Act.put, zA, zB, zC]
          refine tk (i := 2) (oi := ⟨some 35, _, _, _, _, none⟩) (v := ?_) rfl (Or.inl ⟨by rfl, ?_⟩) ?_
          rotate_left
          · intro w hSw; (try dsimp only at hSw); have q9 := (HX.out.step hSw).b1.c 9 _ rfl; go_simp; try with_reducible rfl
          try simp only [Act.put, zA, zB, zC]
          refine tk (i := 16) (oi := ⟨some 49, _, _, _, _, none⟩) (v := .agg ([.int .u8 a.kind, .int .u8 a.op, .int .i64 a.at_, .int .i64 a.n, .string a.name, .string a.arg, .string a.exn, .int .i64 a.rho, .slice a.rp a.rn a.rc, .slice a.ep a.en a.ec, .int .u8 a.ty.head.kind, .int .i64 a.ty.head.rho, .slice a.ty.head.ep a.ty.head.en a.ty.head.ec, .slice a.ty.head.kp a.ty.head.kn a.ty.head.kc, .int .u8 a.res.head.kind, .int .i64 a.res.head.rho, .slice a.res.head.ep a.res.head.en a.res.head.ec, .slice a.res.head.kp a.res.head.kn a.res.head.kc, .slice a.kp a.kn a.kc] : List Value).toArray) rfl (yieldsIf_load_mid (by rfl) 31 _ rfl (w.heap.size + 1) 0 rfl _ _ (fun W' hSw => (HX.out.step hSw).b1.range) Tryz.underlying31 rfl (by kernel_rfl)) ?_
          try simp only [Act.put, zA, zB, zC]
          refine wpAnyH_ready (rs := [3]) (by kernel_rfl) (by simp) ?_
          refine AllReadyH.cons (o := ⟨some 36, _, _, _, _, none⟩) rfl (fun K hK => ?_) AllReadyH.nil
          go_simp
          refine hK.out _ _ ?_ (fun hNew => ?_)
          · (try dsimp only); exact bel_alloc hHeld _
          clear hHeld hK K; have hHeld := hNew; clear hNew
          try simp only [Act.put, zA, zB, zC]
          refine wpAnyH_ready (rs := [4]) (by kernel_rfl) (by simp) ?_
          refine AllReadyH.cons (o := ⟨some 37, _, _, _, _, none⟩) rfl (fun K hK => ?_) AllReadyH.nil
          go_simp
          go_at_call 132
          refine (effect_Rhos_any _ 1 1 [⟨a.ep, a.en, a.ec, a.eff⟩] _ rfl (by decide) ((one_row (w := wc) a.eff 25).below (bel_drew _)) (one_ok (HEF.out.below (HX.out.below.trans (hHeld.mono HX.out.below.size)))) (by simpa using HEN.out)).mono ?_
          rintro e w3 ⟨q3, m3, c3, rfl, _, hrow, hb⟩
          have HROW : Hid (IsRow encN 1 w3 q3 m3 c3 (rhosOf a.eff)) := by have h := hrow; simp only [List.flatMap_cons, List.flatMap_nil, List.append_nil] at h; exact h
          clear hrow
          try go_wp2_with fail
          refine hK.out _ _ ?_ (fun hNew => ?_)
          · (try dsimp only); exact bel_step hHeld hb
          clear hHeld hK K; have hHeld := hNew; clear hNew
          try simp only [Act.put, zA, zB, zC]
          refine wpAnyH_ready (rs := [5]) (by kernel_rfl) (by simp) ?_
          refine AllReadyH.cons (o := ⟨some 38, _, _, _, _, none⟩) rfl (fun K hK => ?_) AllReadyH.nil
          go_simp
          go_at_call 130
          refine (scope_has_is HU3.out HROW.out ep en ec (HQ7.out.below hHeld)).mono ?_
          rintro e w8 ⟨rfl, hb⟩
          try go_wp2_with fail
          refine hK.out _ _ ?_ (fun hNew => ?_)
          · (try dsimp only); exact bel_step hHeld hb
          clear hHeld hK K; have hHeld := hNew; clear hNew
          try simp only [Act.put, zA, zB, zC]
          refine tk (i := 6) (oi := ⟨some 39, _, _, _, _, none⟩) (v := ?_) rfl (Or.inl ⟨by rfl, ?_⟩) ?_
          rotate_left; · intro w h; go_simp; try with_reducible rfl
          try simp only [Act.put, zA, zB, zC]
          refine tk (i := 7) (oi := ⟨some 40, _, _, _, _, some (6, true)⟩) (v := undef) rfl (Or.inr ⟨by rfl, rfl⟩) ?_
          try simp only [Act.put, zA, zB, zC]
          refine tk (i := 8) (oi := ⟨some 41, _, _, _, _, some (6, true)⟩) (v := undef) rfl (Or.inr ⟨by rfl, rfl⟩) ?_
          try simp only [Act.put, zA, zB, zC]
          refine tk (i := 9) (oi := ⟨some 42, _, _, _, _, some (6, true)⟩) (v := undef) rfl (Or.inr ⟨by rfl, rfl⟩) ?_
          try simp only [Act.put, zA, zB, zC]
          refine tk (i := 10) (oi := ⟨some 43, _, _, _, _, some (6, true)⟩) (v := undef) rfl (Or.inr ⟨by rfl, rfl⟩) ?_
          try simp only [Act.put, zA, zB, zC]
          refine tk (i := 11) (oi := ⟨some 44, _, _, _, _, some (6, true)⟩) (v := undef) rfl (Or.inr ⟨by rfl, rfl⟩) ?_
          try simp only [Act.put, zA, zB, zC]
          refine wpAnyH_ready (rs := [12]) (by kernel_rfl) (by simp) ?_
          refine AllReadyH.cons (o := ⟨some 45, _, _, _, _, some (6, true)⟩) rfl (fun K hK => ?_) AllReadyH.nil
          go_simp
          refine hK.out _ _ ?_ (fun hNew => ?_)
          · (try dsimp only); exact hHeld
          clear hHeld hK K; have hHeld := hNew; clear hNew
          try simp only [Act.put, zA, zB, zC]
          refine wpAnyH_ready (rs := [13]) (by kernel_rfl) (by simp) ?_
          refine AllReadyH.cons (o := ⟨some 46, _, _, _, _, some (6, true)⟩) rfl (fun K hK => ?_) AllReadyH.nil
          go_simp
          refine hK.out _ _ ?_ (fun hNew => ?_)
          · (try dsimp only); exact hHeld
          clear hHeld hK K; have hHeld := hNew; clear hNew
          try simp only [Act.put, zA, zB, zC]
          refine wpAnyH_ready (rs := [14]) (by kernel_rfl) (by simp) ?_
          refine AllReadyH.cons (o := ⟨some 47, _, _, _, _, some (6, true)⟩) rfl (fun K hK => ?_) AllReadyH.nil
          go_simp
          refine hK.out _ _ ?_ (fun hNew => ?_)
          · (try dsimp only); exact hHeld
          clear hHeld hK K; have hHeld := hNew; clear hNew
          try simp only [Act.put, zA, zB, zC]
          refine tk (i := 15) (oi := ⟨some 48, _, _, _, _, none⟩) (v := ?_) rfl (Or.inl ⟨by rfl, ?_⟩) ?_
          rotate_left; · intro w h; go_simp; try with_reducible rfl
          try simp only [Act.put, zA, zB, zC]
          refine wpAnyH_ready (rs := [17]) (by kernel_rfl) (by simp) ?_
          refine AllReadyH.cons (o := ⟨some 50, _, _, _, _, none⟩) rfl (fun K hK => ?_) AllReadyH.nil
          go_simp
          go_at_call 64
          refine (must_no a 4 _).mono ?_
          rintro e w9 ⟨rfl, hb⟩
          exact ⟨rfl, regOut_no (HR0.out.trans (by simp)), HX.out.below.trans ((bel_step hHeld hb).mono HX.out.below.size)⟩
        · skip
          refine wp_region_held_drew (S := fun W' => Below wc.heap.size wc W') (by kernel_rfl) ?_ (fun hHeld => ?_)
          · exact bel_drew wc
          refine tk (i := 0) (oi := ⟨some 33, _, _, _, _, none⟩) (v := .agg ([.slice ep en ec, .slice q7 m7 c7] : List Value).toArray) rfl (yieldsIf_load_mid (by rfl) 84 _ rfl w.heap.size 0 rfl _ _ (fun W' hSw => (HX.out.step hSw).r0) Tryz.underlying84 rfl (by kernel_rfl)) ?_
          try simp only [Act.put, zA, zB, zC]
          refine tk (i := 1) (oi := ⟨some 34, _, _, _, _, none⟩) (v := ?_) rfl (Or.inl ⟨by rfl, ?_⟩) ?_
          rotate_left; · intro w h; go_simp; try with_reducible rfl
          try simp only [Act.put, zA, zB, zC]
          refine tk (i := 2) (oi := ⟨some 35, _, _, _, _, none⟩) (v := ?_) rfl (Or.inl ⟨by rfl, ?_⟩) ?_
          rotate_left
          · intro w hSw; (try dsimp only at hSw); have q9 := (HX.out.step hSw).b1.c 9 _ rfl; go_simp; try with_reducible rfl
          try simp only [Act.put, zA, zB, zC]
          refine tk (i := 16) (oi := ⟨some 49, _, _, _, _, none⟩) (v := .agg ([.int .u8 a.kind, .int .u8 a.op, .int .i64 a.at_, .int .i64 a.n, .string a.name, .string a.arg, .string a.exn, .int .i64 a.rho, .slice a.rp a.rn a.rc, .slice a.ep a.en a.ec, .int .u8 a.ty.head.kind, .int .i64 a.ty.head.rho, .slice a.ty.head.ep a.ty.head.en a.ty.head.ec, .slice a.ty.head.kp a.ty.head.kn a.ty.head.kc, .int .u8 a.res.head.kind, .int .i64 a.res.head.rho, .slice a.res.head.ep a.res.head.en a.res.head.ec, .slice a.res.head.kp a.res.head.kn a.res.head.kc, .slice a.kp a.kn a.kc] : List Value).toArray) rfl (yieldsIf_load_mid (by rfl) 31 _ rfl (w.heap.size + 1) 0 rfl _ _ (fun W' hSw => (HX.out.step hSw).b1.range) Tryz.underlying31 rfl (by kernel_rfl)) ?_
          try simp only [Act.put, zA, zB, zC]
          refine wpAnyH_ready (rs := [3]) (by kernel_rfl) (by simp) ?_
          refine AllReadyH.cons (o := ⟨some 36, _, _, _, _, none⟩) rfl (fun K hK => ?_) AllReadyH.nil
          go_simp
          refine hK.out _ _ ?_ (fun hNew => ?_)
          · (try dsimp only); exact bel_alloc hHeld _
          clear hHeld hK K; have hHeld := hNew; clear hNew
          try simp only [Act.put, zA, zB, zC]
          refine wpAnyH_ready (rs := [4]) (by kernel_rfl) (by simp) ?_
          refine AllReadyH.cons (o := ⟨some 37, _, _, _, _, none⟩) rfl (fun K hK => ?_) AllReadyH.nil
          go_simp
          go_at_call 132
          refine (effect_Rhos_any _ 1 1 [⟨a.ep, a.en, a.ec, a.eff⟩] _ rfl (by decide) ((one_row (w := wc) a.eff 25).below (bel_drew _)) (one_ok (HEF.out.below (HX.out.below.trans (hHeld.mono HX.out.below.size)))) (by simpa using HEN.out)).mono ?_
          rintro e w3 ⟨q3, m3, c3, rfl, _, hrow, hb⟩
          have HROW : Hid (IsRow encN 1 w3 q3 m3 c3 (rhosOf a.eff)) := by have h := hrow; simp only [List.flatMap_cons, List.flatMap_nil, List.append_nil] at h; exact h
          clear hrow
          try go_wp2_with fail
          refine hK.out _ _ ?_ (fun hNew => ?_)
          · (try dsimp only); exact bel_step hHeld hb
          clear hHeld hK K; have hHeld := hNew; clear hNew
          try simp only [Act.put, zA, zB, zC]
          refine wpAnyH_ready (rs := [5]) (by kernel_rfl) (by simp) ?_
          refine AllReadyH.cons (o := ⟨some 38, _, _, _, _, none⟩) rfl (fun K hK => ?_) AllReadyH.nil
          go_simp
          go_at_call 130
          refine (scope_has_is HU3.out HROW.out ep en ec (HQ7.out.below hHeld)).mono ?_
          rintro e w8 ⟨rfl, hb⟩
          have HS5 := hid (bel_step hHeld hb)
          try go_wp2_with fail
          refine hK.out _ _ ?_ (fun hNew => ?_)
          · (try dsimp only); exact bel_step hHeld hb
          clear hHeld hK K; have hHeld := hNew; clear hNew
          try simp only [Act.put, zA, zB, zC]
          refine tk (i := 6) (oi := ⟨some 39, _, _, _, _, none⟩) (v := ?_) rfl (Or.inl ⟨by rfl, ?_⟩) ?_
          rotate_left; · intro w h; go_simp; try with_reducible rfl
          try simp only [Act.put, zA, zB, zC]
          refine tk (i := 7) (oi := ⟨some 40, _, _, _, _, some (6, true)⟩) (v := .agg ([.slice ep en ec, .slice q7 m7 c7] : List Value).toArray) rfl (yieldsIf_load_mid (by rfl) 84 _ rfl w.heap.size 0 rfl _ _ (fun W' hSw => (HX.out.step hSw).r0) Tryz.underlying84 rfl (by kernel_rfl)) ?_
          try simp only [Act.put, zA, zB, zC]
          refine tk (i := 8) (oi := ⟨some 41, _, _, _, _, some (6, true)⟩) (v := ?_) rfl (Or.inl ⟨by rfl, ?_⟩) ?_
          rotate_left; · intro w h; go_simp; try with_reducible rfl
          try simp only [Act.put, zA, zB, zC]
          refine tk (i := 9) (oi := ⟨some 42, _, _, _, _, some (6, true)⟩) (v := .agg ([.int .u8 a.ty.head.kind, .int .i64 a.ty.head.rho, .slice a.ty.head.ep a.ty.head.en a.ty.head.ec, .slice a.ty.head.kp a.ty.head.kn a.ty.head.kc] : List Value).toArray) rfl (yieldsIf_load_mid (by rfl) 28 _ rfl (w.heap.size + 1) 10 rfl _ _ (fun W' hSw => range_part' (HX.out.step hSw).b1 10 4 rfl) Tryz.underlying28 rfl (by kernel_rfl)) ?_
          try simp only [Act.put, zA, zB, zC]
          refine tk (i := 10) (oi := ⟨some 43, _, _, _, _, some (6, true)⟩) (v := ?_) rfl (Or.inl ⟨by rfl, ?_⟩) ?_
          rotate_left; · intro w h; go_simp; try with_reducible rfl
          try simp only [Act.put, zA, zB, zC]
          refine tk (i := 11) (oi := ⟨some 44, _, _, _, _, some (6, true)⟩) (v := .agg ([.int .u8 a.res.head.kind, .int .i64 a.res.head.rho, .slice a.res.head.ep a.res.head.en a.res.head.ec, .slice a.res.head.kp a.res.head.kn a.res.head.kc] : List Value).toArray) rfl (yieldsIf_load_mid (by rfl) 28 _ rfl (w.heap.size + 1) 14 rfl _ _ (fun W' hSw => range_part' (HX.out.step hSw).b1 14 4 rfl) Tryz.underlying28 rfl (by kernel_rfl)) ?_
          try simp only [Act.put, zA, zB, zC]
          refine wpAnyH_ready (rs := [12]) (by kernel_rfl) (by simp) ?_
          refine AllReadyH.cons (o := ⟨some 45, _, _, _, _, some (6, true)⟩) rfl (fun K hK => ?_) AllReadyH.nil
          go_simp
          refine hK.out _ _ ?_ (fun hNew => ?_)
          · (try dsimp only); exact bel_alloc hHeld _
          clear hHeld hK K; have hHeld := hNew; clear hNew
          try simp only [Act.put, zA, zB, zC]
          refine wpAnyH_ready (rs := [13]) (by kernel_rfl) (by simp) ?_
          refine AllReadyH.cons (o := ⟨some 46, _, _, _, _, some (6, true)⟩) rfl (fun K hK => ?_) AllReadyH.nil
          go_simp
          go_at_call 133
          refine (rtype_Rhos_any (rowT_two (LR.lies_below (HX.out.below.trans (HS5.out.mono HX.out.below.size)) _ HTY.out) (LR.lies_below (HX.out.below.trans (HS5.out.mono HX.out.below.size)) _ HRS.out) _) HGL.out HGO.out).mono ?_
          rintro e w5 ⟨q5, m5, c5, rfl, _, hrow, hb⟩
          have HROW5 := hid hrow
          clear hrow
          try go_wp2_with fail
          refine hK.out _ _ ?_ (fun hNew => ?_)
          · (try dsimp only); exact bel_step hHeld hb
          clear hHeld hK K; have hHeld := hNew; clear hNew
          try simp only [Act.put, zA, zB, zC]
          refine wpAnyH_ready (rs := [14]) (by kernel_rfl) (by simp) ?_
          refine AllReadyH.cons (o := ⟨some 47, _, _, _, _, some (6, true)⟩) rfl (fun K hK => ?_) AllReadyH.nil
          go_simp
          go_at_call 130
          refine (scope_has_is HU4.out HROW5.out ep en ec (HQ7.out.below hHeld)).mono ?_
          rintro e w8 ⟨rfl, hb⟩
          try go_wp2_with fail
          refine hK.out _ _ ?_ (fun hNew => ?_)
          · (try dsimp only); exact bel_step hHeld hb
          clear hHeld hK K; have hHeld := hNew; clear hNew
          try simp only [Act.put, zA, zB, zC]
          refine tk (i := 15) (oi := ⟨some 48, _, _, _, _, none⟩) (v := ?_) rfl (Or.inl ⟨by rfl, ?_⟩) ?_
          rotate_left; · intro w h; go_simp; try with_reducible rfl
          try simp only [Act.put, zA, zB, zC]
          refine wpAnyH_ready (rs := [17]) (by kernel_rfl) (by simp) ?_
          refine AllReadyH.cons (o := ⟨some 50, _, _, _, _, none⟩) rfl (fun K hK => ?_) AllReadyH.nil
          go_simp
          cases u4
          · go_at_call 64
            refine (must_no a 4 _).mono ?_
            rintro e w9 ⟨rfl, hb⟩
            exact ⟨rfl, regOut_no (HR0.out.trans (by simp)), HX.out.below.trans ((bel_step hHeld hb).mono HX.out.below.size)⟩
          go_at_call 64
          refine (must_yes a 4 _).mono ?_
          rintro e w9 ⟨rfl, hb⟩
          try go_wp2_with fail
          refine hK.out _ _ ?_ (fun hNew => ?_)
          · (try dsimp only); exact bel_step hHeld hb
          clear hHeld hK K; have hHeld := hNew; clear hNew
          try simp only [Act.put, zA, zB, zC]
          refine wpAnyH_done (by kernel_rfl) ?_ _
          have HX2 := hid (HX.out.step hHeld)
          clear hHeld
          go_wp2_with fail
          go_end0
          exact ⟨regOut_yes (HR0.out.trans (by simp)), HX2.out.below⟩
end
end Go.Proofs.YtkdjnegfnhldpaaGreatDoor
