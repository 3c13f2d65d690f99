/- Part 39 of the texts: Sa3. -/
import Derived.Test.YtdlbjngpohkglaaGreatDoorG37
import Derived.Deep.RegionHeld3
section
set_option linter.unusedVariables false
set_option maxRecDepth 100000
set_option linter.unusedSimpArgs false
namespace Go.Proofs.YtdlbjngpohkglaaGreatDoor
open Go.RowKit Go.Sort Go.Lib

set_option maxHeartbeats 60000000 in
theorem same13_e {a b : AH} {l m : List PA} {w : World} (ha : NodeA w a l) (hb : NodeA w b m) (hf : ∀ x ∈ l, ∀ y ∈ m, ∀ W, Below w.heap.size w W → RSame13At x y W) (h1 : hdB a.kh b.kh = true) (h2 : decide (a.rho = b.rho) = true) (hn : a.kn = b.kn) : RSame13At (.node a l) (.node b m) w := by
  intro r hrr
  have HNA := Lib.hid ha
  have HNB := Lib.hid hb
  have HF := Lib.hid hf
  have hla := ha.kids.len
  have hlb := hb.kids.len
  have hma := ha.own.kmax
  have hmb := hb.own.kmax
  have HD : Hid (Two2 w ((w.alloc (boxA a)).alloc (boxA b)) a b) := by
    have h1 := boxA_new w a
    have h2 := boxA_new (w.alloc (boxA a)) b
    rw [show (w.alloc (boxA a)).heap.size = w.heap.size + 1 by simp] at h2
    exact ⟨h1.below ((Below.refl _ _).alloc (Nat.le_refl _) _), h2, ((Below.refl w.heap.size w).alloc (Nat.le_refl _) _).alloc (by simp) _⟩
  have HNEH := Lib.hid (run_neH a b)
  have hr1 : r = (sameKH a.kh b.kh && sameAL l m) := by rw [← sameA_node]; exact hrr.symm
  have hr2 : sameKH a.kh b.kh = (hdB a.kh b.kh && (decide (a.rho = b.rho) && (eqN a.rhos b.rhos && (withinB a.eff b.eff && (withinB b.eff a.eff && (sameP a.ty b.ty && sameP a.res b.res)))))) := rfl
  rw [hr2] at hr1
  have HQ3 := Lib.hid (fun (W : World) (h : Two2 w W a b) => eqInts_is (r := eqN a.rhos b.rhos) rfl (HNA.out.below h.below).own.rhos (HNB.out.below h.below).own.rhos)
  have HW := Lib.hid (fun (W : World) (h : Two2 w W a b) => ref_Within_is (r := withinB a.eff b.eff) rfl (HNA.out.below h.below).own.eff (HNB.out.below h.below).own.eff)
  have HW2 := Lib.hid (fun (W : World) (h : Two2 w W a b) => ref_Within_is (r := withinB b.eff a.eff) rfl (HNB.out.below h.below).own.eff (HNA.out.below h.below).own.eff)
  have HT := Lib.hid (fun (W : World) (h : Two2 w W a b) => rsameAt_any a.ty b.ty W (HNA.out.below h.below).own.ty (HNB.out.below h.below).own.ty (sameP a.ty b.ty) rfl)
  have HT2 := Lib.hid (fun (W : World) (h : Two2 w W a b) => rsameAt_any a.res b.res W (HNA.out.below h.below).own.res (HNB.out.below h.below).own.res (sameP a.res b.res) rfl)
  have HRA0 := Lib.hid (fun (W : World) (h : Two2 w W a b) => (h.r0 0 7 rfl : W.rangeAt w.heap.size 0 [.int .u8 a.kind, .int .u8 a.op, .int .i64 a.at_, .int .i64 a.n, .string a.name, .string a.arg, .string a.exn]))
  have HRB0 := Lib.hid (fun (W : World) (h : Two2 w W a b) => (h.r1 0 7 rfl : W.rangeAt (w.heap.size + 1) 0 [.int .u8 b.kind, .int .u8 b.op, .int .i64 b.at_, .int .i64 b.n, .string b.name, .string b.arg, .string b.exn]))
  have HRA1 := Lib.hid (fun (W : World) (h : Two2 w W a b) => (h.r0 10 4 rfl : W.rangeAt w.heap.size 10 [.int .u8 a.ty.head.kind, .int .i64 a.ty.head.rho, .slice a.ty.head.ep a.ty.head.en a.ty.head.ec, .slice a.ty.head.kp a.ty.head.kn a.ty.head.kc]))
  have HRB1 := Lib.hid (fun (W : World) (h : Two2 w W a b) => (h.r1 10 4 rfl : W.rangeAt (w.heap.size + 1) 10 [.int .u8 b.ty.head.kind, .int .i64 b.ty.head.rho, .slice b.ty.head.ep b.ty.head.en b.ty.head.ec, .slice b.ty.head.kp b.ty.head.kn b.ty.head.kc]))
  have HRA2 := Lib.hid (fun (W : World) (h : Two2 w W a b) => (h.r0 14 4 rfl : W.rangeAt w.heap.size 14 [.int .u8 a.res.head.kind, .int .i64 a.res.head.rho, .slice a.res.head.ep a.res.head.en a.res.head.ec, .slice a.res.head.kp a.res.head.kn a.res.head.kc]))
  have HRB2 := Lib.hid (fun (W : World) (h : Two2 w W a b) => (h.r1 14 4 rfl : W.rangeAt (w.heap.size + 1) 14 [.int .u8 b.res.head.kind, .int .i64 b.res.head.rho, .slice b.res.head.ep b.res.head.en b.res.head.ec, .slice b.res.head.kp b.res.head.kn b.res.head.kc]))
  generalize eqN a.rhos b.rhos = u3 at *
  generalize withinB a.eff b.eff = u4 at *
  generalize withinB b.eff a.eff = u5 at *
  generalize sameP a.ty b.ty = u6 at *
  generalize sameP a.res b.res = u7 at *
  have HRR := Lib.hid hr1
  clear ha hb hf hrr hr1 hr2
  show Calls _ _ #[aggT a, aggT b] w _
  rw [h1, h2] at HRR
  rw [h1] at HNEH
  have q2 : (a.rho != b.rho) = false := by simp at h2; simp [h2]
  have q8 : ((a.kn : Int) != (b.kn : Int)) = false := by rw [hn]; simp
  have HNK := Lib.hid hn
  clear h1 h2 hn
  go_enter Tryz.func12, Tryz.ntmps12
  go_upto_region 1 with fail
  generalize (w.alloc (boxA a)).alloc (boxA b) = W0 at *
  have c7 := HD.out.b0.c 7 _ rfl
  have d7 := HD.out.b1.c 7 _ rfl
  have c8 := HD.out.b0.c 8 _ rfl
  have d8 := HD.out.b1.c 8 _ rfl
  have c9 := HD.out.b0.c 9 _ rfl
  have d9 := HD.out.b1.c 9 _ rfl
  have c18 := HD.out.b0.c 18 _ rfl
  have d18 := HD.out.b1.c 18 _ rfl
  go_upto_region 3 with (first | ((with_reducible refine isNeq ?_); refine wpList_neq rfl 23 _ _ _ rfl _ _ rfl rfl (by kernel_rfl) _ (HNEH.out _) ?_) | ((with_reducible refine isLoad (ty := 23) ?_); first | (have := MH1; refine wpList_load_midG (by rfl) 23 _ rfl (w.heap.size + 1) 0 rfl [.int .u8 b.kind, .int .u8 b.op, .int .i64 b.at_, .int .i64 b.n, .string b.name, .string b.arg, .string b.exn] _ (HRB0.out _ HD.out) Tryz.underlying23 rfl (by kernel_rfl) ?_; have MH2 := Lib.hid True.intro) | (refine wpList_load_midG (by rfl) 23 _ rfl w.heap.size 0 rfl [.int .u8 a.kind, .int .u8 a.op, .int .i64 a.at_, .int .i64 a.n, .string a.name, .string a.arg, .string a.exn] _ (HRA0.out _ HD.out) Tryz.underlying23 rfl (by kernel_rfl) ?_; have MH1 := Lib.hid True.intro)) | (go_at_call 25; refine (HQ3.out _ HD.out).mono ?_; rintro e w8 ⟨rfl, hb⟩; have HD := Lib.hid (HD.out.step hb); clear hb; clear c7 d7 c8 d8 c9 d9 c18 d18; have c7 := HD.out.b0.c 7 _ rfl; have d7 := HD.out.b1.c 7 _ rfl; have c8 := HD.out.b0.c 8 _ rfl; have d8 := HD.out.b1.c 8 _ rfl; have c9 := HD.out.b0.c 9 _ rfl; have d9 := HD.out.b1.c 9 _ rfl; have c18 := HD.out.b0.c 18 _ rfl; have d18 := HD.out.b1.c 18 _ rfl; cases u3) | (go_at_call 26; refine (HW.out _ HD.out).mono ?_; rintro e w8 ⟨rfl, hb⟩; have HD := Lib.hid (HD.out.step hb); clear hb; clear c7 d7 c8 d8 c9 d9 c18 d18; have c7 := HD.out.b0.c 7 _ rfl; have d7 := HD.out.b1.c 7 _ rfl; have c8 := HD.out.b0.c 8 _ rfl; have d8 := HD.out.b1.c 8 _ rfl; have c9 := HD.out.b0.c 9 _ rfl; have d9 := HD.out.b1.c 9 _ rfl; have c18 := HD.out.b0.c 18 _ rfl; have d18 := HD.out.b1.c 18 _ rfl; clear HW; have HW := HW2; first | (have := HM1; cases u5) | (have HM1 := Lib.hid True.intro; cases u4)))
  all_goals (try (go_ret; exact ⟨ret_bool (by rw [HRR.out]; simp), HD.out.below⟩))
  go_upto_region 6 with (first | ((with_reducible refine isLoad (ty := 28) ?_); first | (have := MR3; refine wpList_load_midG (by rfl) 28 _ rfl (w.heap.size + 1) 14 rfl [.int .u8 b.res.head.kind, .int .i64 b.res.head.rho, .slice b.res.head.ep b.res.head.en b.res.head.ec, .slice b.res.head.kp b.res.head.kn b.res.head.kc] _ (HRB2.out _ HD.out) Tryz.underlying28 rfl (by kernel_rfl) ?_; have MR4 := Lib.hid True.intro) | (have := MR2; refine wpList_load_midG (by rfl) 28 _ rfl w.heap.size 14 rfl [.int .u8 a.res.head.kind, .int .i64 a.res.head.rho, .slice a.res.head.ep a.res.head.en a.res.head.ec, .slice a.res.head.kp a.res.head.kn a.res.head.kc] _ (HRA2.out _ HD.out) Tryz.underlying28 rfl (by kernel_rfl) ?_; have MR3 := Lib.hid True.intro) | (have := MR1; refine wpList_load_midG (by rfl) 28 _ rfl (w.heap.size + 1) 10 rfl [.int .u8 b.ty.head.kind, .int .i64 b.ty.head.rho, .slice b.ty.head.ep b.ty.head.en b.ty.head.ec, .slice b.ty.head.kp b.ty.head.kn b.ty.head.kc] _ (HRB1.out _ HD.out) Tryz.underlying28 rfl (by kernel_rfl) ?_; have MR2 := Lib.hid True.intro) | (refine wpList_load_midG (by rfl) 28 _ rfl w.heap.size 10 rfl [.int .u8 a.ty.head.kind, .int .i64 a.ty.head.rho, .slice a.ty.head.ep a.ty.head.en a.ty.head.ec, .slice a.ty.head.kp a.ty.head.kn a.ty.head.kc] _ (HRA1.out _ HD.out) Tryz.underlying28 rfl (by kernel_rfl) ?_; have MR1 := Lib.hid True.intro)) | (go_at_call 27; refine (HT.out _ HD.out).mono ?_; rintro e w8 ⟨rfl, hb⟩; have HD := Lib.hid (HD.out.step hb); clear hb; clear c7 d7 c8 d8 c9 d9 c18 d18; have c7 := HD.out.b0.c 7 _ rfl; have d7 := HD.out.b1.c 7 _ rfl; have c8 := HD.out.b0.c 8 _ rfl; have d8 := HD.out.b1.c 8 _ rfl; have c9 := HD.out.b0.c 9 _ rfl; have d9 := HD.out.b1.c 9 _ rfl; have c18 := HD.out.b0.c 18 _ rfl; have d18 := HD.out.b1.c 18 _ rfl; clear HT; have HT := HT2; first | (have := HM2; cases u7) | (have HM2 := Lib.hid True.intro; cases u6)))
  all_goals (try (go_ret; exact ⟨ret_bool (by rw [HRR.out]; simp), HD.out.below⟩))
  have HS : Hid (r = sameAL l m) := by show _ = _; rw [HRR.out]; rfl
  clear c7 d7 c8 d8 c9 d9 c18 d18
  go_loopw [5, 68] (fun _ i wr => ∃ k : Nat, k ≤ a.kn ∧ i = .int .i64 k ∧ (∀ (j : Nat) (x y : PA), j < k → l[j]? = some x → m[j]? = some y → sameA x y = true) ∧ Two2 w wr a b) (fun _ i _ => a.kn - (intOf i).toNat)
  case atStart => exact ⟨0, by omega, rfl, fun j x y hj => by omega, HD.out⟩
  case round =>
    obtain ⟨k, hk, rfl, hno, hd⟩ := hrel
    have HNO := Lib.hid hno
    have HD := Lib.hid hd
    clear hno hd
    by_cases hlt : k < a.kn
    · have hltb : k < b.kn := by have := HNK.out; omega
      obtain ⟨x, hx⟩ := HNA.out.rowT.at (j := k) hlt
      obtain ⟨y, hy⟩ := HNB.out.rowT.at (j := k) hltb
      have HX := Lib.hid hx
      have HY := Lib.hid hy
      obtain ⟨g, o, hbo, hbl, hcs⟩ := (HNA.out.rowT.below HD.out.below).kid hx
      obtain ⟨g', o', hbo', hbl', hcs'⟩ := (HNB.out.rowT.below HD.out.below).kid hy
      have c18 : wr.cell? ⟨w.heap.size, 18, none⟩ = some (.slice a.kp a.kn a.kc) := HD.out.b0.c 18 _ rfl
      have d18 : wr.cell? ⟨w.heap.size + 1, 18, none⟩ = some (.slice b.kp b.kn b.kc) := HD.out.b1.c 18 _ rfl
      have HSS : Hid (∀ W', Below wr.heap.size wr W' → W'.cell? ⟨w.heap.size, 18, none⟩ = some (.slice (some ⟨g, o, none⟩) a.kn a.kc) ∧ W'.cell? ⟨w.heap.size + 1, 18, none⟩ = some (.slice (some ⟨g', o', none⟩) b.kn b.kc) ∧ W'.rangeAt g (o + k * 19) [.int .u8 x.head.kind, .int .u8 x.head.op, .int .i64 x.head.at_, .int .i64 x.head.n, .string x.head.name, .string x.head.arg, .string x.head.exn, .int .i64 x.head.rho, .slice x.head.rp x.head.rn x.head.rc, .slice x.head.ep x.head.en x.head.ec, .int .u8 x.head.ty.head.kind, .int .i64 x.head.ty.head.rho, .slice x.head.ty.head.ep x.head.ty.head.en x.head.ty.head.ec, .slice x.head.ty.head.kp x.head.ty.head.kn x.head.ty.head.kc, .int .u8 x.head.res.head.kind, .int .i64 x.head.res.head.rho, .slice x.head.res.head.ep x.head.res.head.en x.head.res.head.ec, .slice x.head.res.head.kp x.head.res.head.kn x.head.res.head.kc, .slice x.head.kp x.head.kn x.head.kc] ∧ W'.rangeAt g' (o' + k * 19) [.int .u8 y.head.kind, .int .u8 y.head.op, .int .i64 y.head.at_, .int .i64 y.head.n, .string y.head.name, .string y.head.arg, .string y.head.exn, .int .i64 y.head.rho, .slice y.head.rp y.head.rn y.head.rc, .slice y.head.ep y.head.en y.head.ec, .int .u8 y.head.ty.head.kind, .int .i64 y.head.ty.head.rho, .slice y.head.ty.head.ep y.head.ty.head.en y.head.ty.head.ec, .slice y.head.ty.head.kp y.head.ty.head.kn y.head.ty.head.kc, .int .u8 y.head.res.head.kind, .int .i64 y.head.res.head.rho, .slice y.head.res.head.ep y.head.res.head.en y.head.res.head.ec, .slice y.head.res.head.kp y.head.res.head.kn y.head.res.head.kc, .slice y.head.kp y.head.kn y.head.kc]) := fun W' h => by
        refine ⟨?_, ?_, fun j v hj => ?_, fun j v hj => ?_⟩
        · rw [h.cell (cell_block c18), c18, hbo]
        · rw [h.cell (cell_block d18), d18, hbo']
        · rw [h.cell hbl]; exact hcs.c j v hj
        · rw [h.cell hbl']; exact hcs'.c j v hj
      have i0 : (0 : Int) ≤ (k : Int) := by omega
      have i1 : (k : Int) < (a.kn : Int) := by omega
      have i2 : (k : Int) < (b.kn : Int) := by omega
      have HFX : Hid (∀ W, Below wr.heap.size wr W → RSame13At x y W) := fun W h => HF.out x (List.mem_of_getElem? hx) y (List.mem_of_getElem? hy) W (HD.out.below.trans (h.mono HD.out.below.size))
      clear hx hy hbo hbo' hbl hbl' hcs hcs' c18 d18
      cases hq : sameA x y
      · have HQ := Lib.hid hq
        clear hq
        go_upto_region 8 with fail
        refine wp_region_noPanic ?_
        refine wp_region_held_drew (S := fun W' => W'.cell? ⟨w.heap.size, 18, none⟩ = some (.slice (some ⟨g, o, none⟩) a.kn a.kc) ∧ W'.cell? ⟨w.heap.size + 1, 18, none⟩ = some (.slice (some ⟨g', o', none⟩) b.kn b.kc) ∧ W'.rangeAt g (o + k * 19) [.int .u8 x.head.kind, .int .u8 x.head.op, .int .i64 x.head.at_, .int .i64 x.head.n, .string x.head.name, .string x.head.arg, .string x.head.exn, .int .i64 x.head.rho, .slice x.head.rp x.head.rn x.head.rc, .slice x.head.ep x.head.en x.head.ec, .int .u8 x.head.ty.head.kind, .int .i64 x.head.ty.head.rho, .slice x.head.ty.head.ep x.head.ty.head.en x.head.ty.head.ec, .slice x.head.ty.head.kp x.head.ty.head.kn x.head.ty.head.kc, .int .u8 x.head.res.head.kind, .int .i64 x.head.res.head.rho, .slice x.head.res.head.ep x.head.res.head.en x.head.res.head.ec, .slice x.head.res.head.kp x.head.res.head.kn x.head.res.head.kc, .slice x.head.kp x.head.kn x.head.kc] ∧ W'.rangeAt g' (o' + k * 19) [.int .u8 y.head.kind, .int .u8 y.head.op, .int .i64 y.head.at_, .int .i64 y.head.n, .string y.head.name, .string y.head.arg, .string y.head.exn, .int .i64 y.head.rho, .slice y.head.rp y.head.rn y.head.rc, .slice y.head.ep y.head.en y.head.ec, .int .u8 y.head.ty.head.kind, .int .i64 y.head.ty.head.rho, .slice y.head.ty.head.ep y.head.ty.head.en y.head.ty.head.ec, .slice y.head.ty.head.kp y.head.ty.head.kn y.head.ty.head.kc, .int .u8 y.head.res.head.kind, .int .i64 y.head.res.head.rho, .slice y.head.res.head.ep y.head.res.head.en y.head.res.head.ec, .slice y.head.res.head.kp y.head.res.head.kn y.head.res.head.kc, .slice y.head.kp y.head.kn y.head.kc]) (by kernel_rfl) ?_ (fun hHeld => ?_)
        · (try dsimp only); first | exact HSS.out _ (bel_drew _) | exact HSS.out _ HB8.out
        refine wpAnyH_take (i := 0) (oi := ({ dst := some 71, op := Op.fieldAddr 31 (Operand.tmp 2) 6, type := 0, pos := "ref.go:151", after := #[], guard := none } : Oper)) (v := ?_) rfl (by kernel_rfl) (by kernel_rfl) (by kernel_rfl) (fun _ _ _ h => h) (Or.inl ⟨by rfl, ?_⟩) (by assumption) ?_
        rotate_left
        · intro w hSw; (try dsimp only at hSw); obtain ⟨hSc, hSd, hSr, hSs⟩ := hSw; clear hSr hSs; go_simp; try with_reducible rfl
        try simp only [Act.put, List.setIfInBounds_toArray, List.set_cons_zero, List.set_cons_succ]
        refine wpAnyH_take (i := 1) (oi := ({ dst := some 72, op := Op.load 29 (Operand.tmp 71), type := 29, pos := "ref.go:151", after := #[{ on := 0, ground := Ground.data }], guard := none } : Oper)) (v := ?_) rfl (by kernel_rfl) (by kernel_rfl) (by kernel_rfl) (fun _ _ _ h => h) (Or.inl ⟨by rfl, ?_⟩) (by assumption) ?_
        rotate_left
        · intro w hSw; (try dsimp only at hSw); obtain ⟨hSc, hSd, hSr, hSs⟩ := hSw; clear hSr hSs; go_simp; try with_reducible rfl
        try simp only [Act.put, List.setIfInBounds_toArray, List.set_cons_zero, List.set_cons_succ]
        refine wpAnyH_take (i := 2) (oi := ({ dst := some 73, op := Op.move (Operand.tmp 5), type := 3, pos := "ref.go:151", after := #[], guard := none } : Oper)) (v := ?_) rfl (by kernel_rfl) (by kernel_rfl) (by kernel_rfl) (fun _ _ _ h => h) (Or.inl ⟨by rfl, ?_⟩) (by assumption) ?_
        rotate_left
        · intro w hSw; (try dsimp only at hSw); obtain ⟨hSc, hSd, hSr, hSs⟩ := hSw; clear hSr hSs; go_simp; try with_reducible rfl
        try simp only [Act.put, List.setIfInBounds_toArray, List.set_cons_zero, List.set_cons_succ]
        refine wpAnyH_take (i := 3) (oi := ({ dst := some 74, op := Op.indexAddr 29 (Operand.tmp 72) (Operand.tmp 73), type := 0, pos := "ref.go:151", after := #[{ on := 1, ground := Ground.data }, { on := 2, ground := Ground.data }], guard := none } : Oper)) (v := ?_) rfl (by kernel_rfl) (by kernel_rfl) (by kernel_rfl) (fun _ _ _ h => h) (Or.inl ⟨by rfl, ?_⟩) (by assumption) ?_
        rotate_left
        · intro w hSw; (try dsimp only at hSw); obtain ⟨hSc, hSd, hSr, hSs⟩ := hSw; clear hSr hSs; go_simp; try with_reducible rfl
        try simp only [Act.put, List.setIfInBounds_toArray, List.set_cons_zero, List.set_cons_succ]
        refine wpAnyH_take (i := 4) (oi := ({ dst := some 75, op := Op.load 31 (Operand.tmp 74), type := 31, pos := "ref.go:151", after := #[{ on := 3, ground := Ground.data }], guard := none } : Oper)) (v := .agg ([.int .u8 x.head.kind, .int .u8 x.head.op, .int .i64 x.head.at_, .int .i64 x.head.n, .string x.head.name, .string x.head.arg, .string x.head.exn, .int .i64 x.head.rho, .slice x.head.rp x.head.rn x.head.rc, .slice x.head.ep x.head.en x.head.ec, .int .u8 x.head.ty.head.kind, .int .i64 x.head.ty.head.rho, .slice x.head.ty.head.ep x.head.ty.head.en x.head.ty.head.ec, .slice x.head.ty.head.kp x.head.ty.head.kn x.head.ty.head.kc, .int .u8 x.head.res.head.kind, .int .i64 x.head.res.head.rho, .slice x.head.res.head.ep x.head.res.head.en x.head.res.head.ec, .slice x.head.res.head.kp x.head.res.head.kn x.head.res.head.kc, .slice x.head.kp x.head.kn x.head.kc] : List Value).toArray) rfl (by kernel_rfl) (by kernel_rfl) (by kernel_rfl) (fun _ _ _ h => h) (yieldsIf_load_mid (by rfl) 31 _ rfl g (o + k * 19) rfl _ _ (fun W' h => h.2.2.1) Tryz.underlying31 rfl (by kernel_rfl)) (by assumption) ?_
        try simp only [Act.put, List.setIfInBounds_toArray, List.set_cons_zero, List.set_cons_succ]
        refine wpAnyH_take (i := 5) (oi := ({ dst := some 76, op := Op.fieldAddr 31 (Operand.tmp 3) 6, type := 0, pos := "ref.go:151", after := #[], guard := none } : Oper)) (v := ?_) rfl (by kernel_rfl) (by kernel_rfl) (by kernel_rfl) (fun _ _ _ h => h) (Or.inl ⟨by rfl, ?_⟩) (by assumption) ?_
        rotate_left
        · intro w hSw; (try dsimp only at hSw); obtain ⟨hSc, hSd, hSr, hSs⟩ := hSw; clear hSr hSs; go_simp; try with_reducible rfl
        try simp only [Act.put, List.setIfInBounds_toArray, List.set_cons_zero, List.set_cons_succ]
        refine wpAnyH_take (i := 6) (oi := ({ dst := some 77, op := Op.load 29 (Operand.tmp 76), type := 29, pos := "ref.go:151", after := #[{ on := 5, ground := Ground.data }], guard := none } : Oper)) (v := ?_) rfl (by kernel_rfl) (by kernel_rfl) (by kernel_rfl) (fun _ _ _ h => h) (Or.inl ⟨by rfl, ?_⟩) (by assumption) ?_
        rotate_left
        · intro w hSw; (try dsimp only at hSw); obtain ⟨hSc, hSd, hSr, hSs⟩ := hSw; clear hSr hSs; go_simp; try with_reducible rfl
        try simp only [Act.put, List.setIfInBounds_toArray, List.set_cons_zero, List.set_cons_succ]
        refine wpAnyH_take (i := 7) (oi := ({ dst := some 78, op := Op.move (Operand.tmp 5), type := 3, pos := "ref.go:151", after := #[], guard := none } : Oper)) (v := ?_) rfl (by kernel_rfl) (by kernel_rfl) (by kernel_rfl) (fun _ _ _ h => h) (Or.inl ⟨by rfl, ?_⟩) (by assumption) ?_
        rotate_left
        · intro w hSw; (try dsimp only at hSw); obtain ⟨hSc, hSd, hSr, hSs⟩ := hSw; clear hSr hSs; go_simp; try with_reducible rfl
        try simp only [Act.put, List.setIfInBounds_toArray, List.set_cons_zero, List.set_cons_succ]
        refine wpAnyH_take (i := 8) (oi := ({ dst := some 79, op := Op.indexAddr 29 (Operand.tmp 77) (Operand.tmp 78), type := 0, pos := "ref.go:151", after := #[{ on := 6, ground := Ground.data }, { on := 7, ground := Ground.data }], guard := none } : Oper)) (v := ?_) rfl (by kernel_rfl) (by kernel_rfl) (by kernel_rfl) (fun _ _ _ h => h) (Or.inl ⟨by rfl, ?_⟩) (by assumption) ?_
        rotate_left
        · intro w hSw; (try dsimp only at hSw); obtain ⟨hSc, hSd, hSr, hSs⟩ := hSw; clear hSr hSs; go_simp; try with_reducible rfl
        try simp only [Act.put, List.setIfInBounds_toArray, List.set_cons_zero, List.set_cons_succ]
        refine wpAnyH_take (i := 9) (oi := ({ dst := some 80, op := Op.load 31 (Operand.tmp 79), type := 31, pos := "ref.go:151", after := #[{ on := 8, ground := Ground.data }], guard := none } : Oper)) (v := .agg ([.int .u8 y.head.kind, .int .u8 y.head.op, .int .i64 y.head.at_, .int .i64 y.head.n, .string y.head.name, .string y.head.arg, .string y.head.exn, .int .i64 y.head.rho, .slice y.head.rp y.head.rn y.head.rc, .slice y.head.ep y.head.en y.head.ec, .int .u8 y.head.ty.head.kind, .int .i64 y.head.ty.head.rho, .slice y.head.ty.head.ep y.head.ty.head.en y.head.ty.head.ec, .slice y.head.ty.head.kp y.head.ty.head.kn y.head.ty.head.kc, .int .u8 y.head.res.head.kind, .int .i64 y.head.res.head.rho, .slice y.head.res.head.ep y.head.res.head.en y.head.res.head.ec, .slice y.head.res.head.kp y.head.res.head.kn y.head.res.head.kc, .slice y.head.kp y.head.kn y.head.kc] : List Value).toArray) rfl (by kernel_rfl) (by kernel_rfl) (by kernel_rfl) (fun _ _ _ h => h) (yieldsIf_load_mid (by rfl) 31 _ rfl g' (o' + k * 19) rfl _ _ (fun W' h => h.2.2.2) Tryz.underlying31 rfl (by kernel_rfl)) (by assumption) ?_
        try simp only [Act.put, List.setIfInBounds_toArray, List.set_cons_zero, List.set_cons_succ]
        refine wpAnyH_ready (rs := [10]) (by kernel_rfl) (by simp) ?_
        refine AllReadyH.cons (o := ({ dst := some 81, op := Op.call { callee := Callee.value (Operand.func 12), args := #[Operand.tmp 75, Operand.tmp 80], argTypes := #[31, 31] }, type := 4, pos := "ref.go:151", after := #[{ on := 4, ground := Ground.data }, { on := 9, ground := Ground.data }], guard := none } : Oper)) rfl (fun K hK => ?_) AllReadyH.nil
        go_simp
        go_at_call 12
        refine (HFX.out _ (bel_drew _) _ HQ.out).mono ?_
        rintro e w8 ⟨rfl, hb8⟩
        have HB8 : Hid (Below wr.heap.size wr w8) := bel_step (bel_drew wr) hb8
        have HD2 := Lib.hid (HD.out.step HB8.out)
        clear hb8
        try go_wp2_with fail
        refine hK.out _ _ ?_ (fun hNew => ?_)
        · (try dsimp only); first | exact HSS.out _ (bel_drew _) | exact HSS.out _ HB8.out
        clear hHeld hK K
        have hHeld := hNew
        clear hNew
        try simp only [Act.put, List.setIfInBounds_toArray, List.set_cons_zero, List.set_cons_succ]
        refine wpAnyH_take (i := 11) (oi := ({ dst := some 82, op := Op.unOp UnOp.not 4 (Operand.tmp 81), type := 4, pos := "ref.go:151", after := #[{ on := 10, ground := Ground.data }], guard := none } : Oper)) (v := ?_) rfl (by kernel_rfl) (by kernel_rfl) (by kernel_rfl) (fun _ _ _ h => h) (Or.inl ⟨by rfl, ?_⟩) (by assumption) ?_
        rotate_left
        · intro w hSw; (try dsimp only at hSw); obtain ⟨hSc, hSd, hSr, hSs⟩ := hSw; clear hSr hSs; go_simp; try with_reducible rfl
        try simp only [Act.put, List.setIfInBounds_toArray, List.set_cons_zero, List.set_cons_succ]
        refine wpAnyH_done (by kernel_rfl) ?_ _
        refine NoPanic.normal ?_
        clear hHeld
        go_wp2_with fail
        go_ret
        exact ⟨ret_bool (by rw [HS.out, sameAL_false HX.out HY.out HQ.out]), HD2.out.below⟩
      · have HQ := Lib.hid hq
        clear hq
        go_upto_region 8 with fail
        refine wp_region_noPanic ?_
        refine wp_region_held_drew (S := fun W' => W'.cell? ⟨w.heap.size, 18, none⟩ = some (.slice (some ⟨g, o, none⟩) a.kn a.kc) ∧ W'.cell? ⟨w.heap.size + 1, 18, none⟩ = some (.slice (some ⟨g', o', none⟩) b.kn b.kc) ∧ W'.rangeAt g (o + k * 19) [.int .u8 x.head.kind, .int .u8 x.head.op, .int .i64 x.head.at_, .int .i64 x.head.n, .string x.head.name, .string x.head.arg, .string x.head.exn, .int .i64 x.head.rho, .slice x.head.rp x.head.rn x.head.rc, .slice x.head.ep x.head.en x.head.ec, .int .u8 x.head.ty.head.kind, .int .i64 x.head.ty.head.rho, .slice x.head.ty.head.ep x.head.ty.head.en x.head.ty.head.ec, .slice x.head.ty.head.kp x.head.ty.head.kn x.head.ty.head.kc, .int .u8 x.head.res.head.kind, .int .i64 x.head.res.head.rho, .slice x.head.res.head.ep x.head.res.head.en x.head.res.head.ec, .slice x.head.res.head.kp x.head.res.head.kn x.head.res.head.kc, .slice x.head.kp x.head.kn x.head.kc] ∧ W'.rangeAt g' (o' + k * 19) [.int .u8 y.head.kind, .int .u8 y.head.op, .int .i64 y.head.at_, .int .i64 y.head.n, .string y.head.name, .string y.head.arg, .string y.head.exn, .int .i64 y.head.rho, .slice y.head.rp y.head.rn y.head.rc, .slice y.head.ep y.head.en y.head.ec, .int .u8 y.head.ty.head.kind, .int .i64 y.head.ty.head.rho, .slice y.head.ty.head.ep y.head.ty.head.en y.head.ty.head.ec, .slice y.head.ty.head.kp y.head.ty.head.kn y.head.ty.head.kc, .int .u8 y.head.res.head.kind, .int .i64 y.head.res.head.rho, .slice y.head.res.head.ep y.head.res.head.en y.head.res.head.ec, .slice y.head.res.head.kp y.head.res.head.kn y.head.res.head.kc, .slice y.head.kp y.head.kn y.head.kc]) (by kernel_rfl) ?_ (fun hHeld => ?_)
        · (try dsimp only); first | exact HSS.out _ (bel_drew _) | exact HSS.out _ HB8.out
        refine wpAnyH_take (i := 0) (oi := ({ dst := some 71, op := Op.fieldAddr 31 (Operand.tmp 2) 6, type := 0, pos := "ref.go:151", after := #[], guard := none } : Oper)) (v := ?_) rfl (by kernel_rfl) (by kernel_rfl) (by kernel_rfl) (fun _ _ _ h => h) (Or.inl ⟨by rfl, ?_⟩) (by assumption) ?_
        rotate_left
        · intro w hSw; (try dsimp only at hSw); obtain ⟨hSc, hSd, hSr, hSs⟩ := hSw; clear hSr hSs; go_simp; try with_reducible rfl
        try simp only [Act.put, List.setIfInBounds_toArray, List.set_cons_zero, List.set_cons_succ]
        refine wpAnyH_take (i := 1) (oi := ({ dst := some 72, op := Op.load 29 (Operand.tmp 71), type := 29, pos := "ref.go:151", after := #[{ on := 0, ground := Ground.data }], guard := none } : Oper)) (v := ?_) rfl (by kernel_rfl) (by kernel_rfl) (by kernel_rfl) (fun _ _ _ h => h) (Or.inl ⟨by rfl, ?_⟩) (by assumption) ?_
        rotate_left
        · intro w hSw; (try dsimp only at hSw); obtain ⟨hSc, hSd, hSr, hSs⟩ := hSw; clear hSr hSs; go_simp; try with_reducible rfl
        try simp only [Act.put, List.setIfInBounds_toArray, List.set_cons_zero, List.set_cons_succ]
        refine wpAnyH_take (i := 2) (oi := ({ dst := some 73, op := Op.move (Operand.tmp 5), type := 3, pos := "ref.go:151", after := #[], guard := none } : Oper)) (v := ?_) rfl (by kernel_rfl) (by kernel_rfl) (by kernel_rfl) (fun _ _ _ h => h) (Or.inl ⟨by rfl, ?_⟩) (by assumption) ?_
        rotate_left
        · intro w hSw; (try dsimp only at hSw); obtain ⟨hSc, hSd, hSr, hSs⟩ := hSw; clear hSr hSs; go_simp; try with_reducible rfl
        try simp only [Act.put, List.setIfInBounds_toArray, List.set_cons_zero, List.set_cons_succ]
        refine wpAnyH_take (i := 3) (oi := ({ dst := some 74, op := Op.indexAddr 29 (Operand.tmp 72) (Operand.tmp 73), type := 0, pos := "ref.go:151", after := #[{ on := 1, ground := Ground.data }, { on := 2, ground := Ground.data }], guard := none } : Oper)) (v := ?_) rfl (by kernel_rfl) (by kernel_rfl) (by kernel_rfl) (fun _ _ _ h => h) (Or.inl ⟨by rfl, ?_⟩) (by assumption) ?_
        rotate_left
        · intro w hSw; (try dsimp only at hSw); obtain ⟨hSc, hSd, hSr, hSs⟩ := hSw; clear hSr hSs; go_simp; try with_reducible rfl
        try simp only [Act.put, List.setIfInBounds_toArray, List.set_cons_zero, List.set_cons_succ]
        refine wpAnyH_take (i := 4) (oi := ({ dst := some 75, op := Op.load 31 (Operand.tmp 74), type := 31, pos := "ref.go:151", after := #[{ on := 3, ground := Ground.data }], guard := none } : Oper)) (v := .agg ([.int .u8 x.head.kind, .int .u8 x.head.op, .int .i64 x.head.at_, .int .i64 x.head.n, .string x.head.name, .string x.head.arg, .string x.head.exn, .int .i64 x.head.rho, .slice x.head.rp x.head.rn x.head.rc, .slice x.head.ep x.head.en x.head.ec, .int .u8 x.head.ty.head.kind, .int .i64 x.head.ty.head.rho, .slice x.head.ty.head.ep x.head.ty.head.en x.head.ty.head.ec, .slice x.head.ty.head.kp x.head.ty.head.kn x.head.ty.head.kc, .int .u8 x.head.res.head.kind, .int .i64 x.head.res.head.rho, .slice x.head.res.head.ep x.head.res.head.en x.head.res.head.ec, .slice x.head.res.head.kp x.head.res.head.kn x.head.res.head.kc, .slice x.head.kp x.head.kn x.head.kc] : List Value).toArray) rfl (by kernel_rfl) (by kernel_rfl) (by kernel_rfl) (fun _ _ _ h => h) (yieldsIf_load_mid (by rfl) 31 _ rfl g (o + k * 19) rfl _ _ (fun W' h => h.2.2.1) Tryz.underlying31 rfl (by kernel_rfl)) (by assumption) ?_
        try simp only [Act.put, List.setIfInBounds_toArray, List.set_cons_zero, List.set_cons_succ]
        refine wpAnyH_take (i := 5) (oi := ({ dst := some 76, op := Op.fieldAddr 31 (Operand.tmp 3) 6, type := 0, pos := "ref.go:151", after := #[], guard := none } : Oper)) (v := ?_) rfl (by kernel_rfl) (by kernel_rfl) (by kernel_rfl) (fun _ _ _ h => h) (Or.inl ⟨by rfl, ?_⟩) (by assumption) ?_
        rotate_left
        · intro w hSw; (try dsimp only at hSw); obtain ⟨hSc, hSd, hSr, hSs⟩ := hSw; clear hSr hSs; go_simp; try with_reducible rfl
        try simp only [Act.put, List.setIfInBounds_toArray, List.set_cons_zero, List.set_cons_succ]
        refine wpAnyH_take (i := 6) (oi := ({ dst := some 77, op := Op.load 29 (Operand.tmp 76), type := 29, pos := "ref.go:151", after := #[{ on := 5, ground := Ground.data }], guard := none } : Oper)) (v := ?_) rfl (by kernel_rfl) (by kernel_rfl) (by kernel_rfl) (fun _ _ _ h => h) (Or.inl ⟨by rfl, ?_⟩) (by assumption) ?_
        rotate_left
        · intro w hSw; (try dsimp only at hSw); obtain ⟨hSc, hSd, hSr, hSs⟩ := hSw; clear hSr hSs; go_simp; try with_reducible rfl
        try simp only [Act.put, List.setIfInBounds_toArray, List.set_cons_zero, List.set_cons_succ]
        refine wpAnyH_take (i := 7) (oi := ({ dst := some 78, op := Op.move (Operand.tmp 5), type := 3, pos := "ref.go:151", after := #[], guard := none } : Oper)) (v := ?_) rfl (by kernel_rfl) (by kernel_rfl) (by kernel_rfl) (fun _ _ _ h => h) (Or.inl ⟨by rfl, ?_⟩) (by assumption) ?_
        rotate_left
        · intro w hSw; (try dsimp only at hSw); obtain ⟨hSc, hSd, hSr, hSs⟩ := hSw; clear hSr hSs; go_simp; try with_reducible rfl
        try simp only [Act.put, List.setIfInBounds_toArray, List.set_cons_zero, List.set_cons_succ]
        refine wpAnyH_take (i := 8) (oi := ({ dst := some 79, op := Op.indexAddr 29 (Operand.tmp 77) (Operand.tmp 78), type := 0, pos := "ref.go:151", after := #[{ on := 6, ground := Ground.data }, { on := 7, ground := Ground.data }], guard := none } : Oper)) (v := ?_) rfl (by kernel_rfl) (by kernel_rfl) (by kernel_rfl) (fun _ _ _ h => h) (Or.inl ⟨by rfl, ?_⟩) (by assumption) ?_
        rotate_left
        · intro w hSw; (try dsimp only at hSw); obtain ⟨hSc, hSd, hSr, hSs⟩ := hSw; clear hSr hSs; go_simp; try with_reducible rfl
        try simp only [Act.put, List.setIfInBounds_toArray, List.set_cons_zero, List.set_cons_succ]
        refine wpAnyH_take (i := 9) (oi := ({ dst := some 80, op := Op.load 31 (Operand.tmp 79), type := 31, pos := "ref.go:151", after := #[{ on := 8, ground := Ground.data }], guard := none } : Oper)) (v := .agg ([.int .u8 y.head.kind, .int .u8 y.head.op, .int .i64 y.head.at_, .int .i64 y.head.n, .string y.head.name, .string y.head.arg, .string y.head.exn, .int .i64 y.head.rho, .slice y.head.rp y.head.rn y.head.rc, .slice y.head.ep y.head.en y.head.ec, .int .u8 y.head.ty.head.kind, .int .i64 y.head.ty.head.rho, .slice y.head.ty.head.ep y.head.ty.head.en y.head.ty.head.ec, .slice y.head.ty.head.kp y.head.ty.head.kn y.head.ty.head.kc, .int .u8 y.head.res.head.kind, .int .i64 y.head.res.head.rho, .slice y.head.res.head.ep y.head.res.head.en y.head.res.head.ec, .slice y.head.res.head.kp y.head.res.head.kn y.head.res.head.kc, .slice y.head.kp y.head.kn y.head.kc] : List Value).toArray) rfl (by kernel_rfl) (by kernel_rfl) (by kernel_rfl) (fun _ _ _ h => h) (yieldsIf_load_mid (by rfl) 31 _ rfl g' (o' + k * 19) rfl _ _ (fun W' h => h.2.2.2) Tryz.underlying31 rfl (by kernel_rfl)) (by assumption) ?_
        try simp only [Act.put, List.setIfInBounds_toArray, List.set_cons_zero, List.set_cons_succ]
        refine wpAnyH_ready (rs := [10]) (by kernel_rfl) (by simp) ?_
        refine AllReadyH.cons (o := ({ dst := some 81, op := Op.call { callee := Callee.value (Operand.func 12), args := #[Operand.tmp 75, Operand.tmp 80], argTypes := #[31, 31] }, type := 4, pos := "ref.go:151", after := #[{ on := 4, ground := Ground.data }, { on := 9, ground := Ground.data }], guard := none } : Oper)) rfl (fun K hK => ?_) AllReadyH.nil
        go_simp
        go_at_call 12
        refine (HFX.out _ (bel_drew _) _ HQ.out).mono ?_
        rintro e w8 ⟨rfl, hb8⟩
        have HB8 : Hid (Below wr.heap.size wr w8) := bel_step (bel_drew wr) hb8
        have HD2 := Lib.hid (HD.out.step HB8.out)
        clear hb8
        try go_wp2_with fail
        refine hK.out _ _ ?_ (fun hNew => ?_)
        · (try dsimp only); first | exact HSS.out _ (bel_drew _) | exact HSS.out _ HB8.out
        clear hHeld hK K
        have hHeld := hNew
        clear hNew
        try simp only [Act.put, List.setIfInBounds_toArray, List.set_cons_zero, List.set_cons_succ]
        refine wpAnyH_take (i := 11) (oi := ({ dst := some 82, op := Op.unOp UnOp.not 4 (Operand.tmp 81), type := 4, pos := "ref.go:151", after := #[{ on := 10, ground := Ground.data }], guard := none } : Oper)) (v := ?_) rfl (by kernel_rfl) (by kernel_rfl) (by kernel_rfl) (fun _ _ _ h => h) (Or.inl ⟨by rfl, ?_⟩) (by assumption) ?_
        rotate_left
        · intro w hSw; (try dsimp only at hSw); obtain ⟨hSc, hSd, hSr, hSs⟩ := hSw; clear hSr hSs; go_simp; try with_reducible rfl
        try simp only [Act.put, List.setIfInBounds_toArray, List.set_cons_zero, List.set_cons_succ]
        refine wpAnyH_done (by kernel_rfl) ?_ _
        refine NoPanic.normal ?_
        clear hHeld
        go_wp2_with fail
        go_roundw
        case rel =>
          refine ⟨k + 1, by omega, by go_num, fun j x' y' hj hx' hy' => ?_, HD2.out⟩
          by_cases hjk : j = k
          · subst hjk
            have h1 := HX.out; have h2 := HY.out
            rw [hx'] at h1; rw [hy'] at h2
            cases h1; cases h2
            exact HQ.out
          · exact HNO.out j x' y' (by omega) hx' hy'
        case measure => simp [intOf]; omega
    · have hkn : k = a.kn := by omega
      have hs : r = true := by rw [HS.out]; exact sameAL_true (by have := HNK.out; omega) (fun j x y hx hy => HNO.out j x y (by have h1 := (List.getElem?_eq_some_iff.1 hx).1; omega) hx hy)
      have HS1 := Lib.hid hs
      clear hs hkn
      go_wp2_with fail
      go_ret
      exact ⟨ret_bool HS1.out.symm, HD.out.below⟩
end Go.Proofs.YtdlbjngpohkglaaGreatDoor
end
