/- Part 42 of the texts: Da, Laid. -/
import Derived.Test.YtdlbjngpohkglaaGreatDoorG38
import Derived.Test.YtdlbjngpohkglaaGreatDoorG40
import Derived.Test.YtdlbjngpohkglaaGreatDoorG41
import Derived.Deep.RegionHeld3
import Derived.Test.YtdlbjngpohkglaaGreatDoorCards
import Derived.Test.YtdlbjngpohkglaaGreatDoorTie
import Derived.LaidMore
import Derived.ProofKit
import Derived.Deep.DeepHandedRow
section
set_option linter.unusedVariables false
set_option maxRecDepth 100000
set_option linter.unusedSimpArgs false
namespace Go.Proofs.YtdlbjngpohkglaaGreatDoor
open Go.RowKit Go.Sort Go.Lib

set_option maxHeartbeats 20000000 in
theorem displayApart_walk {w : World} (hv : Vr w) (ht : Tab w) (x : PA) (hl : LA.lies w x) (y : PA) (hl2 : LA.lies w y) :
    Calls Tryz.prog 3 #[aggT x.head, aggT y.head] w fun e w' => e = .returned (.bool true) ∧ Below w.heap.size w w' := by
  have HV := Lib.hid hv
  have HT := Lib.hid ht
  have HD : Hid (Two2 w ((w.alloc (boxA x.head)).alloc (boxA y.head)) x.head y.head) := by
    have h1 := boxA_new w x.head
    have h2 := boxA_new (w.alloc (boxA x.head)) y.head
    rw [show (w.alloc (boxA x.head)).heap.size = w.heap.size + 1 by simp] at h2
    exact ⟨h1.below ((Below.refl _ _).alloc (Nat.le_refl _) _), h2, ((Below.refl w.heap.size w).alloc (Nat.le_refl _) _).alloc (by simp) _⟩
  have HLX := Lib.hid (fun (W : World) (h : Two2 w W x.head y.head) => LA.lies_below h.below x hl)
  have HLY := Lib.hid (fun (W : World) (h : Two2 w W x.head y.head) => LA.lies_below h.below y hl2)
  have HG := Lib.hid (fun (W : World) (h : Two2 w W x.head y.head) => ref13_Great_any (HLX.out W h))
  have HG2 := Lib.hid (fun (W : World) (h : Two2 w W x.head y.head) => ref13_Great_any (HLY.out W h))
  have HM := Lib.hid (fun (W : World) (h : Two2 w W x.head y.head) (hz : x.size ≤ 1000) => ref13_May_any x (HLX.out W h) hz)
  have HM2 := Lib.hid (fun (W : World) (h : Two2 w W x.head y.head) (hz : y.size ≤ 1000) => ref13_May_any y (HLY.out W h) hz)
  have HPX := Lib.hid (fun (hz : x.size ≤ 1000) => placed_any x hl hz)
  have HPY := Lib.hid (fun (hz : y.size ≤ 1000) => placed_any y hl2 hz)
  have HRA := Lib.hid (fun (W : World) (h : Two2 w W x.head y.head) => (h.r0 0 19 rfl : W.rangeAt w.heap.size 0 [.int .u8 x.head.kind, .int .u8 x.head.op, .int .i64 x.head.at_, .int .i64 x.head.n, .string x.head.name, .string x.head.arg, .string x.head.exn, .int .i64 x.head.rho, .slice x.head.rp x.head.rn x.head.rc, .slice x.head.ep x.head.en x.head.ec, .int .u8 x.head.ty.head.kind, .int .i64 x.head.ty.head.rho, .slice x.head.ty.head.ep x.head.ty.head.en x.head.ty.head.ec, .slice x.head.ty.head.kp x.head.ty.head.kn x.head.ty.head.kc, .int .u8 x.head.res.head.kind, .int .i64 x.head.res.head.rho, .slice x.head.res.head.ep x.head.res.head.en x.head.res.head.ec, .slice x.head.res.head.kp x.head.res.head.kn x.head.res.head.kc, .slice x.head.kp x.head.kn x.head.kc]))
  have HRB := Lib.hid (fun (W : World) (h : Two2 w W x.head y.head) => (h.r1 0 19 rfl : W.rangeAt (w.heap.size + 1) 0 [.int .u8 y.head.kind, .int .u8 y.head.op, .int .i64 y.head.at_, .int .i64 y.head.n, .string y.head.name, .string y.head.arg, .string y.head.exn, .int .i64 y.head.rho, .slice y.head.rp y.head.rn y.head.rc, .slice y.head.ep y.head.en y.head.ec, .int .u8 y.head.ty.head.kind, .int .i64 y.head.ty.head.rho, .slice y.head.ty.head.ep y.head.ty.head.en y.head.ty.head.ec, .slice y.head.ty.head.kp y.head.ty.head.kn y.head.ty.head.kc, .int .u8 y.head.res.head.kind, .int .i64 y.head.res.head.rho, .slice y.head.res.head.ep y.head.res.head.en y.head.res.head.ec, .slice y.head.res.head.kp y.head.res.head.kn y.head.res.head.kc, .slice y.head.kp y.head.kn y.head.kc]))
  have HGX : Hid (mayA x = true → Good x) := good_of x hl
  have HGY : Hid (mayA y = true → Good y) := good_of y hl2
  generalize hux : mayA x = ux at HM
  generalize huy : mayA y = uy at HM2
  have HUX := Lib.hid hux
  have HUY := Lib.hid huy
  clear hl hl2 hv ht hux huy
  go_enter Tryz.func3, Tryz.ntmps3
  go_upto_region 1 with fail
  generalize (w.alloc (boxA x.head)).alloc (boxA y.head) = W0 at *
  go_upto_region 3 with (first | (refine wpList_load_midG (by rfl) 31 _ rfl w.heap.size 0 rfl [.int .u8 x.head.kind, .int .u8 x.head.op, .int .i64 x.head.at_, .int .i64 x.head.n, .string x.head.name, .string x.head.arg, .string x.head.exn, .int .i64 x.head.rho, .slice x.head.rp x.head.rn x.head.rc, .slice x.head.ep x.head.en x.head.ec, .int .u8 x.head.ty.head.kind, .int .i64 x.head.ty.head.rho, .slice x.head.ty.head.ep x.head.ty.head.en x.head.ty.head.ec, .slice x.head.ty.head.kp x.head.ty.head.kn x.head.ty.head.kc, .int .u8 x.head.res.head.kind, .int .i64 x.head.res.head.rho, .slice x.head.res.head.ep x.head.res.head.en x.head.res.head.ec, .slice x.head.res.head.kp x.head.res.head.kn x.head.res.head.kc, .slice x.head.kp x.head.kn x.head.kc] _ (HRA.out _ HD.out) Tryz.underlying31 rfl (by kernel_rfl) ?_) | (refine wpList_load_midG (by rfl) 31 _ rfl (w.heap.size + 1) 0 rfl [.int .u8 y.head.kind, .int .u8 y.head.op, .int .i64 y.head.at_, .int .i64 y.head.n, .string y.head.name, .string y.head.arg, .string y.head.exn, .int .i64 y.head.rho, .slice y.head.rp y.head.rn y.head.rc, .slice y.head.ep y.head.en y.head.ec, .int .u8 y.head.ty.head.kind, .int .i64 y.head.ty.head.rho, .slice y.head.ty.head.ep y.head.ty.head.en y.head.ty.head.ec, .slice y.head.ty.head.kp y.head.ty.head.kn y.head.ty.head.kc, .int .u8 y.head.res.head.kind, .int .i64 y.head.res.head.rho, .slice y.head.res.head.ep y.head.res.head.en y.head.res.head.ec, .slice y.head.res.head.kp y.head.res.head.kn y.head.res.head.kc, .slice y.head.kp y.head.kn y.head.kc] _ (HRB.out _ HD.out) Tryz.underlying31 rfl (by kernel_rfl) ?_) | (go_at_call 10; refine (awake_any (HV.out.below HD.out.below) (HT.out.below HD.out.below)).mono ?_; rintro e w9 ⟨rfl, hb⟩; have HD := Lib.hid (HD.out.step hb); clear hb) | (go_at_call 8; refine (HG.out _ HD.out).mono ?_; rintro e w8 ⟨⟨r, rfl, hgr⟩, hb⟩; have HD := Lib.hid (HD.out.step hb); clear hb; clear HG; have HG := HG2; (first | (have := HX1; have HY1 := Lib.hid hgr) | (have HX1 := Lib.hid hgr)); clear hgr; cases r) | (go_at_call 9; refine (HM.out _ HD.out (by first | exact Nat.le_trans (HX1.out (by first | trivial | rfl)).1 (by omega) | exact Nat.le_trans (HY1.out (by first | trivial | rfl)).1 (by omega))).mono ?_; rintro e w8 ⟨rfl, hb⟩; have HD := Lib.hid (HD.out.step hb); clear hb; clear HM; have HM := HM2; (first | (have := HQ1; cases uy) | (have HQ1 := Lib.hid True.intro; cases ux))))
  all_goals (try (go_ret; exact ⟨rfl, HD.out.below⟩))
  have HTX := Lib.hid (fun (W : World) (h : Two2 w W x.head y.head) => (⟨HLX.out W h, (HX1.out (by first | trivial | rfl)).2, Nat.le_trans (HX1.out (by first | trivial | rfl)).1 (by omega), HV.out.below h.below, HT.out.below h.below⟩ : TEnv W x))
  have HTY := Lib.hid (fun (W : World) (h : Two2 w W x.head y.head) => (⟨HLY.out W h, (HY1.out (by first | trivial | rfl)).2, Nat.le_trans (HY1.out (by first | trivial | rfl)).1 (by omega), HV.out.below h.below, HT.out.below h.below⟩ : TEnv W y))
  have htx : termR x = .tuple #[.string (textOf x), .int .i64 0] := by unfold termR; rw [HUX.out]; rfl
  have hty : termR y = .tuple #[.string (textOf y), .int .i64 0] := by unfold termR; rw [HUY.out]; rfl
  have HTM := Lib.hid (fun (W : World) (h : Two2 w W x.head y.head) => Term_any (HTX.out W h))
  have HTM2 := Lib.hid (fun (W : World) (h : Two2 w W x.head y.head) => Term_any (HTY.out W h))
  rw [htx] at HTM
  rw [hty] at HTM2
  clear htx hty
  have HGX := Lib.hid (HGX.out HUX.out)
  have HGY := Lib.hid (HGY.out HUY.out)
  have HPX := Lib.hid (HPX.out (Nat.le_trans (HX1.out (by first | trivial | rfl)).1 (by omega)))
  have HPY := Lib.hid (HPY.out (Nat.le_trans (HY1.out (by first | trivial | rfl)).1 (by omega)))
  go_upto_region 5 with (first | (refine wpList_load_midG (by rfl) 31 _ rfl w.heap.size 0 rfl [.int .u8 x.head.kind, .int .u8 x.head.op, .int .i64 x.head.at_, .int .i64 x.head.n, .string x.head.name, .string x.head.arg, .string x.head.exn, .int .i64 x.head.rho, .slice x.head.rp x.head.rn x.head.rc, .slice x.head.ep x.head.en x.head.ec, .int .u8 x.head.ty.head.kind, .int .i64 x.head.ty.head.rho, .slice x.head.ty.head.ep x.head.ty.head.en x.head.ty.head.ec, .slice x.head.ty.head.kp x.head.ty.head.kn x.head.ty.head.kc, .int .u8 x.head.res.head.kind, .int .i64 x.head.res.head.rho, .slice x.head.res.head.ep x.head.res.head.en x.head.res.head.ec, .slice x.head.res.head.kp x.head.res.head.kn x.head.res.head.kc, .slice x.head.kp x.head.kn x.head.kc] _ (HRA.out _ HD.out) Tryz.underlying31 rfl (by kernel_rfl) ?_) | (refine wpList_load_midG (by rfl) 31 _ rfl (w.heap.size + 1) 0 rfl [.int .u8 y.head.kind, .int .u8 y.head.op, .int .i64 y.head.at_, .int .i64 y.head.n, .string y.head.name, .string y.head.arg, .string y.head.exn, .int .i64 y.head.rho, .slice y.head.rp y.head.rn y.head.rc, .slice y.head.ep y.head.en y.head.ec, .int .u8 y.head.ty.head.kind, .int .i64 y.head.ty.head.rho, .slice y.head.ty.head.ep y.head.ty.head.en y.head.ty.head.ec, .slice y.head.ty.head.kp y.head.ty.head.kn y.head.ty.head.kc, .int .u8 y.head.res.head.kind, .int .i64 y.head.res.head.rho, .slice y.head.res.head.ep y.head.res.head.en y.head.res.head.ec, .slice y.head.res.head.kp y.head.res.head.kn y.head.res.head.kc, .slice y.head.kp y.head.kn y.head.kc] _ (HRB.out _ HD.out) Tryz.underlying31 rfl (by kernel_rfl) ?_) | (go_at_call 11; refine (HTM.out _ HD.out).mono ?_; rintro e w8 ⟨rfl, hb⟩; have HD := Lib.hid (HD.out.step hb); clear hb; clear HTM; have HTM := HTM2))
  generalize w8 = W5 at *
  have HSS : Hid (∀ W', Below W5.heap.size W5 W' → W'.rangeAt w.heap.size 0 [.int .u8 x.head.kind, .int .u8 x.head.op, .int .i64 x.head.at_, .int .i64 x.head.n, .string x.head.name, .string x.head.arg, .string x.head.exn, .int .i64 x.head.rho, .slice x.head.rp x.head.rn x.head.rc, .slice x.head.ep x.head.en x.head.ec, .int .u8 x.head.ty.head.kind, .int .i64 x.head.ty.head.rho, .slice x.head.ty.head.ep x.head.ty.head.en x.head.ty.head.ec, .slice x.head.ty.head.kp x.head.ty.head.kn x.head.ty.head.kc, .int .u8 x.head.res.head.kind, .int .i64 x.head.res.head.rho, .slice x.head.res.head.ep x.head.res.head.en x.head.res.head.ec, .slice x.head.res.head.kp x.head.res.head.kn x.head.res.head.kc, .slice x.head.kp x.head.kn x.head.kc] ∧ W'.rangeAt (w.heap.size + 1) 0 [.int .u8 y.head.kind, .int .u8 y.head.op, .int .i64 y.head.at_, .int .i64 y.head.n, .string y.head.name, .string y.head.arg, .string y.head.exn, .int .i64 y.head.rho, .slice y.head.rp y.head.rn y.head.rc, .slice y.head.ep y.head.en y.head.ec, .int .u8 y.head.ty.head.kind, .int .i64 y.head.ty.head.rho, .slice y.head.ty.head.ep y.head.ty.head.en y.head.ty.head.ec, .slice y.head.ty.head.kp y.head.ty.head.kn y.head.ty.head.kc, .int .u8 y.head.res.head.kind, .int .i64 y.head.res.head.rho, .slice y.head.res.head.ep y.head.res.head.en y.head.res.head.ec, .slice y.head.res.head.kp y.head.res.head.kn y.head.res.head.kc, .slice y.head.kp y.head.kn y.head.kc]) := fun W' h => ⟨HRA.out _ (HD.out.step h), HRB.out _ (HD.out.step h)⟩
  refine wp_region_noPanic ?_
  refine wp_region_held_drew (S := fun W' => W'.rangeAt w.heap.size 0 [.int .u8 x.head.kind, .int .u8 x.head.op, .int .i64 x.head.at_, .int .i64 x.head.n, .string x.head.name, .string x.head.arg, .string x.head.exn, .int .i64 x.head.rho, .slice x.head.rp x.head.rn x.head.rc, .slice x.head.ep x.head.en x.head.ec, .int .u8 x.head.ty.head.kind, .int .i64 x.head.ty.head.rho, .slice x.head.ty.head.ep x.head.ty.head.en x.head.ty.head.ec, .slice x.head.ty.head.kp x.head.ty.head.kn x.head.ty.head.kc, .int .u8 x.head.res.head.kind, .int .i64 x.head.res.head.rho, .slice x.head.res.head.ep x.head.res.head.en x.head.res.head.ec, .slice x.head.res.head.kp x.head.res.head.kn x.head.res.head.kc, .slice x.head.kp x.head.kn x.head.kc] ∧ W'.rangeAt (w.heap.size + 1) 0 [.int .u8 y.head.kind, .int .u8 y.head.op, .int .i64 y.head.at_, .int .i64 y.head.n, .string y.head.name, .string y.head.arg, .string y.head.exn, .int .i64 y.head.rho, .slice y.head.rp y.head.rn y.head.rc, .slice y.head.ep y.head.en y.head.ec, .int .u8 y.head.ty.head.kind, .int .i64 y.head.ty.head.rho, .slice y.head.ty.head.ep y.head.ty.head.en y.head.ty.head.ec, .slice y.head.ty.head.kp y.head.ty.head.kn y.head.ty.head.kc, .int .u8 y.head.res.head.kind, .int .i64 y.head.res.head.rho, .slice y.head.res.head.ep y.head.res.head.en y.head.res.head.ec, .slice y.head.res.head.kp y.head.res.head.kn y.head.res.head.kc, .slice y.head.kp y.head.kn y.head.kc]) (by kernel_rfl) ?_ (fun hHeld => ?_)
  · (try dsimp only); first | exact HSS.out _ (bel_drew _) | exact HSS.out _ HB1.out | exact HSS.out _ HB2.out | exact HSS.out _ HB3.out | exact HSS.out _ HB4.out
  refine wpAnyH_take (i := 0) (oi := ({ dst := some 36, op := Op.move (Operand.tmp 6), type := 34, pos := "law.go:72", after := #[], guard := none } : Oper)) (v := ?_) rfl (by kernel_rfl) (by kernel_rfl) (by kernel_rfl) (fun _ _ _ h => h) (Or.inl ⟨by rfl, ?_⟩) (by assumption) ?_
  rotate_left
  · intro w hSw; (try dsimp only at hSw); clear hSw; go_simp; try with_reducible rfl
  try simp only [Act.put, List.setIfInBounds_toArray, List.set_cons_zero, List.set_cons_succ]
  refine wpAnyH_take (i := 1) (oi := ({ dst := some 37, op := Op.binOp BinOp.eql 34 (Operand.tmp 36) (Operand.const (Value.int IntKind.i64 0)) 34, type := 4, pos := "law.go:72", after := #[{ on := 0, ground := Ground.data }], guard := none } : Oper)) (v := ?_) rfl (by kernel_rfl) (by kernel_rfl) (by kernel_rfl) (fun _ _ _ h => h) (Or.inl ⟨by rfl, ?_⟩) (by assumption) ?_
  rotate_left
  · intro w hSw; (try dsimp only at hSw); clear hSw; go_simp; try with_reducible rfl
  try simp only [Act.put, List.setIfInBounds_toArray, List.set_cons_zero, List.set_cons_succ]
  refine wpAnyH_take (i := 2) (oi := ({ dst := some 38, op := Op.move (Operand.tmp 37), type := 4, pos := "law.go:72", after := #[{ on := 1, ground := Ground.data }], guard := none } : Oper)) (v := ?_) rfl (by kernel_rfl) (by kernel_rfl) (by kernel_rfl) (fun _ _ _ h => h) (Or.inl ⟨by rfl, ?_⟩) (by assumption) ?_
  rotate_left
  · intro w hSw; (try dsimp only at hSw); clear hSw; go_simp; try with_reducible rfl
  try simp only [Act.put, List.setIfInBounds_toArray, List.set_cons_zero, List.set_cons_succ]
  refine wpAnyH_take (i := 3) (oi := ({ dst := some 39, op := Op.move (Operand.tmp 8), type := 34, pos := "law.go:72", after := #[{ on := 2, ground := Ground.guard }], guard := some (2, true) } : Oper)) (v := ?_) rfl (by kernel_rfl) (by kernel_rfl) (by kernel_rfl) (fun _ _ _ h => h) (Or.inl ⟨by rfl, ?_⟩) (by assumption) ?_
  rotate_left
  · intro w hSw; (try dsimp only at hSw); clear hSw; go_simp; try with_reducible rfl
  try simp only [Act.put, List.setIfInBounds_toArray, List.set_cons_zero, List.set_cons_succ]
  refine wpAnyH_take (i := 4) (oi := ({ dst := some 40, op := Op.binOp BinOp.eql 34 (Operand.tmp 39) (Operand.const (Value.int IntKind.i64 0)) 34, type := 4, pos := "law.go:72", after := #[{ on := 3, ground := Ground.data }, { on := 2, ground := Ground.guard }], guard := some (2, true) } : Oper)) (v := ?_) rfl (by kernel_rfl) (by kernel_rfl) (by kernel_rfl) (fun _ _ _ h => h) (Or.inl ⟨by rfl, ?_⟩) (by assumption) ?_
  rotate_left
  · intro w hSw; (try dsimp only at hSw); clear hSw; go_simp; try with_reducible rfl
  try simp only [Act.put, List.setIfInBounds_toArray, List.set_cons_zero, List.set_cons_succ]
  refine wpAnyH_take (i := 5) (oi := ({ dst := some 41, op := Op.pick (Operand.tmp 38) (Operand.tmp 40) (Operand.const (Value.bool false)), type := 4, pos := "law.go:72", after := #[{ on := 2, ground := Ground.data }, { on := 4, ground := Ground.data }], guard := none } : Oper)) (v := ?_) rfl (by kernel_rfl) (by kernel_rfl) (by kernel_rfl) (fun _ _ _ h => h) (Or.inl ⟨by rfl, ?_⟩) (by assumption) ?_
  rotate_left
  · intro w hSw; (try dsimp only at hSw); clear hSw; go_simp; try with_reducible rfl
  try simp only [Act.put, List.setIfInBounds_toArray, List.set_cons_zero, List.set_cons_succ]
  refine wpAnyH_take (i := 6) (oi := ({ dst := some 42, op := Op.move (Operand.tmp 41), type := 4, pos := "law.go:72", after := #[{ on := 5, ground := Ground.data }, { on := 2, ground := Ground.chain }], guard := none } : Oper)) (v := ?_) rfl (by kernel_rfl) (by kernel_rfl) (by kernel_rfl) (fun _ _ _ h => h) (Or.inl ⟨by rfl, ?_⟩) (by assumption) ?_
  rotate_left
  · intro w hSw; (try dsimp only at hSw); clear hSw; go_simp; try with_reducible rfl
  try simp only [Act.put, List.setIfInBounds_toArray, List.set_cons_zero, List.set_cons_succ]
  refine wpAnyH_take (i := 7) (oi := ({ dst := some 43, op := Op.move (Operand.tmp 5), type := 9, pos := "law.go:72", after := #[{ on := 6, ground := Ground.guard }], guard := some (6, true) } : Oper)) (v := ?_) rfl (by kernel_rfl) (by kernel_rfl) (by kernel_rfl) (fun _ _ _ h => h) (Or.inl ⟨by rfl, ?_⟩) (by assumption) ?_
  rotate_left
  · intro w hSw; (try dsimp only at hSw); clear hSw; go_simp; try with_reducible rfl
  try simp only [Act.put, List.setIfInBounds_toArray, List.set_cons_zero, List.set_cons_succ]
  refine wpAnyH_take (i := 8) (oi := ({ dst := some 44, op := Op.move (Operand.tmp 7), type := 9, pos := "law.go:72", after := #[{ on := 6, ground := Ground.guard }], guard := some (6, true) } : Oper)) (v := ?_) rfl (by kernel_rfl) (by kernel_rfl) (by kernel_rfl) (fun _ _ _ h => h) (Or.inl ⟨by rfl, ?_⟩) (by assumption) ?_
  rotate_left
  · intro w hSw; (try dsimp only at hSw); clear hSw; go_simp; try with_reducible rfl
  try simp only [Act.put, List.setIfInBounds_toArray, List.set_cons_zero, List.set_cons_succ]
  refine wpAnyH_take (i := 9) (oi := ({ dst := some 45, op := Op.binOp BinOp.eql 9 (Operand.tmp 43) (Operand.tmp 44) 9, type := 4, pos := "law.go:72", after := #[{ on := 7, ground := Ground.data }, { on := 8, ground := Ground.data }, { on := 6, ground := Ground.guard }], guard := some (6, true) } : Oper)) (v := ?_) rfl (by kernel_rfl) (by kernel_rfl) (by kernel_rfl) (fun _ _ _ h => h) (Or.inl ⟨by rfl, ?_⟩) (by assumption) ?_
  rotate_left
  · intro w hSw; (try dsimp only at hSw); clear hSw; go_simp; try with_reducible rfl
  try simp only [Act.put, List.setIfInBounds_toArray, List.set_cons_zero, List.set_cons_succ]
  refine wpAnyH_take (i := 10) (oi := ({ dst := some 46, op := Op.load 31 (Operand.tmp 2), type := 31, pos := "law.go:72", after := #[{ on := 6, ground := Ground.guard }], guard := some (6, true) } : Oper)) (v := .agg ([.int .u8 x.head.kind, .int .u8 x.head.op, .int .i64 x.head.at_, .int .i64 x.head.n, .string x.head.name, .string x.head.arg, .string x.head.exn, .int .i64 x.head.rho, .slice x.head.rp x.head.rn x.head.rc, .slice x.head.ep x.head.en x.head.ec, .int .u8 x.head.ty.head.kind, .int .i64 x.head.ty.head.rho, .slice x.head.ty.head.ep x.head.ty.head.en x.head.ty.head.ec, .slice x.head.ty.head.kp x.head.ty.head.kn x.head.ty.head.kc, .int .u8 x.head.res.head.kind, .int .i64 x.head.res.head.rho, .slice x.head.res.head.ep x.head.res.head.en x.head.res.head.ec, .slice x.head.res.head.kp x.head.res.head.kn x.head.res.head.kc, .slice x.head.kp x.head.kn x.head.kc] : List Value).toArray) rfl (by kernel_rfl) (by kernel_rfl) (by kernel_rfl) (fun _ _ _ h => h) (yieldsIf_load_mid (by rfl) 31 _ rfl w.heap.size 0 rfl _ _ (fun W' h => h.1) Tryz.underlying31 rfl (by kernel_rfl)) (by assumption) ?_
  try simp only [Act.put, List.setIfInBounds_toArray, List.set_cons_zero, List.set_cons_succ]
  refine wpAnyH_take (i := 12) (oi := ({ dst := some 48, op := Op.load 31 (Operand.tmp 3), type := 31, pos := "law.go:72", after := #[{ on := 6, ground := Ground.guard }], guard := some (6, true) } : Oper)) (v := .agg ([.int .u8 y.head.kind, .int .u8 y.head.op, .int .i64 y.head.at_, .int .i64 y.head.n, .string y.head.name, .string y.head.arg, .string y.head.exn, .int .i64 y.head.rho, .slice y.head.rp y.head.rn y.head.rc, .slice y.head.ep y.head.en y.head.ec, .int .u8 y.head.ty.head.kind, .int .i64 y.head.ty.head.rho, .slice y.head.ty.head.ep y.head.ty.head.en y.head.ty.head.ec, .slice y.head.ty.head.kp y.head.ty.head.kn y.head.ty.head.kc, .int .u8 y.head.res.head.kind, .int .i64 y.head.res.head.rho, .slice y.head.res.head.ep y.head.res.head.en y.head.res.head.ec, .slice y.head.res.head.kp y.head.res.head.kn y.head.res.head.kc, .slice y.head.kp y.head.kn y.head.kc] : List Value).toArray) rfl (by kernel_rfl) (by kernel_rfl) (by kernel_rfl) (fun _ _ _ h => h) (yieldsIf_load_mid (by rfl) 31 _ rfl (w.heap.size + 1) 0 rfl _ _ (fun W' h => h.2) Tryz.underlying31 rfl (by kernel_rfl)) (by assumption) ?_
  try simp only [Act.put, List.setIfInBounds_toArray, List.set_cons_zero, List.set_cons_succ]
  refine wpAnyH_ready (rs := [11]) (by kernel_rfl) (by simp) ?_
  refine AllReadyH.cons (o := ({ dst := some 47, op := Op.call { callee := Callee.value (Operand.func 13), args := #[Operand.tmp 46], argTypes := #[31] }, type := 31, pos := "law.go:72", after := #[{ on := 10, ground := Ground.data }, { on := 6, ground := Ground.chain }, { on := 6, ground := Ground.guard }], guard := some (6, true) } : Oper)) rfl (fun K hK => ?_) AllReadyH.nil
  go_simp
  go_at_call 13
  refine Calls.mono (HPX.out _ (HD.out.below.trans ((bel_drew W5).mono HD.out.below.size))) ?_
  rintro e w2 ⟨⟨y1, rfl, hly, hsy, hpy, hey⟩, hb⟩
  have HB1 : Hid (Below W5.heap.size W5 w2) := bel_step (bel_drew W5) hb
  have HLYX := Lib.hid hly
  have HPYX := Lib.hid hpy
  have HEYX := Lib.hid hey
  clear hly hsy hpy hey hb
  refine hK.out _ _ ?_ (fun hNew => ?_)
  · (try dsimp only); first | exact HSS.out _ (bel_drew _) | exact HSS.out _ HB1.out | exact HSS.out _ HB2.out | exact HSS.out _ HB3.out | exact HSS.out _ HB4.out
  clear hHeld hK K
  have hHeld := hNew
  clear hNew
  try simp only [Act.put, List.setIfInBounds_toArray, List.set_cons_zero, List.set_cons_succ]
  refine wpAnyH_ready (rs := [13]) (by kernel_rfl) (by simp) ?_
  refine AllReadyH.cons (o := ({ dst := some 49, op := Op.call { callee := Callee.value (Operand.func 13), args := #[Operand.tmp 48], argTypes := #[31] }, type := 31, pos := "law.go:72", after := #[{ on := 12, ground := Ground.data }, { on := 11, ground := Ground.chain }, { on := 6, ground := Ground.guard }], guard := some (6, true) } : Oper)) rfl (fun K hK => ?_) AllReadyH.nil
  go_simp
  go_at_call 13
  refine Calls.mono (HPY.out _ (HD.out.below.trans ((HB1.out).mono HD.out.below.size))) ?_
  rintro e w3 ⟨⟨y2, rfl, hly, hsy, hpy, hey⟩, hb⟩
  have HB2 : Hid (Below W5.heap.size W5 w3) := bel_step (HB1.out) hb
  have HLYY := Lib.hid hly
  have HPYY := Lib.hid hpy
  have HEYY := Lib.hid hey
  have HL1 := Lib.hid (LK.lies_below hb y1 HLYX.out)
  have HL2 := HLYY
  clear hly hsy hpy hey hb
  refine hK.out _ _ ?_ (fun hNew => ?_)
  · (try dsimp only); first | exact HSS.out _ (bel_drew _) | exact HSS.out _ HB1.out | exact HSS.out _ HB2.out | exact HSS.out _ HB3.out | exact HSS.out _ HB4.out
  clear hHeld hK K
  have hHeld := hNew
  clear hNew
  try simp only [Act.put, List.setIfInBounds_toArray, List.set_cons_zero, List.set_cons_succ]
  refine wpAnyH_ready (rs := [14]) (by kernel_rfl) (by simp) ?_
  refine AllReadyH.cons (o := ({ dst := some 50, op := Op.call { callee := Callee.value (Operand.func 12), args := #[Operand.tmp 47, Operand.tmp 49], argTypes := #[31, 31] }, type := 4, pos := "law.go:72", after := #[{ on := 11, ground := Ground.data }, { on := 13, ground := Ground.data }, { on := 13, ground := Ground.chain }, { on := 6, ground := Ground.guard }], guard := some (6, true) } : Oper)) rfl (fun K hK => ?_) AllReadyH.nil
  go_simp
  go_at_call 12
  have hb3 : Below w.heap.size w w3 := HD.out.below.trans (HB2.out.mono HD.out.below.size)
  refine (rsame13At_any y1 y2 w3 (lk_la y1 HL1.out (fun a ha => (HPYX.out a ha).below hb3)) (lk_la y2 HL2.out (fun a ha => (HPYY.out a ha).below hb3)) _ (placed_same HGX.out HGY.out HEYX.out HEYY.out)).mono ?_
  rintro e w4 ⟨rfl, hb⟩
  have HB3 : Hid (Below W5.heap.size W5 w4) := HB2.out.trans (hb.mono HB2.out.size)
  clear hb hb3
  refine hK.out _ _ ?_ (fun hNew => ?_)
  · (try dsimp only); first | exact HSS.out _ (bel_drew _) | exact HSS.out _ HB1.out | exact HSS.out _ HB2.out | exact HSS.out _ HB3.out | exact HSS.out _ HB4.out
  clear hHeld hK K
  have hHeld := hNew
  clear hNew
  try simp only [Act.put, List.setIfInBounds_toArray, List.set_cons_zero, List.set_cons_succ]
  refine wpAnyH_take (i := 15) (oi := ({ dst := some 51, op := Op.binOp BinOp.eql 4 (Operand.tmp 45) (Operand.tmp 50) 4, type := 4, pos := "law.go:72", after := #[{ on := 9, ground := Ground.data }, { on := 14, ground := Ground.data }, { on := 6, ground := Ground.guard }], guard := some (6, true) } : Oper)) (v := ?_) rfl (by kernel_rfl) (by kernel_rfl) (by kernel_rfl) (fun _ _ _ h => h) (Or.inl ⟨by rfl, ?_⟩) (by assumption) ?_
  rotate_left
  · intro w hSw; (try dsimp only at hSw); clear hSw; go_simp; try with_reducible rfl
  try simp only [Act.put, List.setIfInBounds_toArray, List.set_cons_zero, List.set_cons_succ]
  refine wpAnyH_take (i := 16) (oi := ({ dst := some 52, op := Op.pick (Operand.tmp 42) (Operand.tmp 51) (Operand.const (Value.bool false)), type := 4, pos := "law.go:72", after := #[{ on := 6, ground := Ground.data }, { on := 15, ground := Ground.data }], guard := none } : Oper)) (v := ?_) rfl (by kernel_rfl) (by kernel_rfl) (by kernel_rfl) (fun _ _ _ h => h) (Or.inl ⟨by rfl, ?_⟩) (by assumption) ?_
  rotate_left
  · intro w hSw; (try dsimp only at hSw); clear hSw; go_simp; try with_reducible rfl
  try simp only [Act.put, List.setIfInBounds_toArray, List.set_cons_zero, List.set_cons_succ]
  refine wpAnyH_take (i := 17) (oi := ({ dst := some 53, op := Op.move (Operand.tmp 52), type := 4, pos := "law.go:72", after := #[{ on := 16, ground := Ground.data }, { on := 14, ground := Ground.chain }], guard := none } : Oper)) (v := ?_) rfl (by kernel_rfl) (by kernel_rfl) (by kernel_rfl) (fun _ _ _ h => h) (Or.inl ⟨by rfl, ?_⟩) (by assumption) ?_
  rotate_left
  · intro w hSw; (try dsimp only at hSw); clear hSw; go_simp; try with_reducible rfl
  try simp only [Act.put, List.setIfInBounds_toArray, List.set_cons_zero, List.set_cons_succ]
  refine wpAnyH_ready (rs := [18]) (by kernel_rfl) (by simp) ?_
  refine AllReadyH.cons (o := ({ dst := some 54, op := Op.call { callee := Callee.value (Operand.func 10), args := #[], argTypes := #[] }, type := 4, pos := "law.go:72", after := #[{ on := 17, ground := Ground.chain }, { on := 17, ground := Ground.guard }], guard := some (17, true) } : Oper)) rfl (fun K hK => ?_) AllReadyH.nil
  go_simp
  go_at_call 10
  have hb4 : Below w.heap.size w w4 := HD.out.below.trans (HB3.out.mono HD.out.below.size)
  refine (awake_any (HV.out.below hb4) (HT.out.below hb4)).mono ?_
  rintro e w5 ⟨rfl, hb⟩
  have HB4 : Hid (Below W5.heap.size W5 w5) := HB3.out.trans (hb.mono HB3.out.size)
  clear hb hb4
  refine hK.out _ _ ?_ (fun hNew => ?_)
  · (try dsimp only); first | exact HSS.out _ (bel_drew _) | exact HSS.out _ HB1.out | exact HSS.out _ HB2.out | exact HSS.out _ HB3.out | exact HSS.out _ HB4.out
  clear hHeld hK K
  have hHeld := hNew
  clear hNew
  try simp only [Act.put, List.setIfInBounds_toArray, List.set_cons_zero, List.set_cons_succ]
  refine wpAnyH_ready (rs := [19]) (by kernel_rfl) (by simp) ?_
  refine AllReadyH.cons (o := ({ dst := some 55, op := Op.pick (Operand.tmp 53) (Operand.tmp 54) (Operand.const (Value.bool false)), type := 4, pos := "law.go:72", after := #[{ on := 17, ground := Ground.data }, { on := 18, ground := Ground.data }], guard := none } : Oper)) rfl (fun K hK => ?_) AllReadyH.nil
  go_simp
  refine hK.out _ _ ?_ (fun hNew => ?_)
  · (try dsimp only); first | exact HSS.out _ (bel_drew _) | exact HSS.out _ HB1.out | exact HSS.out _ HB2.out | exact HSS.out _ HB3.out | exact HSS.out _ HB4.out
  clear hHeld hK K
  have hHeld := hNew
  clear hNew
  try simp only [Act.put, List.setIfInBounds_toArray, List.set_cons_zero, List.set_cons_succ]
  refine wpAnyH_ready (rs := [20]) (by kernel_rfl) (by simp) ?_
  refine AllReadyH.cons (o := ({ dst := some 4, op := Op.assign (Operand.tmp 55), type := 4, pos := "law.go:72", after := #[{ on := 19, ground := Ground.data }, { on := 18, ground := Ground.chain }, { on := 0, ground := Ground.phase }, { on := 1, ground := Ground.phase }, { on := 2, ground := Ground.phase }, { on := 3, ground := Ground.phase }, { on := 4, ground := Ground.phase }, { on := 5, ground := Ground.phase }, { on := 6, ground := Ground.phase }, { on := 7, ground := Ground.phase }, { on := 8, ground := Ground.phase }, { on := 9, ground := Ground.phase }, { on := 10, ground := Ground.phase }, { on := 11, ground := Ground.phase }, { on := 12, ground := Ground.phase }, { on := 13, ground := Ground.phase }, { on := 14, ground := Ground.phase }, { on := 15, ground := Ground.phase }, { on := 16, ground := Ground.phase }, { on := 17, ground := Ground.phase }, { on := 18, ground := Ground.phase }, { on := 19, ground := Ground.phase }], guard := none } : Oper)) rfl (fun K hK => ?_) AllReadyH.nil
  go_simp
  refine hK.out _ _ ?_ (fun hNew => ?_)
  · (try dsimp only); first | exact HSS.out _ (bel_drew _) | exact HSS.out _ HB1.out | exact HSS.out _ HB2.out | exact HSS.out _ HB3.out | exact HSS.out _ HB4.out
  clear hHeld hK K
  have hHeld := hNew
  clear hNew
  try simp only [Act.put, List.setIfInBounds_toArray, List.set_cons_zero, List.set_cons_succ]
  refine wpAnyH_done (by kernel_rfl) ?_ _
  refine NoPanic.normal ?_
  clear hHeld
  go_wp2_with fail
  go_ret
  exact ⟨by first | rfl | simp, HD.out.below.trans (HB4.out.mono HD.out.below.size)⟩
end Go.Proofs.YtdlbjngpohkglaaGreatDoor
end
section
set_option maxRecDepth 100000
namespace Go.Proofs.YtdlbjngpohkglaaGreatDoor
open Go.RowKit

def litV1 : DataW Unit → List Value
  | .lit (.int k z) => [.int k z]
  | _ => []
def litV2 : DataW Unit → List Value
  | .agg l => l.flatMap litV1
  | d => litV1 d
def litV3 : DataW Unit → List Value
  | .agg l => l.flatMap litV2
  | _ => []
def putV (h : Array Obj) (g : Nat) (cs : Array Value) : Array Obj := h.modify g fun
  | .cells _ t frozen => .cells cs t frozen
  | o => o
noncomputable def laidW (os : Os) : World :=
  { World.holding Tryz.prog os ⟨#[], #[], []⟩ with heap := putV (putV (putV (putV (putV (World.holding Tryz.prog os ⟨#[], #[], []⟩).heap 1 (litV3 Rows.laid_internal_strconv_uint64pow10).toArray) 2 (litV3 Rows.laid_unicode_utf8_first).toArray) 3 (litV3 Rows.laid_unicode_utf8_acceptRanges).toArray) 4 (litV3 Rows.laid_math_bits_deBruijn32tab).toArray) 5 (litV3 Rows.laid_math_bits_deBruijn64tab).toArray }
theorem laidW_met (os : Os) (args : Array Value) : laidMet Tryz.prog Rows.displayPartsRow.laid ((laidW os).forCall (fun _ _ => 0) ⟨#[], args, []⟩).memory :=
  laidMet_of_run' 8 (by kernel_rfl) (by kernel_rfl)
end Go.Proofs.YtdlbjngpohkglaaGreatDoor
end
