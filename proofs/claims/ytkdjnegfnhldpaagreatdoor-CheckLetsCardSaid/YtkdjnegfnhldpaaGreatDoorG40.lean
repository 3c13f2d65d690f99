/- Part 40 of the texts: Lh, LaidK. -/
import Derived.Test.YtkdjnegfnhldpaaGreatDoorG39
import Derived.Test.YtkdjnegfnhldpaaGreatDoorCards
import Derived.Test.YtkdjnegfnhldpaaGreatDoorTie
import Derived.LaidMore
import Derived.ProofKit
import Derived.Deep.DeepHandedRow
set_option linter.unusedVariables false
set_option maxRecDepth 100000
set_option linter.unusedSimpArgs false
section
namespace Go.Proofs.YtkdjnegfnhldpaaGreatDoor
open Go.RowKit
theorem ref_Equal_rowC {p : Option Addr} {n cap : Nat} {l : List Atom} {q : Option Addr} {m mc : Nat} {w : World} (hr : IsRow encA 3 w p n cap l) (hr' : IsRow encA 3 w q m mc l) :
    Calls Tryz.prog 14 #[.slice p n cap, .slice q m mc] w fun e w' => e = .returned (.bool true) ∧ Below w.heap.size w w' := by
  refine (ref_Equal_any p n cap l q m mc l w hr.len hr.max hr.row hr'.len hr'.max hr'.row).mono ?_
  rintro e w' ⟨rfl, j, rfl⟩
  exact ⟨by simp [eqL], below_drewN (Below.refl _ _) _⟩
set_option maxHeartbeats 8000000 in
theorem lets_err {w : World} (hv : Vr w) (t : PA) (hl : LA.lies w t) {z no : Int} (hr : checkR t = .error (z, no)) :
    Calls Tryz.prog 3 #[aggT t.head] w fun e w' => e = .returned (.bool true) ∧ Below w.heap.size w w' := by
  have HB := Lib.hid ((Below.refl w.heap.size w).alloc (Nat.le_refl _) (boxA t.head))
  have HBX := Lib.hid (boxA_new w t.head)
  have HV := Lib.hid hv
  have HR := Lib.hid hr
  have HGR := Lib.hid (great_any t (LA.lies_below HB.out t hl))
  have hno := check_no hr
  have ez : (no == 0) = false := by simp [hno]
  have ez2 : (no != 0) = true := by simp [hno]
  clear hl hv hr
  go_enter Tryz.func3, Tryz.ntmps3
  go_upto_region 1 with fail
  go_upto_region 3 with (first
    | (refine wpList_load_row rfl 31 _ rfl w.heap.size rfl 31 _ (0, 0) _ HBX.out.blk Tryz.underlying31 rfl (by kernel_rfl) ?_)
    | (go_at_call 10; refine HGR.out.mono ?_; rintro e w8 ⟨⟨r, rfl, hgr⟩, hb⟩; have HB := Lib.hid (HB.out.trans (hb.mono HB.out.size)); have HBX := Lib.hid (HBX.out.below hb); have HBG := Lib.hid hb; clear hb; have HC0 := Lib.hid hgr; clear hgr; cases r; have HCE := Lib.hid ((HC0.out (by first | trivial | rfl)).below HBG.out))
    | (go_at_call 11; refine (awake15_any (HV.out.below HB.out)).mono ?_; rintro e w9 ⟨rfl, hb⟩; have HB := Lib.hid (HB.out.trans (hb.mono HB.out.size)); clear hb))
  all_goals (try (go_ret; exact ⟨rfl, HB.out⟩))
  have HK3 := Lib.hid (check_Check_any (t := t) HCE.out.lies HCE.out.small (Nat.le_trans HCE.out.size (by omega)) (HV.out.below HB.out))
  go_upto_region 4 with (first
    | (refine wpList_load_row rfl 31 _ rfl w.heap.size rfl 31 _ (0, 0) _ HBX.out.blk Tryz.underlying31 rfl (by kernel_rfl) ?_)
    | (go_at_call 12; refine (HK3.out).mono ?_; rw [HR.out]; rintro e w3 ⟨he, hb⟩; obtain rfl := he; have HB := Lib.hid (HB.out.trans (hb.mono HB.out.size)); have HBX := Lib.hid (HBX.out.below hb); have HBC := Lib.hid hb; clear hb)
    | (refine wpList_store_row rfl 28 _ _ rfl _ #[.int .u8 0, .int .i64 0, .slice none 0 0, .slice none 0 0] rfl rfl 28 _ (heap_new_at _ _ _ _ (by simp)) (by kernel_rfl) rfl (by simp [Value.oneCell']) ?_; rw [setRow_alloc_at _ _ _ _ _ (by simp)]))
  have hb4 : Below w3.heap.size w3 (w3.alloc (.cells #[.int .u8 0, .int .i64 0, .slice none 0 0, .slice none 0 0] 28)) := (Below.refl _ _).alloc (Nat.le_refl _) _
  have HB := Lib.hid (HB.out.trans (hb4.mono HB.out.size))
  have HBX := Lib.hid (HBX.out.below hb4)
  have HCE := Lib.hid ((HCE.out.below HBC.out).below hb4)
  have HY3 := Lib.hid (heap_new_at w3 #[.int .u8 0, .int .i64 0, .slice none 0 0, .slice none 0 0] 28 _ rfl)
  obtain ⟨g3, hg3⟩ : ∃ g3, w3.heap.size = g3 := ⟨_, rfl⟩
  rw [hg3] at HY3 ⊢
  generalize w3.alloc (.cells #[.int .u8 0, .int .i64 0, .slice none 0 0, .slice none 0 0] 28) = W4 at *
  clear hg3 hb4 HBC
  go_upto_region 5 with (refine wpList_store_row rfl 31 _ _ rfl _ #[.int .u8 2, .int .u8 0, .int .i64 0, .int .i64 0, .string ⟨#[120]⟩, .string ⟨#[]⟩, .string ⟨#[]⟩, .int .i64 0, .slice none 0 0, .slice none 0 0, .int .u8 0, .int .i64 0, .slice none 0 0, .slice none 0 0, .int .u8 0, .int .i64 0, .slice none 0 0, .slice none 0 0, .slice none 0 0] rfl rfl 31 _ (heap_new_at _ _ _ _ (by simp)) (by kernel_rfl) rfl (by simp [Value.oneCell']) ?_; rw [setRow_alloc_at _ _ _ _ _ (by simp)])
  have hb5 : Below W4.heap.size W4 (W4.alloc (.cells #[.int .u8 2, .int .u8 0, .int .i64 0, .int .i64 0, .string ⟨#[120]⟩, .string ⟨#[]⟩, .string ⟨#[]⟩, .int .i64 0, .slice none 0 0, .slice none 0 0, .int .u8 0, .int .i64 0, .slice none 0 0, .slice none 0 0, .int .u8 0, .int .i64 0, .slice none 0 0, .slice none 0 0, .slice none 0 0] 31)) := (Below.refl _ _).alloc (Nat.le_refl _) _
  have HB := Lib.hid (HB.out.trans (hb5.mono HB.out.size))
  have HBX := Lib.hid (HBX.out.below hb5)
  have HCE := Lib.hid (HCE.out.below hb5)
  have HY3 := Lib.hid ((hb5.block _ (lt_heap HY3.out)).trans HY3.out)
  have HX5 := Lib.hid (heap_new_at W4 #[.int .u8 2, .int .u8 0, .int .i64 0, .int .i64 0, .string ⟨#[120]⟩, .string ⟨#[]⟩, .string ⟨#[]⟩, .int .i64 0, .slice none 0 0, .slice none 0 0, .int .u8 0, .int .i64 0, .slice none 0 0, .slice none 0 0, .int .u8 0, .int .i64 0, .slice none 0 0, .slice none 0 0, .slice none 0 0] 31 _ rfl)
  obtain ⟨g4, hg4⟩ : ∃ g4, W4.heap.size = g4 := ⟨_, rfl⟩
  rw [hg4] at HX5 ⊢
  generalize W4.alloc (.cells #[.int .u8 2, .int .u8 0, .int .i64 0, .int .i64 0, .string ⟨#[120]⟩, .string ⟨#[]⟩, .string ⟨#[]⟩, .int .i64 0, .slice none 0 0, .slice none 0 0, .int .u8 0, .int .i64 0, .slice none 0 0, .slice none 0 0, .int .u8 0, .int .i64 0, .slice none 0 0, .slice none 0 0, .slice none 0 0] 31) = W5 at *
  clear hg4 hb5
  have hb6 : Below W5.heap.size W5 (W5.alloc (.cells #[.int .u8 t.head.kind, .int .u8 t.head.op, .int .i64 t.head.at_, .int .i64 t.head.n, .string t.head.name, .string t.head.arg, .string t.head.exn, .int .i64 t.head.rho, .slice t.head.rp t.head.rn t.head.rc, .slice t.head.ep t.head.en t.head.ec, .int .u8 t.head.ty.head.kind, .int .i64 t.head.ty.head.rho, .slice t.head.ty.head.ep t.head.ty.head.en t.head.ty.head.ec, .slice t.head.ty.head.kp t.head.ty.head.kn t.head.ty.head.kc, .int .u8 t.head.res.head.kind, .int .i64 t.head.res.head.rho, .slice t.head.res.head.ep t.head.res.head.en t.head.res.head.ec, .slice t.head.res.head.kp t.head.res.head.kn t.head.res.head.kc, .slice t.head.kp t.head.kn t.head.kc, .int .u8 2, .int .u8 0, .int .i64 0, .int .i64 0, .string ⟨#[120]⟩, .string ⟨#[]⟩, .string ⟨#[]⟩, .int .i64 0, .slice none 0 0, .slice none 0 0, .int .u8 0, .int .i64 0, .slice none 0 0, .slice none 0 0, .int .u8 0, .int .i64 0, .slice none 0 0, .slice none 0 0, .slice none 0 0] 31)) := (Below.refl _ _).alloc (Nat.le_refl _) _
  have HR6 := Lib.hid (rowTA_two HCE.out.lies (varX_lies W5) #[.int .u8 t.head.kind, .int .u8 t.head.op, .int .i64 t.head.at_, .int .i64 t.head.n, .string t.head.name, .string t.head.arg, .string t.head.exn, .int .i64 t.head.rho, .slice t.head.rp t.head.rn t.head.rc, .slice t.head.ep t.head.en t.head.ec, .int .u8 t.head.ty.head.kind, .int .i64 t.head.ty.head.rho, .slice t.head.ty.head.ep t.head.ty.head.en t.head.ty.head.ec, .slice t.head.ty.head.kp t.head.ty.head.kn t.head.ty.head.kc, .int .u8 t.head.res.head.kind, .int .i64 t.head.res.head.rho, .slice t.head.res.head.ep t.head.res.head.en t.head.res.head.ec, .slice t.head.res.head.kp t.head.res.head.kn t.head.res.head.kc, .slice t.head.kp t.head.kn t.head.kc, .int .u8 2, .int .u8 0, .int .i64 0, .int .i64 0, .string ⟨#[120]⟩, .string ⟨#[]⟩, .string ⟨#[]⟩, .int .i64 0, .slice none 0 0, .slice none 0 0, .int .u8 0, .int .i64 0, .slice none 0 0, .slice none 0 0, .int .u8 0, .int .i64 0, .slice none 0 0, .slice none 0 0, .slice none 0 0] rfl 31 _ rfl)
  have HB6 := Lib.hid (HB.out.trans (hb6.mono HB.out.size))
  have HBX6 := Lib.hid (HBX.out.below hb6)
  have HY36 := Lib.hid ((hb6.block _ (lt_heap HY3.out)).trans HY3.out)
  have HLC := Lib.hid (letX_check (g := W5.heap.size) HCE.out.lies HCE.out.small)
  have HK5 := Lib.hid (check_Check_any (t := letX W5.heap.size t) (mkN_lies (by omega) (by omega) (by decide) HR6.out) (letX_small HCE.out.small) (by rw [letX_size]; have := HCE.out.size; omega) (HV.out.below HB6.out))
  clear hb6
  go_upto_region 6 with (first
    | (refine wpList_load_row rfl 31 _ rfl w.heap.size rfl 31 _ (0, 0) _ HBX.out.blk Tryz.underlying31 rfl (by kernel_rfl) ?_)
    | (refine wpList_load_row rfl 31 _ rfl g4 rfl 31 _ (0, 0) _ HX5.out Tryz.underlying31 rfl (by kernel_rfl) ?_)
    | (go_at_call 12; refine (HK5.out).mono ?_; rw [HLC.out, HR.out]; rintro e w5 ⟨he, hb⟩; obtain rfl := he; have HB := Lib.hid (HB6.out.trans (hb.mono HB6.out.size)); have HBX := Lib.hid (HBX6.out.below hb); have HBC := Lib.hid hb; clear hb)
    | (refine wpList_store_row rfl 28 _ _ rfl _ #[.int .u8 0, .int .i64 0, .slice none 0 0, .slice none 0 0] rfl rfl 28 _ (heap_new_at _ _ _ _ (by simp)) (by kernel_rfl) rfl (by simp [Value.oneCell']) ?_; rw [setRow_alloc_at _ _ _ _ _ (by simp)]))
  have hb7 : Below w5.heap.size w5 (w5.alloc (.cells #[.int .u8 0, .int .i64 0, .slice none 0 0, .slice none 0 0] 28)) := (Below.refl _ _).alloc (Nat.le_refl _) _
  have HB := Lib.hid (HB.out.trans (hb7.mono HB.out.size))
  have HY5 := Lib.hid (heap_new_at w5 #[.int .u8 0, .int .i64 0, .slice none 0 0, .slice none 0 0] 28 _ rfl)
  have HY3 := Lib.hid ((hb7.block _ (lt_heap ((HBC.out.block _ (lt_heap HY36.out)).trans HY36.out))).trans ((HBC.out.block _ (lt_heap HY36.out)).trans HY36.out))
  obtain ⟨g5, hg5⟩ : ∃ g5, w5.heap.size = g5 := ⟨_, rfl⟩
  rw [hg5] at HY5 ⊢
  generalize w5.alloc (.cells #[.int .u8 0, .int .i64 0, .slice none 0 0, .slice none 0 0] 28) = W7 at *
  clear hg5 hb7 HBC HBX HBX6 HCE HK3 HK5
  go_wp2_with (first
    | (go_at_call 11; refine (awake15_any (HV.out.below HB.out)).mono ?_; rintro e w9 ⟨rfl, hb⟩; have HB := Lib.hid (HB.out.trans (hb.mono HB.out.size)); clear hb))
  go_ret
  exact ⟨ret_bool (by simp), HB.out⟩
set_option maxHeartbeats 8000000 in
theorem lets_ok {w : World} (hv : Vr w) (t : PA) (hl : LA.lies w t) {x : TE} (hr : checkR t = .ok x) :
    Calls Tryz.prog 3 #[aggT t.head] w fun e w' => e = .returned (.bool true) ∧ Below w.heap.size w w' := by
  have HB := Lib.hid ((Below.refl w.heap.size w).alloc (Nat.le_refl _) (boxA t.head))
  have HBX := Lib.hid (boxA_new w t.head)
  have HV := Lib.hid hv
  have HR := Lib.hid hr
  have HGR := Lib.hid (great_any t (LA.lies_below HB.out t hl))
  clear hl hv hr
  go_enter Tryz.func3, Tryz.ntmps3
  go_upto_region 1 with fail
  go_upto_region 3 with (first
    | (refine wpList_load_row rfl 31 _ rfl w.heap.size rfl 31 _ (0, 0) _ HBX.out.blk Tryz.underlying31 rfl (by kernel_rfl) ?_)
    | (go_at_call 10; refine HGR.out.mono ?_; rintro e w8 ⟨⟨r, rfl, hgr⟩, hb⟩; have HB := Lib.hid (HB.out.trans (hb.mono HB.out.size)); have HBX := Lib.hid (HBX.out.below hb); have HBG := Lib.hid hb; clear hb; have HC0 := Lib.hid hgr; clear hgr; cases r; have HCE := Lib.hid ((HC0.out (by first | trivial | rfl)).below HBG.out))
    | (go_at_call 11; refine (awake15_any (HV.out.below HB.out)).mono ?_; rintro e w9 ⟨rfl, hb⟩; have HB := Lib.hid (HB.out.trans (hb.mono HB.out.size)); clear hb))
  all_goals (try (go_ret; exact ⟨rfl, HB.out⟩))
  have HK3 := Lib.hid (check_Check_any (t := t) HCE.out.lies HCE.out.small (Nat.le_trans HCE.out.size (by omega)) (HV.out.below HB.out))
  go_upto_region 4 with (first
    | (refine wpList_load_row rfl 31 _ rfl w.heap.size rfl 31 _ (0, 0) _ HBX.out.blk Tryz.underlying31 rfl (by kernel_rfl) ?_)
    | (go_at_call 12; refine (HK3.out).mono ?_; rw [HR.out]; rintro e w3 ⟨⟨y3, q3, m3, c3, rfl, hly, hey, hrow⟩, hb⟩; have HLY3 := Lib.hid hly; have HEY3 := Lib.hid hey; have HRW3 := Lib.hid hrow; clear hly hey hrow; have HB := Lib.hid (HB.out.trans (hb.mono HB.out.size)); have HBX := Lib.hid (HBX.out.below hb); have HBC := Lib.hid hb; clear hb)
    | (refine wpList_store_row rfl 28 _ _ rfl _ #[.int .u8 y3.head.kind, .int .i64 y3.head.rho, .slice y3.head.ep y3.head.en y3.head.ec, .slice y3.head.kp y3.head.kn y3.head.kc] rfl rfl 28 _ (heap_new_at _ _ _ _ (by simp)) (by kernel_rfl) rfl (by simp [Value.oneCell']) ?_; rw [setRow_alloc_at _ _ _ _ _ (by simp)]))
  have hb4 : Below w3.heap.size w3 (w3.alloc (.cells #[.int .u8 y3.head.kind, .int .i64 y3.head.rho, .slice y3.head.ep y3.head.en y3.head.ec, .slice y3.head.kp y3.head.kn y3.head.kc] 28)) := (Below.refl _ _).alloc (Nat.le_refl _) _
  have HB := Lib.hid (HB.out.trans (hb4.mono HB.out.size))
  have HBX := Lib.hid (HBX.out.below hb4)
  have HCE := Lib.hid ((HCE.out.below HBC.out).below hb4)
  have HY3 := Lib.hid (heap_new_at w3 #[.int .u8 y3.head.kind, .int .i64 y3.head.rho, .slice y3.head.ep y3.head.en y3.head.ec, .slice y3.head.kp y3.head.kn y3.head.kc] 28 _ rfl)
  have HLY3 := Lib.hid (LR.lies_below hb4 _ HLY3.out)
  have HRW3 := Lib.hid (HRW3.out.below hb4)
  obtain ⟨g3, hg3⟩ : ∃ g3, w3.heap.size = g3 := ⟨_, rfl⟩
  rw [hg3] at HY3 ⊢
  generalize w3.alloc (.cells #[.int .u8 y3.head.kind, .int .i64 y3.head.rho, .slice y3.head.ep y3.head.en y3.head.ec, .slice y3.head.kp y3.head.kn y3.head.kc] 28) = W4 at *
  clear hg3 hb4 HBC
  go_upto_region 5 with (refine wpList_store_row rfl 31 _ _ rfl _ #[.int .u8 2, .int .u8 0, .int .i64 0, .int .i64 0, .string ⟨#[120]⟩, .string ⟨#[]⟩, .string ⟨#[]⟩, .int .i64 0, .slice none 0 0, .slice none 0 0, .int .u8 0, .int .i64 0, .slice none 0 0, .slice none 0 0, .int .u8 0, .int .i64 0, .slice none 0 0, .slice none 0 0, .slice none 0 0] rfl rfl 31 _ (heap_new_at _ _ _ _ (by simp)) (by kernel_rfl) rfl (by simp [Value.oneCell']) ?_; rw [setRow_alloc_at _ _ _ _ _ (by simp)])
  have hb5 : Below W4.heap.size W4 (W4.alloc (.cells #[.int .u8 2, .int .u8 0, .int .i64 0, .int .i64 0, .string ⟨#[120]⟩, .string ⟨#[]⟩, .string ⟨#[]⟩, .int .i64 0, .slice none 0 0, .slice none 0 0, .int .u8 0, .int .i64 0, .slice none 0 0, .slice none 0 0, .int .u8 0, .int .i64 0, .slice none 0 0, .slice none 0 0, .slice none 0 0] 31)) := (Below.refl _ _).alloc (Nat.le_refl _) _
  have HB := Lib.hid (HB.out.trans (hb5.mono HB.out.size))
  have HBX := Lib.hid (HBX.out.below hb5)
  have HCE := Lib.hid (HCE.out.below hb5)
  have HY3 := Lib.hid ((hb5.block _ (lt_heap HY3.out)).trans HY3.out)
  have HX5 := Lib.hid (heap_new_at W4 #[.int .u8 2, .int .u8 0, .int .i64 0, .int .i64 0, .string ⟨#[120]⟩, .string ⟨#[]⟩, .string ⟨#[]⟩, .int .i64 0, .slice none 0 0, .slice none 0 0, .int .u8 0, .int .i64 0, .slice none 0 0, .slice none 0 0, .int .u8 0, .int .i64 0, .slice none 0 0, .slice none 0 0, .slice none 0 0] 31 _ rfl)
  have HLY3 := Lib.hid (LR.lies_below hb5 _ HLY3.out)
  have HRW3 := Lib.hid (HRW3.out.below hb5)
  obtain ⟨g4, hg4⟩ : ∃ g4, W4.heap.size = g4 := ⟨_, rfl⟩
  rw [hg4] at HX5 ⊢
  generalize W4.alloc (.cells #[.int .u8 2, .int .u8 0, .int .i64 0, .int .i64 0, .string ⟨#[120]⟩, .string ⟨#[]⟩, .string ⟨#[]⟩, .int .i64 0, .slice none 0 0, .slice none 0 0, .int .u8 0, .int .i64 0, .slice none 0 0, .slice none 0 0, .int .u8 0, .int .i64 0, .slice none 0 0, .slice none 0 0, .slice none 0 0] 31) = W5 at *
  clear hg4 hb5
  have hb6 : Below W5.heap.size W5 (W5.alloc (.cells #[.int .u8 t.head.kind, .int .u8 t.head.op, .int .i64 t.head.at_, .int .i64 t.head.n, .string t.head.name, .string t.head.arg, .string t.head.exn, .int .i64 t.head.rho, .slice t.head.rp t.head.rn t.head.rc, .slice t.head.ep t.head.en t.head.ec, .int .u8 t.head.ty.head.kind, .int .i64 t.head.ty.head.rho, .slice t.head.ty.head.ep t.head.ty.head.en t.head.ty.head.ec, .slice t.head.ty.head.kp t.head.ty.head.kn t.head.ty.head.kc, .int .u8 t.head.res.head.kind, .int .i64 t.head.res.head.rho, .slice t.head.res.head.ep t.head.res.head.en t.head.res.head.ec, .slice t.head.res.head.kp t.head.res.head.kn t.head.res.head.kc, .slice t.head.kp t.head.kn t.head.kc, .int .u8 2, .int .u8 0, .int .i64 0, .int .i64 0, .string ⟨#[120]⟩, .string ⟨#[]⟩, .string ⟨#[]⟩, .int .i64 0, .slice none 0 0, .slice none 0 0, .int .u8 0, .int .i64 0, .slice none 0 0, .slice none 0 0, .int .u8 0, .int .i64 0, .slice none 0 0, .slice none 0 0, .slice none 0 0] 31)) := (Below.refl _ _).alloc (Nat.le_refl _) _
  have HR6 := Lib.hid (rowTA_two HCE.out.lies (varX_lies W5) #[.int .u8 t.head.kind, .int .u8 t.head.op, .int .i64 t.head.at_, .int .i64 t.head.n, .string t.head.name, .string t.head.arg, .string t.head.exn, .int .i64 t.head.rho, .slice t.head.rp t.head.rn t.head.rc, .slice t.head.ep t.head.en t.head.ec, .int .u8 t.head.ty.head.kind, .int .i64 t.head.ty.head.rho, .slice t.head.ty.head.ep t.head.ty.head.en t.head.ty.head.ec, .slice t.head.ty.head.kp t.head.ty.head.kn t.head.ty.head.kc, .int .u8 t.head.res.head.kind, .int .i64 t.head.res.head.rho, .slice t.head.res.head.ep t.head.res.head.en t.head.res.head.ec, .slice t.head.res.head.kp t.head.res.head.kn t.head.res.head.kc, .slice t.head.kp t.head.kn t.head.kc, .int .u8 2, .int .u8 0, .int .i64 0, .int .i64 0, .string ⟨#[120]⟩, .string ⟨#[]⟩, .string ⟨#[]⟩, .int .i64 0, .slice none 0 0, .slice none 0 0, .int .u8 0, .int .i64 0, .slice none 0 0, .slice none 0 0, .int .u8 0, .int .i64 0, .slice none 0 0, .slice none 0 0, .slice none 0 0] rfl 31 _ rfl)
  have HB6 := Lib.hid (HB.out.trans (hb6.mono HB.out.size))
  have HBX6 := Lib.hid (HBX.out.below hb6)
  have HY36 := Lib.hid ((hb6.block _ (lt_heap HY3.out)).trans HY3.out)
  have HLY36 := Lib.hid (LR.lies_below hb6 _ HLY3.out)
  have HRW36 := Lib.hid (HRW3.out.below hb6)
  have HLC := Lib.hid (letX_check (g := W5.heap.size) HCE.out.lies HCE.out.small)
  have HK5 := Lib.hid (check_Check_any (t := letX W5.heap.size t) (mkN_lies (by omega) (by omega) (by decide) HR6.out) (letX_small HCE.out.small) (by rw [letX_size]; have := HCE.out.size; omega) (HV.out.below HB6.out))
  clear hb6
  go_upto_region 6 with (first
    | (refine wpList_load_row rfl 31 _ rfl w.heap.size rfl 31 _ (0, 0) _ HBX.out.blk Tryz.underlying31 rfl (by kernel_rfl) ?_)
    | (refine wpList_load_row rfl 31 _ rfl g4 rfl 31 _ (0, 0) _ HX5.out Tryz.underlying31 rfl (by kernel_rfl) ?_)
    | (go_at_call 12; refine (HK5.out).mono ?_; rw [HLC.out, HR.out]; rintro e w5 ⟨⟨y5, q5, m5, c5, rfl, hly, hey, hrow⟩, hb⟩; have HLY5 := Lib.hid hly; have HEY5 := Lib.hid hey; have HRW5 := Lib.hid hrow; clear hly hey hrow; have HB := Lib.hid (HB6.out.trans (hb.mono HB6.out.size)); have HBX := Lib.hid (HBX6.out.below hb); have HBC := Lib.hid hb; clear hb)
    | (refine wpList_store_row rfl 28 _ _ rfl _ #[.int .u8 y5.head.kind, .int .i64 y5.head.rho, .slice y5.head.ep y5.head.en y5.head.ec, .slice y5.head.kp y5.head.kn y5.head.kc] rfl rfl 28 _ (heap_new_at _ _ _ _ (by simp)) (by kernel_rfl) rfl (by simp [Value.oneCell']) ?_; rw [setRow_alloc_at _ _ _ _ _ (by simp)]))
  have hb7 : Below w5.heap.size w5 (w5.alloc (.cells #[.int .u8 y5.head.kind, .int .i64 y5.head.rho, .slice y5.head.ep y5.head.en y5.head.ec, .slice y5.head.kp y5.head.kn y5.head.kc] 28)) := (Below.refl _ _).alloc (Nat.le_refl _) _
  have HB := Lib.hid (HB.out.trans (hb7.mono HB.out.size))
  have HY5 := Lib.hid (heap_new_at w5 #[.int .u8 y5.head.kind, .int .i64 y5.head.rho, .slice y5.head.ep y5.head.en y5.head.ec, .slice y5.head.kp y5.head.kn y5.head.kc] 28 _ rfl)
  have HY3 := Lib.hid ((hb7.block _ (lt_heap ((HBC.out.block _ (lt_heap HY36.out)).trans HY36.out))).trans ((HBC.out.block _ (lt_heap HY36.out)).trans HY36.out))
  have HLY3 := Lib.hid (LR.lies_below hb7 _ (LR.lies_below HBC.out _ HLY36.out))
  have HRW3 := Lib.hid ((HRW36.out.below HBC.out).below hb7)
  have HLY5 := Lib.hid (LR.lies_below hb7 _ HLY5.out)
  have HRW5 := Lib.hid (HRW5.out.below hb7)
  have HSM := Lib.hid (same_er (HEY3.out.trans HEY5.out.symm))
  obtain ⟨g5, hg5⟩ : ∃ g5, w5.heap.size = g5 := ⟨_, rfl⟩
  rw [hg5] at HY5 ⊢
  generalize w5.alloc (.cells #[.int .u8 y5.head.kind, .int .i64 y5.head.rho, .slice y5.head.ep y5.head.en y5.head.ec, .slice y5.head.kp y5.head.kn y5.head.kc] 28) = W7 at *
  clear hg5 hb7 HBC HBX HBX6 HCE HK3 HK5
  go_wp2_with (first
    | (refine wpList_load_midG (by rfl) 28 _ rfl g3 0 rfl [.int .u8 y3.head.kind, .int .i64 y3.head.rho, .slice y3.head.ep y3.head.en y3.head.ec, .slice y3.head.kp y3.head.kn y3.head.kc] _ (r4 HY3.out) Tryz.underlying28 rfl (by kernel_rfl) ?_)
    | (refine wpList_load_midG (by rfl) 28 _ rfl g5 0 rfl [.int .u8 y5.head.kind, .int .i64 y5.head.rho, .slice y5.head.ep y5.head.en y5.head.ec, .slice y5.head.kp y5.head.kn y5.head.kc] _ (r4 HY5.out) Tryz.underlying28 rfl (by kernel_rfl) ?_)
    | (go_at_call 13; refine (rsameAt_any y3 y5 _ HLY3.out HLY5.out true HSM.out).mono ?_; rintro e w6 ⟨rfl, hb⟩; have HB := Lib.hid (HB.out.trans (hb.mono HB.out.size)); have HRW3 := Lib.hid (HRW3.out.below hb); have HRW5 := Lib.hid (HRW5.out.below hb); clear hb)
    | (go_at_call 14; refine (ref_Equal_rowC HRW3.out HRW5.out).mono ?_; rintro e w6 ⟨rfl, hb⟩; have HB := Lib.hid (HB.out.trans (hb.mono HB.out.size)); clear hb)
    | (go_at_call 11; refine (awake15_any (HV.out.below HB.out)).mono ?_; rintro e w9 ⟨rfl, hb⟩; have HB := Lib.hid (HB.out.trans (hb.mono HB.out.size)); clear hb))
  go_ret
  exact ⟨rfl, HB.out⟩
theorem checkLets_walk {w : World} (hv : Vr w) (t : PA) (hl : LA.lies w t) :
    Calls Tryz.prog 3 #[aggT t.head] w fun e w' => e = .returned (.bool true) ∧ Below w.heap.size w w' := by
  cases hr : checkR t with
  | error e => obtain ⟨z, no⟩ := e; exact lets_err hv t hl hr
  | ok x => exact lets_ok hv t hl hr
end Go.Proofs.YtkdjnegfnhldpaaGreatDoor
end
section
namespace Go.Proofs.YtkdjnegfnhldpaaGreatDoor
open Go.RowKit
def litV1 : DataW Unit → List Value
  | .lit (.int k z) => [.int k z]
  | _ => []
def litV2 : DataW Unit → List Value
  | .agg l => l.flatMap litV1
  | d => litV1 d
def litV3 : DataW Unit → List Value
  | .agg l => l.flatMap litV2
  | _ => []
def putW (h : Array Obj) (g : Nat) (cs : Array Value) : Array Obj := h.modify g fun
  | .cells _ t frozen => .cells cs t frozen
  | o => o
noncomputable def laidW (os : Os) : World :=
  { World.holding Tryz.prog os ⟨#[], #[], []⟩ with heap := putW (putW (World.holding Tryz.prog os ⟨#[], #[], []⟩).heap 1 (litV3 Rows.laid_unicode_utf8_first).toArray) 2 (litV3 Rows.laid_unicode_utf8_acceptRanges).toArray }
end Go.Proofs.YtkdjnegfnhldpaaGreatDoor
end
