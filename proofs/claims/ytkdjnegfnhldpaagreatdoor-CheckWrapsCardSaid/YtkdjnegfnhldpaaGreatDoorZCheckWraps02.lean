/- What CheckWraps leans on besides, part 2: Lj. -/
import Derived.Test.YtkdjnegfnhldpaaGreatDoorH37
import Derived.Test.YtkdjnegfnhldpaaGreatDoorZCheckWraps01
set_option linter.unusedVariables false
set_option maxRecDepth 100000
set_option linter.unusedSimpArgs false
namespace Go.Proofs.YtkdjnegfnhldpaaGreatDoor
open Go.Lib (hid)
section
open Go.RowKit
set_option maxHeartbeats 8000000 in
theorem wraps_small {w : World} (hv : Vr w) (t : PA) (hl : LA.lies w t) (rho : Int) (hi : inI rho) (h1 : rho < 1) :
    Calls Tryz.prog 6 #[aggT t.head, .int .i64 rho] w fun e w' => e = .returned (.bool true) ∧ Below w.heap.size w w' := by
  have HB := hid ((Below.refl w.heap.size w).alloc (Nat.le_refl _) (boxA t.head))
  have HBX := hid (boxA_new w t.head)
  have HV := hid hv
  have HII := hid hi
  have HGR := hid (great_any t (LA.lies_below HB.out t hl))
  have e1 : decide (rho < 1) = true := by simp [h1]
  clear hl hv hi h1
  go_enter Tryz.func6, Tryz.ntmps6
  go_upto_region 1 with fail
  go_wp2_with (first
    | (refine wpList_load_row rfl 31 _ rfl w.heap.size rfl 31 _ (0, 0) _ HBX.out.blk Tryz.underlying31 rfl (by kernel_rfl) ?_)
    | (go_at_call 10; refine HGR.out.mono ?_; rintro e w8 ⟨⟨r, rfl, hgr⟩, hb⟩; have HB := hid (HB.out.trans (hb.mono HB.out.size)); have HBX := hid (HBX.out.below hb); have HBG := hid hb; clear hb; have HC0 := hid hgr; clear hgr; cases r; have HCE := hid ((HC0.out (by first | trivial | rfl)).below HBG.out))
    | (go_at_call 11; refine (awake15_any (HV.out.below HB.out)).mono ?_; rintro e w9 ⟨rfl, hb⟩; have HB := hid (HB.out.trans (hb.mono HB.out.size)); clear hb))
  all_goals (
    go_ret
    exact ⟨rfl, HB.out⟩)
set_option maxHeartbeats 8000000 in
theorem wraps_err {w : World} (hv : Vr w) (t : PA) (hl : LA.lies w t) (rho : Int) (hi : inI rho) (h1 : 1 ≤ rho) {z no : Int} (hr : checkR t = .error (z, no)) :
    Calls Tryz.prog 6 #[aggT t.head, .int .i64 rho] w fun e w' => e = .returned (.bool true) ∧ Below w.heap.size w w' := by
  have HB := hid ((Below.refl w.heap.size w).alloc (Nat.le_refl _) (boxA t.head))
  have HBX := hid (boxA_new w t.head)
  have HV := hid hv
  have HII := hid hi
  have HGR := hid (great_any t (LA.lies_below HB.out t hl))
  have HR := hid hr
  have e1 : decide (rho < 1) = false := by simp; omega
  have hno := check_no hr
  have ez : (no == 0) = false := by simp [hno]
  have ez2 : (no != 0) = true := by simp [hno]
  clear hl hv hi hr h1
  go_enter Tryz.func6, Tryz.ntmps6
  go_upto_region 1 with fail
  go_upto_region 3 with (first
    | (refine wpList_load_row rfl 31 _ rfl w.heap.size rfl 31 _ (0, 0) _ HBX.out.blk Tryz.underlying31 rfl (by kernel_rfl) ?_)
    | (go_at_call 10; refine HGR.out.mono ?_; rintro e w8 ⟨⟨r, rfl, hgr⟩, hb⟩; have HB := hid (HB.out.trans (hb.mono HB.out.size)); have HBX := hid (HBX.out.below hb); have HBG := hid hb; clear hb; have HC0 := hid hgr; clear hgr; cases r; have HCE := hid ((HC0.out (by first | trivial | rfl)).below HBG.out))
    | (go_at_call 11; refine (awake15_any (HV.out.below HB.out)).mono ?_; rintro e w9 ⟨rfl, hb⟩; have HB := hid (HB.out.trans (hb.mono HB.out.size)); clear hb))
  all_goals (try (go_ret; exact ⟨rfl, HB.out⟩))
  have HK3 := hid (check_Check_any (t := t) HCE.out.lies HCE.out.small (Nat.le_trans HCE.out.size (by omega)) (HV.out.below HB.out))
  go_upto_region 4 with (first
    | (refine wpList_load_row rfl 31 _ rfl w.heap.size rfl 31 _ (0, 0) _ HBX.out.blk Tryz.underlying31 rfl (by kernel_rfl) ?_)
    | (go_at_call 12; refine (HK3.out).mono ?_; rw [HR.out]; rintro e w3 ⟨he, hb⟩; obtain rfl := he; have HB := hid (HB.out.trans (hb.mono HB.out.size)); have HBX := hid (HBX.out.below hb); have HBC := hid hb; clear hb)
    | (refine wpList_store_row rfl 28 _ _ rfl _ #[.int .u8 0, .int .i64 0, .slice none 0 0, .slice none 0 0] rfl rfl 28 _ (heap_new_at _ _ _ _ (by simp)) (by kernel_rfl) rfl (by simp [Value.oneCell']) ?_; rw [setRow_alloc_at _ _ _ _ _ (by simp)]))
  have hb4 : Below w3.heap.size w3 (w3.alloc (.cells #[.int .u8 0, .int .i64 0, .slice none 0 0, .slice none 0 0] 28)) := (Below.refl _ _).alloc (Nat.le_refl _) _
  have HB := hid (HB.out.trans (hb4.mono HB.out.size))
  clear hb4
  go_wp2_with (first
    | (go_at_call 11; refine (awake15_any (HV.out.below HB.out)).mono ?_; rintro e w9 ⟨rfl, hb⟩; have HB := hid (HB.out.trans (hb.mono HB.out.size)); clear hb))
  go_ret
  exact ⟨rfl, HB.out⟩
set_option maxHeartbeats 8000000 in
theorem wraps_bound' {w : World} (hv : Vr w) (t : PA) (hl : LA.lies w t) (rho : Int) (hi : inI rho) (h1 : 1 ≤ rho) {x : TE} (hr : checkR t = .ok x) (hb : inN (bindsT (PA.er t)) rho = true) (hk : SmallNs t → ∃ z, 0 ≤ z ∧ checkA (wrapA rho (PA.er t)) = .error (z, 6)) :
    Calls Tryz.prog 6 #[aggT t.head, .int .i64 rho] w fun e w' => e = .returned (.bool true) ∧ Below w.heap.size w w' := by
  have HB := hid ((Below.refl w.heap.size w).alloc (Nat.le_refl _) (boxA t.head))
  have HBX := hid (boxA_new w t.head)
  have HV := hid hv
  have HII := hid hi
  have HGR := hid (great_any t (LA.lies_below HB.out t hl))
  have HR := hid hr
  have HKK := hid hk
  have HBI := hid hb
  have e1 : decide (rho < 1) = false := by simp; omega
  have H1 := hid h1
  have hm : mayA t = true := by
    unfold checkR at hr
    cases h : mayA t with
    | true => rfl
    | false => rw [h, if_neg Bool.false_ne_true] at hr; cases hr
  have HM := hid hm
  clear hl hv hi hr h1 hk hb hm
  go_enter Tryz.func6, Tryz.ntmps6
  go_upto_region 1 with fail
  go_upto_region 3 with (first
    | (refine wpList_load_row rfl 31 _ rfl w.heap.size rfl 31 _ (0, 0) _ HBX.out.blk Tryz.underlying31 rfl (by kernel_rfl) ?_)
    | (go_at_call 10; refine HGR.out.mono ?_; rintro e w8 ⟨⟨r, rfl, hgr⟩, hb⟩; have HB := hid (HB.out.trans (hb.mono HB.out.size)); have HBX := hid (HBX.out.below hb); have HBG := hid hb; clear hb; have HC0 := hid hgr; clear hgr; cases r; have HCE := hid ((HC0.out (by first | trivial | rfl)).below HBG.out))
    | (go_at_call 11; refine (awake15_any (HV.out.below HB.out)).mono ?_; rintro e w9 ⟨rfl, hb⟩; have HB := hid (HB.out.trans (hb.mono HB.out.size)); clear hb))
  all_goals (try (go_ret; exact ⟨rfl, HB.out⟩))
  have HK3 := hid (check_Check_any (t := t) HCE.out.lies HCE.out.small (Nat.le_trans HCE.out.size (by omega)) (HV.out.below HB.out))
  obtain ⟨z, hz, hkz⟩ := HKK.out HCE.out.small
  have HKK := hid hkz
  have ez : decide (0 ≤ z) = true := by simp [hz]
  clear hz hkz
  go_upto_region 6 with (first
    | (refine wpList_load_row rfl 31 _ rfl w.heap.size rfl 31 _ (0, 0) _ HBX.out.blk Tryz.underlying31 rfl (by kernel_rfl) ?_)
    | (go_at_call 12; refine (HK3.out).mono ?_; rw [HR.out]; rintro e w3 ⟨⟨y3, q3, m3, c3, rfl, hly, hey, hrow⟩, hb⟩; have HLY3 := hid hly; have HEY3 := hid hey; have HRW3 := hid hrow; clear hly hey hrow; have HB := hid (HB.out.trans (hb.mono HB.out.size)); have HBX := hid (HBX.out.below hb); have HBC := hid hb; clear hb)
    | (refine wpList_store_row rfl 28 _ _ rfl _ #[.int .u8 y3.head.kind, .int .i64 y3.head.rho, .slice y3.head.ep y3.head.en y3.head.ec, .slice y3.head.kp y3.head.kn y3.head.kc] rfl rfl 28 _ (heap_new_at _ _ _ _ (by simp)) (by kernel_rfl) rfl (by simp [Value.oneCell']) ?_; rw [setRow_alloc_at _ _ _ _ _ (by simp)]))
  have hb4 : Below w3.heap.size w3 (w3.alloc (.cells #[.int .u8 y3.head.kind, .int .i64 y3.head.rho, .slice y3.head.ep y3.head.en y3.head.ec, .slice y3.head.kp y3.head.kn y3.head.kc] 28)) := (Below.refl _ _).alloc (Nat.le_refl _) _
  have HB := hid (HB.out.trans (hb4.mono HB.out.size))
  have HBX := hid (HBX.out.below hb4)
  have HCE := hid ((HCE.out.below HBC.out).below hb4)
  have HY3 := hid (heap_new_at w3 #[.int .u8 y3.head.kind, .int .i64 y3.head.rho, .slice y3.head.ep y3.head.en y3.head.ec, .slice y3.head.kp y3.head.kn y3.head.kc] 28 _ rfl)
  have HLY3 := hid (LR.lies_below hb4 _ HLY3.out)
  have HRW3 := hid (HRW3.out.below hb4)
  obtain ⟨g3, hg3⟩ : ∃ g3, w3.heap.size = g3 := ⟨_, rfl⟩
  rw [hg3] at HY3 ⊢
  generalize w3.alloc (.cells #[.int .u8 y3.head.kind, .int .i64 y3.head.rho, .slice y3.head.ep y3.head.en y3.head.ec, .slice y3.head.kp y3.head.kn y3.head.kc] 28) = W5 at *
  clear hg3 hb4 HBC
  have hb6 : Below W5.heap.size W5 (W5.alloc (.cells #[.int .u8 t.head.kind, .int .u8 t.head.op, .int .i64 t.head.at_, .int .i64 t.head.n, .string t.head.name, .string t.head.arg, .string t.head.exn, .int .i64 t.head.rho, .slice t.head.rp t.head.rn t.head.rc, .slice t.head.ep t.head.en t.head.ec, .int .u8 t.head.ty.head.kind, .int .i64 t.head.ty.head.rho, .slice t.head.ty.head.ep t.head.ty.head.en t.head.ty.head.ec, .slice t.head.ty.head.kp t.head.ty.head.kn t.head.ty.head.kc, .int .u8 t.head.res.head.kind, .int .i64 t.head.res.head.rho, .slice t.head.res.head.ep t.head.res.head.en t.head.res.head.ec, .slice t.head.res.head.kp t.head.res.head.kn t.head.res.head.kc, .slice t.head.kp t.head.kn t.head.kc] 31)) := (Below.refl _ _).alloc (Nat.le_refl _) _
  have HR6 := hid (rowTA_made HCE.out.lies 31 _ rfl)
  have HB6 := hid (HB.out.trans (hb6.mono HB.out.size))
  have HBX6 := hid (HBX.out.below hb6)
  have HCE6 := hid (HCE.out.below hb6)
  have HY36 := hid ((hb6.block _ (lt_heap HY3.out)).trans HY3.out)
  have HLY36 := hid (LR.lies_below hb6 _ HLY3.out)
  have HRW36 := hid (HRW3.out.below hb6)
  have HLC : Hid (checkR (.node (mkA 17 0 rho (some ⟨W5.heap.size, 0, none⟩) 1 1) [t]) = checkA (wrapA rho (PA.er t))) := by
    show _ = _
    unfold checkR
    rw [region_may _ _ _ H1.out, HM.out, if_pos rfl, PA.er_node]
    rfl
  have HK5 := hid (check_Check_any (t := .node (mkA 17 0 rho (some ⟨W5.heap.size, 0, none⟩) 1 1) [t]) (mkA_lies (by omega) (by omega) ⟨by omega, by omega⟩ HII.out HR6.out) (SmallNs.node (mkA_small ..) (fun u hu => by rw [List.mem_singleton.1 hu]; exact HCE.out.small)) (by rw [Rose.size_node]; have := HCE.out.size; simp; omega) (HV.out.below HB6.out))
  clear hb6
  go_upto_region 7 with (first
    | (refine wpList_load_row rfl 31 _ rfl w.heap.size rfl 31 _ (0, 0) _ HBX.out.blk Tryz.underlying31 rfl (by kernel_rfl) ?_)
    | (go_at_call 12; refine (HK5.out).mono ?_; rw [HLC.out, HKK.out]; rintro e w5 ⟨he, hb⟩; obtain rfl := he; have HB := hid (HB6.out.trans (hb.mono HB6.out.size)); have HBX := hid (HBX6.out.below hb); have HBC := hid hb; clear hb)
    | (refine wpList_store_row rfl 28 _ _ rfl _ #[.int .u8 0, .int .i64 0, .slice none 0 0, .slice none 0 0] rfl rfl 28 _ (heap_new_at _ _ _ _ (by simp)) (by kernel_rfl) rfl (by simp [Value.oneCell']) ?_; rw [setRow_alloc_at _ _ _ _ _ (by simp)]))
  have hb7 : Below w5.heap.size w5 (w5.alloc (.cells #[.int .u8 0, .int .i64 0, .slice none 0 0, .slice none 0 0] 28)) := (Below.refl _ _).alloc (Nat.le_refl _) _
  have HB := hid (HB.out.trans (hb7.mono HB.out.size))
  have HBX := hid (HBX.out.below hb7)
  have HCE := hid ((HCE6.out.below HBC.out).below hb7)
  have HY5 := hid (heap_new_at w5 #[.int .u8 0, .int .i64 0, .slice none 0 0, .slice none 0 0] 28 _ rfl)
  have HY3 := hid ((hb7.block _ (lt_heap ((HBC.out.block _ (lt_heap HY36.out)).trans HY36.out))).trans ((HBC.out.block _ (lt_heap HY36.out)).trans HY36.out))
  have HLY3 := hid (LR.lies_below hb7 _ (LR.lies_below HBC.out _ HLY36.out))
  have HRW3 := hid ((HRW36.out.below HBC.out).below hb7)
  obtain ⟨g5, hg5⟩ : ∃ g5, w5.heap.size = g5 := ⟨_, rfl⟩
  rw [hg5] at HY5 ⊢
  generalize w5.alloc (.cells #[.int .u8 0, .int .i64 0, .slice none 0 0, .slice none 0 0] 28) = W7 at *
  clear hg5 hb7 HBC HBX6 HK3 HK5
  go_upto_region 8 with (first
    | (refine wpList_load_row rfl 31 _ rfl w.heap.size rfl 31 _ (0, 0) _ HBX.out.blk Tryz.underlying31 rfl (by kernel_rfl) ?_)
    | (go_at_call 22; refine (ref13_Binds_any HCE.out.lies HCE.out.small (Nat.le_trans HCE.out.size (by omega))).mono ?_; rintro e w8 ⟨p8, n8, c8, rfl, hrow8, hb⟩; have HR8 := hid hrow8; have HB := hid (HB.out.trans (hb.mono HB.out.size)); have HY3 := hid ((hb.block _ (lt_heap HY3.out)).trans HY3.out); have HY5 := hid ((hb.block _ (lt_heap HY5.out)).trans HY5.out); have HLY3 := hid (LR.lies_below hb _ HLY3.out); have HRW3 := hid (HRW3.out.below hb); clear hb hrow8)
    | (go_at_call 21; refine (ref_Ints_b HBI.out HR8.out).mono ?_; rintro e w9 ⟨rfl, hb⟩; have HB := hid (HB.out.trans (hb.mono HB.out.size)); have HY3 := hid ((hb.block _ (lt_heap HY3.out)).trans HY3.out); have HY5 := hid ((hb.block _ (lt_heap HY5.out)).trans HY5.out); have HLY3 := hid (LR.lies_below hb _ HLY3.out); have HRW3 := hid (HRW3.out.below hb); clear hb))
  go_wp2_with (first
    | (go_at_call 11; refine (awake15_any (HV.out.below HB.out)).mono ?_; rintro e w9 ⟨rfl, hb⟩; have HB := hid (HB.out.trans (hb.mono HB.out.size)); clear hb))
  go_ret
  exact ⟨rfl, HB.out⟩
set_option maxHeartbeats 8000000 in
theorem wraps_free {w : World} (hv : Vr w) (t : PA) (hl : LA.lies w t) (rho : Int) (hi : inI rho) (h1 : 1 ≤ rho) {x : TE} (hr : checkR t = .ok x) (hb : inN (bindsT (PA.er t)) rho = false) (hk : SmallNs t → checkA (wrapA rho (PA.er t)) = .ok x) :
    Calls Tryz.prog 6 #[aggT t.head, .int .i64 rho] w fun e w' => e = .returned (.bool true) ∧ Below w.heap.size w w' := by
  have HB := hid ((Below.refl w.heap.size w).alloc (Nat.le_refl _) (boxA t.head))
  have HBX := hid (boxA_new w t.head)
  have HV := hid hv
  have HII := hid hi
  have HGR := hid (great_any t (LA.lies_below HB.out t hl))
  have HR := hid hr
  have HKK := hid hk
  have HBI := hid hb
  have e1 : decide (rho < 1) = false := by simp; omega
  have H1 := hid h1
  have hm : mayA t = true := by
    unfold checkR at hr
    cases h : mayA t with
    | true => rfl
    | false => rw [h, if_neg Bool.false_ne_true] at hr; cases hr
  have HM := hid hm
  clear hl hv hi hr h1 hk hb hm
  go_enter Tryz.func6, Tryz.ntmps6
  go_upto_region 1 with fail
  go_upto_region 3 with (first
    | (refine wpList_load_row rfl 31 _ rfl w.heap.size rfl 31 _ (0, 0) _ HBX.out.blk Tryz.underlying31 rfl (by kernel_rfl) ?_)
    | (go_at_call 10; refine HGR.out.mono ?_; rintro e w8 ⟨⟨r, rfl, hgr⟩, hb⟩; have HB := hid (HB.out.trans (hb.mono HB.out.size)); have HBX := hid (HBX.out.below hb); have HBG := hid hb; clear hb; have HC0 := hid hgr; clear hgr; cases r; have HCE := hid ((HC0.out (by first | trivial | rfl)).below HBG.out))
    | (go_at_call 11; refine (awake15_any (HV.out.below HB.out)).mono ?_; rintro e w9 ⟨rfl, hb⟩; have HB := hid (HB.out.trans (hb.mono HB.out.size)); clear hb))
  all_goals (try (go_ret; exact ⟨rfl, HB.out⟩))
  have HK3 := hid (check_Check_any (t := t) HCE.out.lies HCE.out.small (Nat.le_trans HCE.out.size (by omega)) (HV.out.below HB.out))
  have hkz := HKK.out HCE.out.small
  have HKK := hid hkz
  clear hkz
  go_upto_region 6 with (first
    | (refine wpList_load_row rfl 31 _ rfl w.heap.size rfl 31 _ (0, 0) _ HBX.out.blk Tryz.underlying31 rfl (by kernel_rfl) ?_)
    | (go_at_call 12; refine (HK3.out).mono ?_; rw [HR.out]; rintro e w3 ⟨⟨y3, q3, m3, c3, rfl, hly, hey, hrow⟩, hb⟩; have HLY3 := hid hly; have HEY3 := hid hey; have HRW3 := hid hrow; clear hly hey hrow; have HB := hid (HB.out.trans (hb.mono HB.out.size)); have HBX := hid (HBX.out.below hb); have HBC := hid hb; clear hb)
    | (refine wpList_store_row rfl 28 _ _ rfl _ #[.int .u8 y3.head.kind, .int .i64 y3.head.rho, .slice y3.head.ep y3.head.en y3.head.ec, .slice y3.head.kp y3.head.kn y3.head.kc] rfl rfl 28 _ (heap_new_at _ _ _ _ (by simp)) (by kernel_rfl) rfl (by simp [Value.oneCell']) ?_; rw [setRow_alloc_at _ _ _ _ _ (by simp)]))
  have hb4 : Below w3.heap.size w3 (w3.alloc (.cells #[.int .u8 y3.head.kind, .int .i64 y3.head.rho, .slice y3.head.ep y3.head.en y3.head.ec, .slice y3.head.kp y3.head.kn y3.head.kc] 28)) := (Below.refl _ _).alloc (Nat.le_refl _) _
  have HB := hid (HB.out.trans (hb4.mono HB.out.size))
  have HBX := hid (HBX.out.below hb4)
  have HCE := hid ((HCE.out.below HBC.out).below hb4)
  have HY3 := hid (heap_new_at w3 #[.int .u8 y3.head.kind, .int .i64 y3.head.rho, .slice y3.head.ep y3.head.en y3.head.ec, .slice y3.head.kp y3.head.kn y3.head.kc] 28 _ rfl)
  have HLY3 := hid (LR.lies_below hb4 _ HLY3.out)
  have HRW3 := hid (HRW3.out.below hb4)
  obtain ⟨g3, hg3⟩ : ∃ g3, w3.heap.size = g3 := ⟨_, rfl⟩
  rw [hg3] at HY3 ⊢
  generalize w3.alloc (.cells #[.int .u8 y3.head.kind, .int .i64 y3.head.rho, .slice y3.head.ep y3.head.en y3.head.ec, .slice y3.head.kp y3.head.kn y3.head.kc] 28) = W5 at *
  clear hg3 hb4 HBC
  have hb6 : Below W5.heap.size W5 (W5.alloc (.cells #[.int .u8 t.head.kind, .int .u8 t.head.op, .int .i64 t.head.at_, .int .i64 t.head.n, .string t.head.name, .string t.head.arg, .string t.head.exn, .int .i64 t.head.rho, .slice t.head.rp t.head.rn t.head.rc, .slice t.head.ep t.head.en t.head.ec, .int .u8 t.head.ty.head.kind, .int .i64 t.head.ty.head.rho, .slice t.head.ty.head.ep t.head.ty.head.en t.head.ty.head.ec, .slice t.head.ty.head.kp t.head.ty.head.kn t.head.ty.head.kc, .int .u8 t.head.res.head.kind, .int .i64 t.head.res.head.rho, .slice t.head.res.head.ep t.head.res.head.en t.head.res.head.ec, .slice t.head.res.head.kp t.head.res.head.kn t.head.res.head.kc, .slice t.head.kp t.head.kn t.head.kc] 31)) := (Below.refl _ _).alloc (Nat.le_refl _) _
  have HR6 := hid (rowTA_made HCE.out.lies 31 _ rfl)
  have HB6 := hid (HB.out.trans (hb6.mono HB.out.size))
  have HBX6 := hid (HBX.out.below hb6)
  have HCE6 := hid (HCE.out.below hb6)
  have HY36 := hid ((hb6.block _ (lt_heap HY3.out)).trans HY3.out)
  have HLY36 := hid (LR.lies_below hb6 _ HLY3.out)
  have HRW36 := hid (HRW3.out.below hb6)
  have HLC : Hid (checkR (.node (mkA 17 0 rho (some ⟨W5.heap.size, 0, none⟩) 1 1) [t]) = checkA (wrapA rho (PA.er t))) := by
    show _ = _
    unfold checkR
    rw [region_may _ _ _ H1.out, HM.out, if_pos rfl, PA.er_node]
    rfl
  have HK5 := hid (check_Check_any (t := .node (mkA 17 0 rho (some ⟨W5.heap.size, 0, none⟩) 1 1) [t]) (mkA_lies (by omega) (by omega) ⟨by omega, by omega⟩ HII.out HR6.out) (SmallNs.node (mkA_small ..) (fun u hu => by rw [List.mem_singleton.1 hu]; exact HCE.out.small)) (by rw [Rose.size_node]; have := HCE.out.size; simp; omega) (HV.out.below HB6.out))
  clear hb6
  go_upto_region 7 with (first
    | (refine wpList_load_row rfl 31 _ rfl w.heap.size rfl 31 _ (0, 0) _ HBX.out.blk Tryz.underlying31 rfl (by kernel_rfl) ?_)
    | (go_at_call 12; refine (HK5.out).mono ?_; rw [HLC.out, HKK.out]; rintro e w5 ⟨⟨y5, q5, m5, c5, rfl, hly, hey, hrow⟩, hb⟩; have HLY5 := hid hly; have HEY5 := hid hey; have HRW5 := hid hrow; clear hly hey hrow; have HB := hid (HB6.out.trans (hb.mono HB6.out.size)); have HBX := hid (HBX6.out.below hb); have HBC := hid hb; clear hb)
    | (refine wpList_store_row rfl 28 _ _ rfl _ #[.int .u8 y5.head.kind, .int .i64 y5.head.rho, .slice y5.head.ep y5.head.en y5.head.ec, .slice y5.head.kp y5.head.kn y5.head.kc] rfl rfl 28 _ (heap_new_at _ _ _ _ (by simp)) (by kernel_rfl) rfl (by simp [Value.oneCell']) ?_; rw [setRow_alloc_at _ _ _ _ _ (by simp)]))
  have hb7 : Below w5.heap.size w5 (w5.alloc (.cells #[.int .u8 y5.head.kind, .int .i64 y5.head.rho, .slice y5.head.ep y5.head.en y5.head.ec, .slice y5.head.kp y5.head.kn y5.head.kc] 28)) := (Below.refl _ _).alloc (Nat.le_refl _) _
  have HB := hid (HB.out.trans (hb7.mono HB.out.size))
  have HBX := hid (HBX.out.below hb7)
  have HCE := hid ((HCE6.out.below HBC.out).below hb7)
  have HY5 := hid (heap_new_at w5 #[.int .u8 y5.head.kind, .int .i64 y5.head.rho, .slice y5.head.ep y5.head.en y5.head.ec, .slice y5.head.kp y5.head.kn y5.head.kc] 28 _ rfl)
  have HY3 := hid ((hb7.block _ (lt_heap ((HBC.out.block _ (lt_heap HY36.out)).trans HY36.out))).trans ((HBC.out.block _ (lt_heap HY36.out)).trans HY36.out))
  have HLY3 := hid (LR.lies_below hb7 _ (LR.lies_below HBC.out _ HLY36.out))
  have HRW3 := hid ((HRW36.out.below HBC.out).below hb7)
  have HLY5 := hid (LR.lies_below hb7 _ HLY5.out)
  have HRW5 := hid (HRW5.out.below hb7)
  have HSM := hid (same_er (HEY3.out.trans HEY5.out.symm))
  obtain ⟨g5, hg5⟩ : ∃ g5, w5.heap.size = g5 := ⟨_, rfl⟩
  rw [hg5] at HY5 ⊢
  generalize w5.alloc (.cells #[.int .u8 y5.head.kind, .int .i64 y5.head.rho, .slice y5.head.ep y5.head.en y5.head.ec, .slice y5.head.kp y5.head.kn y5.head.kc] 28) = W7 at *
  clear hg5 hb7 HBC HBX6 HK3 HK5
  go_upto_region 9 with (first
    | (refine wpList_load_row rfl 31 _ rfl w.heap.size rfl 31 _ (0, 0) _ HBX.out.blk Tryz.underlying31 rfl (by kernel_rfl) ?_)
    | (go_at_call 22; refine (ref13_Binds_any HCE.out.lies HCE.out.small (Nat.le_trans HCE.out.size (by omega))).mono ?_; rintro e w8 ⟨p8, n8, c8, rfl, hrow8, hb⟩; have HR8 := hid hrow8; have HB := hid (HB.out.trans (hb.mono HB.out.size)); have HY3 := hid ((hb.block _ (lt_heap HY3.out)).trans HY3.out); have HY5 := hid ((hb.block _ (lt_heap HY5.out)).trans HY5.out); have HLY3 := hid (LR.lies_below hb _ HLY3.out); have HRW3 := hid (HRW3.out.below hb); have HLY5 := hid (LR.lies_below hb _ HLY5.out); have HRW5 := hid (HRW5.out.below hb); clear hb hrow8)
    | (go_at_call 21; refine (ref_Ints_b HBI.out HR8.out).mono ?_; rintro e w9 ⟨rfl, hb⟩; have HB := hid (HB.out.trans (hb.mono HB.out.size)); have HY3 := hid ((hb.block _ (lt_heap HY3.out)).trans HY3.out); have HY5 := hid ((hb.block _ (lt_heap HY5.out)).trans HY5.out); have HLY3 := hid (LR.lies_below hb _ HLY3.out); have HRW3 := hid (HRW3.out.below hb); have HLY5 := hid (LR.lies_below hb _ HLY5.out); have HRW5 := hid (HRW5.out.below hb); clear hb))
  go_wp2_with (first
    | (refine wpList_load_midG (by rfl) 28 _ rfl g3 0 rfl [.int .u8 y3.head.kind, .int .i64 y3.head.rho, .slice y3.head.ep y3.head.en y3.head.ec, .slice y3.head.kp y3.head.kn y3.head.kc] _ (r4 HY3.out) Tryz.underlying28 rfl (by kernel_rfl) ?_)
    | (refine wpList_load_midG (by rfl) 28 _ rfl g5 0 rfl [.int .u8 y5.head.kind, .int .i64 y5.head.rho, .slice y5.head.ep y5.head.en y5.head.ec, .slice y5.head.kp y5.head.kn y5.head.kc] _ (r4 HY5.out) Tryz.underlying28 rfl (by kernel_rfl) ?_)
    | (go_at_call 13; refine (rsameAt_any y3 y5 _ HLY3.out HLY5.out true HSM.out).mono ?_; rintro e w6 ⟨rfl, hb⟩; have HB := hid (HB.out.trans (hb.mono HB.out.size)); have HRW3 := hid (HRW3.out.below hb); have HRW5 := hid (HRW5.out.below hb); clear hb)
    | (go_at_call 14; refine (ref_Equal_rowC HRW3.out HRW5.out).mono ?_; rintro e w6 ⟨rfl, hb⟩; have HB := hid (HB.out.trans (hb.mono HB.out.size)); clear hb)
    | (go_at_call 11; refine (awake15_any (HV.out.below HB.out)).mono ?_; rintro e w9 ⟨rfl, hb⟩; have HB := hid (HB.out.trans (hb.mono HB.out.size)); clear hb))
  go_ret
  exact ⟨rfl, HB.out⟩
theorem inI_wf {r : Int} (h : (Lit.int .i64 r).wf = true) : inI r := by
  have e1 : IntKind.min .i64 = -9223372036854775808 := by decide
  have e2 : IntKind.max .i64 = 9223372036854775807 := by decide
  simp only [Lit.wf, e1, e2, Bool.and_eq_true, decide_eq_true_eq] at h
  exact h
theorem checkWraps_walk {w : World} (hv : Vr w) (t : PA) (hl : LA.lies w t) (rho : Int) (hw : (Lit.int .i64 rho).wf = true) :
    Calls Tryz.prog 6 #[aggT t.head, .int .i64 rho] w fun e w' => e = .returned (.bool true) ∧ Below w.heap.size w w' := by
  have hi := inI_wf hw
  by_cases h1 : rho < 1
  · exact wraps_small hv t hl rho hi h1
  have h1' : 1 ≤ rho := by omega
  cases hr : checkR t with
  | error e => obtain ⟨z, no⟩ := e; exact wraps_err hv t hl rho hi h1' hr
  | ok x =>
    have hm : mayA t = true := by
      unfold checkR at hr
      cases h : mayA t with
      | true => rfl
      | false => rw [h, if_neg Bool.false_ne_true] at hr; cases hr
    have hc : checkA (PA.er t) = .ok x := by
      unfold checkR at hr
      rwa [hm, if_pos rfl] at hr
    cases hb : inN (bindsT (PA.er t)) rho with
    | true => exact wraps_bound' hv t hl rho hi h1' hr hb (fun hs => wraps_bound (good_of_may t hl hs hm) ((inN_mem' _ _).1 hb))
    | false => exact wraps_free hv t hl rho hi h1' hr hb (fun hs => wraps_plain (good_of_may t hl hs hm) h1' hc (fun h => by rw [(inN_mem' _ _).2 h] at hb; cases hb))
end
end Go.Proofs.YtkdjnegfnhldpaaGreatDoor
