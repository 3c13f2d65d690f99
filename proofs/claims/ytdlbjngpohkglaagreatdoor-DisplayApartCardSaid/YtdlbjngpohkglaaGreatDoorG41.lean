/- Part 41 of the texts: Lp. -/
import Derived.Test.YtdlbjngpohkglaaGreatDoorG33
import Derived.Test.YtdlbjngpohkglaaGreatDoorG40
section
set_option linter.unusedVariables false
set_option maxRecDepth 100000
set_option linter.unusedSimpArgs false
namespace Go.Proofs.YtdlbjngpohkglaaGreatDoor
open Go.RowKit

theorem wf_u8 {x : Int} (h : (Lit.int .u8 x).wf = true) : 0 ≤ x ∧ x ≤ 255 := by
  have := h
  simp [Lit.wf] at this
  exact this
theorem region_node (r : Int) (kp : Option Addr) (h1 : 1 ≤ r) : node13 (mkA 17 0 r kp 1 1) = true := by
  have e1 : decide (r < 0) = false := by simp; omega
  have e2 : (r == 0) = false := by simp; omega
  unfold node13
  show (!(!(headB _ 1) || decide (r < 0) || ((17 : Int) == 17 && (r == 0)) || _) && _ && _ && _ && _ && _) = true
  rw [e1, e2]
  kernel_rfl
theorem region_may (r : Int) (kp : Option Addr) (t : PA) (h1 : 1 ≤ r) : mayA (.node (mkA 17 0 r kp 1 1) [t]) = mayA t := by
  rw [mayA_node, region_node r kp h1]
  simp
theorem TEnv.region {w : World} {t : PA} (h : TEnv w t) (hz : t.size ≤ 999) (r : Int) (h1 : 1 ≤ r) (h2 : r ≤ 1000000) (e : TypeId) (gs : Nat) (hgs : w.heap.size = gs) :
    TEnv (w.alloc (.cells #[.int .u8 t.head.kind, .int .u8 t.head.op, .int .i64 t.head.at_, .int .i64 t.head.n, .string t.head.name, .string t.head.arg, .string t.head.exn, .int .i64 t.head.rho, .slice t.head.rp t.head.rn t.head.rc, .slice t.head.ep t.head.en t.head.ec, .int .u8 t.head.ty.head.kind, .int .i64 t.head.ty.head.rho, .slice t.head.ty.head.ep t.head.ty.head.en t.head.ty.head.ec, .slice t.head.ty.head.kp t.head.ty.head.kn t.head.ty.head.kc, .int .u8 t.head.res.head.kind, .int .i64 t.head.res.head.rho, .slice t.head.res.head.ep t.head.res.head.en t.head.res.head.ec, .slice t.head.res.head.kp t.head.res.head.kn t.head.res.head.kc, .slice t.head.kp t.head.kn t.head.kc] e)) (.node (mkA 17 0 r (some ⟨gs, 0, none⟩) 1 1) [t]) := by
  subst hgs
  have hb : Below w.heap.size w (w.alloc (.cells #[.int .u8 t.head.kind, .int .u8 t.head.op, .int .i64 t.head.at_, .int .i64 t.head.n, .string t.head.name, .string t.head.arg, .string t.head.exn, .int .i64 t.head.rho, .slice t.head.rp t.head.rn t.head.rc, .slice t.head.ep t.head.en t.head.ec, .int .u8 t.head.ty.head.kind, .int .i64 t.head.ty.head.rho, .slice t.head.ty.head.ep t.head.ty.head.en t.head.ty.head.ec, .slice t.head.ty.head.kp t.head.ty.head.kn t.head.ty.head.kc, .int .u8 t.head.res.head.kind, .int .i64 t.head.res.head.rho, .slice t.head.res.head.ep t.head.res.head.en t.head.res.head.ec, .slice t.head.res.head.kp t.head.res.head.kn t.head.res.head.kc, .slice t.head.kp t.head.kn t.head.kc] e)) := (Below.refl _ _).alloc (Nat.le_refl _) _
  refine ⟨mkA_lies (by omega) (by omega) ⟨by omega, by omega⟩ ⟨by omega, by omega⟩ (rowTA_made h.lies e _ rfl), SmallNs.node (mkA_small ..) (fun x hx => by rw [List.mem_singleton.1 hx]; exact h.small), ?_, h.vr.below hb, h.tab.below hb⟩
  rw [Rose.size_node]
  simp
  omega
set_option maxHeartbeats 4000000 in
theorem displayParts_walk {w : World} (hv : Vr w) (ht : Tab w) (t : PA) (hl : LA.lies w t) (rho : Int) (hrr : (Lit.int .u8 rho).wf = true) :
    Calls Tryz.prog 4 #[aggT t.head, .int .u8 rho] w fun e w' => e = .returned (.bool true) ∧ Below w.heap.size w w' := by
  have hrr' := wf_u8 hrr
  obtain ⟨h0, h1⟩ := hrr'
  have HB := Lib.hid ((Below.refl w.heap.size w).alloc (Nat.le_refl _) (boxA t.head))
  have HBX := Lib.hid (boxA_new w t.head)
  have HV := Lib.hid hv
  have HT := Lib.hid ht
  have HL := Lib.hid (fun (W : World) (h : Below w.heap.size w W) => LA.lies_below h t hl)
  have HG := Lib.hid (ref13_Great_any (LA.lies_below HB.out t hl))
  clear hl hv ht
  have hw1 : IntKind.i64.wrap rho = rho := IntWalk.i64_in _ (by omega)
  have hw2 : IntKind.i64.wrap (1 + rho) = 1 + rho := IntWalk.i64_in _ (by omega)
  by_cases hgt : t.size ≤ 300
  · have hgb : decide ((t.size : Int) > 300) = false := by simp; omega
    have HGT := Lib.hid hgt
    clear hgt
    go_enter Tryz.func4, Tryz.ntmps4
    go_upto_region 1 with fail
    go_upto_region 4 with (first
      | (refine wpList_load_row rfl 31 _ rfl w.heap.size rfl 31 _ (0, 0) _ HBX.out.blk Tryz.underlying31 rfl (by kernel_rfl) ?_)
      | (refine wpList_load_midG (by rfl) 31 _ rfl w.heap.size 0 rfl [.int .u8 t.head.kind, .int .u8 t.head.op, .int .i64 t.head.at_, .int .i64 t.head.n, .string t.head.name, .string t.head.arg, .string t.head.exn, .int .i64 t.head.rho, .slice t.head.rp t.head.rn t.head.rc, .slice t.head.ep t.head.en t.head.ec, .int .u8 t.head.ty.head.kind, .int .i64 t.head.ty.head.rho, .slice t.head.ty.head.ep t.head.ty.head.en t.head.ty.head.ec, .slice t.head.ty.head.kp t.head.ty.head.kn t.head.ty.head.kc, .int .u8 t.head.res.head.kind, .int .i64 t.head.res.head.rho, .slice t.head.res.head.ep t.head.res.head.en t.head.res.head.ec, .slice t.head.res.head.kp t.head.res.head.kn t.head.res.head.kc, .slice t.head.kp t.head.kn t.head.kc] _ HBX.out.range Tryz.underlying31 rfl (by kernel_rfl) ?_)
      | (go_at_call 10; refine (awake_any (HV.out.below HB.out) (HT.out.below HB.out)).mono ?_; rintro e w9 ⟨rfl, hb⟩; have HB := Lib.hid (HB.out.trans (hb.mono HB.out.size)); clear hb)
      | (go_at_call 8; refine HG.out.mono ?_; rintro e w8 ⟨⟨r, rfl, hgr⟩, hb⟩; have HB := Lib.hid (HB.out.trans (hb.mono HB.out.size)); have HBX := Lib.hid (HBX.out.below hb); clear hb; have HGR := Lib.hid hgr; clear hgr; cases r; have HTE := Lib.hid (show TEnv w8 t from ⟨HL.out _ HB.out, (HGR.out rfl).2, Nat.le_trans (HGR.out rfl).1 (by omega), HV.out.below HB.out, HT.out.below HB.out⟩))
      | (go_at_call 14; refine (allAt_any t _ HTE.out.lies HTE.out.size).mono ?_; rintro e w8 ⟨⟨p, c, rfl, hown⟩, hb⟩; clear hown; have HB := Lib.hid (HB.out.trans (hb.mono HB.out.size)); have HBX := Lib.hid (HBX.out.below hb); have HTE := Lib.hid (HTE.out.below hb); clear hb)
      | (go_at_call 9; refine (ref13_May_any t HTE.out.lies HTE.out.size).mono ?_; rintro e w8 ⟨rfl, hb⟩; have HB := Lib.hid (HB.out.trans (hb.mono HB.out.size)); have HBX := Lib.hid (HBX.out.below hb); have HTE := Lib.hid (HTE.out.below hb); clear hb; cases hm : mayA t))
    all_goals (try (go_ret; exact ⟨rfl, HB.out⟩))
    have htr : termR t = .tuple #[.string (textOf t), .int .i64 0] := by unfold termR; rw [hm]; rfl
    have HTR := Lib.hid htr
    have HM := Lib.hid hm
    clear htr hm
    go_upto_region 5 with (first
      | (refine wpList_load_row rfl 31 _ rfl w.heap.size rfl 31 _ (0, 0) _ HBX.out.blk Tryz.underlying31 rfl (by kernel_rfl) ?_)
      | (go_at_call 11; refine (Term_any HTE.out).mono ?_; rw [HTR.out]; rintro e w8 ⟨rfl, hb⟩; have HB := Lib.hid (HB.out.trans (hb.mono HB.out.size)); have HBX := Lib.hid (HBX.out.below hb); have HTE := Lib.hid (HTE.out.below hb); clear hb))
    have HTE5 := Lib.hid (HTE.out.region (by have := HGT.out; omega) (1 + rho) (by omega) (by omega) 31 _ rfl)
    have HB5 := Lib.hid (HB.out.alloc HB.out.size (.cells #[.int .u8 t.head.kind, .int .u8 t.head.op, .int .i64 t.head.at_, .int .i64 t.head.n, .string t.head.name, .string t.head.arg, .string t.head.exn, .int .i64 t.head.rho, .slice t.head.rp t.head.rn t.head.rc, .slice t.head.ep t.head.en t.head.ec, .int .u8 t.head.ty.head.kind, .int .i64 t.head.ty.head.rho, .slice t.head.ty.head.ep t.head.ty.head.en t.head.ty.head.ec, .slice t.head.ty.head.kp t.head.ty.head.kn t.head.ty.head.kc, .int .u8 t.head.res.head.kind, .int .i64 t.head.res.head.rho, .slice t.head.res.head.ep t.head.res.head.en t.head.res.head.ec, .slice t.head.res.head.kp t.head.res.head.kn t.head.res.head.kc, .slice t.head.kp t.head.kn t.head.kc] 31))
    have HTM5 := Lib.hid (Term_any HTE5.out)
    have htr5 : ∀ g : Nat, termR (.node (mkA 17 0 (1 + rho) (some ⟨g, 0, none⟩) 1 1) [t]) = .tuple #[.string (⟨#[40, 32, 114, 101, 103, 105, 111, 110, 32]⟩ ++ decB (1 + rho) ++ ⟨#[32, 105, 110, 32]⟩ ++ textOf t ++ ⟨#[32, 41]⟩), .int .i64 0] := by
      intro g
      unfold termR
      rw [region_may _ _ _ (by omega), HM.out, region_text _ _ rfl]; rfl
    rw [htr5] at HTM5
    clear htr5
    have hdz := decB_size (1 + rho) (by omega) (by omega)
    have htz : (textOf t).size ≤ 10000000000 := Nat.le_trans (joinB_lens _) (HTE.out.len HM.out)
    have n1 : ¬ 9223372036854775807 < 9 + (decB (1 + rho)).size := by omega
    have n2 : ¬ 9223372036854775807 < 9 + (decB (1 + rho)).size + 4 := by omega
    have n3 : ¬ 9223372036854775807 < 9 + (decB (1 + rho)).size + 4 + (textOf t).size := by omega
    have n4 : ¬ 9223372036854775807 < 9 + (decB (1 + rho)).size + 4 + (textOf t).size + 2 := by omega
    clear hdz htz
    go_wp2_with (first
      | (refine wpList_load_row rfl 31 _ rfl w.heap.size rfl 31 _ (0, 0) _ HBX.out.blk Tryz.underlying31 rfl (by kernel_rfl) ?_)
      | (go_at_call 11; refine HTM5.out.mono ?_; rintro e w8 ⟨rfl, hb⟩; have HB := Lib.hid (HB5.out.trans (hb.mono HB5.out.size)); clear hb)
      | (go_at_call 15; refine (ref_Digits_pos (r := 1 + rho) (by omega) (by omega) _).mono ?_; rintro e w8 ⟨rfl, hb⟩; have HB := Lib.hid (HB.out.trans (hb.mono HB.out.size)); clear hb)
      | (go_at_call 10; refine (awake_any (HV.out.below HB.out) (HT.out.below HB.out)).mono ?_; rintro e w9 ⟨rfl, hb⟩; have HB := Lib.hid (HB.out.trans (hb.mono HB.out.size)); clear hb))
    all_goals (
      go_ret
      exact ⟨rfl, HB.out⟩)
  · have hgb : decide ((t.size : Int) > 300) = true := by simp; omega
    clear hgt
    go_enter Tryz.func4, Tryz.ntmps4
    go_upto_region 1 with fail
    go_upto_region 4 with (first
      | (refine wpList_load_row rfl 31 _ rfl w.heap.size rfl 31 _ (0, 0) _ HBX.out.blk Tryz.underlying31 rfl (by kernel_rfl) ?_)
      | (refine wpList_load_midG (by rfl) 31 _ rfl w.heap.size 0 rfl [.int .u8 t.head.kind, .int .u8 t.head.op, .int .i64 t.head.at_, .int .i64 t.head.n, .string t.head.name, .string t.head.arg, .string t.head.exn, .int .i64 t.head.rho, .slice t.head.rp t.head.rn t.head.rc, .slice t.head.ep t.head.en t.head.ec, .int .u8 t.head.ty.head.kind, .int .i64 t.head.ty.head.rho, .slice t.head.ty.head.ep t.head.ty.head.en t.head.ty.head.ec, .slice t.head.ty.head.kp t.head.ty.head.kn t.head.ty.head.kc, .int .u8 t.head.res.head.kind, .int .i64 t.head.res.head.rho, .slice t.head.res.head.ep t.head.res.head.en t.head.res.head.ec, .slice t.head.res.head.kp t.head.res.head.kn t.head.res.head.kc, .slice t.head.kp t.head.kn t.head.kc] _ HBX.out.range Tryz.underlying31 rfl (by kernel_rfl) ?_)
      | (go_at_call 10; refine (awake_any (HV.out.below HB.out) (HT.out.below HB.out)).mono ?_; rintro e w9 ⟨rfl, hb⟩; have HB := Lib.hid (HB.out.trans (hb.mono HB.out.size)); clear hb)
      | (go_at_call 8; refine HG.out.mono ?_; rintro e w8 ⟨⟨r, rfl, hgr⟩, hb⟩; have HB := Lib.hid (HB.out.trans (hb.mono HB.out.size)); have HBX := Lib.hid (HBX.out.below hb); clear hb; have HGR := Lib.hid hgr; clear hgr; cases r; have HTE := Lib.hid (show TEnv w8 t from ⟨HL.out _ HB.out, (HGR.out rfl).2, Nat.le_trans (HGR.out rfl).1 (by omega), HV.out.below HB.out, HT.out.below HB.out⟩))
      | (go_at_call 14; refine (allAt_any t _ HTE.out.lies HTE.out.size).mono ?_; rintro e w8 ⟨⟨p, c, rfl, hown⟩, hb⟩; clear hown; have HB := Lib.hid (HB.out.trans (hb.mono HB.out.size)); have HBX := Lib.hid (HBX.out.below hb); have HTE := Lib.hid (HTE.out.below hb); clear hb)
      | (go_at_call 9; refine (ref13_May_any t HTE.out.lies HTE.out.size).mono ?_; rintro e w8 ⟨rfl, hb⟩; have HB := Lib.hid (HB.out.trans (hb.mono HB.out.size)); have HBX := Lib.hid (HBX.out.below hb); have HTE := Lib.hid (HTE.out.below hb); clear hb; cases hm : mayA t))
    all_goals (
      go_ret
      exact ⟨rfl, HB.out⟩)
theorem vr_of {W : World} (h : W.ShapedOpen Tryz.prog) : Vr W := by
  obtain ⟨m, h⟩ := Tryz.laysM146.s1_3 W h
  exact ⟨m, h⟩
end Go.Proofs.YtdlbjngpohkglaaGreatDoor
end
