/- Part 30: Rq. -/
import Derived.Test.YtkdjnegfnhldpaaGreatDoorH28
import Derived.Test.YtkdjnegfnhldpaaGreatDoorH01
set_option linter.unusedVariables false
set_option maxRecDepth 100000
set_option linter.unusedSimpArgs false
namespace Go.Proofs.YtkdjnegfnhldpaaGreatDoor
open Go.Lib (hid)
section
open Go.RowKit
set_option maxHeartbeats 8000000 in
theorem rule_ite {w : World} {S : Nat → Prop} {a : AH} {b o c : Nat} {x y z : RV} (h : RlIn w S a (some ⟨b, o, none⟩) 3 c [x, y, z]) (hk : a.kind = 14) : Calls Tryz.prog 99 #[aggT a, .slice (some ⟨b, o, none⟩) 3 c] w (OutC w S (ruleP a.plain (erL [x, y, z]))) := by
  have HX := hid (rls_new w a)
  have HH := hid h
  have hsum := h.sum
  have e3 : (a.kind == 3) = false := by simp [hk]
  have e4 : (a.kind == 4) = false := by simp [hk]
  have e5 : (a.kind == 5) = false := by simp [hk]
  have e6 : (a.kind == 6) = false := by simp [hk]
  have e7 : (a.kind == 7) = false := by simp [hk]
  have e8 : (a.kind == 8) = false := by simp [hk]
  have e10 : (a.kind == 10) = false := by simp [hk]
  have e9 : (a.kind == 9) = false := by simp [hk]
  have e14 : (a.kind == 14) = true := by simp [hk]
  have hc0 := HX.out.box.c 0 _ rfl
  have HRU : Hid (ruleP a.plain (erL [x, y, z]) = mustP ((x.ty.head.kind == 1) && sameP y.ty z.ty) a.plain 5 (.ok (y.ty.er, allE (erL [x, y, z]) []))) := by
    show _ = _
    unfold ruleP
    simp [show a.plain.kind = 14 from hk, erL, ← isK_er, er_rho]
    try first | rfl | exact ⟨rfl, rfl⟩
  obtain ⟨u, hu⟩ : ∃ u, (x.ty.head.kind == 1) = u := ⟨_, rfl⟩
  obtain ⟨v, hv⟩ : ∃ v, sameP y.ty z.ty = v := ⟨_, rfl⟩
  rw [HRU.out, hu, hv]
  have HU : Hid ([x].all (fun r => r.ty.head.kind == 1) = u) := by show _ = _; rw [← hu]; simp
  have HV := hid hv
  clear hu hv
  clear h hk
  go_enter Tryz.func99, Tryz.ntmps99
  go_upto_region 23 with fail
  clear hc0 e3 e4 e5 e6 e7 e8 e10 e9 e14
  generalize (w.alloc (.cells #[.int .u8 a.kind, .int .u8 a.op, .int .i64 a.at_, .int .i64 a.n, .string a.name, .string a.arg, .string a.exn, .int .i64 a.rho, .slice a.rp a.rn a.rc, .slice a.ep a.en a.ec, .int .u8 a.ty.head.kind, .int .i64 a.ty.head.rho, .slice a.ty.head.ep a.ty.head.en a.ty.head.ec, .slice a.ty.head.kp a.ty.head.kn a.ty.head.kc, .int .u8 a.res.head.kind, .int .i64 a.res.head.rho, .slice a.res.head.ep a.res.head.en a.res.head.ec, .slice a.res.head.kp a.res.head.kn a.res.head.kc, .slice a.kp a.kn a.kc] 31)).alloc (.cells #[.int .u8 0, .int .i64 0, .slice none 0 0, .slice none 0 0, .slice none 0 0] 81) = W1 at *
  cases u
  · skip
    refine wp_region_held_drew (S := fun W' => RlS w a W') (by kernel_rfl) ?_ (fun hHeld => ?_)
    · exact HX.out.drew
    refine tk (i := 0) (oi := ⟨some 191, _, _, _, _, none⟩) (v := ?_) rfl (Or.inl ⟨by rfl, ?_⟩) ?_
    rotate_left; · intro w h; go_simp; try with_reducible rfl
    try simp only [Act.put, zA, zB, zC]
    refine tk (i := 1) (oi := ⟨some 192, _, _, _, _, none⟩) (v := ?_) rfl (Or.inl ⟨by rfl, ?_⟩) ?_
    rotate_left; · intro w h; go_simp; try with_reducible rfl
    try simp only [Act.put, zA, zB, zC]
    refine tk (i := 2) (oi := ⟨some 193, _, _, _, _, none⟩) (v := .agg ([.int .u8 x.ty.head.kind, .int .i64 x.ty.head.rho, .slice x.ty.head.ep x.ty.head.en x.ty.head.ec, .slice x.ty.head.kp x.ty.head.kn x.ty.head.kc, .slice x.ep x.en x.ec] : List Value).toArray) rfl (yieldsIf_load_mid (by rfl) 81 _ rfl b o rfl _ _ (fun W' hSw => rv_all0 (HH.out.res.row.below hSw.below)) Tryz.underlying81 rfl (by kernel_rfl)) ?_
    try simp only [Act.put, zA, zB, zC]
    refine tk (i := 16) (oi := ⟨some 207, _, _, _, _, none⟩) (v := .agg ([.int .u8 a.kind, .int .u8 a.op, .int .i64 a.at_, .int .i64 a.n, .string a.name, .string a.arg, .string a.exn, .int .i64 a.rho, .slice a.rp a.rn a.rc, .slice a.ep a.en a.ec, .int .u8 a.ty.head.kind, .int .i64 a.ty.head.rho, .slice a.ty.head.ep a.ty.head.en a.ty.head.ec, .slice a.ty.head.kp a.ty.head.kn a.ty.head.kc, .int .u8 a.res.head.kind, .int .i64 a.res.head.rho, .slice a.res.head.ep a.res.head.en a.res.head.ec, .slice a.res.head.kp a.res.head.kn a.res.head.kc, .slice a.kp a.kn a.kc] : List Value).toArray) rfl (yieldsIf_load_mid (by rfl) 31 _ rfl w.heap.size 0 rfl _ _ (fun W' hSw => hSw.box.range) Tryz.underlying31 rfl (by kernel_rfl)) ?_
    try simp only [Act.put, zA, zB, zC]
    refine wpAnyH_ready (rs := [3]) (by kernel_rfl) (by simp) ?_
    refine AllReadyH.cons (o := ⟨some 194, _, _, _, _, none⟩) rfl (fun K hK => ?_) AllReadyH.nil
    go_simp
    refine hK.out _ _ ?_ (fun hNew => ?_)
    · (try dsimp only); exact hHeld.alloc _
    clear hHeld hK K; have hHeld := hNew; clear hNew
    try simp only [Act.put, zA, zB, zC]
    refine wpAnyH_ready (rs := [4]) (by kernel_rfl) (by simp) ?_
    refine AllReadyH.cons (o := ⟨some 195, _, _, _, _, none⟩) rfl (fun K hK => ?_) AllReadyH.nil
    go_simp
    go_at_call 143
    refine (ints_is HU.out ((row_made encRV_len (by omega) W1 81 [x] 1 #[.int .u8 x.ty.head.kind, .int .i64 x.ty.head.rho, .slice x.ty.head.ep x.ty.head.en x.ty.head.ec, .slice x.ty.head.kp x.ty.head.kn x.ty.head.kc, .slice x.ep x.en x.ec] rfl rfl (by decide)).below (bel_drew _))).mono ?_
    rintro e w8 ⟨rfl, hb⟩
    try go_wp2_with fail
    refine hK.out _ _ ?_ (fun hNew => ?_)
    · (try dsimp only); exact hHeld.step hb
    clear hHeld hK K; have hHeld := hNew; clear hNew
    try simp only [Act.put, zA, zB, zC]
    refine tk (i := 5) (oi := ⟨some 196, _, _, _, _, none⟩) (v := ?_) rfl (Or.inl ⟨by rfl, ?_⟩) ?_
    rotate_left; · intro w h; go_simp; try with_reducible rfl
    try simp only [Act.put, zA, zB, zC]
    refine tk (i := 6) (oi := ⟨some 197, _, _, _, _, some (5, true)⟩) (v := undef) rfl (Or.inr ⟨by rfl, rfl⟩) ?_
    try simp only [Act.put, zA, zB, zC]
    refine tk (i := 7) (oi := ⟨some 198, _, _, _, _, some (5, true)⟩) (v := undef) rfl (Or.inr ⟨by rfl, rfl⟩) ?_
    try simp only [Act.put, zA, zB, zC]
    refine tk (i := 8) (oi := ⟨some 199, _, _, _, _, some (5, true)⟩) (v := undef) rfl (Or.inr ⟨by rfl, rfl⟩) ?_
    try simp only [Act.put, zA, zB, zC]
    refine tk (i := 9) (oi := ⟨some 200, _, _, _, _, some (5, true)⟩) (v := undef) rfl (Or.inr ⟨by rfl, rfl⟩) ?_
    try simp only [Act.put, zA, zB, zC]
    refine tk (i := 10) (oi := ⟨some 201, _, _, _, _, some (5, true)⟩) (v := undef) rfl (Or.inr ⟨by rfl, rfl⟩) ?_
    try simp only [Act.put, zA, zB, zC]
    refine tk (i := 11) (oi := ⟨some 202, _, _, _, _, some (5, true)⟩) (v := undef) rfl (Or.inr ⟨by rfl, rfl⟩) ?_
    try simp only [Act.put, zA, zB, zC]
    refine tk (i := 12) (oi := ⟨some 203, _, _, _, _, some (5, true)⟩) (v := undef) rfl (Or.inr ⟨by rfl, rfl⟩) ?_
    try simp only [Act.put, zA, zB, zC]
    refine tk (i := 13) (oi := ⟨some 204, _, _, _, _, some (5, true)⟩) (v := undef) rfl (Or.inr ⟨by rfl, rfl⟩) ?_
    try simp only [Act.put, zA, zB, zC]
    refine wpAnyH_ready (rs := [14]) (by kernel_rfl) (by simp) ?_
    refine AllReadyH.cons (o := ⟨some 205, _, _, _, _, some (5, true)⟩) rfl (fun K hK => ?_) AllReadyH.nil
    go_simp
    refine hK.out _ _ ?_ (fun hNew => ?_)
    · (try dsimp only); exact hHeld
    clear hHeld hK K; have hHeld := hNew; clear hNew
    try simp only [Act.put, zA, zB, zC]
    refine tk (i := 15) (oi := ⟨some 206, _, _, _, _, none⟩) (v := ?_) rfl (Or.inl ⟨by rfl, ?_⟩) ?_
    rotate_left; · intro w h; go_simp; try with_reducible rfl
    try simp only [Act.put, zA, zB, zC]
    refine wpAnyH_ready (rs := [17]) (by kernel_rfl) (by simp) ?_
    refine AllReadyH.cons (o := ⟨some 208, _, _, _, _, none⟩) rfl (fun K hK => ?_) AllReadyH.nil
    go_simp
    go_at_call 64
    refine (must_no a 5 _).mono ?_
    rintro e w9 ⟨rfl, hb⟩
    exact ⟨rfl, rfl, (hHeld.step hb).below⟩
  · skip
    refine wp_region_held_drew (S := fun W' => RlS w a W') (by kernel_rfl) ?_ (fun hHeld => ?_)
    · exact HX.out.drew
    refine tk (i := 0) (oi := ⟨some 191, _, _, _, _, none⟩) (v := ?_) rfl (Or.inl ⟨by rfl, ?_⟩) ?_
    rotate_left; · intro w h; go_simp; try with_reducible rfl
    try simp only [Act.put, zA, zB, zC]
    refine tk (i := 1) (oi := ⟨some 192, _, _, _, _, none⟩) (v := ?_) rfl (Or.inl ⟨by rfl, ?_⟩) ?_
    rotate_left; · intro w h; go_simp; try with_reducible rfl
    try simp only [Act.put, zA, zB, zC]
    refine tk (i := 2) (oi := ⟨some 193, _, _, _, _, none⟩) (v := .agg ([.int .u8 x.ty.head.kind, .int .i64 x.ty.head.rho, .slice x.ty.head.ep x.ty.head.en x.ty.head.ec, .slice x.ty.head.kp x.ty.head.kn x.ty.head.kc, .slice x.ep x.en x.ec] : List Value).toArray) rfl (yieldsIf_load_mid (by rfl) 81 _ rfl b o rfl _ _ (fun W' hSw => rv_all0 (HH.out.res.row.below hSw.below)) Tryz.underlying81 rfl (by kernel_rfl)) ?_
    try simp only [Act.put, zA, zB, zC]
    refine tk (i := 16) (oi := ⟨some 207, _, _, _, _, none⟩) (v := .agg ([.int .u8 a.kind, .int .u8 a.op, .int .i64 a.at_, .int .i64 a.n, .string a.name, .string a.arg, .string a.exn, .int .i64 a.rho, .slice a.rp a.rn a.rc, .slice a.ep a.en a.ec, .int .u8 a.ty.head.kind, .int .i64 a.ty.head.rho, .slice a.ty.head.ep a.ty.head.en a.ty.head.ec, .slice a.ty.head.kp a.ty.head.kn a.ty.head.kc, .int .u8 a.res.head.kind, .int .i64 a.res.head.rho, .slice a.res.head.ep a.res.head.en a.res.head.ec, .slice a.res.head.kp a.res.head.kn a.res.head.kc, .slice a.kp a.kn a.kc] : List Value).toArray) rfl (yieldsIf_load_mid (by rfl) 31 _ rfl w.heap.size 0 rfl _ _ (fun W' hSw => hSw.box.range) Tryz.underlying31 rfl (by kernel_rfl)) ?_
    try simp only [Act.put, zA, zB, zC]
    refine wpAnyH_ready (rs := [3]) (by kernel_rfl) (by simp) ?_
    refine AllReadyH.cons (o := ⟨some 194, _, _, _, _, none⟩) rfl (fun K hK => ?_) AllReadyH.nil
    go_simp
    refine hK.out _ _ ?_ (fun hNew => ?_)
    · (try dsimp only); exact hHeld.alloc _
    clear hHeld hK K; have hHeld := hNew; clear hNew
    try simp only [Act.put, zA, zB, zC]
    refine wpAnyH_ready (rs := [4]) (by kernel_rfl) (by simp) ?_
    refine AllReadyH.cons (o := ⟨some 195, _, _, _, _, none⟩) rfl (fun K hK => ?_) AllReadyH.nil
    go_simp
    go_at_call 143
    refine (ints_is HU.out ((row_made encRV_len (by omega) W1 81 [x] 1 #[.int .u8 x.ty.head.kind, .int .i64 x.ty.head.rho, .slice x.ty.head.ep x.ty.head.en x.ty.head.ec, .slice x.ty.head.kp x.ty.head.kn x.ty.head.kc, .slice x.ep x.en x.ec] rfl rfl (by decide)).below (bel_drew _))).mono ?_
    rintro e w8 ⟨rfl, hb⟩
    try go_wp2_with fail
    refine hK.out _ _ ?_ (fun hNew => ?_)
    · (try dsimp only); exact hHeld.step hb
    clear hHeld hK K; have hHeld := hNew; clear hNew
    try simp only [Act.put, zA, zB, zC]
    refine tk (i := 5) (oi := ⟨some 196, _, _, _, _, none⟩) (v := ?_) rfl (Or.inl ⟨by rfl, ?_⟩) ?_
    rotate_left; · intro w h; go_simp; try with_reducible rfl
    try simp only [Act.put, zA, zB, zC]
    refine tk (i := 6) (oi := ⟨some 197, _, _, _, _, some (5, true)⟩) (v := ?_) rfl (Or.inl ⟨by rfl, ?_⟩) ?_
    rotate_left; · intro w h; go_simp; try with_reducible rfl
    try simp only [Act.put, zA, zB, zC]
    refine tk (i := 7) (oi := ⟨some 198, _, _, _, _, some (5, true)⟩) (v := ?_) rfl (Or.inl ⟨by rfl, ?_⟩) ?_
    rotate_left; · intro w h; go_simp; try with_reducible rfl
    try simp only [Act.put, zA, zB, zC]
    refine tk (i := 8) (oi := ⟨some 199, _, _, _, _, some (5, true)⟩) (v := ?_) rfl (Or.inl ⟨by rfl, ?_⟩) ?_
    rotate_left; · intro w h; go_simp; try with_reducible rfl
    try simp only [Act.put, zA, zB, zC]
    refine tk (i := 9) (oi := ⟨some 200, _, _, _, _, some (5, true)⟩) (v := .agg ([.int .u8 y.ty.head.kind, .int .i64 y.ty.head.rho, .slice y.ty.head.ep y.ty.head.en y.ty.head.ec, .slice y.ty.head.kp y.ty.head.kn y.ty.head.kc] : List Value).toArray) rfl (yieldsIf_load_mid (by rfl) 28 _ rfl b (o + 5) rfl _ _ (fun W' hSw => rv_ty1 (HH.out.res.row.below hSw.below)) Tryz.underlying28 rfl (by kernel_rfl)) ?_
    try simp only [Act.put, zA, zB, zC]
    refine tk (i := 10) (oi := ⟨some 201, _, _, _, _, some (5, true)⟩) (v := ?_) rfl (Or.inl ⟨by rfl, ?_⟩) ?_
    rotate_left; · intro w h; go_simp; try with_reducible rfl
    try simp only [Act.put, zA, zB, zC]
    refine tk (i := 11) (oi := ⟨some 202, _, _, _, _, some (5, true)⟩) (v := ?_) rfl (Or.inl ⟨by rfl, ?_⟩) ?_
    rotate_left; · intro w h; go_simp; try with_reducible rfl
    try simp only [Act.put, zA, zB, zC]
    refine tk (i := 12) (oi := ⟨some 203, _, _, _, _, some (5, true)⟩) (v := ?_) rfl (Or.inl ⟨by rfl, ?_⟩) ?_
    rotate_left; · intro w h; go_simp; try with_reducible rfl
    try simp only [Act.put, zA, zB, zC]
    refine tk (i := 13) (oi := ⟨some 204, _, _, _, _, some (5, true)⟩) (v := .agg ([.int .u8 z.ty.head.kind, .int .i64 z.ty.head.rho, .slice z.ty.head.ep z.ty.head.en z.ty.head.ec, .slice z.ty.head.kp z.ty.head.kn z.ty.head.kc] : List Value).toArray) rfl (yieldsIf_load_mid (by rfl) 28 _ rfl b (o + 10) rfl _ _ (fun W' hSw => rv_ty2 (HH.out.res.row.below hSw.below)) Tryz.underlying28 rfl (by kernel_rfl)) ?_
    try simp only [Act.put, zA, zB, zC]
    refine wpAnyH_ready (rs := [14]) (by kernel_rfl) (by simp) ?_
    refine AllReadyH.cons (o := ⟨some 205, _, _, _, _, some (5, true)⟩) rfl (fun K hK => ?_) AllReadyH.nil
    go_simp
    go_at_call 142
    refine (rtype_Same_is HV.out (LR.lies_below hHeld.below _ (HH.out.res.each y (by simp)).ty) (LR.lies_below hHeld.below _ (HH.out.res.each z (by simp)).ty)).mono ?_
    rintro e w7 ⟨rfl, hb⟩
    try go_wp2_with fail
    refine hK.out _ _ ?_ (fun hNew => ?_)
    · (try dsimp only); exact hHeld.step hb
    clear hHeld hK K; have hHeld := hNew; clear hNew
    try simp only [Act.put, zA, zB, zC]
    refine tk (i := 15) (oi := ⟨some 206, _, _, _, _, none⟩) (v := ?_) rfl (Or.inl ⟨by rfl, ?_⟩) ?_
    rotate_left; · intro w h; go_simp; try with_reducible rfl
    try simp only [Act.put, zA, zB, zC]
    refine wpAnyH_ready (rs := [17]) (by kernel_rfl) (by simp) ?_
    refine AllReadyH.cons (o := ⟨some 208, _, _, _, _, none⟩) rfl (fun K hK => ?_) AllReadyH.nil
    go_simp
    cases v
    · go_at_call 64
      refine (must_no a 5 _).mono ?_
      rintro e w9 ⟨rfl, hb⟩
      exact ⟨rfl, rfl, (hHeld.step hb).below⟩
    go_at_call 64
    refine (must_yes a 5 _).mono ?_
    rintro e w9 ⟨rfl, hb⟩
    try go_wp2_with fail
    refine hK.out _ _ ?_ (fun hNew => ?_)
    · (try dsimp only); exact hHeld.step hb
    clear hHeld hK K; have hHeld := hNew; clear hNew
    try simp only [Act.put, zA, zB, zC]
    refine wpAnyH_done (by kernel_rfl) ?_ _
    clear HX
    have HX := hid hHeld
    clear hHeld
    go_upto_region 24 with fail
    refine wp_region_held_drew (S := fun W' => RlS w a W') (by kernel_rfl) ?_ (fun hHeld => ?_)
    · exact HX.out.drew
    refine tk (i := 0) (oi := ⟨some 209, _, _, _, _, none⟩) (v := ?_) rfl (Or.inl ⟨by rfl, ?_⟩) ?_
    rotate_left; · intro w h; go_simp; try with_reducible rfl
    try simp only [Act.put, zA, zB, zC]
    refine tk (i := 1) (oi := ⟨some 210, _, _, _, _, none⟩) (v := ?_) rfl (Or.inl ⟨by rfl, ?_⟩) ?_
    rotate_left; · intro w h; go_simp; try with_reducible rfl
    try simp only [Act.put, zA, zB, zC]
    refine tk (i := 2) (oi := ⟨some 211, _, _, _, _, none⟩) (v := ?_) rfl (Or.inl ⟨by rfl, ?_⟩) ?_
    rotate_left; · intro w h; go_simp; try with_reducible rfl
    try simp only [Act.put, zA, zB, zC]
    refine tk (i := 3) (oi := ⟨some 212, _, _, _, _, none⟩) (v := .agg ([.int .u8 y.ty.head.kind, .int .i64 y.ty.head.rho, .slice y.ty.head.ep y.ty.head.en y.ty.head.ec, .slice y.ty.head.kp y.ty.head.kn y.ty.head.kc] : List Value).toArray) rfl (yieldsIf_load_mid (by rfl) 28 _ rfl b (o + 5) rfl _ _ (fun W' hSw => rv_ty1 (HH.out.res.row.below hSw.below)) Tryz.underlying28 rfl (by kernel_rfl)) ?_
    try simp only [Act.put, zA, zB, zC]
    refine tk (i := 4) (oi := ⟨some 213, _, _, _, _, none⟩) (v := ?_) rfl (Or.inl ⟨by rfl, ?_⟩) ?_
    rotate_left; · intro w h; go_simp; try with_reducible rfl
    try simp only [Act.put, zA, zB, zC]
    refine wpAnyH_ready (rs := [5]) (by kernel_rfl) (by simp) ?_
    refine AllReadyH.cons (o := ⟨some 214, _, _, _, _, none⟩) rfl (fun K hK => ?_) AllReadyH.nil
    go_simp
    have hsz := hHeld.size
    go_at_call 140
    refine (check_all_any (HH.out.res.row.below hHeld.below) (fun r hr => ((HH.out.res.each r hr).below hHeld.below).eff) (IsRow.none encA 3 _) (by decide) (by omega)).mono ?_
    rintro e w5 ⟨v5, k5, rfl, hown5, hb⟩
    obtain ⟨q5, c5, rfl, hrow5⟩ := OwnE.isRow encA_len (by omega) hown5
    have hfar5 := (fun ad hp => Nat.le_trans hsz (by subst hp; exact OwnE.from hown5 ad.block rfl) : ∀ ad, q5 = some ad → w.heap.size + 2 ≤ ad.block)
    have HR5 := hid hrow5
    have HF5 := hid hfar5
    clear hown5 hrow5 hfar5 hsz
    try go_wp2_with fail
    refine hK.out _ _ ?_ (fun hNew => ?_)
    · (try dsimp only); exact hHeld.step hb
    clear hHeld hK K; have hHeld := hNew; clear hNew
    try simp only [Act.put, zA, zB, zC]
    refine tk (i := 6) (oi := ⟨some 215, _, _, _, _, none⟩) (v := ?_) rfl (Or.inl ⟨by rfl, ?_⟩) ?_
    rotate_left; · intro w h; go_simp; try with_reducible rfl
    try simp only [Act.put, zA, zB, zC]
    refine wpAnyH_ready (rs := [7]) (by kernel_rfl) (by simp) ?_
    refine AllReadyH.cons (o := ⟨none, _, _, _, _, none⟩) rfl (fun K hK => ?_) AllReadyH.nil
    have HX9 := hid hHeld
    refine step_store_res rfl _ _ _ (by rfl) hHeld #[.int .u8 y.ty.head.kind, .int .i64 y.ty.head.rho, .slice y.ty.head.ep y.ty.head.en y.ty.head.ec, .slice y.ty.head.kp y.ty.head.kn y.ty.head.kc, .slice q5 k5 c5] (by rfl) (by rfl) (by kernel_rfl) rfl (by simp [Value.oneCell']) ?_
    refine hK.out _ _ ?_ (fun hNew => ?_)
    · (try dsimp only); exact hHeld.store rfl
    clear hHeld hK K; have hHeld := hNew; clear hNew
    try simp only [Act.put, zA, zB, zC]
    refine wpAnyH_done (by kernel_rfl) ?_ _
    clear hHeld
    go_wp2_with fail
    refine bodyPost_ret (results_cell_row rfl _ _ _ _ _ _ _ rfl (HX9.out.heap _) Tryz.underlying81 rfl (by kernel_rfl)) rfl ?_
    have hr := (HH.out.res.each y (by simp))
    exact out_of (y := ⟨y.ty, q5, k5, c5, allE (erL [x, y, z]) []⟩) HX9.out HH.out.new ⟨LR.lies_below HX9.out.below _ hr.ty, ((res_sn HH.out.res (Below.refl _ _)).each y (by simp)).uses, HR5.out, allE_ok (fun r hr => (HH.out.res.each r hr).eok) (fun x hx => (nomatch hx)), fun _ ad hp => .inr (HF5.out ad hp)⟩ rfl
end
end Go.Proofs.YtkdjnegfnhldpaaGreatDoor
