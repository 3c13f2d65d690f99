/- Part 31: Rs. -/
import Derived.Test.YtkdjnegfnhldpaaGreatDoorH29
import Derived.Test.YtkdjnegfnhldpaaGreatDoorH01
set_option linter.unusedVariables false
set_option maxRecDepth 100000
set_option linter.unusedSimpArgs false
namespace Go.Proofs.YtkdjnegfnhldpaaGreatDoor
open Go.Lib (hid)
section
open Go.RowKit
set_option maxHeartbeats 8000000 in
theorem rule_set {w : World} {S : Nat → Prop} {a : AH} {b o c : Nat} {x y : RV} (h : RlIn w S a (some ⟨b, o, none⟩) 2 c [x, y]) (hk : a.kind = 8) : Calls Tryz.prog 99 #[aggT a, .slice (some ⟨b, o, none⟩) 2 c] w (OutC w S (ruleP a.plain (erL [x, y]))) := by
  have HX := hid (rls_new w a)
  have HH := hid h
  have hsum := h.sum
  have e3 : (a.kind == 3) = false := by simp [hk]
  have e4 : (a.kind == 4) = false := by simp [hk]
  have e5 : (a.kind == 5) = false := by simp [hk]
  have e6 : (a.kind == 6) = false := by simp [hk]
  have e7 : (a.kind == 7) = false := by simp [hk]
  have e8 : (a.kind == 8) = true := by simp [hk]
  have hc0 := HX.out.box.c 0 _ rfl
  have HRU : Hid (ruleP a.plain (erL [x, y]) = mustP ((x.ty.head.kind == 3) && sameR ((PT.er x.ty).kids.getD 0 tZero) (PT.er y.ty)) a.plain 5 (.ok (tInt, allE (erL [x, y]) [aPut x.ty.head.rho]))) := by
    show _ = _
    unfold ruleP
    simp [show a.plain.kind = 8 from hk, erL, ← isK_er, er_rho]
    try first | rfl | exact ⟨rfl, rfl⟩
  obtain ⟨u, hu⟩ : ∃ u, (x.ty.head.kind == 3) = u := ⟨_, rfl⟩
  rw [HRU.out, hu]
  have HU := hid hu
  clear hu
  cases u
  · skip
    clear h hk
    go_enter Tryz.func99, Tryz.ntmps99
    go_upto_region 15 with fail
    clear hc0 e3 e4 e5 e6 e7 e8
    generalize (w.alloc (.cells #[.int .u8 a.kind, .int .u8 a.op, .int .i64 a.at_, .int .i64 a.n, .string a.name, .string a.arg, .string a.exn, .int .i64 a.rho, .slice a.rp a.rn a.rc, .slice a.ep a.en a.ec, .int .u8 a.ty.head.kind, .int .i64 a.ty.head.rho, .slice a.ty.head.ep a.ty.head.en a.ty.head.ec, .slice a.ty.head.kp a.ty.head.kn a.ty.head.kc, .int .u8 a.res.head.kind, .int .i64 a.res.head.rho, .slice a.res.head.ep a.res.head.en a.res.head.ec, .slice a.res.head.kp a.res.head.kn a.res.head.kc, .slice a.kp a.kn a.kc] 31)).alloc (.cells #[.int .u8 0, .int .i64 0, .slice none 0 0, .slice none 0 0, .slice none 0 0] 81) = W1 at *
    refine wp_region_held_drew (S := fun W' => RlS w a W') (by kernel_rfl) ?_ (fun hHeld => ?_)
    · exact HX.out.drew
    refine tk (i := 0) (oi := ⟨some 106, _, _, _, _, none⟩) (v := ?_) rfl (Or.inl ⟨by rfl, ?_⟩) ?_
    rotate_left; · intro w h; go_simp; try with_reducible rfl
    try simp only [Act.put, zA, zB, zC]
    refine tk (i := 1) (oi := ⟨some 107, _, _, _, _, none⟩) (v := ?_) rfl (Or.inl ⟨by rfl, ?_⟩) ?_
    rotate_left; · intro w h; go_simp; try with_reducible rfl
    try simp only [Act.put, zA, zB, zC]
    refine tk (i := 2) (oi := ⟨some 108, _, _, _, _, none⟩) (v := .agg ([.int .u8 x.ty.head.kind, .int .i64 x.ty.head.rho, .slice x.ty.head.ep x.ty.head.en x.ty.head.ec, .slice x.ty.head.kp x.ty.head.kn x.ty.head.kc, .slice x.ep x.en x.ec] : List Value).toArray) rfl (yieldsIf_load_mid (by rfl) 81 _ rfl b o rfl _ _ (fun W' hSw => rv_all0 (HH.out.res.row.below hSw.below)) Tryz.underlying81 rfl (by kernel_rfl)) ?_
    try simp only [Act.put, zA, zB, zC]
    refine tk (i := 18) (oi := ⟨some 124, _, _, _, _, none⟩) (v := .agg ([.int .u8 a.kind, .int .u8 a.op, .int .i64 a.at_, .int .i64 a.n, .string a.name, .string a.arg, .string a.exn, .int .i64 a.rho, .slice a.rp a.rn a.rc, .slice a.ep a.en a.ec, .int .u8 a.ty.head.kind, .int .i64 a.ty.head.rho, .slice a.ty.head.ep a.ty.head.en a.ty.head.ec, .slice a.ty.head.kp a.ty.head.kn a.ty.head.kc, .int .u8 a.res.head.kind, .int .i64 a.res.head.rho, .slice a.res.head.ep a.res.head.en a.res.head.ec, .slice a.res.head.kp a.res.head.kn a.res.head.kc, .slice a.kp a.kn a.kc] : List Value).toArray) rfl (yieldsIf_load_mid (by rfl) 31 _ rfl w.heap.size 0 rfl _ _ (fun W' hSw => hSw.box.range) Tryz.underlying31 rfl (by kernel_rfl)) ?_
    try simp only [Act.put, zA, zB, zC]
    refine wpAnyH_ready (rs := [3]) (by kernel_rfl) (by simp) ?_
    refine AllReadyH.cons (o := ⟨some 109, _, _, _, _, none⟩) rfl (fun K hK => ?_) AllReadyH.nil
    go_simp
    go_at_call 141
    refine (result_is_is HU.out _).mono ?_
    rintro e w8 ⟨rfl, hb⟩
    try go_wp2_with fail
    refine hK.out _ _ ?_ (fun hNew => ?_)
    · (try dsimp only); exact hHeld.step hb
    clear hHeld hK K; have hHeld := hNew; clear hNew
    try simp only [Act.put, zA, zB, zC]
    refine tk (i := 4) (oi := ⟨some 110, _, _, _, _, none⟩) (v := ?_) rfl (Or.inl ⟨by rfl, ?_⟩) ?_
    rotate_left; · intro w h; go_simp; try with_reducible rfl
    try simp only [Act.put, zA, zB, zC]
    refine tk (i := 5) (oi := ⟨some 111, _, _, _, _, some (4, true)⟩) (v := undef) rfl (Or.inr ⟨by rfl, rfl⟩) ?_
    try simp only [Act.put, zA, zB, zC]
    refine tk (i := 6) (oi := ⟨some 112, _, _, _, _, some (4, true)⟩) (v := undef) rfl (Or.inr ⟨by rfl, rfl⟩) ?_
    try simp only [Act.put, zA, zB, zC]
    refine tk (i := 7) (oi := ⟨some 113, _, _, _, _, some (4, true)⟩) (v := undef) rfl (Or.inr ⟨by rfl, rfl⟩) ?_
    try simp only [Act.put, zA, zB, zC]
    refine tk (i := 8) (oi := ⟨some 114, _, _, _, _, some (4, true)⟩) (v := undef) rfl (Or.inr ⟨by rfl, rfl⟩) ?_
    try simp only [Act.put, zA, zB, zC]
    refine tk (i := 9) (oi := ⟨some 115, _, _, _, _, some (4, true)⟩) (v := undef) rfl (Or.inr ⟨by rfl, rfl⟩) ?_
    try simp only [Act.put, zA, zB, zC]
    refine tk (i := 10) (oi := ⟨some 116, _, _, _, _, some (4, true)⟩) (v := undef) rfl (Or.inr ⟨by rfl, rfl⟩) ?_
    try simp only [Act.put, zA, zB, zC]
    refine tk (i := 11) (oi := ⟨some 117, _, _, _, _, some (4, true)⟩) (v := undef) rfl (Or.inr ⟨by rfl, rfl⟩) ?_
    try simp only [Act.put, zA, zB, zC]
    refine tk (i := 12) (oi := ⟨some 118, _, _, _, _, some (4, true)⟩) (v := undef) rfl (Or.inr ⟨by rfl, rfl⟩) ?_
    try simp only [Act.put, zA, zB, zC]
    refine tk (i := 13) (oi := ⟨some 119, _, _, _, _, some (4, true)⟩) (v := undef) rfl (Or.inr ⟨by rfl, rfl⟩) ?_
    try simp only [Act.put, zA, zB, zC]
    refine tk (i := 14) (oi := ⟨some 120, _, _, _, _, some (4, true)⟩) (v := undef) rfl (Or.inr ⟨by rfl, rfl⟩) ?_
    try simp only [Act.put, zA, zB, zC]
    refine tk (i := 15) (oi := ⟨some 121, _, _, _, _, some (4, true)⟩) (v := undef) rfl (Or.inr ⟨by rfl, rfl⟩) ?_
    try simp only [Act.put, zA, zB, zC]
    refine wpAnyH_ready (rs := [16]) (by kernel_rfl) (by simp) ?_
    refine AllReadyH.cons (o := ⟨some 122, _, _, _, _, some (4, true)⟩) rfl (fun K hK => ?_) AllReadyH.nil
    go_simp
    refine hK.out _ _ ?_ (fun hNew => ?_)
    · (try dsimp only); exact hHeld
    clear hHeld hK K; have hHeld := hNew; clear hNew
    try simp only [Act.put, zA, zB, zC]
    refine tk (i := 17) (oi := ⟨some 123, _, _, _, _, none⟩) (v := ?_) rfl (Or.inl ⟨by rfl, ?_⟩) ?_
    rotate_left; · intro w h; go_simp; try with_reducible rfl
    try simp only [Act.put, zA, zB, zC]
    refine wpAnyH_ready (rs := [19]) (by kernel_rfl) (by simp) ?_
    refine AllReadyH.cons (o := ⟨some 125, _, _, _, _, none⟩) rfl (fun K hK => ?_) AllReadyH.nil
    go_simp
    go_at_call 64
    refine (must_no a 5 _).mono ?_
    rintro e w9 ⟨rfl, hb⟩
    exact ⟨rfl, rfl, (hHeld.step hb).below⟩
  · obtain ⟨b1, o1, kc, ts, hkids, hlen⟩ := kids_of HH.out (k := 3) (by simpa using HU.out) (by decide)
    obtain ⟨t0, rfl⟩ : ∃ t0, ts = [t0] := by
      match ts, hlen with
      | [t0], _ => exact ⟨t0, rfl⟩
    have hv0 : sameR ((PT.er x.ty).kids.getD 0 tZero) (PT.er y.ty) = sameP t0 y.ty := by rw [kid_er hkids.kids]; rfl
    obtain ⟨v, hv⟩ : ∃ v, sameP t0 y.ty = v := ⟨_, rfl⟩
    rw [hv0, hv]
    have HV := hid hv
    have HK := hid hkids
    clear hkids hlen hv hv0
    clear h hk
    go_enter Tryz.func99, Tryz.ntmps99
    go_upto_region 15 with fail
    clear hc0 e3 e4 e5 e6 e7 e8
    generalize (w.alloc (.cells #[.int .u8 a.kind, .int .u8 a.op, .int .i64 a.at_, .int .i64 a.n, .string a.name, .string a.arg, .string a.exn, .int .i64 a.rho, .slice a.rp a.rn a.rc, .slice a.ep a.en a.ec, .int .u8 a.ty.head.kind, .int .i64 a.ty.head.rho, .slice a.ty.head.ep a.ty.head.en a.ty.head.ec, .slice a.ty.head.kp a.ty.head.kn a.ty.head.kc, .int .u8 a.res.head.kind, .int .i64 a.res.head.rho, .slice a.res.head.ep a.res.head.en a.res.head.ec, .slice a.res.head.kp a.res.head.kn a.res.head.kc, .slice a.kp a.kn a.kc] 31)).alloc (.cells #[.int .u8 0, .int .i64 0, .slice none 0 0, .slice none 0 0, .slice none 0 0] 81) = W1 at *
    refine wp_region_held_drew (S := fun W' => RlS w a W') (by kernel_rfl) ?_ (fun hHeld => ?_)
    · exact HX.out.drew
    refine tk (i := 0) (oi := ⟨some 106, _, _, _, _, none⟩) (v := ?_) rfl (Or.inl ⟨by rfl, ?_⟩) ?_
    rotate_left; · intro w h; go_simp; try with_reducible rfl
    try simp only [Act.put, zA, zB, zC]
    refine tk (i := 1) (oi := ⟨some 107, _, _, _, _, none⟩) (v := ?_) rfl (Or.inl ⟨by rfl, ?_⟩) ?_
    rotate_left; · intro w h; go_simp; try with_reducible rfl
    try simp only [Act.put, zA, zB, zC]
    refine tk (i := 2) (oi := ⟨some 108, _, _, _, _, none⟩) (v := .agg ([.int .u8 x.ty.head.kind, .int .i64 x.ty.head.rho, .slice x.ty.head.ep x.ty.head.en x.ty.head.ec, .slice x.ty.head.kp x.ty.head.kn x.ty.head.kc, .slice x.ep x.en x.ec] : List Value).toArray) rfl (yieldsIf_load_mid (by rfl) 81 _ rfl b o rfl _ _ (fun W' hSw => rv_all0 (HH.out.res.row.below hSw.below)) Tryz.underlying81 rfl (by kernel_rfl)) ?_
    try simp only [Act.put, zA, zB, zC]
    refine tk (i := 18) (oi := ⟨some 124, _, _, _, _, none⟩) (v := .agg ([.int .u8 a.kind, .int .u8 a.op, .int .i64 a.at_, .int .i64 a.n, .string a.name, .string a.arg, .string a.exn, .int .i64 a.rho, .slice a.rp a.rn a.rc, .slice a.ep a.en a.ec, .int .u8 a.ty.head.kind, .int .i64 a.ty.head.rho, .slice a.ty.head.ep a.ty.head.en a.ty.head.ec, .slice a.ty.head.kp a.ty.head.kn a.ty.head.kc, .int .u8 a.res.head.kind, .int .i64 a.res.head.rho, .slice a.res.head.ep a.res.head.en a.res.head.ec, .slice a.res.head.kp a.res.head.kn a.res.head.kc, .slice a.kp a.kn a.kc] : List Value).toArray) rfl (yieldsIf_load_mid (by rfl) 31 _ rfl w.heap.size 0 rfl _ _ (fun W' hSw => hSw.box.range) Tryz.underlying31 rfl (by kernel_rfl)) ?_
    try simp only [Act.put, zA, zB, zC]
    refine wpAnyH_ready (rs := [3]) (by kernel_rfl) (by simp) ?_
    refine AllReadyH.cons (o := ⟨some 109, _, _, _, _, none⟩) rfl (fun K hK => ?_) AllReadyH.nil
    go_simp
    go_at_call 141
    refine (result_is_is HU.out _).mono ?_
    rintro e w8 ⟨rfl, hb⟩
    try go_wp2_with fail
    refine hK.out _ _ ?_ (fun hNew => ?_)
    · (try dsimp only); exact hHeld.step hb
    clear hHeld hK K; have hHeld := hNew; clear hNew
    try simp only [Act.put, zA, zB, zC]
    refine tk (i := 4) (oi := ⟨some 110, _, _, _, _, none⟩) (v := ?_) rfl (Or.inl ⟨by rfl, ?_⟩) ?_
    rotate_left; · intro w h; go_simp; try with_reducible rfl
    try simp only [Act.put, zA, zB, zC]
    refine tk (i := 5) (oi := ⟨some 111, _, _, _, _, some (4, true)⟩) (v := ?_) rfl (Or.inl ⟨by rfl, ?_⟩) ?_
    rotate_left; · intro w h; go_simp; try with_reducible rfl
    try simp only [Act.put, zA, zB, zC]
    refine tk (i := 6) (oi := ⟨some 112, _, _, _, _, some (4, true)⟩) (v := ?_) rfl (Or.inl ⟨by rfl, ?_⟩) ?_
    rotate_left; · intro w h; go_simp; try with_reducible rfl
    try simp only [Act.put, zA, zB, zC]
    refine tk (i := 7) (oi := ⟨some 113, _, _, _, _, some (4, true)⟩) (v := ?_) rfl (Or.inl ⟨by rfl, ?_⟩) ?_
    rotate_left; · intro w h; go_simp; try with_reducible rfl
    try simp only [Act.put, zA, zB, zC]
    refine tk (i := 8) (oi := ⟨some 114, _, _, _, _, some (4, true)⟩) (v := ?_) rfl (Or.inl ⟨by rfl, ?_⟩) ?_
    rotate_left; · intro w h; go_simp; try with_reducible rfl
    try simp only [Act.put, zA, zB, zC]
    refine tk (i := 9) (oi := ⟨some 115, _, _, _, _, some (4, true)⟩) (v := ?_) rfl (Or.inl ⟨by rfl, ?_⟩) ?_
    rotate_left
    · intro w hSw; (try dsimp only at hSw); have q3 := HK.out.cell _ hSw.below; go_simp; try with_reducible rfl
    try simp only [Act.put, zA, zB, zC]
    refine tk (i := 10) (oi := ⟨some 116, _, _, _, _, some (4, true)⟩) (v := ?_) rfl (Or.inl ⟨by rfl, ?_⟩) ?_
    rotate_left; · intro w h; go_simp; try with_reducible rfl
    try simp only [Act.put, zA, zB, zC]
    refine tk (i := 11) (oi := ⟨some 117, _, _, _, _, some (4, true)⟩) (v := .agg ([.int .u8 t0.head.kind, .int .i64 t0.head.rho, .slice t0.head.ep t0.head.en t0.head.ec, .slice t0.head.kp t0.head.kn t0.head.kc] : List Value).toArray) rfl (yieldsIf_load_mid (by rfl) 28 _ rfl b1 o1 rfl _ _ (fun W' hSw => by simpa using HK.out.at (j := 0) rfl hSw.below) Tryz.underlying28 rfl (by kernel_rfl)) ?_
    try simp only [Act.put, zA, zB, zC]
    refine tk (i := 12) (oi := ⟨some 118, _, _, _, _, some (4, true)⟩) (v := ?_) rfl (Or.inl ⟨by rfl, ?_⟩) ?_
    rotate_left; · intro w h; go_simp; try with_reducible rfl
    try simp only [Act.put, zA, zB, zC]
    refine tk (i := 13) (oi := ⟨some 119, _, _, _, _, some (4, true)⟩) (v := ?_) rfl (Or.inl ⟨by rfl, ?_⟩) ?_
    rotate_left; · intro w h; go_simp; try with_reducible rfl
    try simp only [Act.put, zA, zB, zC]
    refine tk (i := 14) (oi := ⟨some 120, _, _, _, _, some (4, true)⟩) (v := ?_) rfl (Or.inl ⟨by rfl, ?_⟩) ?_
    rotate_left; · intro w h; go_simp; try with_reducible rfl
    try simp only [Act.put, zA, zB, zC]
    refine tk (i := 15) (oi := ⟨some 121, _, _, _, _, some (4, true)⟩) (v := .agg ([.int .u8 y.ty.head.kind, .int .i64 y.ty.head.rho, .slice y.ty.head.ep y.ty.head.en y.ty.head.ec, .slice y.ty.head.kp y.ty.head.kn y.ty.head.kc] : List Value).toArray) rfl (yieldsIf_load_mid (by rfl) 28 _ rfl b (o + 5) rfl _ _ (fun W' hSw => rv_ty1 (HH.out.res.row.below hSw.below)) Tryz.underlying28 rfl (by kernel_rfl)) ?_
    try simp only [Act.put, zA, zB, zC]
    refine wpAnyH_ready (rs := [16]) (by kernel_rfl) (by simp) ?_
    refine AllReadyH.cons (o := ⟨some 122, _, _, _, _, some (4, true)⟩) rfl (fun K hK => ?_) AllReadyH.nil
    go_simp
    go_at_call 142
    refine (rtype_Same_is HV.out (LR.lies_below hHeld.below _ (HK.out.row.each t0 (by simp))) (LR.lies_below hHeld.below _ (HH.out.res.each y (by simp)).ty)).mono ?_
    rintro e w7 ⟨rfl, hb⟩
    try go_wp2_with fail
    refine hK.out _ _ ?_ (fun hNew => ?_)
    · (try dsimp only); exact hHeld.step hb
    clear hHeld hK K; have hHeld := hNew; clear hNew
    try simp only [Act.put, zA, zB, zC]
    refine tk (i := 17) (oi := ⟨some 123, _, _, _, _, none⟩) (v := ?_) rfl (Or.inl ⟨by rfl, ?_⟩) ?_
    rotate_left; · intro w h; go_simp; try with_reducible rfl
    try simp only [Act.put, zA, zB, zC]
    refine wpAnyH_ready (rs := [19]) (by kernel_rfl) (by simp) ?_
    refine AllReadyH.cons (o := ⟨some 125, _, _, _, _, none⟩) rfl (fun K hK => ?_) AllReadyH.nil
    go_simp
    cases v
    · go_at_call 64
      refine (must_no a 5 _).mono ?_
      rintro e w9 ⟨rfl, hb⟩
      exact ⟨rfl, rfl, (hHeld.step hb).below⟩
    go_at_call 64
    refine (must_yes a 5 _).mono ?_
    rintro e w9 ⟨rfl, hb⟩
    try go_wp2_with fail
    refine hK.out _ _ ?_ (fun hNew => ?_)
    · (try dsimp only); exact hHeld.step hb
    clear hHeld hK K; have hHeld := hNew; clear hNew
    try simp only [Act.put, zA, zB, zC]
    refine wpAnyH_done (by kernel_rfl) ?_ _
    clear HX
    have HX := hid hHeld
    clear hHeld
    go_upto_region 16 with fail
    refine wp_region_held_drew (S := fun W' => RlS w a W') (by kernel_rfl) ?_ (fun hHeld => ?_)
    · exact HX.out.drew
    refine tk (i := 1) (oi := ⟨some 127, _, _, _, _, none⟩) (v := ?_) rfl (Or.inl ⟨by rfl, ?_⟩) ?_
    rotate_left; · intro w h; go_simp; try with_reducible rfl
    try simp only [Act.put, zA, zB, zC]
    refine tk (i := 2) (oi := ⟨some 128, _, _, _, _, none⟩) (v := ?_) rfl (Or.inl ⟨by rfl, ?_⟩) ?_
    rotate_left; · intro w h; go_simp; try with_reducible rfl
    try simp only [Act.put, zA, zB, zC]
    refine tk (i := 3) (oi := ⟨some 129, _, _, _, _, none⟩) (v := ?_) rfl (Or.inl ⟨by rfl, ?_⟩) ?_
    rotate_left; · intro w h; go_simp; try with_reducible rfl
    try simp only [Act.put, zA, zB, zC]
    refine tk (i := 4) (oi := ⟨some 130, _, _, _, _, none⟩) (v := ?_) rfl (Or.inl ⟨by rfl, ?_⟩) ?_
    rotate_left; · intro w h; go_simp; try with_reducible rfl
    try simp only [Act.put, zA, zB, zC]
    refine tk (i := 5) (oi := ⟨some 131, _, _, _, _, none⟩) (v := ?_) rfl (Or.inl ⟨by rfl, ?_⟩) ?_
    rotate_left; · intro w h; go_simp; try with_reducible rfl
    try simp only [Act.put, zA, zB, zC]
    refine tk (i := 6) (oi := ⟨some 132, _, _, _, _, none⟩) (v := ?_) rfl (Or.inl ⟨by rfl, ?_⟩) ?_
    rotate_left
    · intro w hSw; (try dsimp only at hSw); have q1 := rv_c (HH.out.res.row.below hSw.below) 1 _ rfl; go_simp; try with_reducible rfl
    try simp only [Act.put, zA, zB, zC]
    refine wpAnyH_ready (rs := [0]) (by kernel_rfl) (by simp) ?_
    refine AllReadyH.cons (o := ⟨some 126, _, _, _, _, none⟩) rfl (fun K hK => ?_) AllReadyH.nil
    go_simp
    go_at_call 136
    refine (check_of_any 1 0 (IsRow.none encA 3 _) (by omega) none 0 0).mono ?_
    rintro e w2 ⟨q, m, qc, rfl, hrow, hfar, hb⟩
    have HR2 : Hid (IsRow encA 3 w2 q m qc []) := hrow
    clear hrow hfar
    try go_wp2_with fail
    refine hK.out _ _ ?_ (fun hNew => ?_)
    · (try dsimp only); exact hHeld.step hb
    clear hHeld hK K; have hHeld := hNew; clear hNew
    try simp only [Act.put, zA, zB, zC]
    refine wpAnyH_ready (rs := [7]) (by kernel_rfl) (by simp) ?_
    refine AllReadyH.cons (o := ⟨some 133, _, _, _, _, none⟩) rfl (fun K hK => ?_) AllReadyH.nil
    go_simp
    go_at_call 138
    refine (check_put_any x.ty.head.rho _).mono ?_
    rintro e w3 ⟨rfl, hb⟩
    have HB3 := hid hb
    try go_wp2_with fail
    refine hK.out _ _ ?_ (fun hNew => ?_)
    · (try dsimp only); exact hHeld.step hb
    clear hHeld hK K; have hHeld := hNew; clear hNew
    try simp only [Act.put, zA, zB, zC]
    refine wpAnyH_ready (rs := [8]) (by kernel_rfl) (by simp) ?_
    refine AllReadyH.cons (o := ⟨some 134, _, _, _, _, none⟩) rfl (fun K hK => ?_) AllReadyH.nil
    go_simp
    refine hK.out _ _ ?_ (fun hNew => ?_)
    · (try dsimp only); exact hHeld.alloc _
    clear hHeld hK K; have hHeld := hNew; clear hNew
    try simp only [Act.put, zA, zB, zC]
    refine wpAnyH_ready (rs := [9]) (by kernel_rfl) (by simp) ?_
    refine AllReadyH.cons (o := ⟨some 135, _, _, _, _, none⟩) rfl (fun K hK => ?_) AllReadyH.nil
    go_simp
    have hsz := hHeld.size
    go_at_call 140
    refine (check_all_any (HH.out.res.row.below hHeld.below) (fun r hr => ((HH.out.res.each r hr).below hHeld.below).eff) (atomRow w3 (aPut x.ty.head.rho)) (by decide) (by omega)).mono ?_
    rintro e w5 ⟨v5, k5, rfl, hown5, hb⟩
    obtain ⟨q5, c5, rfl, hrow5⟩ := OwnE.isRow encA_len (by omega) hown5
    have hfar5 := (fun ad hp => Nat.le_trans hsz (by subst hp; exact OwnE.from hown5 ad.block rfl) : ∀ ad, q5 = some ad → w.heap.size + 2 ≤ ad.block)
    have HR5 := hid hrow5
    have HF5 := hid hfar5
    clear hown5 hrow5 hfar5 hsz
    have HB5 := hid hb
    try go_wp2_with fail
    refine hK.out _ _ ?_ (fun hNew => ?_)
    · (try dsimp only); exact hHeld.step hb
    clear hHeld hK K; have hHeld := hNew; clear hNew
    try simp only [Act.put, zA, zB, zC]
    refine tk (i := 10) (oi := ⟨some 136, _, _, _, _, none⟩) (v := ?_) rfl (Or.inl ⟨by rfl, ?_⟩) ?_
    rotate_left; · intro w h; go_simp; try with_reducible rfl
    try simp only [Act.put, zA, zB, zC]
    refine wpAnyH_ready (rs := [11]) (by kernel_rfl) (by simp) ?_
    refine AllReadyH.cons (o := ⟨none, _, _, _, _, none⟩) rfl (fun K hK => ?_) AllReadyH.nil
    have HX9 := hid hHeld
    refine step_store_res rfl _ _ _ (by rfl) hHeld #[.int .u8 1, .int .i64 0, .slice q m qc, .slice none 0 0, .slice q5 k5 c5] (by rfl) (by rfl) (by kernel_rfl) rfl (by simp [Value.oneCell']) ?_
    refine hK.out _ _ ?_ (fun hNew => ?_)
    · (try dsimp only); exact hHeld.store rfl
    clear hHeld hK K; have hHeld := hNew; clear hNew
    try simp only [Act.put, zA, zB, zC]
    refine wpAnyH_done (by kernel_rfl) ?_ _
    clear hHeld
    go_wp2_with fail
    refine bodyPost_ret (results_cell_row rfl _ _ _ _ _ _ _ rfl (HX9.out.heap _) Tryz.underlying81 rfl (by kernel_rfl)) rfl ?_
    have hx := (HH.out.res.each x (by simp))
    have hxo : RH.Own w x.ty.head := (nodeIn (by rw [← Rose.eta]; exact hx.ty) : NodeIn w x.ty.head x.ty.kids).own
    exact int_of HX9.out HH.out.new (HR2.out.below (bel_step (bel_alloc HB3.out _) HB5.out)) HR5.out (fun ad hp => HF5.out ad hp) (allE_ok (fun r hr => (HH.out.res.each r hr).eok) (fun z hz => by rw [List.mem_singleton] at hz; subst hz; exact okAt_put hxo.r0 hxo.r1))
set_option maxHeartbeats 8000000 in
theorem rule_app {w : World} {S : Nat → Prop} {a : AH} {b o c : Nat} {x y : RV} (h : RlIn w S a (some ⟨b, o, none⟩) 2 c [x, y]) (hk : a.kind = 10) : Calls Tryz.prog 99 #[aggT a, .slice (some ⟨b, o, none⟩) 2 c] w (OutC w S (ruleP a.plain (erL [x, y]))) := by
  have HX := hid (rls_new w a)
  have HH := hid h
  have hsum := h.sum
  have e3 : (a.kind == 3) = false := by simp [hk]
  have e4 : (a.kind == 4) = false := by simp [hk]
  have e5 : (a.kind == 5) = false := by simp [hk]
  have e6 : (a.kind == 6) = false := by simp [hk]
  have e7 : (a.kind == 7) = false := by simp [hk]
  have e8 : (a.kind == 8) = false := by simp [hk]
  have e10 : (a.kind == 10) = true := by simp [hk]
  have hc0 := HX.out.box.c 0 _ rfl
  have HRU : Hid (ruleP a.plain (erL [x, y]) = mustP ((x.ty.head.kind == 4) && sameR ((PT.er x.ty).kids.getD 0 tZero) (PT.er y.ty)) a.plain 5 (.ok ((PT.er x.ty).kids.getD 1 tZero, effL (allE (erL [x, y]) [aGet x.ty.head.rho] ++ x.ty.head.eff)))) := by
    show _ = _
    unfold ruleP
    simp [show a.plain.kind = 10 from hk, erL, ← isK_er, er_rho, er_eff]
    try first | rfl | exact ⟨rfl, rfl⟩
  obtain ⟨u, hu⟩ : ∃ u, (x.ty.head.kind == 4) = u := ⟨_, rfl⟩
  rw [HRU.out, hu]
  have HU := hid hu
  clear hu
  cases u
  · skip
    clear h hk
    go_enter Tryz.func99, Tryz.ntmps99
    go_upto_region 18 with fail
    clear hc0 e3 e4 e5 e6 e7 e8 e10
    generalize (w.alloc (.cells #[.int .u8 a.kind, .int .u8 a.op, .int .i64 a.at_, .int .i64 a.n, .string a.name, .string a.arg, .string a.exn, .int .i64 a.rho, .slice a.rp a.rn a.rc, .slice a.ep a.en a.ec, .int .u8 a.ty.head.kind, .int .i64 a.ty.head.rho, .slice a.ty.head.ep a.ty.head.en a.ty.head.ec, .slice a.ty.head.kp a.ty.head.kn a.ty.head.kc, .int .u8 a.res.head.kind, .int .i64 a.res.head.rho, .slice a.res.head.ep a.res.head.en a.res.head.ec, .slice a.res.head.kp a.res.head.kn a.res.head.kc, .slice a.kp a.kn a.kc] 31)).alloc (.cells #[.int .u8 0, .int .i64 0, .slice none 0 0, .slice none 0 0, .slice none 0 0] 81) = W1 at *
    refine wp_region_held_drew (S := fun W' => RlS w a W') (by kernel_rfl) ?_ (fun hHeld => ?_)
    · exact HX.out.drew
    refine tk (i := 0) (oi := ⟨some 139, _, _, _, _, none⟩) (v := ?_) rfl (Or.inl ⟨by rfl, ?_⟩) ?_
    rotate_left; · intro w h; go_simp; try with_reducible rfl
    try simp only [Act.put, zA, zB, zC]
    refine tk (i := 1) (oi := ⟨some 140, _, _, _, _, none⟩) (v := ?_) rfl (Or.inl ⟨by rfl, ?_⟩) ?_
    rotate_left; · intro w h; go_simp; try with_reducible rfl
    try simp only [Act.put, zA, zB, zC]
    refine tk (i := 2) (oi := ⟨some 141, _, _, _, _, none⟩) (v := .agg ([.int .u8 x.ty.head.kind, .int .i64 x.ty.head.rho, .slice x.ty.head.ep x.ty.head.en x.ty.head.ec, .slice x.ty.head.kp x.ty.head.kn x.ty.head.kc, .slice x.ep x.en x.ec] : List Value).toArray) rfl (yieldsIf_load_mid (by rfl) 81 _ rfl b o rfl _ _ (fun W' hSw => rv_all0 (HH.out.res.row.below hSw.below)) Tryz.underlying81 rfl (by kernel_rfl)) ?_
    try simp only [Act.put, zA, zB, zC]
    refine tk (i := 18) (oi := ⟨some 157, _, _, _, _, none⟩) (v := .agg ([.int .u8 a.kind, .int .u8 a.op, .int .i64 a.at_, .int .i64 a.n, .string a.name, .string a.arg, .string a.exn, .int .i64 a.rho, .slice a.rp a.rn a.rc, .slice a.ep a.en a.ec, .int .u8 a.ty.head.kind, .int .i64 a.ty.head.rho, .slice a.ty.head.ep a.ty.head.en a.ty.head.ec, .slice a.ty.head.kp a.ty.head.kn a.ty.head.kc, .int .u8 a.res.head.kind, .int .i64 a.res.head.rho, .slice a.res.head.ep a.res.head.en a.res.head.ec, .slice a.res.head.kp a.res.head.kn a.res.head.kc, .slice a.kp a.kn a.kc] : List Value).toArray) rfl (yieldsIf_load_mid (by rfl) 31 _ rfl w.heap.size 0 rfl _ _ (fun W' hSw => hSw.box.range) Tryz.underlying31 rfl (by kernel_rfl)) ?_
    try simp only [Act.put, zA, zB, zC]
    refine wpAnyH_ready (rs := [3]) (by kernel_rfl) (by simp) ?_
    refine AllReadyH.cons (o := ⟨some 142, _, _, _, _, none⟩) rfl (fun K hK => ?_) AllReadyH.nil
    go_simp
    go_at_call 141
    refine (result_is_is HU.out _).mono ?_
    rintro e w8 ⟨rfl, hb⟩
    try go_wp2_with fail
    refine hK.out _ _ ?_ (fun hNew => ?_)
    · (try dsimp only); exact hHeld.step hb
    clear hHeld hK K; have hHeld := hNew; clear hNew
    try simp only [Act.put, zA, zB, zC]
    refine tk (i := 4) (oi := ⟨some 143, _, _, _, _, none⟩) (v := ?_) rfl (Or.inl ⟨by rfl, ?_⟩) ?_
    rotate_left; · intro w h; go_simp; try with_reducible rfl
    try simp only [Act.put, zA, zB, zC]
    refine tk (i := 5) (oi := ⟨some 144, _, _, _, _, some (4, true)⟩) (v := undef) rfl (Or.inr ⟨by rfl, rfl⟩) ?_
    try simp only [Act.put, zA, zB, zC]
    refine tk (i := 6) (oi := ⟨some 145, _, _, _, _, some (4, true)⟩) (v := undef) rfl (Or.inr ⟨by rfl, rfl⟩) ?_
    try simp only [Act.put, zA, zB, zC]
    refine tk (i := 7) (oi := ⟨some 146, _, _, _, _, some (4, true)⟩) (v := undef) rfl (Or.inr ⟨by rfl, rfl⟩) ?_
    try simp only [Act.put, zA, zB, zC]
    refine tk (i := 8) (oi := ⟨some 147, _, _, _, _, some (4, true)⟩) (v := undef) rfl (Or.inr ⟨by rfl, rfl⟩) ?_
    try simp only [Act.put, zA, zB, zC]
    refine tk (i := 9) (oi := ⟨some 148, _, _, _, _, some (4, true)⟩) (v := undef) rfl (Or.inr ⟨by rfl, rfl⟩) ?_
    try simp only [Act.put, zA, zB, zC]
    refine tk (i := 10) (oi := ⟨some 149, _, _, _, _, some (4, true)⟩) (v := undef) rfl (Or.inr ⟨by rfl, rfl⟩) ?_
    try simp only [Act.put, zA, zB, zC]
    refine tk (i := 11) (oi := ⟨some 150, _, _, _, _, some (4, true)⟩) (v := undef) rfl (Or.inr ⟨by rfl, rfl⟩) ?_
    try simp only [Act.put, zA, zB, zC]
    refine tk (i := 12) (oi := ⟨some 151, _, _, _, _, some (4, true)⟩) (v := undef) rfl (Or.inr ⟨by rfl, rfl⟩) ?_
    try simp only [Act.put, zA, zB, zC]
    refine tk (i := 13) (oi := ⟨some 152, _, _, _, _, some (4, true)⟩) (v := undef) rfl (Or.inr ⟨by rfl, rfl⟩) ?_
    try simp only [Act.put, zA, zB, zC]
    refine tk (i := 14) (oi := ⟨some 153, _, _, _, _, some (4, true)⟩) (v := undef) rfl (Or.inr ⟨by rfl, rfl⟩) ?_
    try simp only [Act.put, zA, zB, zC]
    refine tk (i := 15) (oi := ⟨some 154, _, _, _, _, some (4, true)⟩) (v := undef) rfl (Or.inr ⟨by rfl, rfl⟩) ?_
    try simp only [Act.put, zA, zB, zC]
    refine wpAnyH_ready (rs := [16]) (by kernel_rfl) (by simp) ?_
    refine AllReadyH.cons (o := ⟨some 155, _, _, _, _, some (4, true)⟩) rfl (fun K hK => ?_) AllReadyH.nil
    go_simp
    refine hK.out _ _ ?_ (fun hNew => ?_)
    · (try dsimp only); exact hHeld
    clear hHeld hK K; have hHeld := hNew; clear hNew
    try simp only [Act.put, zA, zB, zC]
    refine tk (i := 17) (oi := ⟨some 156, _, _, _, _, none⟩) (v := ?_) rfl (Or.inl ⟨by rfl, ?_⟩) ?_
    rotate_left; · intro w h; go_simp; try with_reducible rfl
    try simp only [Act.put, zA, zB, zC]
    refine wpAnyH_ready (rs := [19]) (by kernel_rfl) (by simp) ?_
    refine AllReadyH.cons (o := ⟨some 158, _, _, _, _, none⟩) rfl (fun K hK => ?_) AllReadyH.nil
    go_simp
    go_at_call 64
    refine (must_no a 5 _).mono ?_
    rintro e w9 ⟨rfl, hb⟩
    exact ⟨rfl, rfl, (hHeld.step hb).below⟩
  · obtain ⟨b1, o1, kc, ts, hkids, hlen⟩ := kids_of HH.out (k := 4) (by simpa using HU.out) (by decide)
    obtain ⟨t0, t1, rfl⟩ : ∃ t0 t1, ts = [t0, t1] := by
      match ts, hlen with
      | [t0, t1], _ => exact ⟨t0, t1, rfl⟩
    have hv0 : sameR ((PT.er x.ty).kids.getD 0 tZero) (PT.er y.ty) = sameP t0 y.ty := by rw [kid_er hkids.kids]; rfl
    obtain ⟨v, hv⟩ : ∃ v, sameP t0 y.ty = v := ⟨_, rfl⟩
    rw [hv0, hv]
    have HV := hid hv
    have HK := hid hkids
    clear hkids hlen hv hv0
    clear h hk
    go_enter Tryz.func99, Tryz.ntmps99
    go_upto_region 18 with fail
    clear hc0 e3 e4 e5 e6 e7 e8 e10
    generalize (w.alloc (.cells #[.int .u8 a.kind, .int .u8 a.op, .int .i64 a.at_, .int .i64 a.n, .string a.name, .string a.arg, .string a.exn, .int .i64 a.rho, .slice a.rp a.rn a.rc, .slice a.ep a.en a.ec, .int .u8 a.ty.head.kind, .int .i64 a.ty.head.rho, .slice a.ty.head.ep a.ty.head.en a.ty.head.ec, .slice a.ty.head.kp a.ty.head.kn a.ty.head.kc, .int .u8 a.res.head.kind, .int .i64 a.res.head.rho, .slice a.res.head.ep a.res.head.en a.res.head.ec, .slice a.res.head.kp a.res.head.kn a.res.head.kc, .slice a.kp a.kn a.kc] 31)).alloc (.cells #[.int .u8 0, .int .i64 0, .slice none 0 0, .slice none 0 0, .slice none 0 0] 81) = W1 at *
    refine wp_region_held_drew (S := fun W' => RlS w a W') (by kernel_rfl) ?_ (fun hHeld => ?_)
    · exact HX.out.drew
    refine tk (i := 0) (oi := ⟨some 139, _, _, _, _, none⟩) (v := ?_) rfl (Or.inl ⟨by rfl, ?_⟩) ?_
    rotate_left; · intro w h; go_simp; try with_reducible rfl
    try simp only [Act.put, zA, zB, zC]
    refine tk (i := 1) (oi := ⟨some 140, _, _, _, _, none⟩) (v := ?_) rfl (Or.inl ⟨by rfl, ?_⟩) ?_
    rotate_left; · intro w h; go_simp; try with_reducible rfl
    try simp only [Act.put, zA, zB, zC]
    refine tk (i := 2) (oi := ⟨some 141, _, _, _, _, none⟩) (v := .agg ([.int .u8 x.ty.head.kind, .int .i64 x.ty.head.rho, .slice x.ty.head.ep x.ty.head.en x.ty.head.ec, .slice x.ty.head.kp x.ty.head.kn x.ty.head.kc, .slice x.ep x.en x.ec] : List Value).toArray) rfl (yieldsIf_load_mid (by rfl) 81 _ rfl b o rfl _ _ (fun W' hSw => rv_all0 (HH.out.res.row.below hSw.below)) Tryz.underlying81 rfl (by kernel_rfl)) ?_
    try simp only [Act.put, zA, zB, zC]
    refine tk (i := 18) (oi := ⟨some 157, _, _, _, _, none⟩) (v := .agg ([.int .u8 a.kind, .int .u8 a.op, .int .i64 a.at_, .int .i64 a.n, .string a.name, .string a.arg, .string a.exn, .int .i64 a.rho, .slice a.rp a.rn a.rc, .slice a.ep a.en a.ec, .int .u8 a.ty.head.kind, .int .i64 a.ty.head.rho, .slice a.ty.head.ep a.ty.head.en a.ty.head.ec, .slice a.ty.head.kp a.ty.head.kn a.ty.head.kc, .int .u8 a.res.head.kind, .int .i64 a.res.head.rho, .slice a.res.head.ep a.res.head.en a.res.head.ec, .slice a.res.head.kp a.res.head.kn a.res.head.kc, .slice a.kp a.kn a.kc] : List Value).toArray) rfl (yieldsIf_load_mid (by rfl) 31 _ rfl w.heap.size 0 rfl _ _ (fun W' hSw => hSw.box.range) Tryz.underlying31 rfl (by kernel_rfl)) ?_
    try simp only [Act.put, zA, zB, zC]
    refine wpAnyH_ready (rs := [3]) (by kernel_rfl) (by simp) ?_
    refine AllReadyH.cons (o := ⟨some 142, _, _, _, _, none⟩) rfl (fun K hK => ?_) AllReadyH.nil
    go_simp
    go_at_call 141
    refine (result_is_is HU.out _).mono ?_
    rintro e w8 ⟨rfl, hb⟩
    try go_wp2_with fail
    refine hK.out _ _ ?_ (fun hNew => ?_)
    · (try dsimp only); exact hHeld.step hb
    clear hHeld hK K; have hHeld := hNew; clear hNew
    try simp only [Act.put, zA, zB, zC]
    refine tk (i := 4) (oi := ⟨some 143, _, _, _, _, none⟩) (v := ?_) rfl (Or.inl ⟨by rfl, ?_⟩) ?_
    rotate_left; · intro w h; go_simp; try with_reducible rfl
    try simp only [Act.put, zA, zB, zC]
    refine tk (i := 5) (oi := ⟨some 144, _, _, _, _, some (4, true)⟩) (v := ?_) rfl (Or.inl ⟨by rfl, ?_⟩) ?_
    rotate_left; · intro w h; go_simp; try with_reducible rfl
    try simp only [Act.put, zA, zB, zC]
    refine tk (i := 6) (oi := ⟨some 145, _, _, _, _, some (4, true)⟩) (v := ?_) rfl (Or.inl ⟨by rfl, ?_⟩) ?_
    rotate_left; · intro w h; go_simp; try with_reducible rfl
    try simp only [Act.put, zA, zB, zC]
    refine tk (i := 7) (oi := ⟨some 146, _, _, _, _, some (4, true)⟩) (v := ?_) rfl (Or.inl ⟨by rfl, ?_⟩) ?_
    rotate_left; · intro w h; go_simp; try with_reducible rfl
    try simp only [Act.put, zA, zB, zC]
    refine tk (i := 8) (oi := ⟨some 147, _, _, _, _, some (4, true)⟩) (v := ?_) rfl (Or.inl ⟨by rfl, ?_⟩) ?_
    rotate_left; · intro w h; go_simp; try with_reducible rfl
    try simp only [Act.put, zA, zB, zC]
    refine tk (i := 9) (oi := ⟨some 148, _, _, _, _, some (4, true)⟩) (v := ?_) rfl (Or.inl ⟨by rfl, ?_⟩) ?_
    rotate_left
    · intro w hSw; (try dsimp only at hSw); have q3 := HK.out.cell _ hSw.below; go_simp; try with_reducible rfl
    try simp only [Act.put, zA, zB, zC]
    refine tk (i := 10) (oi := ⟨some 149, _, _, _, _, some (4, true)⟩) (v := ?_) rfl (Or.inl ⟨by rfl, ?_⟩) ?_
    rotate_left; · intro w h; go_simp; try with_reducible rfl
    try simp only [Act.put, zA, zB, zC]
    refine tk (i := 11) (oi := ⟨some 150, _, _, _, _, some (4, true)⟩) (v := .agg ([.int .u8 t0.head.kind, .int .i64 t0.head.rho, .slice t0.head.ep t0.head.en t0.head.ec, .slice t0.head.kp t0.head.kn t0.head.kc] : List Value).toArray) rfl (yieldsIf_load_mid (by rfl) 28 _ rfl b1 o1 rfl _ _ (fun W' hSw => by simpa using HK.out.at (j := 0) rfl hSw.below) Tryz.underlying28 rfl (by kernel_rfl)) ?_
    try simp only [Act.put, zA, zB, zC]
    refine tk (i := 12) (oi := ⟨some 151, _, _, _, _, some (4, true)⟩) (v := ?_) rfl (Or.inl ⟨by rfl, ?_⟩) ?_
    rotate_left; · intro w h; go_simp; try with_reducible rfl
    try simp only [Act.put, zA, zB, zC]
    refine tk (i := 13) (oi := ⟨some 152, _, _, _, _, some (4, true)⟩) (v := ?_) rfl (Or.inl ⟨by rfl, ?_⟩) ?_
    rotate_left; · intro w h; go_simp; try with_reducible rfl
    try simp only [Act.put, zA, zB, zC]
    refine tk (i := 14) (oi := ⟨some 153, _, _, _, _, some (4, true)⟩) (v := ?_) rfl (Or.inl ⟨by rfl, ?_⟩) ?_
    rotate_left; · intro w h; go_simp; try with_reducible rfl
    try simp only [Act.put, zA, zB, zC]
    refine tk (i := 15) (oi := ⟨some 154, _, _, _, _, some (4, true)⟩) (v := .agg ([.int .u8 y.ty.head.kind, .int .i64 y.ty.head.rho, .slice y.ty.head.ep y.ty.head.en y.ty.head.ec, .slice y.ty.head.kp y.ty.head.kn y.ty.head.kc] : List Value).toArray) rfl (yieldsIf_load_mid (by rfl) 28 _ rfl b (o + 5) rfl _ _ (fun W' hSw => rv_ty1 (HH.out.res.row.below hSw.below)) Tryz.underlying28 rfl (by kernel_rfl)) ?_
    try simp only [Act.put, zA, zB, zC]
    refine wpAnyH_ready (rs := [16]) (by kernel_rfl) (by simp) ?_
    refine AllReadyH.cons (o := ⟨some 155, _, _, _, _, some (4, true)⟩) rfl (fun K hK => ?_) AllReadyH.nil
    go_simp
    go_at_call 142
    refine (rtype_Same_is HV.out (LR.lies_below hHeld.below _ (HK.out.row.each t0 (by simp))) (LR.lies_below hHeld.below _ (HH.out.res.each y (by simp)).ty)).mono ?_
    rintro e w7 ⟨rfl, hb⟩
    try go_wp2_with fail
    refine hK.out _ _ ?_ (fun hNew => ?_)
    · (try dsimp only); exact hHeld.step hb
    clear hHeld hK K; have hHeld := hNew; clear hNew
    try simp only [Act.put, zA, zB, zC]
    refine tk (i := 17) (oi := ⟨some 156, _, _, _, _, none⟩) (v := ?_) rfl (Or.inl ⟨by rfl, ?_⟩) ?_
    rotate_left; · intro w h; go_simp; try with_reducible rfl
    try simp only [Act.put, zA, zB, zC]
    refine wpAnyH_ready (rs := [19]) (by kernel_rfl) (by simp) ?_
    refine AllReadyH.cons (o := ⟨some 158, _, _, _, _, none⟩) rfl (fun K hK => ?_) AllReadyH.nil
    go_simp
    cases v
    · go_at_call 64
      refine (must_no a 5 _).mono ?_
      rintro e w9 ⟨rfl, hb⟩
      exact ⟨rfl, rfl, (hHeld.step hb).below⟩
    go_at_call 64
    refine (must_yes a 5 _).mono ?_
    rintro e w9 ⟨rfl, hb⟩
    try go_wp2_with fail
    refine hK.out _ _ ?_ (fun hNew => ?_)
    · (try dsimp only); exact hHeld.step hb
    clear hHeld hK K; have hHeld := hNew; clear hNew
    try simp only [Act.put, zA, zB, zC]
    refine wpAnyH_done (by kernel_rfl) ?_ _
    clear HX
    have HX := hid hHeld
    clear hHeld
    go_upto_region 19 with fail
    have hx := (HH.out.res.each x (by simp))
    have hxo : RH.Own w x.ty.head := (nodeIn (by rw [← Rose.eta]; exact hx.ty) : NodeIn w x.ty.head x.ty.kids).own
    have HEF := hid hxo.eff
    have hen : x.ty.head.en ≤ 100 := by
      have h1 := effsOK_head (HH.out.good x (by simp)).2.1
      rw [er_head] at h1
      have h2 := greatB_len h1
      have h3 := hxo.eff.len
      have h4 : x.ty.head.plain.eff = x.ty.head.eff := rfl
      rw [h4] at h2
      omega
    have HEN := hid hen
    have HSE : Hid (sumE (erL [x, y]) ≤ 900000) := by
      have h1 := (HH.out.res.each x (by simp)).eff.len
      have h2 := (HH.out.res.each y (by simp)).eff.len
      have h3 := hsum
      show _ ≤ _
      simp only [sumE, erL, RV.er, List.map_cons, List.map_nil, List.sum_cons, List.sum_nil] at h3 ⊢
      omega
    clear hx hxo hen
    refine wp_region_held_drew (S := fun W' => RlS w a W') (by kernel_rfl) ?_ (fun hHeld => ?_)
    · exact HX.out.drew
    refine tk (i := 0) (oi := ⟨some 159, _, _, _, _, none⟩) (v := ?_) rfl (Or.inl ⟨by rfl, ?_⟩) ?_
    rotate_left; · intro w h; go_simp; try with_reducible rfl
    try simp only [Act.put, zA, zB, zC]
    refine tk (i := 1) (oi := ⟨some 160, _, _, _, _, none⟩) (v := ?_) rfl (Or.inl ⟨by rfl, ?_⟩) ?_
    rotate_left; · intro w h; go_simp; try with_reducible rfl
    try simp only [Act.put, zA, zB, zC]
    refine tk (i := 2) (oi := ⟨some 161, _, _, _, _, none⟩) (v := ?_) rfl (Or.inl ⟨by rfl, ?_⟩) ?_
    rotate_left; · intro w h; go_simp; try with_reducible rfl
    try simp only [Act.put, zA, zB, zC]
    refine tk (i := 3) (oi := ⟨some 162, _, _, _, _, none⟩) (v := ?_) rfl (Or.inl ⟨by rfl, ?_⟩) ?_
    rotate_left; · intro w h; go_simp; try with_reducible rfl
    try simp only [Act.put, zA, zB, zC]
    refine tk (i := 4) (oi := ⟨some 163, _, _, _, _, none⟩) (v := ?_) rfl (Or.inl ⟨by rfl, ?_⟩) ?_
    rotate_left
    · intro w hSw; (try dsimp only at hSw); have q3 := HK.out.cell _ hSw.below; go_simp; try with_reducible rfl
    try simp only [Act.put, zA, zB, zC]
    refine tk (i := 5) (oi := ⟨some 164, _, _, _, _, none⟩) (v := ?_) rfl (Or.inl ⟨by rfl, ?_⟩) ?_
    rotate_left; · intro w h; go_simp; try with_reducible rfl
    try simp only [Act.put, zA, zB, zC]
    refine tk (i := 6) (oi := ⟨some 165, _, _, _, _, none⟩) (v := .agg ([.int .u8 t1.head.kind, .int .i64 t1.head.rho, .slice t1.head.ep t1.head.en t1.head.ec, .slice t1.head.kp t1.head.kn t1.head.kc] : List Value).toArray) rfl (yieldsIf_load_mid (by rfl) 28 _ rfl b1 (o1 + 4) rfl _ _ (fun W' hSw => by simpa using HK.out.at (j := 1) rfl hSw.below) Tryz.underlying28 rfl (by kernel_rfl)) ?_
    try simp only [Act.put, zA, zB, zC]
    refine tk (i := 7) (oi := ⟨some 166, _, _, _, _, none⟩) (v := ?_) rfl (Or.inl ⟨by rfl, ?_⟩) ?_
    rotate_left; · intro w h; go_simp; try with_reducible rfl
    try simp only [Act.put, zA, zB, zC]
    refine tk (i := 8) (oi := ⟨some 167, _, _, _, _, none⟩) (v := ?_) rfl (Or.inl ⟨by rfl, ?_⟩) ?_
    rotate_left; · intro w h; go_simp; try with_reducible rfl
    try simp only [Act.put, zA, zB, zC]
    refine tk (i := 9) (oi := ⟨some 168, _, _, _, _, none⟩) (v := ?_) rfl (Or.inl ⟨by rfl, ?_⟩) ?_
    rotate_left; · intro w h; go_simp; try with_reducible rfl
    try simp only [Act.put, zA, zB, zC]
    refine tk (i := 10) (oi := ⟨some 169, _, _, _, _, none⟩) (v := ?_) rfl (Or.inl ⟨by rfl, ?_⟩) ?_
    rotate_left; · intro w h; go_simp; try with_reducible rfl
    try simp only [Act.put, zA, zB, zC]
    refine tk (i := 11) (oi := ⟨some 170, _, _, _, _, none⟩) (v := ?_) rfl (Or.inl ⟨by rfl, ?_⟩) ?_
    rotate_left; · intro w h; go_simp; try with_reducible rfl
    try simp only [Act.put, zA, zB, zC]
    refine tk (i := 12) (oi := ⟨some 171, _, _, _, _, none⟩) (v := ?_) rfl (Or.inl ⟨by rfl, ?_⟩) ?_
    rotate_left
    · intro w hSw; (try dsimp only at hSw); have q1 := rv_c (HH.out.res.row.below hSw.below) 1 _ rfl; go_simp; try with_reducible rfl
    try simp only [Act.put, zA, zB, zC]
    refine tk (i := 16) (oi := ⟨some 175, _, _, _, _, none⟩) (v := ?_) rfl (Or.inl ⟨by rfl, ?_⟩) ?_
    rotate_left; · intro w h; go_simp; try with_reducible rfl
    try simp only [Act.put, zA, zB, zC]
    refine tk (i := 17) (oi := ⟨some 176, _, _, _, _, none⟩) (v := ?_) rfl (Or.inl ⟨by rfl, ?_⟩) ?_
    rotate_left; · intro w h; go_simp; try with_reducible rfl
    try simp only [Act.put, zA, zB, zC]
    refine tk (i := 18) (oi := ⟨some 177, _, _, _, _, none⟩) (v := ?_) rfl (Or.inl ⟨by rfl, ?_⟩) ?_
    rotate_left; · intro w h; go_simp; try with_reducible rfl
    try simp only [Act.put, zA, zB, zC]
    refine tk (i := 19) (oi := ⟨some 178, _, _, _, _, none⟩) (v := ?_) rfl (Or.inl ⟨by rfl, ?_⟩) ?_
    rotate_left; · intro w h; go_simp; try with_reducible rfl
    try simp only [Act.put, zA, zB, zC]
    refine tk (i := 20) (oi := ⟨some 179, _, _, _, _, none⟩) (v := ?_) rfl (Or.inl ⟨by rfl, ?_⟩) ?_
    rotate_left
    · intro w hSw; (try dsimp only at hSw); have q2 := rv_c (HH.out.res.row.below hSw.below) 2 _ rfl; go_simp; try with_reducible rfl
    try simp only [Act.put, zA, zB, zC]
    refine wpAnyH_ready (rs := [13]) (by kernel_rfl) (by simp) ?_
    refine AllReadyH.cons (o := ⟨some 172, _, _, _, _, none⟩) rfl (fun K hK => ?_) AllReadyH.nil
    go_simp
    go_at_call 137
    refine (check_get_any x.ty.head.rho _).mono ?_
    rintro e w3 ⟨rfl, hb⟩
    have HB3 := hid hb
    try go_wp2_with fail
    refine hK.out _ _ ?_ (fun hNew => ?_)
    · (try dsimp only); exact hHeld.step hb
    clear hHeld hK K; have hHeld := hNew; clear hNew
    try simp only [Act.put, zA, zB, zC]
    refine wpAnyH_ready (rs := [14]) (by kernel_rfl) (by simp) ?_
    refine AllReadyH.cons (o := ⟨some 173, _, _, _, _, none⟩) rfl (fun K hK => ?_) AllReadyH.nil
    go_simp
    refine hK.out _ _ ?_ (fun hNew => ?_)
    · (try dsimp only); exact hHeld.alloc _
    clear hHeld hK K; have hHeld := hNew; clear hNew
    try simp only [Act.put, zA, zB, zC]
    refine wpAnyH_ready (rs := [15]) (by kernel_rfl) (by simp) ?_
    refine AllReadyH.cons (o := ⟨some 174, _, _, _, _, none⟩) rfl (fun K hK => ?_) AllReadyH.nil
    go_simp
    have hsz := hHeld.size
    go_at_call 140
    refine (check_all_any (HH.out.res.row.below hHeld.below) (fun r hr => ((HH.out.res.each r hr).below hHeld.below).eff) (atomRow w3 (aGet x.ty.head.rho)) (by decide) (by omega)).mono ?_
    rintro e w4 ⟨v4, k4, rfl, hown4, hb⟩
    obtain ⟨q4, c4, rfl, hrow4⟩ := OwnE.isRow encA_len (by omega) hown4
    have hk4 : k4 ≤ 900001 := by have h1 := hrow4.len; have h2 := allE_length (erL [x, y]) [aGet x.ty.head.rho]; have h3 := HSE.out; simp only [List.length_cons, List.length_nil] at h2; omega
    have HK4 := hid hk4
    have HR4 := hid hrow4
    clear hown4 hrow4 hsz hk4
    try go_wp2_with fail
    refine hK.out _ _ ?_ (fun hNew => ?_)
    · (try dsimp only); exact hHeld.step hb
    clear hHeld hK K; have hHeld := hNew; clear hNew
    try simp only [Act.put, zA, zB, zC]
    refine wpAnyH_ready (rs := [21]) (by kernel_rfl) (by simp) ?_
    refine AllReadyH.cons (o := ⟨some 180, _, _, _, _, none⟩) rfl (fun K hK => ?_) AllReadyH.nil
    go_simp
    refine hK.out _ _ ?_ (fun hNew => ?_)
    · (try dsimp only); exact hHeld.alloc _
    clear hHeld hK K; have hHeld := hNew; clear hNew
    try simp only [Act.put, zA, zB, zC]
    refine wpAnyH_ready (rs := [22]) (by kernel_rfl) (by simp) ?_
    refine AllReadyH.cons (o := ⟨some 181, _, _, _, _, none⟩) rfl (fun K hK => ?_) AllReadyH.nil
    go_simp
    have hsz := hHeld.size
    go_at_call 85
    refine (effect_Union_any _ 2 2 [⟨q4, k4, c4, allE (erL [x, y]) [aGet x.ty.head.rho]⟩, ⟨x.ty.head.ep, x.ty.head.en, x.ty.head.ec, x.ty.head.eff⟩] _ rfl (by decide) (two_rows _ _ _) (two_ok (HR4.out.alloc _) (HEF.out.below hHeld.below)) (by have h1 := HK4.out; have h2 := HEN.out; simp; omega)).mono ?_
    rintro e w5 ⟨v5, k5, rfl, _, hown5, hb⟩
    obtain ⟨q5, c5, rfl, hrow5⟩ := OwnE.isRow encA_len (by omega) hown5
    have hfar5 := (fun ad hp => Nat.le_trans hsz (by subst hp; exact OwnE.from hown5 ad.block rfl) : ∀ ad, q5 = some ad → w.heap.size + 2 ≤ ad.block)
    have HR5 : Hid (IsRow encA 3 w5 q5 k5 c5 (effL (allE (erL [x, y]) [aGet x.ty.head.rho] ++ x.ty.head.eff))) := by have h := hrow5; simp only [List.flatMap_cons, List.flatMap_nil, List.append_nil] at h; exact h
    have HF5 := hid hfar5
    clear hown5 hrow5 hfar5 hsz
    try go_wp2_with fail
    refine hK.out _ _ ?_ (fun hNew => ?_)
    · (try dsimp only); exact hHeld.step hb
    clear hHeld hK K; have hHeld := hNew; clear hNew
    try simp only [Act.put, zA, zB, zC]
    refine tk (i := 23) (oi := ⟨some 182, _, _, _, _, none⟩) (v := ?_) rfl (Or.inl ⟨by rfl, ?_⟩) ?_
    rotate_left; · intro w h; go_simp; try with_reducible rfl
    try simp only [Act.put, zA, zB, zC]
    refine wpAnyH_ready (rs := [24]) (by kernel_rfl) (by simp) ?_
    refine AllReadyH.cons (o := ⟨none, _, _, _, _, none⟩) rfl (fun K hK => ?_) AllReadyH.nil
    have HX9 := hid hHeld
    refine step_store_res rfl _ _ _ (by rfl) hHeld #[.int .u8 t1.head.kind, .int .i64 t1.head.rho, .slice t1.head.ep t1.head.en t1.head.ec, .slice t1.head.kp t1.head.kn t1.head.kc, .slice q5 k5 c5] (by rfl) (by rfl) (by kernel_rfl) rfl (by simp [Value.oneCell']) ?_
    refine hK.out _ _ ?_ (fun hNew => ?_)
    · (try dsimp only); exact hHeld.store rfl
    clear hHeld hK K; have hHeld := hNew; clear hNew
    try simp only [Act.put, zA, zB, zC]
    refine wpAnyH_done (by kernel_rfl) ?_ _
    clear hHeld
    go_wp2_with fail
    refine bodyPost_ret (results_cell_row rfl _ _ _ _ _ _ _ rfl (HX9.out.heap _) Tryz.underlying81 rfl (by kernel_rfl)) rfl ?_
    have hx := (HH.out.res.each x (by simp))
    have hxo : RH.Own w x.ty.head := (nodeIn (by rw [← Rose.eta]; exact hx.ty) : NodeIn w x.ty.head x.ty.kids).own
    have hmem : t1 ∈ x.ty.kids := by rw [HK.out.kids]; simp
    refine out_of (y := ⟨t1, q5, k5, c5, effL (allE (erL [x, y]) [aGet x.ty.head.rho] ++ x.ty.head.eff)⟩) HX9.out HH.out.new ⟨LR.lies_below HX9.out.below _ (HK.out.row.each t1 (by simp)), kid_uses ((res_sn HH.out.res (Below.refl _ _)).each x (by simp)).uses hmem, HR5.out, fun z hz => ?_, fun _ ad hp => .inr (HF5.out ad hp)⟩ (by unfold RV.er; rw [kid_er HK.out.kids]; rfl)
    rcases List.mem_append.1 ((mem_effL _ _).1 hz).1 with hz | hz
    · exact allE_ok (fun r hr => (HH.out.res.each r hr).eok) (fun z hz => by rw [List.mem_singleton] at hz; subst hz; exact okAt_get hxo.r0 hxo.r1) z hz
    · exact hxo.ok z hz
end
end Go.Proofs.YtkdjnegfnhldpaaGreatDoor
