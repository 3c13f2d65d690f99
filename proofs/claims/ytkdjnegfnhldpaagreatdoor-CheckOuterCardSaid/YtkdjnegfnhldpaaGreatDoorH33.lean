/- Part 33 of the texts: Bk, Rb, Ru. -/
import Derived.Test.YtkdjnegfnhldpaaGreatDoorH32
import Derived.Test.YtkdjnegfnhldpaaGreatDoorH27
import Derived.Test.YtkdjnegfnhldpaaGreatDoorH28
import Derived.Test.YtkdjnegfnhldpaaGreatDoorH29
import Derived.Test.YtkdjnegfnhldpaaGreatDoorH30
import Derived.Test.YtkdjnegfnhldpaaGreatDoorH01
set_option linter.unusedVariables false
set_option maxRecDepth 100000
set_option linter.unusedSimpArgs false
namespace Go.Proofs.YtkdjnegfnhldpaaGreatDoor
open Go.Lib (hid)
section
open Go.RowKit
theorem rv_tail {W : World} {b o c : Nat} {x y : RV} (h : IsRow encRV 5 W (some ⟨b, o, none⟩) 2 (c + 2) [x, y]) : IsRow encRV 5 W (some ⟨b, o + 5, none⟩) 1 (c + 1) [y] := by
  refine ⟨rfl, by decide, ?_, ?_, ?_⟩
  · omega
  · intro hn; cases hn
  · obtain ⟨b', o', hp, hlt, hc⟩ := h.row.elem (j := 1) rfl
    cases hp
    refine .inr ⟨b, o + 5, rfl, hlt, fun j z hz i v hv => ?_⟩
    cases j with
    | zero => cases hz; simpa using hc i v hv
    | succ j => cases hz
set_option maxHeartbeats 8000000 in
theorem binds_letrec {w : World} {S : Nat → Prop} {a : AH} {b o c : Nat} {x y : RV} (h : RlIn w S a (some ⟨b, o, none⟩) 2 c [x, y]) (hk : a.kind = 13) : Calls Tryz.prog 144 #[aggT a, .slice (some ⟨b, o, none⟩) 2 c] w (OutC w S (bindsP a.plain (erL [x, y]))) := by
  obtain ⟨c, rfl⟩ : ∃ e, c = e + 2 := ⟨c - 2, by have := h.res.row.le; omega⟩
  have HX := hid (rls_new w a)
  have HH := hid h
  have hsum := h.sum
  have e11 : (a.kind == 11) = false := by simp [hk]
  have e13 : (a.kind == 13) = true := by simp [hk]
  have hc0 := HX.out.box.c 0 _ rfl
  have HRU : Hid (bindsP a.plain (erL [x, y]) = mustP (sameP x.ty a.res) a.plain 5 (mustP (withinB x.eff a.eff) a.plain 6 (.ok (y.ty.er, allE (erL [y]) [aPut a.rho])))) := by
    show _ = _
    unfold bindsP
    simp [show a.plain.kind = 13 from hk, erL]
    try first | rfl | exact ⟨rfl, rfl⟩
  rw [HRU.out]
  obtain ⟨v, hv⟩ : ∃ v, sameP x.ty a.res = v := ⟨_, rfl⟩
  obtain ⟨u, hu⟩ : ∃ u, withinB x.eff a.eff = u := ⟨_, rfl⟩
  rw [hv, hu]
  have HV := hid hv
  have HW := hid hu
  clear hv hu
  clear h hk
  go_enter Tryz.func144, Tryz.ntmps144
  go_upto_region 6 with fail
  clear hc0 e11 e13
  generalize (w.alloc (.cells #[.int .u8 a.kind, .int .u8 a.op, .int .i64 a.at_, .int .i64 a.n, .string a.name, .string a.arg, .string a.exn, .int .i64 a.rho, .slice a.rp a.rn a.rc, .slice a.ep a.en a.ec, .int .u8 a.ty.head.kind, .int .i64 a.ty.head.rho, .slice a.ty.head.ep a.ty.head.en a.ty.head.ec, .slice a.ty.head.kp a.ty.head.kn a.ty.head.kc, .int .u8 a.res.head.kind, .int .i64 a.res.head.rho, .slice a.res.head.ep a.res.head.en a.res.head.ec, .slice a.res.head.kp a.res.head.kn a.res.head.kc, .slice a.kp a.kn a.kc] 31)).alloc (.cells #[.int .u8 0, .int .i64 0, .slice none 0 0, .slice none 0 0, .slice none 0 0] 81) = W1 at *
  refine wp_region_held_drew (S := fun W' => RlS w a W') (by kernel_rfl) ?_ (fun hHeld => ?_)
  · exact HX.out.drew
  refine tk (i := 0) (oi := ⟨some 39, _, _, _, _, none⟩) (v := ?_) rfl (Or.inl ⟨by rfl, ?_⟩) ?_
  rotate_left
  · intro w hSw; (try dsimp only at hSw); go_simp; try with_reducible rfl
  try simp only [Act.put, zA, zB, zC]
  refine tk (i := 1) (oi := ⟨some 40, _, _, _, _, none⟩) (v := ?_) rfl (Or.inl ⟨by rfl, ?_⟩) ?_
  rotate_left
  · intro w hSw; (try dsimp only at hSw); go_simp; try with_reducible rfl
  try simp only [Act.put, zA, zB, zC]
  refine tk (i := 2) (oi := ⟨some 41, _, _, _, _, none⟩) (v := ?_) rfl (Or.inl ⟨by rfl, ?_⟩) ?_
  rotate_left
  · intro w hSw; (try dsimp only at hSw); go_simp; try with_reducible rfl
  try simp only [Act.put, zA, zB, zC]
  refine tk (i := 3) (oi := ⟨some 42, _, _, _, _, none⟩) (v := .agg ([.int .u8 x.ty.head.kind, .int .i64 x.ty.head.rho, .slice x.ty.head.ep x.ty.head.en x.ty.head.ec, .slice x.ty.head.kp x.ty.head.kn x.ty.head.kc] : List Value).toArray) rfl (yieldsIf_load_mid (by rfl) 28 _ rfl b o rfl _ _ (fun W' hSw => rv_ty0 (HH.out.res.row.below hSw.below)) Tryz.underlying28 rfl (by kernel_rfl)) ?_
  try simp only [Act.put, zA, zB, zC]
  refine tk (i := 4) (oi := ⟨some 43, _, _, _, _, none⟩) (v := ?_) rfl (Or.inl ⟨by rfl, ?_⟩) ?_
  rotate_left
  · intro w hSw; (try dsimp only at hSw); go_simp; try with_reducible rfl
  try simp only [Act.put, zA, zB, zC]
  refine tk (i := 5) (oi := ⟨some 44, _, _, _, _, none⟩) (v := .agg ([.int .u8 a.res.head.kind, .int .i64 a.res.head.rho, .slice a.res.head.ep a.res.head.en a.res.head.ec, .slice a.res.head.kp a.res.head.kn a.res.head.kc] : List Value).toArray) rfl (yieldsIf_load_mid (by rfl) 28 _ rfl w.heap.size 14 rfl _ _ (fun W' hSw => range_part' hSw.box 14 4 rfl) Tryz.underlying28 rfl (by kernel_rfl)) ?_
  try simp only [Act.put, zA, zB, zC]
  refine tk (i := 7) (oi := ⟨some 46, _, _, _, _, none⟩) (v := .agg ([.int .u8 a.kind, .int .u8 a.op, .int .i64 a.at_, .int .i64 a.n, .string a.name, .string a.arg, .string a.exn, .int .i64 a.rho, .slice a.rp a.rn a.rc, .slice a.ep a.en a.ec, .int .u8 a.ty.head.kind, .int .i64 a.ty.head.rho, .slice a.ty.head.ep a.ty.head.en a.ty.head.ec, .slice a.ty.head.kp a.ty.head.kn a.ty.head.kc, .int .u8 a.res.head.kind, .int .i64 a.res.head.rho, .slice a.res.head.ep a.res.head.en a.res.head.ec, .slice a.res.head.kp a.res.head.kn a.res.head.kc, .slice a.kp a.kn a.kc] : List Value).toArray) rfl (yieldsIf_load_mid (by rfl) 31 _ rfl w.heap.size 0 rfl _ _ (fun W' hSw => hSw.box.range) Tryz.underlying31 rfl (by kernel_rfl)) ?_
  try simp only [Act.put, zA, zB, zC]
  refine wpAnyH_ready (rs := [6]) (by kernel_rfl) (by simp) ?_
  refine AllReadyH.cons (o := ⟨some 45, _, _, _, _, none⟩) rfl (fun K hK => ?_) AllReadyH.nil
  go_simp
  go_at_call 142
  refine (rtype_Same_is HV.out (LR.lies_below hHeld.below _ (HH.out.res.each x (by simp)).ty) (LR.lies_below hHeld.below _ HH.out.own.res)).mono ?_
  rintro e w7 ⟨rfl, hb⟩
  try go_wp2_with fail
  refine hK.out _ _ ?_ (fun hNew => ?_)
  · (try dsimp only); exact hHeld.step hb
  clear hHeld hK K
  have hHeld := hNew
  clear hNew
  try simp only [Act.put, zA, zB, zC]
  refine wpAnyH_ready (rs := [8]) (by kernel_rfl) (by simp) ?_
  refine AllReadyH.cons (o := ⟨some 47, _, _, _, _, none⟩) rfl (fun K hK => ?_) AllReadyH.nil
  go_simp
  cases v
  · go_at_call 64
    refine (must_no a 5 _).mono ?_
    rintro e w9 ⟨rfl, hb⟩
    exact ⟨rfl, rfl, (hHeld.step hb).below⟩
  go_at_call 64
  refine (must_yes a 5 _).mono ?_
  rintro e w9 ⟨rfl, hb⟩
  try go_wp2_with fail
  refine hK.out _ _ ?_ (fun hNew => ?_)
  · (try dsimp only); exact hHeld.step hb
  clear hHeld hK K
  have hHeld := hNew
  clear hNew
  try simp only [Act.put, zA, zB, zC]
  refine wpAnyH_done (by kernel_rfl) ?_ _
  clear HX
  have HX := hid hHeld
  clear hHeld
  go_upto_region 7 with fail
  refine wp_region_held_drew (S := fun W' => RlS w a W') (by kernel_rfl) ?_ (fun hHeld => ?_)
  · exact HX.out.drew
  refine tk (i := 0) (oi := ⟨some 48, _, _, _, _, none⟩) (v := ?_) rfl (Or.inl ⟨by rfl, ?_⟩) ?_
  rotate_left
  · intro w hSw; (try dsimp only at hSw); go_simp; try with_reducible rfl
  try simp only [Act.put, zA, zB, zC]
  refine tk (i := 1) (oi := ⟨some 49, _, _, _, _, none⟩) (v := ?_) rfl (Or.inl ⟨by rfl, ?_⟩) ?_
  rotate_left
  · intro w hSw; (try dsimp only at hSw); go_simp; try with_reducible rfl
  try simp only [Act.put, zA, zB, zC]
  refine tk (i := 2) (oi := ⟨some 50, _, _, _, _, none⟩) (v := ?_) rfl (Or.inl ⟨by rfl, ?_⟩) ?_
  rotate_left
  · intro w hSw; (try dsimp only at hSw); go_simp; try with_reducible rfl
  try simp only [Act.put, zA, zB, zC]
  refine tk (i := 3) (oi := ⟨some 51, _, _, _, _, none⟩) (v := ?_) rfl (Or.inl ⟨by rfl, ?_⟩) ?_
  rotate_left
  · intro w hSw; (try dsimp only at hSw); have q4 := rv_c (HH.out.res.row.below hSw.below) 4 _ rfl; go_simp; try with_reducible rfl
  try simp only [Act.put, zA, zB, zC]
  refine tk (i := 4) (oi := ⟨some 52, _, _, _, _, none⟩) (v := ?_) rfl (Or.inl ⟨by rfl, ?_⟩) ?_
  rotate_left
  · intro w hSw; (try dsimp only at hSw); go_simp; try with_reducible rfl
  try simp only [Act.put, zA, zB, zC]
  refine tk (i := 5) (oi := ⟨some 53, _, _, _, _, none⟩) (v := ?_) rfl (Or.inl ⟨by rfl, ?_⟩) ?_
  rotate_left
  · intro w hSw; (try dsimp only at hSw); have q9 := hSw.box.c 9 _ rfl; go_simp; try with_reducible rfl
  try simp only [Act.put, zA, zB, zC]
  refine tk (i := 7) (oi := ⟨some 55, _, _, _, _, none⟩) (v := .agg ([.int .u8 a.kind, .int .u8 a.op, .int .i64 a.at_, .int .i64 a.n, .string a.name, .string a.arg, .string a.exn, .int .i64 a.rho, .slice a.rp a.rn a.rc, .slice a.ep a.en a.ec, .int .u8 a.ty.head.kind, .int .i64 a.ty.head.rho, .slice a.ty.head.ep a.ty.head.en a.ty.head.ec, .slice a.ty.head.kp a.ty.head.kn a.ty.head.kc, .int .u8 a.res.head.kind, .int .i64 a.res.head.rho, .slice a.res.head.ep a.res.head.en a.res.head.ec, .slice a.res.head.kp a.res.head.kn a.res.head.kc, .slice a.kp a.kn a.kc] : List Value).toArray) rfl (yieldsIf_load_mid (by rfl) 31 _ rfl w.heap.size 0 rfl _ _ (fun W' hSw => hSw.box.range) Tryz.underlying31 rfl (by kernel_rfl)) ?_
  try simp only [Act.put, zA, zB, zC]
  refine wpAnyH_ready (rs := [6]) (by kernel_rfl) (by simp) ?_
  refine AllReadyH.cons (o := ⟨some 54, _, _, _, _, none⟩) rfl (fun K hK => ?_) AllReadyH.nil
  go_simp
  go_at_call 135
  refine (within_is HW.out ((HH.out.res.each x (by simp)).eff.below hHeld.below) (HH.out.own.eff.below hHeld.below)).mono ?_
  rintro e w8 ⟨rfl, hb⟩
  try go_wp2_with fail
  refine hK.out _ _ ?_ (fun hNew => ?_)
  · (try dsimp only); exact hHeld.step hb
  clear hHeld hK K
  have hHeld := hNew
  clear hNew
  try simp only [Act.put, zA, zB, zC]
  refine wpAnyH_ready (rs := [8]) (by kernel_rfl) (by simp) ?_
  refine AllReadyH.cons (o := ⟨some 56, _, _, _, _, none⟩) rfl (fun K hK => ?_) AllReadyH.nil
  go_simp
  cases u
  · go_at_call 64
    refine (must_no a 6 _).mono ?_
    rintro e w10 ⟨rfl, hb⟩
    exact ⟨rfl, rfl, (hHeld.step hb).below⟩
  go_at_call 64
  refine (must_yes a 6 _).mono ?_
  rintro e w10 ⟨rfl, hb⟩
  try go_wp2_with fail
  refine hK.out _ _ ?_ (fun hNew => ?_)
  · (try dsimp only); exact hHeld.step hb
  clear hHeld hK K
  have hHeld := hNew
  clear hNew
  try simp only [Act.put, zA, zB, zC]
  refine wpAnyH_done (by kernel_rfl) ?_ _
  clear HX
  have HX := hid hHeld
  clear hHeld
  go_upto_region 8 with fail
  refine wp_region_held_drew (S := fun W' => RlS w a W') (by kernel_rfl) ?_ (fun hHeld => ?_)
  · exact HX.out.drew
  refine tk (i := 0) (oi := ⟨some 57, _, _, _, _, none⟩) (v := ?_) rfl (Or.inl ⟨by rfl, ?_⟩) ?_
  rotate_left
  · intro w hSw; (try dsimp only at hSw); go_simp; try with_reducible rfl
  try simp only [Act.put, zA, zB, zC]
  refine tk (i := 1) (oi := ⟨some 58, _, _, _, _, none⟩) (v := ?_) rfl (Or.inl ⟨by rfl, ?_⟩) ?_
  rotate_left
  · intro w hSw; (try dsimp only at hSw); go_simp; try with_reducible rfl
  try simp only [Act.put, zA, zB, zC]
  refine tk (i := 2) (oi := ⟨some 59, _, _, _, _, none⟩) (v := ?_) rfl (Or.inl ⟨by rfl, ?_⟩) ?_
  rotate_left
  · intro w hSw; (try dsimp only at hSw); go_simp; try with_reducible rfl
  try simp only [Act.put, zA, zB, zC]
  refine tk (i := 3) (oi := ⟨some 60, _, _, _, _, none⟩) (v := .agg ([.int .u8 y.ty.head.kind, .int .i64 y.ty.head.rho, .slice y.ty.head.ep y.ty.head.en y.ty.head.ec, .slice y.ty.head.kp y.ty.head.kn y.ty.head.kc] : List Value).toArray) rfl (yieldsIf_load_mid (by rfl) 28 _ rfl b (o + 5) rfl _ _ (fun W' hSw => rv_ty1 (HH.out.res.row.below hSw.below)) Tryz.underlying28 rfl (by kernel_rfl)) ?_
  try simp only [Act.put, zA, zB, zC]
  refine tk (i := 4) (oi := ⟨some 61, _, _, _, _, none⟩) (v := ?_) rfl (Or.inl ⟨by rfl, ?_⟩) ?_
  rotate_left
  · intro w hSw; (try dsimp only at hSw); go_simp; try with_reducible rfl
  try simp only [Act.put, zA, zB, zC]
  refine tk (i := 5) (oi := ⟨some 62, _, _, _, _, none⟩) (v := ?_) rfl (Or.inl ⟨by rfl, ?_⟩) ?_
  rotate_left
  · intro w hSw; (try dsimp only at hSw); have hcap := HH.out.res.row.le; go_simp; try with_reducible rfl
  try simp only [Act.put, zA, zB, zC]
  refine tk (i := 6) (oi := ⟨some 63, _, _, _, _, none⟩) (v := ?_) rfl (Or.inl ⟨by rfl, ?_⟩) ?_
  rotate_left
  · intro w hSw; (try dsimp only at hSw); go_simp; try with_reducible rfl
  try simp only [Act.put, zA, zB, zC]
  refine tk (i := 7) (oi := ⟨some 64, _, _, _, _, none⟩) (v := ?_) rfl (Or.inl ⟨by rfl, ?_⟩) ?_
  rotate_left
  · intro w hSw; (try dsimp only at hSw); have q7 := hSw.box.c 7 _ rfl; go_simp; try with_reducible rfl
  try simp only [Act.put, zA, zB, zC]
  refine wpAnyH_ready (rs := [8]) (by kernel_rfl) (by simp) ?_
  refine AllReadyH.cons (o := ⟨some 65, _, _, _, _, none⟩) rfl (fun K hK => ?_) AllReadyH.nil
  go_simp
  go_at_call 138
  refine (check_put_any a.rho _).mono ?_
  rintro e w3 ⟨rfl, hb⟩
  have HB3 := hid hb
  try go_wp2_with fail
  refine hK.out _ _ ?_ (fun hNew => ?_)
  · (try dsimp only); exact hHeld.step hb
  clear hHeld hK K
  have hHeld := hNew
  clear hNew
  try simp only [Act.put, zA, zB, zC]
  refine wpAnyH_ready (rs := [9]) (by kernel_rfl) (by simp) ?_
  refine AllReadyH.cons (o := ⟨some 66, _, _, _, _, none⟩) rfl (fun K hK => ?_) AllReadyH.nil
  go_simp
  refine hK.out _ _ ?_ (fun hNew => ?_)
  · (try dsimp only); exact hHeld.alloc _
  clear hHeld hK K
  have hHeld := hNew
  clear hNew
  try simp only [Act.put, zA, zB, zC]
  refine wpAnyH_ready (rs := [10]) (by kernel_rfl) (by simp) ?_
  refine AllReadyH.cons (o := ⟨some 67, _, _, _, _, none⟩) rfl (fun K hK => ?_) AllReadyH.nil
  go_simp
  have hsz := hHeld.size
  go_at_call 140
  refine (check_all_any (rv_tail (HH.out.res.row.below hHeld.below)) (fun r hr => ((HH.out.res.each r (by rw [List.mem_singleton] at hr; subst hr; simp)).below hHeld.below).eff) (atomRow w3 (aPut a.rho)) (by decide) (by simp at hsum ⊢; omega)).mono ?_
  rintro e w5 ⟨v5, k5, rfl, hown5, hb⟩
  obtain ⟨q5, c5, rfl, hrow5⟩ := OwnE.isRow encA_len (by omega) hown5
  have hfar5 := (fun ad hp => Nat.le_trans hsz (by subst hp; exact OwnE.from hown5 ad.block rfl) : ∀ ad, q5 = some ad → w.heap.size + 2 ≤ ad.block)
  have HR5 := hid hrow5
  have HF5 := hid hfar5
  clear hown5 hrow5 hfar5 hsz
  try go_wp2_with fail
  refine hK.out _ _ ?_ (fun hNew => ?_)
  · (try dsimp only); exact hHeld.step hb
  clear hHeld hK K
  have hHeld := hNew
  clear hNew
  try simp only [Act.put, zA, zB, zC]
  refine tk (i := 11) (oi := ⟨some 68, _, _, _, _, none⟩) (v := ?_) rfl (Or.inl ⟨by rfl, ?_⟩) ?_
  rotate_left
  · intro w hSw; (try dsimp only at hSw); go_simp; try with_reducible rfl
  try simp only [Act.put, zA, zB, zC]
  refine wpAnyH_ready (rs := [12]) (by kernel_rfl) (by simp) ?_
  refine AllReadyH.cons (o := ⟨none, _, _, _, _, none⟩) rfl (fun K hK => ?_) AllReadyH.nil
  have HX9 := hid hHeld
  refine step_store_res rfl _ _ _ (by rfl) hHeld #[.int .u8 y.ty.head.kind, .int .i64 y.ty.head.rho, .slice y.ty.head.ep y.ty.head.en y.ty.head.ec, .slice y.ty.head.kp y.ty.head.kn y.ty.head.kc, .slice q5 k5 c5] (by rfl) (by rfl) (by kernel_rfl) rfl (by simp [Value.oneCell']) ?_
  refine hK.out _ _ ?_ (fun hNew => ?_)
  · (try dsimp only); exact hHeld.store rfl
  clear hHeld hK K
  have hHeld := hNew
  clear hNew
  try simp only [Act.put, zA, zB, zC]
  refine wpAnyH_done (by kernel_rfl) ?_ _
  clear hHeld
  go_wp2_with fail
  refine bodyPost_ret (results_cell_row rfl _ _ _ _ _ _ _ rfl (HX9.out.heap _) Tryz.underlying81 rfl (by kernel_rfl)) rfl ?_
  have hr := (HH.out.res.each y (by simp))
  have hown := HH.out.own
  exact out_of (y := ⟨y.ty, q5, k5, c5, allE (erL [y]) [aPut a.rho]⟩) HX9.out HH.out.new ⟨LR.lies_below HX9.out.below _ hr.ty, ((res_sn HH.out.res (Below.refl _ _)).each y (by simp)).uses, HR5.out, allE_ok (fun r hr => (HH.out.res.each r (by rw [List.mem_singleton] at hr; subst hr; simp)).eok) (fun z hz => by rw [List.mem_singleton] at hz; subst hz; exact okAt_put hown.rho.1 hown.rho.2), fun _ ad hp => .inr (HF5.out ad hp)⟩ rfl
end
section
open Go.RowKit
theorem rlin_sn {w W : World} {S : Nat → Prop} {a : AH} {p : Option Addr} {n c : Nat} {l : List RV} (h : RlIn w S a p n c l) (hb : Below w.heap.size w W) (hs : w.heap.size + 2 ≤ W.heap.size) : RlIn W (Sn w S) a p n c l :=
  ⟨LA.below h.own hb, h.small, res_sn h.res hb, fun b hb => .inr (by omega), fun b hb => .inl ⟨lies_uses _ h.own.ty b hb, h.ty b hb⟩, h.few, h.sum, h.good⟩
set_option maxHeartbeats 8000000 in
theorem rule_binds {w : World} {S : Nat → Prop} {a : AH} {p : Option Addr} {n c : Nat} {l : List RV} (h : RlIn w S a p n c l) (hk : a.kind = 11 ∨ a.kind = 12 ∨ a.kind = 13 ∨ a.kind = 16 ∨ a.kind = 17)
    (HB : ∀ W, RlIn W (Sn w S) a p n c l → Calls Tryz.prog 144 #[aggT a, .slice p n c] W (OutC W (Sn w S) (bindsP a.plain (erL l)))) :
    Calls Tryz.prog 99 #[aggT a, .slice p n c] w (OutC w S (ruleP a.plain (erL l))) := by
  have HX := hid (rls_new w a)
  have HH := hid h
  have HBB := hid HB
  clear HB
  have n3 : a.kind ≠ 3 := by omega
  have n4 : a.kind ≠ 4 := by omega
  have n5 : a.kind ≠ 5 := by omega
  have n6 : a.kind ≠ 6 := by omega
  have n7 : a.kind ≠ 7 := by omega
  have n8 : a.kind ≠ 8 := by omega
  have n10 : a.kind ≠ 10 := by omega
  have n9 : a.kind ≠ 9 := by omega
  have n14 : a.kind ≠ 14 := by omega
  have n15 : a.kind ≠ 15 := by omega
  have n1 : a.kind ≠ 1 := by omega
  have HRU : Hid (ruleP a.plain (erL l) = bindsP a.plain (erL l)) := by
    show _ = _
    unfold ruleP
    simp [show a.plain.kind = a.kind from rfl, n3, n4, n5, n6, n7, n8, n10, n9, n14, n15, n1]
  rw [HRU.out]
  clear HRU
  revert HBB
  generalize bindsP a.plain (erL l) = R
  intro HBB
  have e3 : (a.kind == 3) = false := by simp [n3]
  have e4 : (a.kind == 4) = false := by simp [n4]
  have e5 : (a.kind == 5) = false := by simp [n5]
  have e6 : (a.kind == 6) = false := by simp [n6]
  have e7 : (a.kind == 7) = false := by simp [n7]
  have e8 : (a.kind == 8) = false := by simp [n8]
  have e10 : (a.kind == 10) = false := by simp [n10]
  have e9 : (a.kind == 9) = false := by simp [n9]
  have e14 : (a.kind == 14) = false := by simp [n14]
  have e15 : (a.kind == 15) = false := by simp [n15]
  have e1 : (a.kind == 1) = false := by simp [n1]
  have hc0 := HX.out.box.c 0 _ rfl
  clear h hk n3 n4 n5 n6 n7 n8 n10 n9 n14 n15 n1
  rcases R with ⟨r1, r2⟩ | r
  · go_enter Tryz.func99, Tryz.ntmps99
    go_upto_region 2 with fail
    clear hc0 e3 e4 e5 e6 e7 e8 e10 e9 e14 e15 e1
    generalize (w.alloc (.cells #[.int .u8 a.kind, .int .u8 a.op, .int .i64 a.at_, .int .i64 a.n, .string a.name, .string a.arg, .string a.exn, .int .i64 a.rho, .slice a.rp a.rn a.rc, .slice a.ep a.en a.ec, .int .u8 a.ty.head.kind, .int .i64 a.ty.head.rho, .slice a.ty.head.ep a.ty.head.en a.ty.head.ec, .slice a.ty.head.kp a.ty.head.kn a.ty.head.kc, .int .u8 a.res.head.kind, .int .i64 a.res.head.rho, .slice a.res.head.ep a.res.head.en a.res.head.ec, .slice a.res.head.kp a.res.head.kn a.res.head.kc, .slice a.kp a.kn a.kc] 31)).alloc (.cells #[.int .u8 0, .int .i64 0, .slice none 0 0, .slice none 0 0, .slice none 0 0] 81) = W1 at *
    go_wp2_with (refine wpList_load_row rfl 31 _ rfl w.heap.size rfl 31 _ (0, 0) _ HX.out.box.blk Tryz.underlying31 rfl (by kernel_rfl) ?_)
    go_at_call 144
    refine (HBB.out _ (rlin_sn HH.out HX.out.below HX.out.size)).mono ?_
    rintro e W9 ⟨hr, hb⟩
    subst hr
    exact ⟨rfl, rfl, (HX.out.step hb).below⟩
  · go_enter Tryz.func99, Tryz.ntmps99
    go_upto_region 2 with fail
    clear hc0 e3 e4 e5 e6 e7 e8 e10 e9 e14 e15 e1
    generalize (w.alloc (.cells #[.int .u8 a.kind, .int .u8 a.op, .int .i64 a.at_, .int .i64 a.n, .string a.name, .string a.arg, .string a.exn, .int .i64 a.rho, .slice a.rp a.rn a.rc, .slice a.ep a.en a.ec, .int .u8 a.ty.head.kind, .int .i64 a.ty.head.rho, .slice a.ty.head.ep a.ty.head.en a.ty.head.ec, .slice a.ty.head.kp a.ty.head.kn a.ty.head.kc, .int .u8 a.res.head.kind, .int .i64 a.res.head.rho, .slice a.res.head.ep a.res.head.en a.res.head.ec, .slice a.res.head.kp a.res.head.kn a.res.head.kc, .slice a.kp a.kn a.kc] 31)).alloc (.cells #[.int .u8 0, .int .i64 0, .slice none 0 0, .slice none 0 0, .slice none 0 0] 81) = W1 at *
    go_wp2_with (refine wpList_load_row rfl 31 _ rfl w.heap.size rfl 31 _ (0, 0) _ HX.out.box.blk Tryz.underlying31 rfl (by kernel_rfl) ?_)
    go_at_call 144
    refine (HBB.out _ (rlin_sn HH.out HX.out.below HX.out.size)).mono ?_
    rintro e W9 ⟨hr, hb⟩
    obtain ⟨y, rfl, hyx, hy⟩ := hr
    have HX9 := hid (HX.out.step hb)
    have HY := hid hy
    have HYX := hid hyx
    clear hy hyx HX
    go_wp2_with (refine wpList_store_res rfl _ _ _ rfl HX9.out (cellsRV y) (by rfl) (by rfl) (by kernel_rfl) rfl (by simp [Value.oneCell']) ?_)
    refine bodyPost_ret (results_cell_row rfl _ _ _ _ _ _ _ rfl (HX9.out.heap _) Tryz.underlying81 rfl (by kernel_rfl)) rfl ?_
    exact out_of HX9.out HH.out.new HY.out HYX.out
end
section
open Go.RowKit
section
variable {w : World} {S : Nat → Prop} {a : AH} {p : Option Addr} {n c : Nat} {l : List RV}
theorem rl_at (h : RlIn w S a p n c l) {x : RV} (hx : l[0]? = some x) : ∃ b o, p = some ⟨b, o, none⟩ := by
  obtain ⟨b, o, hp, _⟩ := h.res.row.row.elem hx
  exact ⟨b, o, hp⟩
theorem rl1 (h : RlIn w S a p n c l) (hl : l.length = 1) : ∃ b o x, p = some ⟨b, o, none⟩ ∧ n = 1 ∧ l = [x] := by
  match l, h, hl with
  | [x], h, _ => obtain ⟨b, o, hp⟩ := rl_at h (x := x) rfl; exact ⟨b, o, x, hp, h.res.row.len.symm, rfl⟩
theorem rl2 (h : RlIn w S a p n c l) (hl : l.length = 2) : ∃ b o x y, p = some ⟨b, o, none⟩ ∧ n = 2 ∧ l = [x, y] := by
  match l, h, hl with
  | [x, y], h, _ => obtain ⟨b, o, hp⟩ := rl_at h (x := x) rfl; exact ⟨b, o, x, y, hp, h.res.row.len.symm, rfl⟩
theorem rl3 (h : RlIn w S a p n c l) (hl : l.length = 3) : ∃ b o x y z, p = some ⟨b, o, none⟩ ∧ n = 3 ∧ l = [x, y, z] := by
  match l, h, hl with
  | [x, y, z], h, _ => obtain ⟨b, o, hp⟩ := rl_at h (x := x) rfl; exact ⟨b, o, x, y, z, hp, h.res.row.len.symm, rfl⟩
theorem rule_any (h : RlIn w S a p n c l) (hg : GoodN a.plain l.length) (h2 : a.kind ≠ 2) (h18 : a.kind ≠ 18) :
    Calls Tryz.prog 99 #[aggT a, .slice p n c] w (OutC w S (ruleP a.plain (erL l))) := by
  have g1 : 1 ≤ a.kind := hg.k1
  have g2 : a.kind ≤ 18 := hg.k18
  have gk : kidsI (if a.kind = 17 then 4 else if a.kind = 18 then 1 else a.kind) = l.length := hg.kids
  have hc : a.kind = 1 ∨ a.kind = 3 ∨ a.kind = 4 ∨ a.kind = 5 ∨ a.kind = 6 ∨ a.kind = 7 ∨ a.kind = 8 ∨ a.kind = 9 ∨ a.kind = 10 ∨ a.kind = 11 ∨ a.kind = 12 ∨ a.kind = 13 ∨ a.kind = 14 ∨ a.kind = 15 ∨ a.kind = 16 ∨ a.kind = 17 := by omega
  rcases hc with k | k | k | k | k | k | k | k | k | k | k | k | k | k | k | k
  · exact rule_num h k
  · obtain ⟨b, o, x, y, rfl, rfl, rfl⟩ := rl2 h (by rw [k] at gk; simp [kidsI] at gk; omega); exact rule_pair h k
  · obtain ⟨b, o, x, rfl, rfl, rfl⟩ := rl1 h (by rw [k] at gk; simp [kidsI] at gk; omega); exact rule_fst h k
  · obtain ⟨b, o, x, rfl, rfl, rfl⟩ := rl1 h (by rw [k] at gk; simp [kidsI] at gk; omega); exact rule_snd h k
  · obtain ⟨b, o, x, rfl, rfl, rfl⟩ := rl1 h (by rw [k] at gk; simp [kidsI] at gk; omega); exact rule_ref h k
  · obtain ⟨b, o, x, rfl, rfl, rfl⟩ := rl1 h (by rw [k] at gk; simp [kidsI] at gk; omega); exact rule_get h k
  · obtain ⟨b, o, x, y, rfl, rfl, rfl⟩ := rl2 h (by rw [k] at gk; simp [kidsI] at gk; omega); exact rule_set h k
  · exact rule_op h k
  · obtain ⟨b, o, x, y, rfl, rfl, rfl⟩ := rl2 h (by rw [k] at gk; simp [kidsI] at gk; omega); exact rule_app h k
  · obtain ⟨b, o, x, rfl, rfl, rfl⟩ := rl1 h (by rw [k] at gk; simp [kidsI] at gk; omega); exact rule_binds h (by omega) fun W hW => binds_fn hW k
  · obtain ⟨b, o, x, y, rfl, rfl, rfl⟩ := rl2 h (by rw [k] at gk; simp [kidsI] at gk; omega); exact rule_binds h (by omega) fun W hW => binds_let hW k
  · obtain ⟨b, o, x, y, rfl, rfl, rfl⟩ := rl2 h (by rw [k] at gk; simp [kidsI] at gk; omega); exact rule_binds h (by omega) fun W hW => binds_letrec hW k
  · obtain ⟨b, o, x, y, z, rfl, rfl, rfl⟩ := rl3 h (by rw [k] at gk; simp [kidsI] at gk; omega); exact rule_ite h k
  · exact rule_raise h k
  · obtain ⟨b, o, x, y, rfl, rfl, rfl⟩ := rl2 h (by rw [k] at gk; simp [kidsI] at gk; omega); exact rule_binds h (by omega) fun W hW => binds_handle hW k
  · obtain ⟨b, o, x, rfl, rfl, rfl⟩ := rl1 h (by rw [k] at gk; simp [kidsI] at gk; omega); exact rule_binds h (by omega) fun W hW => binds_region hW k
end
end
end Go.Proofs.YtkdjnegfnhldpaaGreatDoor
