/- Part 27 of the texts: Rn, Rm. -/
import Derived.Test.YtkdjnegfnhldpaaGreatDoorH21
import Derived.Test.YtkdjnegfnhldpaaGreatDoorH01
set_option linter.unusedVariables false
set_option maxRecDepth 100000
set_option linter.unusedSimpArgs false
namespace Go.Proofs.YtkdjnegfnhldpaaGreatDoor
open Go.Lib (hid)
section
open Go.RowKit
set_option maxHeartbeats 8000000 in
theorem rule_pair {w : World} {S : Nat → Prop} {a : AH} {b o c : Nat} {x y : RV} (h : RlIn w S a (some ⟨b, o, none⟩) 2 c [x, y]) (hk : a.kind = 3) : Calls Tryz.prog 99 #[aggT a, .slice (some ⟨b, o, none⟩) 2 c] w (OutC w S (ruleP a.plain (erL [x, y]))) := by
  have HX := hid (rls_new w a)
  have HH := hid h
  have hsum := h.sum
  have e3 : (a.kind == 3) = true := by simp [hk]
  have hc0 := HX.out.box.c 0 _ rfl
  have HRU : Hid (ruleP a.plain (erL [x, y]) = .ok (tyP 2 a.rho [] [x.ty.er, y.ty.er], allE (erL [x, y]) [aPut a.rho])) := by
    show _ = _
    unfold ruleP
    simp [show a.plain.kind = 3 from hk]
    try first | rfl | exact ⟨rfl, rfl⟩
  rw [HRU.out]
  clear h hk
  go_enter Tryz.func99, Tryz.ntmps99
  go_upto_region 4 with fail
  clear hc0 e3
  generalize (w.alloc (.cells #[.int .u8 a.kind, .int .u8 a.op, .int .i64 a.at_, .int .i64 a.n, .string a.name, .string a.arg, .string a.exn, .int .i64 a.rho, .slice a.rp a.rn a.rc, .slice a.ep a.en a.ec, .int .u8 a.ty.head.kind, .int .i64 a.ty.head.rho, .slice a.ty.head.ep a.ty.head.en a.ty.head.ec, .slice a.ty.head.kp a.ty.head.kn a.ty.head.kc, .int .u8 a.res.head.kind, .int .i64 a.res.head.rho, .slice a.res.head.ep a.res.head.en a.res.head.ec, .slice a.res.head.kp a.res.head.kn a.res.head.kc, .slice a.kp a.kn a.kc] 31)).alloc (.cells #[.int .u8 0, .int .i64 0, .slice none 0 0, .slice none 0 0, .slice none 0 0] 81) = W1 at *
  refine wp_region_held_drew (S := fun W' => RlS w a W') (by kernel_rfl) ?_ (fun hHeld => ?_)
  · exact HX.out.drew
  refine tk (i := 0) (oi := ⟨some 13, _, _, _, _, none⟩) (v := ?_) rfl (Or.inl ⟨by rfl, ?_⟩) ?_
  rotate_left
  · intro w hSw; (try dsimp only at hSw); go_simp; try with_reducible rfl
  try simp only [Act.put, zA, zB, zC]
  refine tk (i := 1) (oi := ⟨some 14, _, _, _, _, none⟩) (v := ?_) rfl (Or.inl ⟨by rfl, ?_⟩) ?_
  rotate_left
  · intro w hSw; (try dsimp only at hSw); have q7 := hSw.box.c 7 _ rfl; go_simp; try with_reducible rfl
  try simp only [Act.put, zA, zB, zC]
  refine tk (i := 2) (oi := ⟨some 15, _, _, _, _, none⟩) (v := ?_) rfl (Or.inl ⟨by rfl, ?_⟩) ?_
  rotate_left
  · intro w hSw; (try dsimp only at hSw); go_simp; try with_reducible rfl
  try simp only [Act.put, zA, zB, zC]
  refine tk (i := 3) (oi := ⟨some 16, _, _, _, _, none⟩) (v := ?_) rfl (Or.inl ⟨by rfl, ?_⟩) ?_
  rotate_left
  · intro w hSw; (try dsimp only at hSw); go_simp; try with_reducible rfl
  try simp only [Act.put, zA, zB, zC]
  refine tk (i := 4) (oi := ⟨some 17, _, _, _, _, none⟩) (v := ?_) rfl (Or.inl ⟨by rfl, ?_⟩) ?_
  rotate_left
  · intro w hSw; (try dsimp only at hSw); go_simp; try with_reducible rfl
  try simp only [Act.put, zA, zB, zC]
  refine tk (i := 5) (oi := ⟨some 18, _, _, _, _, none⟩) (v := .agg ([.int .u8 x.ty.head.kind, .int .i64 x.ty.head.rho, .slice x.ty.head.ep x.ty.head.en x.ty.head.ec, .slice x.ty.head.kp x.ty.head.kn x.ty.head.kc] : List Value).toArray) rfl (yieldsIf_load_mid (by rfl) 28 _ rfl b o rfl _ _ (fun W' hSw => rv_ty0 (HH.out.res.row.below hSw.below)) Tryz.underlying28 rfl (by kernel_rfl)) ?_
  try simp only [Act.put, zA, zB, zC]
  refine tk (i := 6) (oi := ⟨some 19, _, _, _, _, none⟩) (v := ?_) rfl (Or.inl ⟨by rfl, ?_⟩) ?_
  rotate_left
  · intro w hSw; (try dsimp only at hSw); go_simp; try with_reducible rfl
  try simp only [Act.put, zA, zB, zC]
  refine tk (i := 7) (oi := ⟨some 20, _, _, _, _, none⟩) (v := ?_) rfl (Or.inl ⟨by rfl, ?_⟩) ?_
  rotate_left
  · intro w hSw; (try dsimp only at hSw); go_simp; try with_reducible rfl
  try simp only [Act.put, zA, zB, zC]
  refine tk (i := 8) (oi := ⟨some 21, _, _, _, _, none⟩) (v := ?_) rfl (Or.inl ⟨by rfl, ?_⟩) ?_
  rotate_left
  · intro w hSw; (try dsimp only at hSw); go_simp; try with_reducible rfl
  try simp only [Act.put, zA, zB, zC]
  refine tk (i := 9) (oi := ⟨some 22, _, _, _, _, none⟩) (v := .agg ([.int .u8 y.ty.head.kind, .int .i64 y.ty.head.rho, .slice y.ty.head.ep y.ty.head.en y.ty.head.ec, .slice y.ty.head.kp y.ty.head.kn y.ty.head.kc] : List Value).toArray) rfl (yieldsIf_load_mid (by rfl) 28 _ rfl b (o + 5) rfl _ _ (fun W' hSw => rv_ty1 (HH.out.res.row.below hSw.below)) Tryz.underlying28 rfl (by kernel_rfl)) ?_
  try simp only [Act.put, zA, zB, zC]
  refine tk (i := 12) (oi := ⟨some 25, _, _, _, _, none⟩) (v := ?_) rfl (Or.inl ⟨by rfl, ?_⟩) ?_
  rotate_left
  · intro w hSw; (try dsimp only at hSw); go_simp; try with_reducible rfl
  try simp only [Act.put, zA, zB, zC]
  refine tk (i := 13) (oi := ⟨some 26, _, _, _, _, none⟩) (v := ?_) rfl (Or.inl ⟨by rfl, ?_⟩) ?_
  rotate_left
  · intro w hSw; (try dsimp only at hSw); go_simp; try with_reducible rfl
  try simp only [Act.put, zA, zB, zC]
  refine tk (i := 14) (oi := ⟨some 27, _, _, _, _, none⟩) (v := ?_) rfl (Or.inl ⟨by rfl, ?_⟩) ?_
  rotate_left
  · intro w hSw; (try dsimp only at hSw); have q7 := hSw.box.c 7 _ rfl; go_simp; try with_reducible rfl
  try simp only [Act.put, zA, zB, zC]
  refine wpAnyH_ready (rs := [10]) (by kernel_rfl) (by simp) ?_
  refine AllReadyH.cons (o := ⟨some 23, _, _, _, _, none⟩) rfl (fun K hK => ?_) AllReadyH.nil
  go_simp
  refine hK.out _ _ ?_ (fun hNew => ?_)
  · (try dsimp only); exact hHeld.alloc _
  clear hHeld hK K
  have hHeld := hNew
  clear hNew
  try simp only [Act.put, zA, zB, zC]
  refine wpAnyH_ready (rs := [11]) (by kernel_rfl) (by simp) ?_
  refine AllReadyH.cons (o := ⟨some 24, _, _, _, _, none⟩) rfl (fun K hK => ?_) AllReadyH.nil
  go_simp
  go_at_call 136
  refine (check_of_any 2 a.rho (IsRow.none encA 3 _) (by omega) (some ⟨W1.heap.size, 0, none⟩) 2 2).mono ?_
  rintro e w2 ⟨q, m, qc, rfl, hrow, hfar, hb⟩
  have HR2 : Hid (IsRow encA 3 w2 q m qc []) := hrow
  have HT2 : Hid (RowT w2 (some ⟨W1.heap.size, 0, none⟩) 2 2 [x.ty, y.ty]) := ((rowT_two (LR.lies_below HX.out.below _ (HH.out.res.each x (by simp)).ty) (LR.lies_below HX.out.below _ (HH.out.res.each y (by simp)).ty) 28).below (bel_drew _)).below hb
  clear hrow hfar
  try go_wp2_with fail
  refine hK.out _ _ ?_ (fun hNew => ?_)
  · (try dsimp only); exact hHeld.step hb
  clear hHeld hK K
  have hHeld := hNew
  clear hNew
  try simp only [Act.put, zA, zB, zC]
  refine wpAnyH_ready (rs := [15]) (by kernel_rfl) (by simp) ?_
  refine AllReadyH.cons (o := ⟨some 28, _, _, _, _, none⟩) rfl (fun K hK => ?_) AllReadyH.nil
  go_simp
  go_at_call 138
  refine (check_put_any a.rho _).mono ?_
  rintro e w3 ⟨rfl, hb⟩
  have HB3 := hid hb
  try go_wp2_with fail
  refine hK.out _ _ ?_ (fun hNew => ?_)
  · (try dsimp only); exact hHeld.step hb
  clear hHeld hK K
  have hHeld := hNew
  clear hNew
  try simp only [Act.put, zA, zB, zC]
  refine wpAnyH_ready (rs := [16]) (by kernel_rfl) (by simp) ?_
  refine AllReadyH.cons (o := ⟨some 29, _, _, _, _, none⟩) rfl (fun K hK => ?_) AllReadyH.nil
  go_simp
  refine hK.out _ _ ?_ (fun hNew => ?_)
  · (try dsimp only); exact hHeld.alloc _
  clear hHeld hK K
  have hHeld := hNew
  clear hNew
  try simp only [Act.put, zA, zB, zC]
  refine wpAnyH_ready (rs := [17]) (by kernel_rfl) (by simp) ?_
  refine AllReadyH.cons (o := ⟨some 30, _, _, _, _, none⟩) rfl (fun K hK => ?_) AllReadyH.nil
  go_simp
  go_at_call 140
  refine (check_all_any (HH.out.res.row.below hHeld.below) (fun r hr => ((HH.out.res.each r hr).below hHeld.below).eff) (atomRow w3 (aPut a.rho)) (by decide) (by omega)).mono ?_
  rintro e w5 ⟨v5, k5, rfl, hown5, hb⟩
  obtain ⟨q5, c5, rfl, hrow5⟩ := OwnE.isRow encA_len (by omega) hown5
  have hfar5 := (fun ad hp => by subst hp; exact OwnE.from hown5 ad.block rfl : ∀ ad, q5 = some ad → (w3.alloc (.cells #[.int .u8 (aPut a.rho).kind, .int .i64 (aPut a.rho).rho, .string (aPut a.rho).exn] 59)).heap.size ≤ ad.block)
  have HR5 := hid hrow5
  have HF5 := hid hfar5
  have HB5 := hid hb
  clear hown5 hrow5 hfar5
  try go_wp2_with fail
  refine hK.out _ _ ?_ (fun hNew => ?_)
  · (try dsimp only); exact hHeld.step hb
  clear hHeld hK K
  have hHeld := hNew
  clear hNew
  try simp only [Act.put, zA, zB, zC]
  refine tk (i := 18) (oi := ⟨some 31, _, _, _, _, none⟩) (v := ?_) rfl (Or.inl ⟨by rfl, ?_⟩) ?_
  rotate_left
  · intro w hSw; (try dsimp only at hSw); go_simp; try with_reducible rfl
  try simp only [Act.put, zA, zB, zC]
  refine wpAnyH_ready (rs := [19]) (by kernel_rfl) (by simp) ?_
  refine AllReadyH.cons (o := ⟨none, _, _, _, _, none⟩) rfl (fun K hK => ?_) AllReadyH.nil
  have HX9 := hid hHeld
  refine step_store_res rfl _ _ _ (by rfl) hHeld #[.int .u8 2, .int .i64 a.rho, .slice q m qc, .slice (some ⟨W1.heap.size, 0, none⟩) 2 2, .slice q5 k5 c5] (by rfl) (by rfl) (by kernel_rfl) rfl (by simp [Value.oneCell']) ?_
  refine hK.out _ _ ?_ (fun hNew => ?_)
  · (try dsimp only); exact hHeld.store rfl
  clear hHeld hK K
  have hHeld := hNew
  clear hNew
  try simp only [Act.put, zA, zB, zC]
  refine wpAnyH_done (by kernel_rfl) ?_ _
  clear hHeld
  go_wp2_with fail
  refine bodyPost_ret (results_cell_row rfl _ _ _ _ _ _ _ rfl (HX9.out.heap _) Tryz.underlying81 rfl (by kernel_rfl)) rfl ?_
  have hown := HH.out.own
  have hb35 : Below w2.heap.size w2 w5 := bel_step (bel_alloc HB3.out _) HB5.out
  have hs1 := HX.out.size
  refine out_of (y := ⟨.node ⟨2, a.rho, q, m, qc, [], some ⟨W1.heap.size, 0, none⟩, 2, 2⟩ [x.ty, y.ty], q5, k5, c5, allE (erL [x, y]) [aPut a.rho]⟩) HX9.out HH.out.new ⟨pair_lies (by decide) hown.rho (HR2.out.below hb35) (fun x hx => (nomatch hx)) (HT2.out.below hb35), ?_, HR5.out, allE_ok (fun r hr => (HH.out.res.each r hr).eok) (fun z hz => by rw [List.mem_singleton] at hz; subst hz; exact okAt_put hown.rho.1 hown.rho.2), fun _ ad hp => .inr ?_⟩ rfl
  · have hr := res_sn HH.out.res (Below.refl _ _)
    exact pair_uses (hr.each x (by simp)).uses (hr.each y (by simp)).uses (.inr hs1) (fun h => absurd rfl h)
  · have h1 := HF5.out ad hp
    have h2 := HB3.out.size
    have h3 := HT2.out
    simp only [World.size_alloc] at h1
    have h4 : W1.heap.size ≤ w2.heap.size := by
      obtain ⟨b', o', e1, e2, _⟩ := HT2.out.kid (j := 0) rfl
      cases e1; omega
    omega
set_option maxHeartbeats 8000000 in
theorem rule_ref {w : World} {S : Nat → Prop} {a : AH} {b o c : Nat} {x : RV} (h : RlIn w S a (some ⟨b, o, none⟩) 1 c [x]) (hk : a.kind = 6) : Calls Tryz.prog 99 #[aggT a, .slice (some ⟨b, o, none⟩) 1 c] w (OutC w S (ruleP a.plain (erL [x]))) := by
  have HX := hid (rls_new w a)
  have HH := hid h
  have hsum := h.sum
  have e3 : (a.kind == 3) = false := by simp [hk]
  have e4 : (a.kind == 4) = false := by simp [hk]
  have e5 : (a.kind == 5) = false := by simp [hk]
  have e6 : (a.kind == 6) = true := by simp [hk]
  have hc0 := HX.out.box.c 0 _ rfl
  have HRU : Hid (ruleP a.plain (erL [x]) = .ok (tyP 3 a.rho [] [x.ty.er], allE (erL [x]) [aPut a.rho])) := by
    show _ = _
    unfold ruleP
    simp [show a.plain.kind = 6 from hk]
    try first | rfl | exact ⟨rfl, rfl⟩
  rw [HRU.out]
  clear h hk
  go_enter Tryz.func99, Tryz.ntmps99
  go_upto_region 10 with fail
  clear hc0 e3 e4 e5 e6
  generalize (w.alloc (.cells #[.int .u8 a.kind, .int .u8 a.op, .int .i64 a.at_, .int .i64 a.n, .string a.name, .string a.arg, .string a.exn, .int .i64 a.rho, .slice a.rp a.rn a.rc, .slice a.ep a.en a.ec, .int .u8 a.ty.head.kind, .int .i64 a.ty.head.rho, .slice a.ty.head.ep a.ty.head.en a.ty.head.ec, .slice a.ty.head.kp a.ty.head.kn a.ty.head.kc, .int .u8 a.res.head.kind, .int .i64 a.res.head.rho, .slice a.res.head.ep a.res.head.en a.res.head.ec, .slice a.res.head.kp a.res.head.kn a.res.head.kc, .slice a.kp a.kn a.kc] 31)).alloc (.cells #[.int .u8 0, .int .i64 0, .slice none 0 0, .slice none 0 0, .slice none 0 0] 81) = W1 at *
  refine wp_region_held_drew (S := fun W' => RlS w a W') (by kernel_rfl) ?_ (fun hHeld => ?_)
  · exact HX.out.drew
  refine tk (i := 0) (oi := ⟨some 64, _, _, _, _, none⟩) (v := ?_) rfl (Or.inl ⟨by rfl, ?_⟩) ?_
  rotate_left
  · intro w hSw; (try dsimp only at hSw); go_simp; try with_reducible rfl
  try simp only [Act.put, zA, zB, zC]
  refine tk (i := 1) (oi := ⟨some 65, _, _, _, _, none⟩) (v := ?_) rfl (Or.inl ⟨by rfl, ?_⟩) ?_
  rotate_left
  · intro w hSw; (try dsimp only at hSw); have q7 := hSw.box.c 7 _ rfl; go_simp; try with_reducible rfl
  try simp only [Act.put, zA, zB, zC]
  refine tk (i := 2) (oi := ⟨some 66, _, _, _, _, none⟩) (v := ?_) rfl (Or.inl ⟨by rfl, ?_⟩) ?_
  rotate_left
  · intro w hSw; (try dsimp only at hSw); go_simp; try with_reducible rfl
  try simp only [Act.put, zA, zB, zC]
  refine tk (i := 3) (oi := ⟨some 67, _, _, _, _, none⟩) (v := ?_) rfl (Or.inl ⟨by rfl, ?_⟩) ?_
  rotate_left
  · intro w hSw; (try dsimp only at hSw); go_simp; try with_reducible rfl
  try simp only [Act.put, zA, zB, zC]
  refine tk (i := 4) (oi := ⟨some 68, _, _, _, _, none⟩) (v := ?_) rfl (Or.inl ⟨by rfl, ?_⟩) ?_
  rotate_left
  · intro w hSw; (try dsimp only at hSw); go_simp; try with_reducible rfl
  try simp only [Act.put, zA, zB, zC]
  refine tk (i := 5) (oi := ⟨some 69, _, _, _, _, none⟩) (v := .agg ([.int .u8 x.ty.head.kind, .int .i64 x.ty.head.rho, .slice x.ty.head.ep x.ty.head.en x.ty.head.ec, .slice x.ty.head.kp x.ty.head.kn x.ty.head.kc] : List Value).toArray) rfl (yieldsIf_load_mid (by rfl) 28 _ rfl b o rfl _ _ (fun W' hSw => rv_ty0 (HH.out.res.row.below hSw.below)) Tryz.underlying28 rfl (by kernel_rfl)) ?_
  try simp only [Act.put, zA, zB, zC]
  refine tk (i := 8) (oi := ⟨some 72, _, _, _, _, none⟩) (v := ?_) rfl (Or.inl ⟨by rfl, ?_⟩) ?_
  rotate_left
  · intro w hSw; (try dsimp only at hSw); go_simp; try with_reducible rfl
  try simp only [Act.put, zA, zB, zC]
  refine tk (i := 9) (oi := ⟨some 73, _, _, _, _, none⟩) (v := ?_) rfl (Or.inl ⟨by rfl, ?_⟩) ?_
  rotate_left
  · intro w hSw; (try dsimp only at hSw); go_simp; try with_reducible rfl
  try simp only [Act.put, zA, zB, zC]
  refine tk (i := 10) (oi := ⟨some 74, _, _, _, _, none⟩) (v := ?_) rfl (Or.inl ⟨by rfl, ?_⟩) ?_
  rotate_left
  · intro w hSw; (try dsimp only at hSw); have q7 := hSw.box.c 7 _ rfl; go_simp; try with_reducible rfl
  try simp only [Act.put, zA, zB, zC]
  refine wpAnyH_ready (rs := [6]) (by kernel_rfl) (by simp) ?_
  refine AllReadyH.cons (o := ⟨some 70, _, _, _, _, none⟩) rfl (fun K hK => ?_) AllReadyH.nil
  go_simp
  refine hK.out _ _ ?_ (fun hNew => ?_)
  · (try dsimp only); exact hHeld.alloc _
  clear hHeld hK K
  have hHeld := hNew
  clear hNew
  try simp only [Act.put, zA, zB, zC]
  refine wpAnyH_ready (rs := [7]) (by kernel_rfl) (by simp) ?_
  refine AllReadyH.cons (o := ⟨some 71, _, _, _, _, none⟩) rfl (fun K hK => ?_) AllReadyH.nil
  go_simp
  go_at_call 136
  refine (check_of_any 3 a.rho (IsRow.none encA 3 _) (by omega) (some ⟨W1.heap.size, 0, none⟩) 1 1).mono ?_
  rintro e w2 ⟨q, m, qc, rfl, hrow, hfar, hb⟩
  have HR2 : Hid (IsRow encA 3 w2 q m qc []) := hrow
  have HT2 : Hid (RowT w2 (some ⟨W1.heap.size, 0, none⟩) 1 1 [x.ty]) := ((rowT_made (LR.lies_below HX.out.below _ (HH.out.res.each x (by simp)).ty) 28).below (bel_drew _)).below hb
  clear hrow hfar
  try go_wp2_with fail
  refine hK.out _ _ ?_ (fun hNew => ?_)
  · (try dsimp only); exact hHeld.step hb
  clear hHeld hK K
  have hHeld := hNew
  clear hNew
  try simp only [Act.put, zA, zB, zC]
  refine wpAnyH_ready (rs := [11]) (by kernel_rfl) (by simp) ?_
  refine AllReadyH.cons (o := ⟨some 75, _, _, _, _, none⟩) rfl (fun K hK => ?_) AllReadyH.nil
  go_simp
  go_at_call 138
  refine (check_put_any a.rho _).mono ?_
  rintro e w3 ⟨rfl, hb⟩
  have HB3 := hid hb
  try go_wp2_with fail
  refine hK.out _ _ ?_ (fun hNew => ?_)
  · (try dsimp only); exact hHeld.step hb
  clear hHeld hK K
  have hHeld := hNew
  clear hNew
  try simp only [Act.put, zA, zB, zC]
  refine wpAnyH_ready (rs := [12]) (by kernel_rfl) (by simp) ?_
  refine AllReadyH.cons (o := ⟨some 76, _, _, _, _, none⟩) rfl (fun K hK => ?_) AllReadyH.nil
  go_simp
  refine hK.out _ _ ?_ (fun hNew => ?_)
  · (try dsimp only); exact hHeld.alloc _
  clear hHeld hK K
  have hHeld := hNew
  clear hNew
  try simp only [Act.put, zA, zB, zC]
  refine wpAnyH_ready (rs := [13]) (by kernel_rfl) (by simp) ?_
  refine AllReadyH.cons (o := ⟨some 77, _, _, _, _, none⟩) rfl (fun K hK => ?_) AllReadyH.nil
  go_simp
  go_at_call 140
  refine (check_all_any (HH.out.res.row.below hHeld.below) (fun r hr => ((HH.out.res.each r hr).below hHeld.below).eff) (atomRow w3 (aPut a.rho)) (by decide) (by omega)).mono ?_
  rintro e w5 ⟨v5, k5, rfl, hown5, hb⟩
  obtain ⟨q5, c5, rfl, hrow5⟩ := OwnE.isRow encA_len (by omega) hown5
  have hfar5 := (fun ad hp => by subst hp; exact OwnE.from hown5 ad.block rfl : ∀ ad, q5 = some ad → (w3.alloc (.cells #[.int .u8 (aPut a.rho).kind, .int .i64 (aPut a.rho).rho, .string (aPut a.rho).exn] 59)).heap.size ≤ ad.block)
  have HR5 := hid hrow5
  have HF5 := hid hfar5
  have HB5 := hid hb
  clear hown5 hrow5 hfar5
  try go_wp2_with fail
  refine hK.out _ _ ?_ (fun hNew => ?_)
  · (try dsimp only); exact hHeld.step hb
  clear hHeld hK K
  have hHeld := hNew
  clear hNew
  try simp only [Act.put, zA, zB, zC]
  refine tk (i := 14) (oi := ⟨some 78, _, _, _, _, none⟩) (v := ?_) rfl (Or.inl ⟨by rfl, ?_⟩) ?_
  rotate_left
  · intro w hSw; (try dsimp only at hSw); go_simp; try with_reducible rfl
  try simp only [Act.put, zA, zB, zC]
  refine wpAnyH_ready (rs := [15]) (by kernel_rfl) (by simp) ?_
  refine AllReadyH.cons (o := ⟨none, _, _, _, _, none⟩) rfl (fun K hK => ?_) AllReadyH.nil
  have HX9 := hid hHeld
  refine step_store_res rfl _ _ _ (by rfl) hHeld #[.int .u8 3, .int .i64 a.rho, .slice q m qc, .slice (some ⟨W1.heap.size, 0, none⟩) 1 1, .slice q5 k5 c5] (by rfl) (by rfl) (by kernel_rfl) rfl (by simp [Value.oneCell']) ?_
  refine hK.out _ _ ?_ (fun hNew => ?_)
  · (try dsimp only); exact hHeld.store rfl
  clear hHeld hK K
  have hHeld := hNew
  clear hNew
  try simp only [Act.put, zA, zB, zC]
  refine wpAnyH_done (by kernel_rfl) ?_ _
  clear hHeld
  go_wp2_with fail
  refine bodyPost_ret (results_cell_row rfl _ _ _ _ _ _ _ rfl (HX9.out.heap _) Tryz.underlying81 rfl (by kernel_rfl)) rfl ?_
  have hown := HH.out.own
  have hb35 : Below w2.heap.size w2 w5 := bel_step (bel_alloc HB3.out _) HB5.out
  have hs1 := HX.out.size
  refine out_of (y := ⟨.node ⟨3, a.rho, q, m, qc, [], some ⟨W1.heap.size, 0, none⟩, 1, 1⟩ [x.ty], q5, k5, c5, allE (erL [x]) [aPut a.rho]⟩) HX9.out HH.out.new ⟨one_lies (by decide) hown.rho (HR2.out.below hb35) (fun x hx => (nomatch hx)) (HT2.out.below hb35), ?_, HR5.out, allE_ok (fun r hr => (HH.out.res.each r hr).eok) (fun z hz => by rw [List.mem_singleton] at hz; subst hz; exact okAt_put hown.rho.1 hown.rho.2), fun _ ad hp => .inr ?_⟩ rfl
  · have hr := res_sn HH.out.res (Below.refl _ _)
    exact one_uses (hr.each x (by simp)).uses (.inr hs1) (fun h => absurd rfl h)
  · have h1 := HF5.out ad hp
    have h2 := HB3.out.size
    simp only [World.size_alloc] at h1
    have h4 : W1.heap.size ≤ w2.heap.size := by
      obtain ⟨b', o', e1, e2, _⟩ := HT2.out.kid (j := 0) rfl
      cases e1; omega
    omega
end
section
open Go.RowKit
theorem ints_is {p : Option Addr} {n c : Nat} {l : List RV} {w : World} {u : Bool} (hu : l.all (fun r => r.ty.head.kind == 1) = u) (hr : IsRow encRV 5 w p n c l) :
    Calls Tryz.prog 143 #[.slice p n c] w fun e w' => e = .returned (.bool u) ∧ Below w.heap.size w w' := by
  subst hu; exact check_ints_any hr
set_option maxHeartbeats 8000000 in
theorem rule_num {w : World} {S : Nat → Prop} {a : AH} {p : Option Addr} {n c : Nat} {l : List RV} (h : RlIn w S a p n c l) (hk : a.kind = 1) : Calls Tryz.prog 99 #[aggT a, .slice p n c] w (OutC w S (ruleP a.plain (erL l))) := by
  have HX := hid (rls_new w a)
  have HH := hid h
  have hfew := h.few
  have hsum := h.sum
  have e3 : (a.kind == 3) = false := by simp [hk]
  have e4 : (a.kind == 4) = false := by simp [hk]
  have e5 : (a.kind == 5) = false := by simp [hk]
  have e6 : (a.kind == 6) = false := by simp [hk]
  have e7 : (a.kind == 7) = false := by simp [hk]
  have e8 : (a.kind == 8) = false := by simp [hk]
  have e10 : (a.kind == 10) = false := by simp [hk]
  have e9 : (a.kind == 9) = false := by simp [hk]
  have e14 : (a.kind == 14) = false := by simp [hk]
  have e15 : (a.kind == 15) = false := by simp [hk]
  have e1 : (a.kind == 1) = true := by simp [hk]
  have hc0 := HX.out.box.c 0 _ rfl
  have HRU : Hid (ruleP a.plain (erL l) = .ok (tInt, allE (erL l) [])) := by
    show _ = _
    unfold ruleP
    simp [show a.plain.kind = 1 from hk]
  rw [HRU.out]
  clear h hk
  go_enter Tryz.func99, Tryz.ntmps99
  go_upto_region 29 with fail
  clear hc0 e3 e4 e5 e6 e7 e8 e10 e9 e14 e15 e1
  generalize (w.alloc (.cells #[.int .u8 a.kind, .int .u8 a.op, .int .i64 a.at_, .int .i64 a.n, .string a.name, .string a.arg, .string a.exn, .int .i64 a.rho, .slice a.rp a.rn a.rc, .slice a.ep a.en a.ec, .int .u8 a.ty.head.kind, .int .i64 a.ty.head.rho, .slice a.ty.head.ep a.ty.head.en a.ty.head.ec, .slice a.ty.head.kp a.ty.head.kn a.ty.head.kc, .int .u8 a.res.head.kind, .int .i64 a.res.head.rho, .slice a.res.head.ep a.res.head.en a.res.head.ec, .slice a.res.head.kp a.res.head.kn a.res.head.kc, .slice a.kp a.kn a.kc] 31)).alloc (.cells #[.int .u8 0, .int .i64 0, .slice none 0 0, .slice none 0 0, .slice none 0 0] 81) = W1 at *
  go_wp2_with (first
    | (refine wpList_store_res rfl _ _ _ rfl HX3.out #[.int .u8 1, .int .i64 0, .slice q m qc, .slice none 0 0, .slice q3 k3 c3] rfl rfl (by kernel_rfl) rfl (by simp [Value.oneCell']) ?_)
    | (go_at_call 136; refine (check_of_any 1 0 (IsRow.none encA 3 _) (by omega) none 0 0).mono ?_; rintro e w2 ⟨q, m, qc, rfl, hrow, hfar, hb⟩; have HR2 : Hid (IsRow encA 3 w2 q m qc []) := hrow; have HX2 := hid (HX.out.step hb); clear hrow hfar hb)
    | (go_at_call 140; refine (check_all_any (HH.out.res.row.below HX2.out.below) (fun r hr => ((HH.out.res.each r hr).below HX2.out.below).eff) (IsRow.none encA 3 _) hfew (by omega)).mono ?_; rintro e w3 ⟨v3, k3, rfl, hown3, hb3⟩; obtain ⟨q3, c3, rfl, hrow3⟩ := OwnE.isRow encA_len (by omega) hown3; have hfar3 := (fun ad hp => by subst hp; exact OwnE.from hown3 ad.block rfl : ∀ ad, q3 = some ad → w2.heap.size ≤ ad.block); have HR3 := hid hrow3; have HF3 := hid hfar3; have HX3 := hid (HX2.out.step hb3); have HB3 := hid hb3; clear hown3 hrow3 hfar3 hb3))
  refine bodyPost_ret (results_cell_row rfl _ _ _ _ _ _ _ rfl (HX3.out.heap _) Tryz.underlying81 rfl (by kernel_rfl)) rfl ?_
  exact int_of HX3.out HH.out.new (HR2.out.below HB3.out) HR3.out (fun ad hp => by have h1 := HF3.out ad hp; have h2 := HX2.out.size; omega) (allE_ok (fun r hr => (HH.out.res.each r hr).eok) (fun x hx => (nomatch hx)))
set_option maxHeartbeats 8000000 in
theorem rule_op {w : World} {S : Nat → Prop} {a : AH} {p : Option Addr} {n c : Nat} {l : List RV} (h : RlIn w S a p n c l) (hk : a.kind = 9) : Calls Tryz.prog 99 #[aggT a, .slice p n c] w (OutC w S (ruleP a.plain (erL l))) := by
  have HX := hid (rls_new w a)
  have HH := hid h
  have hfew := h.few
  have hsum := h.sum
  have e3 : (a.kind == 3) = false := by simp [hk]
  have e4 : (a.kind == 4) = false := by simp [hk]
  have e5 : (a.kind == 5) = false := by simp [hk]
  have e6 : (a.kind == 6) = false := by simp [hk]
  have e7 : (a.kind == 7) = false := by simp [hk]
  have e8 : (a.kind == 8) = false := by simp [hk]
  have e10 : (a.kind == 10) = false := by simp [hk]
  have e9 : (a.kind == 9) = true := by simp [hk]
  have hc0 := HX.out.box.c 0 _ rfl
  obtain ⟨u, hu⟩ : ∃ u, l.all (fun r => r.ty.head.kind == 1) = u := ⟨_, rfl⟩
  have HU := hid hu
  have HRU : Hid (ruleP a.plain (erL l) = mustP u a.plain 5 (.ok (tInt, allE (erL l) []))) := by
    show _ = _
    unfold ruleP
    rw [← hu, ← all_er]
    simp [show a.plain.kind = 9 from hk]
    try rfl
  rw [HRU.out]
  clear h hk hu
  go_enter Tryz.func99, Tryz.ntmps99
  go_upto_region 21 with fail
  clear hc0
  generalize (w.alloc (.cells #[.int .u8 a.kind, .int .u8 a.op, .int .i64 a.at_, .int .i64 a.n, .string a.name, .string a.arg, .string a.exn, .int .i64 a.rho, .slice a.rp a.rn a.rc, .slice a.ep a.en a.ec, .int .u8 a.ty.head.kind, .int .i64 a.ty.head.rho, .slice a.ty.head.ep a.ty.head.en a.ty.head.ec, .slice a.ty.head.kp a.ty.head.kn a.ty.head.kc, .int .u8 a.res.head.kind, .int .i64 a.res.head.rho, .slice a.res.head.ep a.res.head.en a.res.head.ec, .slice a.res.head.kp a.res.head.kn a.res.head.kc, .slice a.kp a.kn a.kc] 31)).alloc (.cells #[.int .u8 0, .int .i64 0, .slice none 0 0, .slice none 0 0, .slice none 0 0] 81) = W1 at *
  refine wp_region_held_drew (S := fun W' => RlS w a W') (by kernel_rfl) ?_ (fun hHeld => ?_)
  · exact HX.out.drew
  refine tk (i := 0) (oi := ⟨some 185, _, _, _, _, none⟩) (v := ?_) rfl (Or.inl ⟨by rfl, ?_⟩) ?_
  rotate_left
  · intro w hSw; (try dsimp only at hSw); go_simp; try with_reducible rfl
  try simp only [Act.put, zA, zB, zC]
  refine tk (i := 2) (oi := ⟨some 187, _, _, _, _, none⟩) (v := .agg ([.int .u8 a.kind, .int .u8 a.op, .int .i64 a.at_, .int .i64 a.n, .string a.name, .string a.arg, .string a.exn, .int .i64 a.rho, .slice a.rp a.rn a.rc, .slice a.ep a.en a.ec, .int .u8 a.ty.head.kind, .int .i64 a.ty.head.rho, .slice a.ty.head.ep a.ty.head.en a.ty.head.ec, .slice a.ty.head.kp a.ty.head.kn a.ty.head.kc, .int .u8 a.res.head.kind, .int .i64 a.res.head.rho, .slice a.res.head.ep a.res.head.en a.res.head.ec, .slice a.res.head.kp a.res.head.kn a.res.head.kc, .slice a.kp a.kn a.kc] : List Value).toArray) rfl (yieldsIf_load_mid (by rfl) 31 _ rfl w.heap.size 0 rfl _ _ (fun W' hSw => hSw.box.range) Tryz.underlying31 rfl (by kernel_rfl)) ?_
  try simp only [Act.put, zA, zB, zC]
  refine wpAnyH_ready (rs := [1]) (by kernel_rfl) (by simp) ?_
  refine AllReadyH.cons (o := ⟨some 186, _, _, _, _, none⟩) rfl (fun K hK => ?_) AllReadyH.nil
  go_simp
  go_at_call 143
  refine (ints_is HU.out (HH.out.res.row.below hHeld.below)).mono ?_
  rintro e w8 ⟨rfl, hb⟩
  try go_wp2_with fail
  refine hK.out _ _ ?_ (fun hNew => ?_)
  · (try dsimp only); exact hHeld.step hb
  clear hHeld hK K
  have hHeld := hNew
  clear hNew
  try simp only [Act.put, zA, zB, zC]
  refine wpAnyH_ready (rs := [3]) (by kernel_rfl) (by simp) ?_
  refine AllReadyH.cons (o := ⟨some 188, _, _, _, _, none⟩) rfl (fun K hK => ?_) AllReadyH.nil
  go_simp
  cases u
  · go_at_call 64
    refine (must_no a 5 _).mono ?_
    rintro e w9 ⟨rfl, hb⟩
    exact ⟨rfl, rfl, (hHeld.step hb).below⟩
  go_at_call 64
  refine (must_yes a 5 _).mono ?_
  rintro e w9 ⟨rfl, hb⟩
  try go_wp2_with fail
  refine hK.out _ _ ?_ (fun hNew => ?_)
  · (try dsimp only); exact hHeld.step hb
  clear hHeld hK K
  have hHeld := hNew
  clear hNew
  try simp only [Act.put, zA, zB, zC]
  refine wpAnyH_done (by kernel_rfl) ?_ _
  clear HX
  have HX := hid hHeld
  clear hHeld
  go_wp2_with (first
    | (refine wpList_store_res rfl _ _ _ rfl HX3.out #[.int .u8 1, .int .i64 0, .slice q m qc, .slice none 0 0, .slice q3 k3 c3] rfl rfl (by kernel_rfl) rfl (by simp [Value.oneCell']) ?_)
    | (go_at_call 136; refine (check_of_any 1 0 (IsRow.none encA 3 _) (by omega) none 0 0).mono ?_; rintro e w2 ⟨q, m, qc, rfl, hrow, hfar, hb⟩; have HR2 : Hid (IsRow encA 3 w2 q m qc []) := hrow; have HX2 := hid (HX.out.step hb); clear hrow hfar hb)
    | (go_at_call 140; refine (check_all_any (HH.out.res.row.below HX2.out.below) (fun r hr => ((HH.out.res.each r hr).below HX2.out.below).eff) (IsRow.none encA 3 _) hfew (by omega)).mono ?_; rintro e w3 ⟨v3, k3, rfl, hown3, hb3⟩; obtain ⟨q3, c3, rfl, hrow3⟩ := OwnE.isRow encA_len (by omega) hown3; have hfar3 := (fun ad hp => by subst hp; exact OwnE.from hown3 ad.block rfl : ∀ ad, q3 = some ad → w2.heap.size ≤ ad.block); have HR3 := hid hrow3; have HF3 := hid hfar3; have HX3 := hid (HX2.out.step hb3); have HB3 := hid hb3; clear hown3 hrow3 hfar3 hb3))
  refine bodyPost_ret (results_cell_row rfl _ _ _ _ _ _ _ rfl (HX3.out.heap _) Tryz.underlying81 rfl (by kernel_rfl)) rfl ?_
  exact int_of HX3.out HH.out.new (HR2.out.below HB3.out) HR3.out (fun ad hp => by have h1 := HF3.out ad hp; have h2 := HX2.out.size; omega) (allE_ok (fun r hr => (HH.out.res.each r hr).eok) (fun x hx => (nomatch hx)))
set_option maxHeartbeats 8000000 in
theorem rule_raise {w : World} {S : Nat → Prop} {a : AH} {p : Option Addr} {n c : Nat} {l : List RV} (h : RlIn w S a p n c l) (hk : a.kind = 15) : Calls Tryz.prog 99 #[aggT a, .slice p n c] w (OutC w S (ruleP a.plain (erL l))) := by
  have HX := hid (rls_new w a)
  have HH := hid h
  have hfew := h.few
  have hsum := h.sum
  have e3 : (a.kind == 3) = false := by simp [hk]
  have e4 : (a.kind == 4) = false := by simp [hk]
  have e5 : (a.kind == 5) = false := by simp [hk]
  have e6 : (a.kind == 6) = false := by simp [hk]
  have e7 : (a.kind == 7) = false := by simp [hk]
  have e8 : (a.kind == 8) = false := by simp [hk]
  have e10 : (a.kind == 10) = false := by simp [hk]
  have e9 : (a.kind == 9) = false := by simp [hk]
  have e14 : (a.kind == 14) = false := by simp [hk]
  have e15 : (a.kind == 15) = true := by simp [hk]
  have hc0 := HX.out.box.c 0 _ rfl
  obtain ⟨u, hu⟩ : ∃ u, l.all (fun r => r.ty.head.kind == 1) = u := ⟨_, rfl⟩
  have HU := hid hu
  have HRU : Hid (ruleP a.plain (erL l) = mustP u a.plain 5 (.ok (a.ty.er, allE (erL l) [aExn a.exn]))) := by
    show _ = _
    unfold ruleP
    rw [← hu, ← all_er]
    simp [show a.plain.kind = 15 from hk]
    try rfl
  rw [HRU.out]
  clear h hk hu
  go_enter Tryz.func99, Tryz.ntmps99
  go_upto_region 26 with fail
  clear hc0
  generalize (w.alloc (.cells #[.int .u8 a.kind, .int .u8 a.op, .int .i64 a.at_, .int .i64 a.n, .string a.name, .string a.arg, .string a.exn, .int .i64 a.rho, .slice a.rp a.rn a.rc, .slice a.ep a.en a.ec, .int .u8 a.ty.head.kind, .int .i64 a.ty.head.rho, .slice a.ty.head.ep a.ty.head.en a.ty.head.ec, .slice a.ty.head.kp a.ty.head.kn a.ty.head.kc, .int .u8 a.res.head.kind, .int .i64 a.res.head.rho, .slice a.res.head.ep a.res.head.en a.res.head.ec, .slice a.res.head.kp a.res.head.kn a.res.head.kc, .slice a.kp a.kn a.kc] 31)).alloc (.cells #[.int .u8 0, .int .i64 0, .slice none 0 0, .slice none 0 0, .slice none 0 0] 81) = W1 at *
  refine wp_region_held_drew (S := fun W' => RlS w a W') (by kernel_rfl) ?_ (fun hHeld => ?_)
  · exact HX.out.drew
  refine tk (i := 0) (oi := ⟨some 218, _, _, _, _, none⟩) (v := ?_) rfl (Or.inl ⟨by rfl, ?_⟩) ?_
  rotate_left
  · intro w hSw; (try dsimp only at hSw); go_simp; try with_reducible rfl
  try simp only [Act.put, zA, zB, zC]
  refine tk (i := 2) (oi := ⟨some 220, _, _, _, _, none⟩) (v := .agg ([.int .u8 a.kind, .int .u8 a.op, .int .i64 a.at_, .int .i64 a.n, .string a.name, .string a.arg, .string a.exn, .int .i64 a.rho, .slice a.rp a.rn a.rc, .slice a.ep a.en a.ec, .int .u8 a.ty.head.kind, .int .i64 a.ty.head.rho, .slice a.ty.head.ep a.ty.head.en a.ty.head.ec, .slice a.ty.head.kp a.ty.head.kn a.ty.head.kc, .int .u8 a.res.head.kind, .int .i64 a.res.head.rho, .slice a.res.head.ep a.res.head.en a.res.head.ec, .slice a.res.head.kp a.res.head.kn a.res.head.kc, .slice a.kp a.kn a.kc] : List Value).toArray) rfl (yieldsIf_load_mid (by rfl) 31 _ rfl w.heap.size 0 rfl _ _ (fun W' hSw => hSw.box.range) Tryz.underlying31 rfl (by kernel_rfl)) ?_
  try simp only [Act.put, zA, zB, zC]
  refine wpAnyH_ready (rs := [1]) (by kernel_rfl) (by simp) ?_
  refine AllReadyH.cons (o := ⟨some 219, _, _, _, _, none⟩) rfl (fun K hK => ?_) AllReadyH.nil
  go_simp
  go_at_call 143
  refine (ints_is HU.out (HH.out.res.row.below hHeld.below)).mono ?_
  rintro e w8 ⟨rfl, hb⟩
  try go_wp2_with fail
  refine hK.out _ _ ?_ (fun hNew => ?_)
  · (try dsimp only); exact hHeld.step hb
  clear hHeld hK K
  have hHeld := hNew
  clear hNew
  try simp only [Act.put, zA, zB, zC]
  refine wpAnyH_ready (rs := [3]) (by kernel_rfl) (by simp) ?_
  refine AllReadyH.cons (o := ⟨some 221, _, _, _, _, none⟩) rfl (fun K hK => ?_) AllReadyH.nil
  go_simp
  cases u
  · go_at_call 64
    refine (must_no a 5 _).mono ?_
    rintro e w9 ⟨rfl, hb⟩
    exact ⟨rfl, rfl, (hHeld.step hb).below⟩
  go_at_call 64
  refine (must_yes a 5 _).mono ?_
  rintro e w9 ⟨rfl, hb⟩
  try go_wp2_with fail
  refine hK.out _ _ ?_ (fun hNew => ?_)
  · (try dsimp only); exact hHeld.step hb
  clear hHeld hK K
  have hHeld := hNew
  clear hNew
  try simp only [Act.put, zA, zB, zC]
  refine wpAnyH_done (by kernel_rfl) ?_ _
  clear HX
  have HX := hid hHeld
  clear hHeld
  go_upto_region 27 with fail
  refine wp_region_held_drew (S := fun W' => RlS w a W') (by kernel_rfl) ?_ (fun hHeld => ?_)
  · exact HX.out.drew
  refine tk (i := 0) (oi := ⟨some 222, _, _, _, _, none⟩) (v := ?_) rfl (Or.inl ⟨by rfl, ?_⟩) ?_
  rotate_left
  · intro w hSw; (try dsimp only at hSw); go_simp; try with_reducible rfl
  try simp only [Act.put, zA, zB, zC]
  refine tk (i := 1) (oi := ⟨some 223, _, _, _, _, none⟩) (v := .agg ([.int .u8 a.ty.head.kind, .int .i64 a.ty.head.rho, .slice a.ty.head.ep a.ty.head.en a.ty.head.ec, .slice a.ty.head.kp a.ty.head.kn a.ty.head.kc] : List Value).toArray) rfl (yieldsIf_load_mid (by rfl) 28 _ rfl w.heap.size 10 rfl _ _ (fun W' hSw => range_part' hSw.box 10 4 rfl) Tryz.underlying28 rfl (by kernel_rfl)) ?_
  try simp only [Act.put, zA, zB, zC]
  refine tk (i := 2) (oi := ⟨some 224, _, _, _, _, none⟩) (v := ?_) rfl (Or.inl ⟨by rfl, ?_⟩) ?_
  rotate_left
  · intro w hSw; (try dsimp only at hSw); go_simp; try with_reducible rfl
  try simp only [Act.put, zA, zB, zC]
  refine tk (i := 3) (oi := ⟨some 225, _, _, _, _, none⟩) (v := ?_) rfl (Or.inl ⟨by rfl, ?_⟩) ?_
  rotate_left
  · intro w hSw; (try dsimp only at hSw); go_simp; try with_reducible rfl
  try simp only [Act.put, zA, zB, zC]
  refine tk (i := 4) (oi := ⟨some 226, _, _, _, _, none⟩) (v := ?_) rfl (Or.inl ⟨by rfl, ?_⟩) ?_
  rotate_left
  · intro w hSw; (try dsimp only at hSw); go_simp; try with_reducible rfl
  try simp only [Act.put, zA, zB, zC]
  refine tk (i := 5) (oi := ⟨some 227, _, _, _, _, none⟩) (v := ?_) rfl (Or.inl ⟨by rfl, ?_⟩) ?_
  rotate_left
  · intro w hSw; (try dsimp only at hSw); have q6 := hSw.box.c 6 _ rfl; go_simp; try with_reducible rfl
  try simp only [Act.put, zA, zB, zC]
  refine tk (i := 6) (oi := ⟨some 228, _, _, _, _, none⟩) (v := ?_) rfl (Or.inl ⟨by rfl, ?_⟩) ?_
  rotate_left
  · intro w hSw; (try dsimp only at hSw); go_simp; try with_reducible rfl
  try simp only [Act.put, zA, zB, zC]
  refine wpAnyH_ready (rs := [7]) (by kernel_rfl) (by simp) ?_
  refine AllReadyH.cons (o := ⟨some 229, _, _, _, _, none⟩) rfl (fun K hK => ?_) AllReadyH.nil
  go_simp
  refine hK.out _ _ ?_ (fun hNew => ?_)
  · (try dsimp only); exact hHeld.alloc _
  clear hHeld hK K
  have hHeld := hNew
  clear hNew
  try simp only [Act.put, zA, zB, zC]
  refine wpAnyH_ready (rs := [8]) (by kernel_rfl) (by simp) ?_
  refine AllReadyH.cons (o := ⟨some 230, _, _, _, _, none⟩) rfl (fun K hK => ?_) AllReadyH.nil
  go_simp
  go_at_call 140
  refine (check_all_any (HH.out.res.row.below hHeld.below) (fun r hr => ((HH.out.res.each r hr).below hHeld.below).eff) ((atomRow w9 (aExn a.exn)).below (bel_drew _)) hfew (by omega)).mono ?_
  rintro e w5 ⟨v5, k5, rfl, hown5, hb⟩
  obtain ⟨q5, c5, rfl, hrow5⟩ := OwnE.isRow encA_len (by omega) hown5
  have hfar5 := (fun ad hp => by subst hp; have := OwnE.from hown5 ad.block rfl; simpa using this : ∀ ad, q5 = some ad → w9.heap.size + 1 ≤ ad.block)
  have HR5 := hid hrow5
  have HF5 := hid hfar5
  clear hown5 hrow5 hfar5
  try go_wp2_with fail
  refine hK.out _ _ ?_ (fun hNew => ?_)
  · (try dsimp only); exact hHeld.step hb
  clear hHeld hK K
  have hHeld := hNew
  clear hNew
  try simp only [Act.put, zA, zB, zC]
  refine tk (i := 9) (oi := ⟨some 231, _, _, _, _, none⟩) (v := ?_) rfl (Or.inl ⟨by rfl, ?_⟩) ?_
  rotate_left
  · intro w hSw; (try dsimp only at hSw); go_simp; try with_reducible rfl
  try simp only [Act.put, zA, zB, zC]
  refine wpAnyH_ready (rs := [10]) (by kernel_rfl) (by simp) ?_
  refine AllReadyH.cons (o := ⟨none, _, _, _, _, none⟩) rfl (fun K hK => ?_) AllReadyH.nil
  have HX9 := hid hHeld
  refine step_store_res rfl _ _ _ (by rfl) hHeld #[.int .u8 a.ty.head.kind, .int .i64 a.ty.head.rho, .slice a.ty.head.ep a.ty.head.en a.ty.head.ec, .slice a.ty.head.kp a.ty.head.kn a.ty.head.kc, .slice q5 k5 c5] (by rfl) (by rfl) (by kernel_rfl) rfl (by simp [Value.oneCell']) ?_
  refine hK.out _ _ ?_ (fun hNew => ?_)
  · (try dsimp only); exact hHeld.store rfl
  clear hHeld hK K
  have hHeld := hNew
  clear hNew
  try simp only [Act.put, zA, zB, zC]
  refine wpAnyH_done (by kernel_rfl) ?_ _
  clear hHeld
  go_wp2_with fail
  refine bodyPost_ret (results_cell_row rfl _ _ _ _ _ _ _ rfl (HX9.out.heap _) Tryz.underlying81 rfl (by kernel_rfl)) rfl ?_
  have hown := HH.out.own
  have hs1 := HX.out.size
  refine out_of (y := ⟨a.ty, q5, k5, c5, allE (erL l) [aExn a.exn]⟩) HX9.out HH.out.new ⟨LR.lies_below HX9.out.below _ hown.ty, fun z hz => .inl ⟨lies_uses _ hown.ty z hz, HH.out.ty z hz⟩, HR5.out, allE_ok (fun r hr => (HH.out.res.each r hr).eok) (fun z hz => by rw [List.mem_singleton] at hz; subst hz; exact ⟨by show (0 : Int) ≤ 3; decide, by show (3 : Int) ≤ 255; decide, by show _ ≤ (0 : Int); decide, by show (0 : Int) ≤ _; decide, hown.exn⟩), fun _ ad hp => .inr ?_⟩ rfl
  have h1 := HF5.out ad hp
  omega
end
end Go.Proofs.YtkdjnegfnhldpaaGreatDoor
