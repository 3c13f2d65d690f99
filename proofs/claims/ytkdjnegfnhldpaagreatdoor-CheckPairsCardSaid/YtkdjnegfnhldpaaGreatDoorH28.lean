/- Part 28: Rm. -/
import Derived.Test.YtkdjnegfnhldpaaGreatDoorH22
import Derived.Test.YtkdjnegfnhldpaaGreatDoorH01
set_option linter.unusedVariables false
set_option maxRecDepth 100000
set_option linter.unusedSimpArgs false
namespace Go.Proofs.YtkdjnegfnhldpaaGreatDoor
open Go.Lib (hid)
section
open Go.RowKit
theorem ints_is {p : Option Addr} {n c : Nat} {l : List RV} {w : World} {u : Bool} (hu : l.all (fun r => r.ty.head.kind == 1) = u) (hr : IsRow encRV 5 w p n c l) :
    Calls Tryz.prog 143 #[.slice p n c] w fun e w' => e = .returned (.bool u) ∧ Below w.heap.size w w' := by
  subst hu; exact check_ints_any hr
set_option maxHeartbeats 8000000 in
theorem rule_num {w : World} {S : Nat → Prop} {a : AH} {p : Option Addr} {n c : Nat} {l : List RV} (h : RlIn w S a p n c l) (hk : a.kind = 1) : Calls Tryz.prog 99 #[aggT a, .slice p n c] w (OutC w S (ruleP a.plain (erL l))) := by
  have HX := hid (rls_new w a)
  have HH := hid h
  have hfew := h.few
  have hsum := h.sum
  have e3 : (a.kind == 3) = false := by simp [hk]
  have e4 : (a.kind == 4) = false := by simp [hk]
  have e5 : (a.kind == 5) = false := by simp [hk]
  have e6 : (a.kind == 6) = false := by simp [hk]
  have e7 : (a.kind == 7) = false := by simp [hk]
  have e8 : (a.kind == 8) = false := by simp [hk]
  have e10 : (a.kind == 10) = false := by simp [hk]
  have e9 : (a.kind == 9) = false := by simp [hk]
  have e14 : (a.kind == 14) = false := by simp [hk]
  have e15 : (a.kind == 15) = false := by simp [hk]
  have e1 : (a.kind == 1) = true := by simp [hk]
  have hc0 := HX.out.box.c 0 _ rfl
  have HRU : Hid (ruleP a.plain (erL l) = .ok (tInt, allE (erL l) [])) := by
    show _ = _
    unfold ruleP
    simp [show a.plain.kind = 1 from hk]
  rw [HRU.out]
  clear h hk
  go_enter Tryz.func99, Tryz.ntmps99
  go_upto_region 29 with fail
  clear hc0 e3 e4 e5 e6 e7 e8 e10 e9 e14 e15 e1
  generalize (w.alloc (.cells #[.int .u8 a.kind, .int .u8 a.op, .int .i64 a.at_, .int .i64 a.n, .string a.name, .string a.arg, .string a.exn, .int .i64 a.rho, .slice a.rp a.rn a.rc, .slice a.ep a.en a.ec, .int .u8 a.ty.head.kind, .int .i64 a.ty.head.rho, .slice a.ty.head.ep a.ty.head.en a.ty.head.ec, .slice a.ty.head.kp a.ty.head.kn a.ty.head.kc, .int .u8 a.res.head.kind, .int .i64 a.res.head.rho, .slice a.res.head.ep a.res.head.en a.res.head.ec, .slice a.res.head.kp a.res.head.kn a.res.head.kc, .slice a.kp a.kn a.kc] 31)).alloc (.cells #[.int .u8 0, .int .i64 0, .slice none 0 0, .slice none 0 0, .slice none 0 0] 81) = W1 at *
  go_wp2_with (first
    | (refine wpList_store_res rfl _ _ _ rfl HX3.out #[.int .u8 1, .int .i64 0, .slice q m qc, .slice none 0 0, .slice q3 k3 c3] rfl rfl (by kernel_rfl) rfl (by simp [Value.oneCell']) ?_)
    | (go_at_call 136; refine (check_of_any 1 0 (IsRow.none encA 3 _) (by omega) none 0 0).mono ?_; rintro e w2 ⟨q, m, qc, rfl, hrow, hfar, hb⟩; have HR2 : Hid (IsRow encA 3 w2 q m qc []) := hrow; have HX2 := hid (HX.out.step hb); clear hrow hfar hb)
    | (go_at_call 140; refine (check_all_any (HH.out.res.row.below HX2.out.below) (fun r hr => ((HH.out.res.each r hr).below HX2.out.below).eff) (IsRow.none encA 3 _) hfew (by omega)).mono ?_; rintro e w3 ⟨v3, k3, rfl, hown3, hb3⟩; obtain ⟨q3, c3, rfl, hrow3⟩ := OwnE.isRow encA_len (by omega) hown3; have hfar3 := (fun ad hp => by subst hp; exact OwnE.from hown3 ad.block rfl : ∀ ad, q3 = some ad → w2.heap.size ≤ ad.block); have HR3 := hid hrow3; have HF3 := hid hfar3; have HX3 := hid (HX2.out.step hb3); have HB3 := hid hb3; clear hown3 hrow3 hfar3 hb3))
  refine bodyPost_ret (results_cell_row rfl _ _ _ _ _ _ _ rfl (HX3.out.heap _) Tryz.underlying81 rfl (by kernel_rfl)) rfl ?_
  exact int_of HX3.out HH.out.new (HR2.out.below HB3.out) HR3.out (fun ad hp => by have h1 := HF3.out ad hp; have h2 := HX2.out.size; omega) (allE_ok (fun r hr => (HH.out.res.each r hr).eok) (fun x hx => (nomatch hx)))
set_option maxHeartbeats 8000000 in
theorem rule_op {w : World} {S : Nat → Prop} {a : AH} {p : Option Addr} {n c : Nat} {l : List RV} (h : RlIn w S a p n c l) (hk : a.kind = 9) : Calls Tryz.prog 99 #[aggT a, .slice p n c] w (OutC w S (ruleP a.plain (erL l))) := by
  have HX := hid (rls_new w a)
  have HH := hid h
  have hfew := h.few
  have hsum := h.sum
  have e3 : (a.kind == 3) = false := by simp [hk]
  have e4 : (a.kind == 4) = false := by simp [hk]
  have e5 : (a.kind == 5) = false := by simp [hk]
  have e6 : (a.kind == 6) = false := by simp [hk]
  have e7 : (a.kind == 7) = false := by simp [hk]
  have e8 : (a.kind == 8) = false := by simp [hk]
  have e10 : (a.kind == 10) = false := by simp [hk]
  have e9 : (a.kind == 9) = true := by simp [hk]
  have hc0 := HX.out.box.c 0 _ rfl
  obtain ⟨u, hu⟩ : ∃ u, l.all (fun r => r.ty.head.kind == 1) = u := ⟨_, rfl⟩
  have HU := hid hu
  have HRU : Hid (ruleP a.plain (erL l) = mustP u a.plain 5 (.ok (tInt, allE (erL l) []))) := by
    show _ = _
    unfold ruleP
    rw [← hu, ← all_er]
    simp [show a.plain.kind = 9 from hk]
    try rfl
  rw [HRU.out]
  clear h hk hu
  go_enter Tryz.func99, Tryz.ntmps99
  go_upto_region 21 with fail
  clear hc0
  generalize (w.alloc (.cells #[.int .u8 a.kind, .int .u8 a.op, .int .i64 a.at_, .int .i64 a.n, .string a.name, .string a.arg, .string a.exn, .int .i64 a.rho, .slice a.rp a.rn a.rc, .slice a.ep a.en a.ec, .int .u8 a.ty.head.kind, .int .i64 a.ty.head.rho, .slice a.ty.head.ep a.ty.head.en a.ty.head.ec, .slice a.ty.head.kp a.ty.head.kn a.ty.head.kc, .int .u8 a.res.head.kind, .int .i64 a.res.head.rho, .slice a.res.head.ep a.res.head.en a.res.head.ec, .slice a.res.head.kp a.res.head.kn a.res.head.kc, .slice a.kp a.kn a.kc] 31)).alloc (.cells #[.int .u8 0, .int .i64 0, .slice none 0 0, .slice none 0 0, .slice none 0 0] 81) = W1 at *
  refine wp_region_held_drew (S := fun W' => RlS w a W') (by kernel_rfl) ?_ (fun hHeld => ?_)
  · exact HX.out.drew
  refine tk (i := 0) (oi := ⟨some 185, _, _, _, _, none⟩) (v := ?_) rfl (Or.inl ⟨by rfl, ?_⟩) ?_
  rotate_left; · intro w h; go_simp; try with_reducible rfl
  try simp only [Act.put, zA, zB, zC]
  refine tk (i := 2) (oi := ⟨some 187, _, _, _, _, none⟩) (v := .agg ([.int .u8 a.kind, .int .u8 a.op, .int .i64 a.at_, .int .i64 a.n, .string a.name, .string a.arg, .string a.exn, .int .i64 a.rho, .slice a.rp a.rn a.rc, .slice a.ep a.en a.ec, .int .u8 a.ty.head.kind, .int .i64 a.ty.head.rho, .slice a.ty.head.ep a.ty.head.en a.ty.head.ec, .slice a.ty.head.kp a.ty.head.kn a.ty.head.kc, .int .u8 a.res.head.kind, .int .i64 a.res.head.rho, .slice a.res.head.ep a.res.head.en a.res.head.ec, .slice a.res.head.kp a.res.head.kn a.res.head.kc, .slice a.kp a.kn a.kc] : List Value).toArray) rfl (yieldsIf_load_mid (by rfl) 31 _ rfl w.heap.size 0 rfl _ _ (fun W' hSw => hSw.box.range) Tryz.underlying31 rfl (by kernel_rfl)) ?_
  try simp only [Act.put, zA, zB, zC]
  refine wpAnyH_ready (rs := [1]) (by kernel_rfl) (by simp) ?_
  refine AllReadyH.cons (o := ⟨some 186, _, _, _, _, none⟩) rfl (fun K hK => ?_) AllReadyH.nil
  go_simp
  go_at_call 143
  refine (ints_is HU.out (HH.out.res.row.below hHeld.below)).mono ?_
  rintro e w8 ⟨rfl, hb⟩
  try go_wp2_with fail
  refine hK.out _ _ ?_ (fun hNew => ?_)
  · (try dsimp only); exact hHeld.step hb
  clear hHeld hK K; have hHeld := hNew; clear hNew
  try simp only [Act.put, zA, zB, zC]
  refine wpAnyH_ready (rs := [3]) (by kernel_rfl) (by simp) ?_
  refine AllReadyH.cons (o := ⟨some 188, _, _, _, _, none⟩) rfl (fun K hK => ?_) AllReadyH.nil
  go_simp
  cases u
  · go_at_call 64
    refine (must_no a 5 _).mono ?_
    rintro e w9 ⟨rfl, hb⟩
    exact ⟨rfl, rfl, (hHeld.step hb).below⟩
  go_at_call 64
  refine (must_yes a 5 _).mono ?_
  rintro e w9 ⟨rfl, hb⟩
  try go_wp2_with fail
  refine hK.out _ _ ?_ (fun hNew => ?_)
  · (try dsimp only); exact hHeld.step hb
  clear hHeld hK K; have hHeld := hNew; clear hNew
  try simp only [Act.put, zA, zB, zC]
  refine wpAnyH_done (by kernel_rfl) ?_ _
  clear HX
  have HX := hid hHeld
  clear hHeld
  go_wp2_with (first
    | (refine wpList_store_res rfl _ _ _ rfl HX3.out #[.int .u8 1, .int .i64 0, .slice q m qc, .slice none 0 0, .slice q3 k3 c3] rfl rfl (by kernel_rfl) rfl (by simp [Value.oneCell']) ?_)
    | (go_at_call 136; refine (check_of_any 1 0 (IsRow.none encA 3 _) (by omega) none 0 0).mono ?_; rintro e w2 ⟨q, m, qc, rfl, hrow, hfar, hb⟩; have HR2 : Hid (IsRow encA 3 w2 q m qc []) := hrow; have HX2 := hid (HX.out.step hb); clear hrow hfar hb)
    | (go_at_call 140; refine (check_all_any (HH.out.res.row.below HX2.out.below) (fun r hr => ((HH.out.res.each r hr).below HX2.out.below).eff) (IsRow.none encA 3 _) hfew (by omega)).mono ?_; rintro e w3 ⟨v3, k3, rfl, hown3, hb3⟩; obtain ⟨q3, c3, rfl, hrow3⟩ := OwnE.isRow encA_len (by omega) hown3; have hfar3 := (fun ad hp => by subst hp; exact OwnE.from hown3 ad.block rfl : ∀ ad, q3 = some ad → w2.heap.size ≤ ad.block); have HR3 := hid hrow3; have HF3 := hid hfar3; have HX3 := hid (HX2.out.step hb3); have HB3 := hid hb3; clear hown3 hrow3 hfar3 hb3))
  refine bodyPost_ret (results_cell_row rfl _ _ _ _ _ _ _ rfl (HX3.out.heap _) Tryz.underlying81 rfl (by kernel_rfl)) rfl ?_
  exact int_of HX3.out HH.out.new (HR2.out.below HB3.out) HR3.out (fun ad hp => by have h1 := HF3.out ad hp; have h2 := HX2.out.size; omega) (allE_ok (fun r hr => (HH.out.res.each r hr).eok) (fun x hx => (nomatch hx)))
set_option maxHeartbeats 8000000 in
theorem rule_raise {w : World} {S : Nat → Prop} {a : AH} {p : Option Addr} {n c : Nat} {l : List RV} (h : RlIn w S a p n c l) (hk : a.kind = 15) : Calls Tryz.prog 99 #[aggT a, .slice p n c] w (OutC w S (ruleP a.plain (erL l))) := by
  have HX := hid (rls_new w a)
  have HH := hid h
  have hfew := h.few
  have hsum := h.sum
  have e3 : (a.kind == 3) = false := by simp [hk]
  have e4 : (a.kind == 4) = false := by simp [hk]
  have e5 : (a.kind == 5) = false := by simp [hk]
  have e6 : (a.kind == 6) = false := by simp [hk]
  have e7 : (a.kind == 7) = false := by simp [hk]
  have e8 : (a.kind == 8) = false := by simp [hk]
  have e10 : (a.kind == 10) = false := by simp [hk]
  have e9 : (a.kind == 9) = false := by simp [hk]
  have e14 : (a.kind == 14) = false := by simp [hk]
  have e15 : (a.kind == 15) = true := by simp [hk]
  have hc0 := HX.out.box.c 0 _ rfl
  obtain ⟨u, hu⟩ : ∃ u, l.all (fun r => r.ty.head.kind == 1) = u := ⟨_, rfl⟩
  have HU := hid hu
  have HRU : Hid (ruleP a.plain (erL l) = mustP u a.plain 5 (.ok (a.ty.er, allE (erL l) [aExn a.exn]))) := by
    show _ = _
    unfold ruleP
    rw [← hu, ← all_er]
    simp [show a.plain.kind = 15 from hk]
    try rfl
  rw [HRU.out]
  clear h hk hu
  go_enter Tryz.func99, Tryz.ntmps99
  go_upto_region 26 with fail
  clear hc0
  generalize (w.alloc (.cells #[.int .u8 a.kind, .int .u8 a.op, .int .i64 a.at_, .int .i64 a.n, .string a.name, .string a.arg, .string a.exn, .int .i64 a.rho, .slice a.rp a.rn a.rc, .slice a.ep a.en a.ec, .int .u8 a.ty.head.kind, .int .i64 a.ty.head.rho, .slice a.ty.head.ep a.ty.head.en a.ty.head.ec, .slice a.ty.head.kp a.ty.head.kn a.ty.head.kc, .int .u8 a.res.head.kind, .int .i64 a.res.head.rho, .slice a.res.head.ep a.res.head.en a.res.head.ec, .slice a.res.head.kp a.res.head.kn a.res.head.kc, .slice a.kp a.kn a.kc] 31)).alloc (.cells #[.int .u8 0, .int .i64 0, .slice none 0 0, .slice none 0 0, .slice none 0 0] 81) = W1 at *
  refine wp_region_held_drew (S := fun W' => RlS w a W') (by kernel_rfl) ?_ (fun hHeld => ?_)
  · exact HX.out.drew
  refine tk (i := 0) (oi := ⟨some 218, _, _, _, _, none⟩) (v := ?_) rfl (Or.inl ⟨by rfl, ?_⟩) ?_
  rotate_left; · intro w h; go_simp; try with_reducible rfl
  try simp only [Act.put, zA, zB, zC]
  refine tk (i := 2) (oi := ⟨some 220, _, _, _, _, none⟩) (v := .agg ([.int .u8 a.kind, .int .u8 a.op, .int .i64 a.at_, .int .i64 a.n, .string a.name, .string a.arg, .string a.exn, .int .i64 a.rho, .slice a.rp a.rn a.rc, .slice a.ep a.en a.ec, .int .u8 a.ty.head.kind, .int .i64 a.ty.head.rho, .slice a.ty.head.ep a.ty.head.en a.ty.head.ec, .slice a.ty.head.kp a.ty.head.kn a.ty.head.kc, .int .u8 a.res.head.kind, .int .i64 a.res.head.rho, .slice a.res.head.ep a.res.head.en a.res.head.ec, .slice a.res.head.kp a.res.head.kn a.res.head.kc, .slice a.kp a.kn a.kc] : List Value).toArray) rfl (yieldsIf_load_mid (by rfl) 31 _ rfl w.heap.size 0 rfl _ _ (fun W' hSw => hSw.box.range) Tryz.underlying31 rfl (by kernel_rfl)) ?_
  try simp only [Act.put, zA, zB, zC]
  refine wpAnyH_ready (rs := [1]) (by kernel_rfl) (by simp) ?_
  refine AllReadyH.cons (o := ⟨some 219, _, _, _, _, none⟩) rfl (fun K hK => ?_) AllReadyH.nil
  go_simp
  go_at_call 143
  refine (ints_is HU.out (HH.out.res.row.below hHeld.below)).mono ?_
  rintro e w8 ⟨rfl, hb⟩
  try go_wp2_with fail
  refine hK.out _ _ ?_ (fun hNew => ?_)
  · (try dsimp only); exact hHeld.step hb
  clear hHeld hK K; have hHeld := hNew; clear hNew
  try simp only [Act.put, zA, zB, zC]
  refine wpAnyH_ready (rs := [3]) (by kernel_rfl) (by simp) ?_
  refine AllReadyH.cons (o := ⟨some 221, _, _, _, _, none⟩) rfl (fun K hK => ?_) AllReadyH.nil
  go_simp
  cases u
  · go_at_call 64
    refine (must_no a 5 _).mono ?_
    rintro e w9 ⟨rfl, hb⟩
    exact ⟨rfl, rfl, (hHeld.step hb).below⟩
  go_at_call 64
  refine (must_yes a 5 _).mono ?_
  rintro e w9 ⟨rfl, hb⟩
  try go_wp2_with fail
  refine hK.out _ _ ?_ (fun hNew => ?_)
  · (try dsimp only); exact hHeld.step hb
  clear hHeld hK K; have hHeld := hNew; clear hNew
  try simp only [Act.put, zA, zB, zC]
  refine wpAnyH_done (by kernel_rfl) ?_ _
  clear HX
  have HX := hid hHeld
  clear hHeld
  go_upto_region 27 with fail
  refine wp_region_held_drew (S := fun W' => RlS w a W') (by kernel_rfl) ?_ (fun hHeld => ?_)
  · exact HX.out.drew
  refine tk (i := 0) (oi := ⟨some 222, _, _, _, _, none⟩) (v := ?_) rfl (Or.inl ⟨by rfl, ?_⟩) ?_
  rotate_left; · intro w h; go_simp; try with_reducible rfl
  try simp only [Act.put, zA, zB, zC]
  refine tk (i := 1) (oi := ⟨some 223, _, _, _, _, none⟩) (v := .agg ([.int .u8 a.ty.head.kind, .int .i64 a.ty.head.rho, .slice a.ty.head.ep a.ty.head.en a.ty.head.ec, .slice a.ty.head.kp a.ty.head.kn a.ty.head.kc] : List Value).toArray) rfl (yieldsIf_load_mid (by rfl) 28 _ rfl w.heap.size 10 rfl _ _ (fun W' hSw => range_part' hSw.box 10 4 rfl) Tryz.underlying28 rfl (by kernel_rfl)) ?_
  try simp only [Act.put, zA, zB, zC]
  refine tk (i := 2) (oi := ⟨some 224, _, _, _, _, none⟩) (v := ?_) rfl (Or.inl ⟨by rfl, ?_⟩) ?_
  rotate_left; · intro w h; go_simp; try with_reducible rfl
  try simp only [Act.put, zA, zB, zC]
  refine tk (i := 3) (oi := ⟨some 225, _, _, _, _, none⟩) (v := ?_) rfl (Or.inl ⟨by rfl, ?_⟩) ?_
  rotate_left; · intro w h; go_simp; try with_reducible rfl
  try simp only [Act.put, zA, zB, zC]
  refine tk (i := 4) (oi := ⟨some 226, _, _, _, _, none⟩) (v := ?_) rfl (Or.inl ⟨by rfl, ?_⟩) ?_
  rotate_left; · intro w h; go_simp; try with_reducible rfl
  try simp only [Act.put, zA, zB, zC]
  refine tk (i := 5) (oi := ⟨some 227, _, _, _, _, none⟩) (v := ?_) rfl (Or.inl ⟨by rfl, ?_⟩) ?_
  rotate_left
  · intro w hSw; (try dsimp only at hSw); have q6 := hSw.box.c 6 _ rfl; go_simp; try with_reducible rfl
  try simp only [Act.put, zA, zB, zC]
  refine tk (i := 6) (oi := ⟨some 228, _, _, _, _, none⟩) (v := ?_) rfl (Or.inl ⟨by rfl, ?_⟩) ?_
  rotate_left; · intro w h; go_simp; try with_reducible rfl
  try simp only [Act.put, zA, zB, zC]
  refine wpAnyH_ready (rs := [7]) (by kernel_rfl) (by simp) ?_
  refine AllReadyH.cons (o := ⟨some 229, _, _, _, _, none⟩) rfl (fun K hK => ?_) AllReadyH.nil
  go_simp
  refine hK.out _ _ ?_ (fun hNew => ?_)
  · (try dsimp only); exact hHeld.alloc _
  clear hHeld hK K; have hHeld := hNew; clear hNew
  try simp only [Act.put, zA, zB, zC]
  refine wpAnyH_ready (rs := [8]) (by kernel_rfl) (by simp) ?_
  refine AllReadyH.cons (o := ⟨some 230, _, _, _, _, none⟩) rfl (fun K hK => ?_) AllReadyH.nil
  go_simp
  go_at_call 140
  refine (check_all_any (HH.out.res.row.below hHeld.below) (fun r hr => ((HH.out.res.each r hr).below hHeld.below).eff) ((atomRow w9 (aExn a.exn)).below (bel_drew _)) hfew (by omega)).mono ?_
  rintro e w5 ⟨v5, k5, rfl, hown5, hb⟩
  obtain ⟨q5, c5, rfl, hrow5⟩ := OwnE.isRow encA_len (by omega) hown5
  have hfar5 := (fun ad hp => by subst hp; have := OwnE.from hown5 ad.block rfl; simpa using this : ∀ ad, q5 = some ad → w9.heap.size + 1 ≤ ad.block)
  have HR5 := hid hrow5
  have HF5 := hid hfar5
  clear hown5 hrow5 hfar5
  try go_wp2_with fail
  refine hK.out _ _ ?_ (fun hNew => ?_)
  · (try dsimp only); exact hHeld.step hb
  clear hHeld hK K; have hHeld := hNew; clear hNew
  try simp only [Act.put, zA, zB, zC]
  refine tk (i := 9) (oi := ⟨some 231, _, _, _, _, none⟩) (v := ?_) rfl (Or.inl ⟨by rfl, ?_⟩) ?_
  rotate_left; · intro w h; go_simp; try with_reducible rfl
  try simp only [Act.put, zA, zB, zC]
  refine wpAnyH_ready (rs := [10]) (by kernel_rfl) (by simp) ?_
  refine AllReadyH.cons (o := ⟨none, _, _, _, _, none⟩) rfl (fun K hK => ?_) AllReadyH.nil
  have HX9 := hid hHeld
  refine step_store_res rfl _ _ _ (by rfl) hHeld #[.int .u8 a.ty.head.kind, .int .i64 a.ty.head.rho, .slice a.ty.head.ep a.ty.head.en a.ty.head.ec, .slice a.ty.head.kp a.ty.head.kn a.ty.head.kc, .slice q5 k5 c5] (by rfl) (by rfl) (by kernel_rfl) rfl (by simp [Value.oneCell']) ?_
  refine hK.out _ _ ?_ (fun hNew => ?_)
  · (try dsimp only); exact hHeld.store rfl
  clear hHeld hK K; have hHeld := hNew; clear hNew
  try simp only [Act.put, zA, zB, zC]
  refine wpAnyH_done (by kernel_rfl) ?_ _
  clear hHeld
  go_wp2_with fail
  refine bodyPost_ret (results_cell_row rfl _ _ _ _ _ _ _ rfl (HX9.out.heap _) Tryz.underlying81 rfl (by kernel_rfl)) rfl ?_
  have hown := HH.out.own
  have hs1 := HX.out.size
  refine out_of (y := ⟨a.ty, q5, k5, c5, allE (erL l) [aExn a.exn]⟩) HX9.out HH.out.new ⟨LR.lies_below HX9.out.below _ hown.ty, fun z hz => .inl ⟨lies_uses _ hown.ty z hz, HH.out.ty z hz⟩, HR5.out, allE_ok (fun r hr => (HH.out.res.each r hr).eok) (fun z hz => by rw [List.mem_singleton] at hz; subst hz; exact ⟨by show (0 : Int) ≤ 3; decide, by show (3 : Int) ≤ 255; decide, by show _ ≤ (0 : Int); decide, by show (0 : Int) ≤ _; decide, hown.exn⟩), fun _ ad hp => .inr ?_⟩ rfl
  have h1 := HF5.out ad hp
  omega
end
end Go.Proofs.YtkdjnegfnhldpaaGreatDoor
