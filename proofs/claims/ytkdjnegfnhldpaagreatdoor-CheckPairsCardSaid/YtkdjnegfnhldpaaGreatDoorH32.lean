/- Part 32: Bi. -/
import Derived.Test.YtkdjnegfnhldpaaGreatDoorH28
import Derived.Test.YtkdjnegfnhldpaaGreatDoorH01
set_option linter.unusedVariables false
set_option maxRecDepth 100000
set_option linter.unusedSimpArgs false
namespace Go.Proofs.YtkdjnegfnhldpaaGreatDoor
open Go.Lib (hid)
section
open Go.RowKit
theorem n_contains_is {p : Option Addr} {n cap : Nat} {l : List Int} {x : Int} {w : World} {u : Bool} (hu : inN l x = u) (h : IsRow encN 1 w p n cap l) :
    Calls Tryz.prog 183 #[.slice p n cap, .int .i64 x] w fun e w' => e = .returned (.bool u) ∧ Below w.heap.size w w' := by
  subst hu
  exact (n_contains_any h x).mono (fun e w' ⟨he, hw⟩ => ⟨he, by subst hw; exact Below.refl _ _⟩)
set_option maxHeartbeats 8000000 in
theorem binds_let {w : World} {S : Nat → Prop} {a : AH} {b o c : Nat} {x y : RV} (h : RlIn w S a (some ⟨b, o, none⟩) 2 c [x, y]) (hk : a.kind = 12) : Calls Tryz.prog 144 #[aggT a, .slice (some ⟨b, o, none⟩) 2 c] w (OutC w S (bindsP a.plain (erL [x, y]))) := by
  have HX := hid (rls_new w a)
  have HH := hid h
  have hsum := h.sum
  have e11 : (a.kind == 11) = false := by simp [hk]
  have e13 : (a.kind == 13) = false := by simp [hk]
  have e16 : (a.kind == 16) = false := by simp [hk]
  have e17 : (a.kind == 17) = false := by simp [hk]
  have hc0 := HX.out.box.c 0 _ rfl
  have HRU : Hid (bindsP a.plain (erL [x, y]) = .ok (y.ty.er, allE (erL [x, y]) [])) := by
    show _ = _
    unfold bindsP
    simp [show a.plain.kind = 12 from hk, erL]
    try first | rfl | exact ⟨rfl, rfl⟩
  rw [HRU.out]
  clear h hk
  go_enter Tryz.func144, Tryz.ntmps144
  go_upto_region 15 with fail
  clear hc0 e11 e13 e16 e17
  generalize (w.alloc (.cells #[.int .u8 a.kind, .int .u8 a.op, .int .i64 a.at_, .int .i64 a.n, .string a.name, .string a.arg, .string a.exn, .int .i64 a.rho, .slice a.rp a.rn a.rc, .slice a.ep a.en a.ec, .int .u8 a.ty.head.kind, .int .i64 a.ty.head.rho, .slice a.ty.head.ep a.ty.head.en a.ty.head.ec, .slice a.ty.head.kp a.ty.head.kn a.ty.head.kc, .int .u8 a.res.head.kind, .int .i64 a.res.head.rho, .slice a.res.head.ep a.res.head.en a.res.head.ec, .slice a.res.head.kp a.res.head.kn a.res.head.kc, .slice a.kp a.kn a.kc] 31)).alloc (.cells #[.int .u8 0, .int .i64 0, .slice none 0 0, .slice none 0 0, .slice none 0 0] 81) = W1 at *
  refine wp_region_held_drew (S := fun W' => RlS w a W') (by kernel_rfl) ?_ (fun hHeld => ?_)
  · exact HX.out.drew
  refine tk (i := 0) (oi := ⟨some 129, _, _, _, _, none⟩) (v := ?_) rfl (Or.inl ⟨by rfl, ?_⟩) ?_
  rotate_left; · intro w h; go_simp; try with_reducible rfl
  try simp only [Act.put, zA, zB, zC]
  refine tk (i := 1) (oi := ⟨some 130, _, _, _, _, none⟩) (v := ?_) rfl (Or.inl ⟨by rfl, ?_⟩) ?_
  rotate_left; · intro w h; go_simp; try with_reducible rfl
  try simp only [Act.put, zA, zB, zC]
  refine tk (i := 2) (oi := ⟨some 131, _, _, _, _, none⟩) (v := ?_) rfl (Or.inl ⟨by rfl, ?_⟩) ?_
  rotate_left; · intro w h; go_simp; try with_reducible rfl
  try simp only [Act.put, zA, zB, zC]
  refine tk (i := 3) (oi := ⟨some 132, _, _, _, _, none⟩) (v := .agg ([.int .u8 y.ty.head.kind, .int .i64 y.ty.head.rho, .slice y.ty.head.ep y.ty.head.en y.ty.head.ec, .slice y.ty.head.kp y.ty.head.kn y.ty.head.kc] : List Value).toArray) rfl (yieldsIf_load_mid (by rfl) 28 _ rfl b (o + 5) rfl _ _ (fun W' hSw => rv_ty1 (HH.out.res.row.below hSw.below)) Tryz.underlying28 rfl (by kernel_rfl)) ?_
  try simp only [Act.put, zA, zB, zC]
  refine tk (i := 4) (oi := ⟨some 133, _, _, _, _, none⟩) (v := ?_) rfl (Or.inl ⟨by rfl, ?_⟩) ?_
  rotate_left; · intro w h; go_simp; try with_reducible rfl
  try simp only [Act.put, zA, zB, zC]
  refine wpAnyH_ready (rs := [5]) (by kernel_rfl) (by simp) ?_
  refine AllReadyH.cons (o := ⟨some 134, _, _, _, _, none⟩) rfl (fun K hK => ?_) AllReadyH.nil
  go_simp
  have hsz := hHeld.size
  go_at_call 140
  refine (check_all_any (HH.out.res.row.below hHeld.below) (fun r hr => ((HH.out.res.each r hr).below hHeld.below).eff) (IsRow.none encA 3 _) (by decide) (by omega)).mono ?_
  rintro e w5 ⟨v5, k5, rfl, hown5, hb⟩
  obtain ⟨q5, c5, rfl, hrow5⟩ := OwnE.isRow encA_len (by omega) hown5
  have hfar5 := (fun ad hp => Nat.le_trans hsz (by subst hp; exact OwnE.from hown5 ad.block rfl) : ∀ ad, q5 = some ad → w.heap.size + 2 ≤ ad.block)
  have HR5 := hid hrow5
  have HF5 := hid hfar5
  clear hown5 hrow5 hfar5 hsz
  try go_wp2_with fail
  refine hK.out _ _ ?_ (fun hNew => ?_)
  · (try dsimp only); exact hHeld.step hb
  clear hHeld hK K; have hHeld := hNew; clear hNew
  try simp only [Act.put, zA, zB, zC]
  refine tk (i := 6) (oi := ⟨some 135, _, _, _, _, none⟩) (v := ?_) rfl (Or.inl ⟨by rfl, ?_⟩) ?_
  rotate_left; · intro w h; go_simp; try with_reducible rfl
  try simp only [Act.put, zA, zB, zC]
  refine wpAnyH_ready (rs := [7]) (by kernel_rfl) (by simp) ?_
  refine AllReadyH.cons (o := ⟨none, _, _, _, _, none⟩) rfl (fun K hK => ?_) AllReadyH.nil
  have HX9 := hid hHeld
  refine step_store_res rfl _ _ _ (by rfl) hHeld #[.int .u8 y.ty.head.kind, .int .i64 y.ty.head.rho, .slice y.ty.head.ep y.ty.head.en y.ty.head.ec, .slice y.ty.head.kp y.ty.head.kn y.ty.head.kc, .slice q5 k5 c5] (by rfl) (by rfl) (by kernel_rfl) rfl (by simp [Value.oneCell']) ?_
  refine hK.out _ _ ?_ (fun hNew => ?_)
  · (try dsimp only); exact hHeld.store rfl
  clear hHeld hK K; have hHeld := hNew; clear hNew
  try simp only [Act.put, zA, zB, zC]
  refine wpAnyH_done (by kernel_rfl) ?_ _
  clear hHeld
  go_wp2_with fail
  refine bodyPost_ret (results_cell_row rfl _ _ _ _ _ _ _ rfl (HX9.out.heap _) Tryz.underlying81 rfl (by kernel_rfl)) rfl ?_
  have hr := (HH.out.res.each y (by simp))
  exact out_of (y := ⟨y.ty, q5, k5, c5, allE (erL [x, y]) []⟩) HX9.out HH.out.new ⟨LR.lies_below HX9.out.below _ hr.ty, ((res_sn HH.out.res (Below.refl _ _)).each y (by simp)).uses, HR5.out, allE_ok (fun r hr => (HH.out.res.each r hr).eok) (fun x hx => (nomatch hx)), fun _ ad hp => .inr (HF5.out ad hp)⟩ rfl
set_option maxHeartbeats 8000000 in
theorem binds_region {w : World} {S : Nat → Prop} {a : AH} {b o c : Nat} {x : RV} (h : RlIn w S a (some ⟨b, o, none⟩) 1 c [x]) (hk : a.kind = 17) : Calls Tryz.prog 144 #[aggT a, .slice (some ⟨b, o, none⟩) 1 c] w (OutC w S (bindsP a.plain (erL [x]))) := by
  have HX := hid (rls_new w a)
  have HH := hid h
  have hsum := h.sum
  have e11 : (a.kind == 11) = false := by simp [hk]
  have e13 : (a.kind == 13) = false := by simp [hk]
  have e16 : (a.kind == 16) = false := by simp [hk]
  have e17 : (a.kind == 17) = true := by simp [hk]
  have hc0 := HX.out.box.c 0 _ rfl
  have HRU : Hid (bindsP a.plain (erL [x]) = mustP (!inN (sortI (gathL [x.ty])) a.rho) a.plain 6 (.ok (x.ty.er, withoutL x.eff [a.rho]))) := by
    show _ = _
    unfold bindsP
    simp [show a.plain.kind = 17 from hk, erL, gathL]
    try first | rfl | exact ⟨rfl, rfl⟩
  rw [HRU.out]
  obtain ⟨v, hv⟩ : ∃ v, inN (sortI (gathL [x.ty])) a.rho = v := ⟨_, rfl⟩
  rw [hv]
  have HV := hid hv
  clear hv
  have hg := h.good x (by simp)
  have hgl : (gathL [x.ty]).length ≤ 1000000 := by
    have h1 := gath_le _ hg.2.1
    rw [er_size] at h1
    have h2 := hg.2.2
    simp only [gathL, List.flatMap_cons, List.flatMap_nil, List.append_nil]
    omega
  have HGL := hid hgl
  have HGO : Hid (enOK [x.ty]) := fun z hz => by
    rw [List.mem_singleton] at hz; subst hz
    exact enOK_one _ (h.res.each x (by simp)).ty hg.2.1
  clear hg hgl
  clear h hk
  go_enter Tryz.func144, Tryz.ntmps144
  go_upto_region 13 with fail
  clear hc0 e11 e13 e16 e17
  generalize (w.alloc (.cells #[.int .u8 a.kind, .int .u8 a.op, .int .i64 a.at_, .int .i64 a.n, .string a.name, .string a.arg, .string a.exn, .int .i64 a.rho, .slice a.rp a.rn a.rc, .slice a.ep a.en a.ec, .int .u8 a.ty.head.kind, .int .i64 a.ty.head.rho, .slice a.ty.head.ep a.ty.head.en a.ty.head.ec, .slice a.ty.head.kp a.ty.head.kn a.ty.head.kc, .int .u8 a.res.head.kind, .int .i64 a.res.head.rho, .slice a.res.head.ep a.res.head.en a.res.head.ec, .slice a.res.head.kp a.res.head.kn a.res.head.kc, .slice a.kp a.kn a.kc] 31)).alloc (.cells #[.int .u8 0, .int .i64 0, .slice none 0 0, .slice none 0 0, .slice none 0 0] 81) = W1 at *
  refine wp_region_held_drew (S := fun W' => RlS w a W') (by kernel_rfl) ?_ (fun hHeld => ?_)
  · exact HX.out.drew
  refine tk (i := 0) (oi := ⟨some 104, _, _, _, _, none⟩) (v := ?_) rfl (Or.inl ⟨by rfl, ?_⟩) ?_
  rotate_left; · intro w h; go_simp; try with_reducible rfl
  try simp only [Act.put, zA, zB, zC]
  refine tk (i := 1) (oi := ⟨some 105, _, _, _, _, none⟩) (v := ?_) rfl (Or.inl ⟨by rfl, ?_⟩) ?_
  rotate_left; · intro w h; go_simp; try with_reducible rfl
  try simp only [Act.put, zA, zB, zC]
  refine tk (i := 2) (oi := ⟨some 106, _, _, _, _, none⟩) (v := ?_) rfl (Or.inl ⟨by rfl, ?_⟩) ?_
  rotate_left; · intro w h; go_simp; try with_reducible rfl
  try simp only [Act.put, zA, zB, zC]
  refine tk (i := 3) (oi := ⟨some 107, _, _, _, _, none⟩) (v := .agg ([.int .u8 x.ty.head.kind, .int .i64 x.ty.head.rho, .slice x.ty.head.ep x.ty.head.en x.ty.head.ec, .slice x.ty.head.kp x.ty.head.kn x.ty.head.kc] : List Value).toArray) rfl (yieldsIf_load_mid (by rfl) 28 _ rfl b o rfl _ _ (fun W' hSw => rv_ty0 (HH.out.res.row.below hSw.below)) Tryz.underlying28 rfl (by kernel_rfl)) ?_
  try simp only [Act.put, zA, zB, zC]
  refine tk (i := 6) (oi := ⟨some 110, _, _, _, _, none⟩) (v := ?_) rfl (Or.inl ⟨by rfl, ?_⟩) ?_
  rotate_left; · intro w h; go_simp; try with_reducible rfl
  try simp only [Act.put, zA, zB, zC]
  refine tk (i := 7) (oi := ⟨some 111, _, _, _, _, none⟩) (v := ?_) rfl (Or.inl ⟨by rfl, ?_⟩) ?_
  rotate_left
  · intro w hSw; (try dsimp only at hSw); have q7 := hSw.box.c 7 _ rfl; go_simp; try with_reducible rfl
  try simp only [Act.put, zA, zB, zC]
  refine tk (i := 10) (oi := ⟨some 114, _, _, _, _, none⟩) (v := .agg ([.int .u8 a.kind, .int .u8 a.op, .int .i64 a.at_, .int .i64 a.n, .string a.name, .string a.arg, .string a.exn, .int .i64 a.rho, .slice a.rp a.rn a.rc, .slice a.ep a.en a.ec, .int .u8 a.ty.head.kind, .int .i64 a.ty.head.rho, .slice a.ty.head.ep a.ty.head.en a.ty.head.ec, .slice a.ty.head.kp a.ty.head.kn a.ty.head.kc, .int .u8 a.res.head.kind, .int .i64 a.res.head.rho, .slice a.res.head.ep a.res.head.en a.res.head.ec, .slice a.res.head.kp a.res.head.kn a.res.head.kc, .slice a.kp a.kn a.kc] : List Value).toArray) rfl (yieldsIf_load_mid (by rfl) 31 _ rfl w.heap.size 0 rfl _ _ (fun W' hSw => hSw.box.range) Tryz.underlying31 rfl (by kernel_rfl)) ?_
  try simp only [Act.put, zA, zB, zC]
  refine wpAnyH_ready (rs := [4]) (by kernel_rfl) (by simp) ?_
  refine AllReadyH.cons (o := ⟨some 108, _, _, _, _, none⟩) rfl (fun K hK => ?_) AllReadyH.nil
  go_simp
  refine hK.out _ _ ?_ (fun hNew => ?_)
  · (try dsimp only); exact hHeld.alloc _
  clear hHeld hK K; have hHeld := hNew; clear hNew
  try simp only [Act.put, zA, zB, zC]
  refine wpAnyH_ready (rs := [5]) (by kernel_rfl) (by simp) ?_
  refine AllReadyH.cons (o := ⟨some 109, _, _, _, _, none⟩) rfl (fun K hK => ?_) AllReadyH.nil
  go_simp
  go_at_call 133
  refine (rtype_Rhos_any ⟨(rowT_made (LR.lies_below HX.out.below _ (HH.out.res.each x (by simp)).ty) 28).row.below (bel_drew _), fun t ht => LR.lies_below (bel_drew _) t ((rowT_made (LR.lies_below HX.out.below _ (HH.out.res.each x (by simp)).ty) 28).each t ht)⟩ HGL.out HGO.out).mono ?_
  rintro e w3 ⟨q3, m3, c3, rfl, _, hrow, hb⟩
  have HR3 := hid hrow
  clear hrow
  try go_wp2_with fail
  refine hK.out _ _ ?_ (fun hNew => ?_)
  · (try dsimp only); exact hHeld.step hb
  clear hHeld hK K; have hHeld := hNew; clear hNew
  try simp only [Act.put, zA, zB, zC]
  refine wpAnyH_ready (rs := [8]) (by kernel_rfl) (by simp) ?_
  refine AllReadyH.cons (o := ⟨some 112, _, _, _, _, none⟩) rfl (fun K hK => ?_) AllReadyH.nil
  go_simp
  go_at_call 183
  refine (n_contains_is HV.out HR3.out).mono ?_
  rintro e w4 ⟨rfl, hb⟩
  try go_wp2_with fail
  refine hK.out _ _ ?_ (fun hNew => ?_)
  · (try dsimp only); exact hHeld.step hb
  clear hHeld hK K; have hHeld := hNew; clear hNew
  try simp only [Act.put, zA, zB, zC]
  refine tk (i := 9) (oi := ⟨some 113, _, _, _, _, none⟩) (v := ?_) rfl (Or.inl ⟨by rfl, ?_⟩) ?_
  rotate_left; · intro w h; go_simp; try with_reducible rfl
  try simp only [Act.put, zA, zB, zC]
  refine wpAnyH_ready (rs := [11]) (by kernel_rfl) (by simp) ?_
  refine AllReadyH.cons (o := ⟨some 115, _, _, _, _, none⟩) rfl (fun K hK => ?_) AllReadyH.nil
  go_simp
  cases v
  rotate_left
  · go_at_call 64
    refine (must_no a 6 _).mono ?_
    rintro e w9 ⟨rfl, hb⟩
    exact ⟨rfl, rfl, (hHeld.step hb).below⟩
  go_at_call 64
  refine (must_yes a 6 _).mono ?_
  rintro e w9 ⟨rfl, hb⟩
  try go_wp2_with fail
  refine hK.out _ _ ?_ (fun hNew => ?_)
  · (try dsimp only); exact hHeld.step hb
  clear hHeld hK K; have hHeld := hNew; clear hNew
  try simp only [Act.put, zA, zB, zC]
  refine wpAnyH_done (by kernel_rfl) ?_ _
  clear HX
  have HX := hid hHeld
  clear hHeld
  go_upto_region 14 with fail
  refine wp_region_held_drew (S := fun W' => RlS w a W') (by kernel_rfl) ?_ (fun hHeld => ?_)
  · exact HX.out.drew
  refine tk (i := 0) (oi := ⟨some 116, _, _, _, _, none⟩) (v := ?_) rfl (Or.inl ⟨by rfl, ?_⟩) ?_
  rotate_left; · intro w h; go_simp; try with_reducible rfl
  try simp only [Act.put, zA, zB, zC]
  refine tk (i := 1) (oi := ⟨some 117, _, _, _, _, none⟩) (v := ?_) rfl (Or.inl ⟨by rfl, ?_⟩) ?_
  rotate_left; · intro w h; go_simp; try with_reducible rfl
  try simp only [Act.put, zA, zB, zC]
  refine tk (i := 2) (oi := ⟨some 118, _, _, _, _, none⟩) (v := ?_) rfl (Or.inl ⟨by rfl, ?_⟩) ?_
  rotate_left; · intro w h; go_simp; try with_reducible rfl
  try simp only [Act.put, zA, zB, zC]
  refine tk (i := 3) (oi := ⟨some 119, _, _, _, _, none⟩) (v := .agg ([.int .u8 x.ty.head.kind, .int .i64 x.ty.head.rho, .slice x.ty.head.ep x.ty.head.en x.ty.head.ec, .slice x.ty.head.kp x.ty.head.kn x.ty.head.kc] : List Value).toArray) rfl (yieldsIf_load_mid (by rfl) 28 _ rfl b o rfl _ _ (fun W' hSw => rv_ty0 (HH.out.res.row.below hSw.below)) Tryz.underlying28 rfl (by kernel_rfl)) ?_
  try simp only [Act.put, zA, zB, zC]
  refine tk (i := 4) (oi := ⟨some 120, _, _, _, _, none⟩) (v := ?_) rfl (Or.inl ⟨by rfl, ?_⟩) ?_
  rotate_left; · intro w h; go_simp; try with_reducible rfl
  try simp only [Act.put, zA, zB, zC]
  refine tk (i := 5) (oi := ⟨some 121, _, _, _, _, none⟩) (v := ?_) rfl (Or.inl ⟨by rfl, ?_⟩) ?_
  rotate_left; · intro w h; go_simp; try with_reducible rfl
  try simp only [Act.put, zA, zB, zC]
  refine tk (i := 6) (oi := ⟨some 122, _, _, _, _, none⟩) (v := ?_) rfl (Or.inl ⟨by rfl, ?_⟩) ?_
  rotate_left; · intro w h; go_simp; try with_reducible rfl
  try simp only [Act.put, zA, zB, zC]
  refine tk (i := 7) (oi := ⟨some 123, _, _, _, _, none⟩) (v := ?_) rfl (Or.inl ⟨by rfl, ?_⟩) ?_
  rotate_left
  · intro w hSw; (try dsimp only at hSw); have q4 := rv_c (HH.out.res.row.below hSw.below) 4 _ rfl; go_simp; try with_reducible rfl
  try simp only [Act.put, zA, zB, zC]
  refine tk (i := 8) (oi := ⟨some 124, _, _, _, _, none⟩) (v := ?_) rfl (Or.inl ⟨by rfl, ?_⟩) ?_
  rotate_left; · intro w h; go_simp; try with_reducible rfl
  try simp only [Act.put, zA, zB, zC]
  refine tk (i := 9) (oi := ⟨some 125, _, _, _, _, none⟩) (v := ?_) rfl (Or.inl ⟨by rfl, ?_⟩) ?_
  rotate_left
  · intro w hSw; (try dsimp only at hSw); have q7 := hSw.box.c 7 _ rfl; go_simp; try with_reducible rfl
  try simp only [Act.put, zA, zB, zC]
  refine wpAnyH_ready (rs := [10]) (by kernel_rfl) (by simp) ?_
  refine AllReadyH.cons (o := ⟨some 126, _, _, _, _, none⟩) rfl (fun K hK => ?_) AllReadyH.nil
  go_simp
  refine hK.out _ _ ?_ (fun hNew => ?_)
  · (try dsimp only); exact hHeld.alloc _
  clear hHeld hK K; have hHeld := hNew; clear hNew
  try simp only [Act.put, zA, zB, zC]
  refine wpAnyH_ready (rs := [11]) (by kernel_rfl) (by simp) ?_
  refine AllReadyH.cons (o := ⟨some 127, _, _, _, _, none⟩) rfl (fun K hK => ?_) AllReadyH.nil
  go_simp
  have hsz := hHeld.size
  go_at_call 196
  refine (effect_Without_any ((HH.out.res.each x (by simp)).eff.below hHeld.below) (by simp at hsum; omega) ((row_made encN_len (by omega) w9 3 [a.rho] 1 #[.int .i64 a.rho] rfl rfl (by decide)).below (bel_drew _))).mono ?_
  rintro e w5 ⟨v5, k5, rfl, _, hown5, hb⟩
  obtain ⟨q5, c5, rfl, hrow5⟩ := OwnE.isRow encA_len (by omega) hown5
  have hfar5 := (fun ad hp => Nat.le_trans hsz (by subst hp; exact OwnE.from hown5 ad.block rfl) : ∀ ad, q5 = some ad → w.heap.size + 2 ≤ ad.block)
  have HR5 := hid hrow5
  have HF5 := hid hfar5
  clear hown5 hrow5 hfar5 hsz
  try go_wp2_with fail
  refine hK.out _ _ ?_ (fun hNew => ?_)
  · (try dsimp only); exact hHeld.step hb
  clear hHeld hK K; have hHeld := hNew; clear hNew
  try simp only [Act.put, zA, zB, zC]
  refine tk (i := 12) (oi := ⟨some 128, _, _, _, _, none⟩) (v := ?_) rfl (Or.inl ⟨by rfl, ?_⟩) ?_
  rotate_left; · intro w h; go_simp; try with_reducible rfl
  try simp only [Act.put, zA, zB, zC]
  refine wpAnyH_ready (rs := [13]) (by kernel_rfl) (by simp) ?_
  refine AllReadyH.cons (o := ⟨none, _, _, _, _, none⟩) rfl (fun K hK => ?_) AllReadyH.nil
  have HX9 := hid hHeld
  refine step_store_res rfl _ _ _ (by rfl) hHeld #[.int .u8 x.ty.head.kind, .int .i64 x.ty.head.rho, .slice x.ty.head.ep x.ty.head.en x.ty.head.ec, .slice x.ty.head.kp x.ty.head.kn x.ty.head.kc, .slice q5 k5 c5] (by rfl) (by rfl) (by kernel_rfl) rfl (by simp [Value.oneCell']) ?_
  refine hK.out _ _ ?_ (fun hNew => ?_)
  · (try dsimp only); exact hHeld.store rfl
  clear hHeld hK K; have hHeld := hNew; clear hNew
  try simp only [Act.put, zA, zB, zC]
  refine wpAnyH_done (by kernel_rfl) ?_ _
  clear hHeld
  go_wp2_with fail
  refine bodyPost_ret (results_cell_row rfl _ _ _ _ _ _ _ rfl (HX9.out.heap _) Tryz.underlying81 rfl (by kernel_rfl)) rfl ?_
  have hr := (HH.out.res.each x (by simp))
  exact out_of (y := ⟨x.ty, q5, k5, c5, withoutL x.eff [a.rho]⟩) HX9.out HH.out.new ⟨LR.lies_below HX9.out.below _ hr.ty, ((res_sn HH.out.res (Below.refl _ _)).each x (by simp)).uses, HR5.out, fun z hz => hr.eok z ((mem_withoutL _ _ _).1 hz).1, fun _ ad hp => .inr (HF5.out ad hp)⟩ rfl
end
end Go.Proofs.YtkdjnegfnhldpaaGreatDoor
