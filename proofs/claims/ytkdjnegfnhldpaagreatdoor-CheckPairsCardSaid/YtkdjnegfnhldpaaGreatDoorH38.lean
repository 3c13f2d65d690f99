/- Part 38: Lm. -/
import Derived.Test.YtkdjnegfnhldpaaGreatDoorH37
import Derived.Test.YtkdjnegfnhldpaaGreatDoorH09
import Derived.Test.YtkdjnegfnhldpaaGreatDoorH01
set_option linter.unusedVariables false
set_option maxRecDepth 100000
set_option linter.unusedSimpArgs false
namespace Go.Proofs.YtkdjnegfnhldpaaGreatDoor
open Go.Lib (hid)
section
open Go.RowKit
set_option maxHeartbeats 40000000 in
theorem checkPairs_walk {w : World} (hv : Vr w) (a b : PA) (la : LA.lies w a) (lb : LA.lies w b)  :
  Calls Tryz.prog 8 #[aggT a.head, aggT b.head] w fun e w' => e = .returned (.bool true) ∧ Below w.heap.size w w' := by
 have HB := hid (((Below.refl w.heap.size w).alloc (Nat.le_refl _) (boxA a.head)).alloc (by simp) (boxA b.head))
 have HBX := hid ((boxA_new w a.head).below ((Below.refl _ _).alloc (Nat.le_refl _) (boxA b.head)))
 have hby := boxA_new (w.alloc (boxA a.head)) b.head
 have hsz1 : (w.alloc (boxA a.head)).heap.size = w.heap.size + 1 := by simp
 rw [hsz1] at hby
 have HBY := hid hby
 have HV := hid hv
 have HLA := hid la
 have HLB := hid lb
 clear hsz1 hby hv la lb
 go_enter Tryz.func8, Tryz.ntmps8
 go_upto_region 1 with fail
 generalize ((w.alloc (boxA a.head)).alloc (boxA b.head)) = W0 at *
 obtain ⟨gb, hgb⟩ : ∃ gb, w.heap.size + 1 = gb := ⟨_, rfl⟩
 rw [hgb] at HBY ⊢
 clear hgb
 go_upto_region 3 with (first
  | (refine wpList_load_row rfl 31 _ rfl w.heap.size rfl 31 _ (0, 0) _ HBX.out.blk Tryz.underlying31 rfl (by kernel_rfl) ?_)
  | (refine wpList_load_midG (by rfl) 31 _ rfl w.heap.size 0 rfl [.int .u8 a.head.kind, .int .u8 a.head.op, .int .i64 a.head.at_, .int .i64 a.head.n, .string a.head.name, .string a.head.arg, .string a.head.exn, .int .i64 a.head.rho, .slice a.head.rp a.head.rn a.head.rc, .slice a.head.ep a.head.en a.head.ec, .int .u8 a.head.ty.head.kind, .int .i64 a.head.ty.head.rho, .slice a.head.ty.head.ep a.head.ty.head.en a.head.ty.head.ec, .slice a.head.ty.head.kp a.head.ty.head.kn a.head.ty.head.kc, .int .u8 a.head.res.head.kind, .int .i64 a.head.res.head.rho, .slice a.head.res.head.ep a.head.res.head.en a.head.res.head.ec, .slice a.head.res.head.kp a.head.res.head.kn a.head.res.head.kc, .slice a.head.kp a.head.kn a.head.kc] _ HBX.out.range Tryz.underlying31 rfl (by kernel_rfl) ?_)
  | (refine wpList_load_midG (by rfl) 31 _ rfl gb 0 rfl [.int .u8 b.head.kind, .int .u8 b.head.op, .int .i64 b.head.at_, .int .i64 b.head.n, .string b.head.name, .string b.head.arg, .string b.head.exn, .int .i64 b.head.rho, .slice b.head.rp b.head.rn b.head.rc, .slice b.head.ep b.head.en b.head.ec, .int .u8 b.head.ty.head.kind, .int .i64 b.head.ty.head.rho, .slice b.head.ty.head.ep b.head.ty.head.en b.head.ty.head.ec, .slice b.head.ty.head.kp b.head.ty.head.kn b.head.ty.head.kc, .int .u8 b.head.res.head.kind, .int .i64 b.head.res.head.rho, .slice b.head.res.head.ep b.head.res.head.en b.head.res.head.ec, .slice b.head.res.head.kp b.head.res.head.kn b.head.res.head.kc, .slice b.head.kp b.head.kn b.head.kc] _ HBY.out.range Tryz.underlying31 rfl (by kernel_rfl) ?_)
  | ((fail_if_success (have := HG1)); go_at_call 10; refine (great_any a (LA.lies_below HB.out a HLA.out)).mono ?_; rintro e w8 ⟨⟨r, rfl, hgr⟩, hb⟩; have HG1 := hid hgr; have HB := hid (HB.out.trans (hb.mono HB.out.size)); have HBX := hid (HBX.out.below hb); have HBY := hid (HBY.out.below hb); clear hb hgr; cases r)
  | ((fail_if_success (have := HG2)); go_at_call 10; refine (great_any b (LA.lies_below HB.out b HLB.out)).mono ?_; rintro e w8 ⟨⟨r, rfl, hgr⟩, hb⟩; have HG2 := hid hgr; have HB := hid (HB.out.trans (hb.mono HB.out.size)); have HBX := hid (HBX.out.below hb); have HBY := hid (HBY.out.below hb); clear hb hgr; cases r)
  | ((fail_if_success (have := HN1)); go_at_call 26; have HSA := hid (show a.size ≤ 1000 from Nat.le_trans (HG1.out (by first | trivial | rfl)).size (by omega)); refine (allAt_any a _ (LA.lies_below HB.out a HLA.out) HSA.out).mono ?_; rintro e w8 ⟨⟨p1, c1, rfl, hown⟩, hb⟩; have HN1 := hid hown; have HB := hid (HB.out.trans (hb.mono HB.out.size)); have HBX := hid (HBX.out.below hb); have HBY := hid (HBY.out.below hb); clear hb hown; obtain ⟨x1, e1⟩ : ∃ x, decide ((90 : Int) < (a.size : Int)) = x := ⟨_, rfl⟩; cases x1)
  | ((fail_if_success (have := HN2)); go_at_call 26; have HSB := hid (show b.size ≤ 1000 from Nat.le_trans (HG2.out (by first | trivial | rfl)).size (by omega)); refine (allAt_any b _ (LA.lies_below HB.out b HLB.out) HSB.out).mono ?_; rintro e w8 ⟨⟨p2, c2, rfl, hown⟩, hb⟩; have HN2 := hid hown; have HB := hid (HB.out.trans (hb.mono HB.out.size)); have HBX := hid (HBX.out.below hb); have HBY := hid (HBY.out.below hb); clear hb hown; obtain ⟨x2, e2⟩ : ∃ x, decide ((90 : Int) < (b.size : Int)) = x := ⟨_, rfl⟩; cases x2)
  | (go_at_call 11; refine (awake15_any (HV.out.below HB.out)).mono ?_; rintro e w9 ⟨rfl, hb⟩; have HB := hid (HB.out.trans (hb.mono HB.out.size)); clear hb))
 all_goals (try (go_ret; exact ⟨rfl, HB.out⟩))
 have HSMA := hid (HG1.out (by first | trivial | rfl)).small
 have HSMB := hid (HG2.out (by first | trivial | rfl)).small
 have HS1 : Hid (a.size ≤ 90) := by { have h := of_decide_eq_false e1; show _ ≤ _; omega }
 have HS2 : Hid (b.size ≤ 90) := by { have h := of_decide_eq_false e2; show _ ≤ _; omega }
 clear HG1 HG2 HN1 HN2 e1 e2
 go_upto_region 4 with (first
  | (refine wpList_load_row rfl 31 _ rfl w.heap.size rfl 31 _ (0, 0) _ HBX.out.blk Tryz.underlying31 rfl (by kernel_rfl) ?_)
  | (go_at_call 22; refine (ref13_Binds_any (LA.lies_below HB.out a HLA.out) HSMA.out HSA.out).mono ?_; rintro e w3 ⟨p3, n3, c3, rfl, hrow, hb⟩; have HQ3 := hid hrow; have HB := hid (HB.out.trans (hb.mono HB.out.size)); have HBX := hid (HBX.out.below hb); have HBY := hid (HBY.out.below hb); clear hb hrow))
 have hlq := HQ3.out.len
 have hmq := HQ3.out.max
 go_wp2_with fail
 go_loopw [6] (fun i wr => ∃ k : Nat, k ≤ n3 ∧ i = .int .i64 k ∧ (∀ z ∈ (bindsT (PA.er a)).take k, z ∉ bindsT (PA.er b)) ∧ Below w3.heap.size w3 wr) (fun i _ => n3 - (intOf i).toNat)
 case atStart => exact ⟨0, Nat.zero_le _, rfl, by simp, Below.refl _ _⟩
 case round =>
  obtain ⟨k, hk, rfl, hz, hb⟩ := hrel
  have HZ := hid hz
  have HBR := hid hb
  have HBZ := hid (HBY.out.below hb)
  have HB4 := hid (HB.out.trans (hb.mono HB.out.size))
  have HQ4 := hid (HQ3.out.below hb)
  clear hz hb
  by_cases hlt : k < n3
  ·obtain ⟨x, hx⟩ := get_of_lt (l := bindsT (PA.er a)) (j := k) (by rw [hlq]; exact hlt)
   obtain ⟨bq, oq, rfl, d0⟩ := HQ4.out.row.num hx
   have HX := hid hx
   have HD := hid d0
   have HBQ := hid (cell_block d0)
   clear hx d0
   obtain ⟨r, hr⟩ : ∃ r, inN (bindsT (PA.er b)) x = r := ⟨_, rfl⟩
   have HR := hid hr
   clear hr
   go_upto_region 7 with fail
   refine wp_region_held_drew (S := fun W' => Below wr.heap.size wr W') (by kernel_rfl) ?_ (fun hHeld => ?_)
   ·exact bel_drew wr
   refine tk (i := 0) (oi := ⟨some 47, _, _, _, _, none⟩) (v := .agg ([.int .u8 b.head.kind, .int .u8 b.head.op, .int .i64 b.head.at_, .int .i64 b.head.n, .string b.head.name, .string b.head.arg, .string b.head.exn, .int .i64 b.head.rho, .slice b.head.rp b.head.rn b.head.rc, .slice b.head.ep b.head.en b.head.ec, .int .u8 b.head.ty.head.kind, .int .i64 b.head.ty.head.rho, .slice b.head.ty.head.ep b.head.ty.head.en b.head.ty.head.ec, .slice b.head.ty.head.kp b.head.ty.head.kn b.head.ty.head.kc, .int .u8 b.head.res.head.kind, .int .i64 b.head.res.head.rho, .slice b.head.res.head.ep b.head.res.head.en b.head.res.head.ec, .slice b.head.res.head.kp b.head.res.head.kn b.head.res.head.kc, .slice b.head.kp b.head.kn b.head.kc] : List Value).toArray) rfl (yieldsIf_load_mid (by rfl) 31 _ rfl gb 0 rfl _ _ (fun W' hSw => (HBZ.out.below hSw).range) Tryz.underlying31 rfl (by kernel_rfl)) ?_
   try simp only [Act.put, zA, zB, zC]
   refine tk (i := 2) (oi := ⟨some 49, _, _, _, _, none⟩) (v := ?_) rfl (Or.inl ⟨by rfl, ?_⟩) ?_
   rotate_left; · intro w h; go_simp; try with_reducible rfl
   try simp only [Act.put, zA, zB, zC]
   refine tk (i := 3) (oi := ⟨some 50, _, _, _, _, none⟩) (v := ?_) rfl (Or.inl ⟨by rfl, ?_⟩) ?_
   rotate_left; · intro w h; go_simp; try with_reducible rfl
   try simp only [Act.put, zA, zB, zC]
   refine tk (i := 4) (oi := ⟨some 51, _, _, _, _, none⟩) (v := ?_) rfl (Or.inl ⟨by rfl, ?_⟩) ?_
   rotate_left; · intro w h; go_simp; try with_reducible rfl
   try simp only [Act.put, zA, zB, zC]
   refine tk (i := 5) (oi := ⟨some 52, _, _, _, _, none⟩) (v := ?_) rfl (Or.inl ⟨by rfl, ?_⟩) ?_
   rotate_left
   ·intro w hSw; (try dsimp only at hSw); have q5 := (hSw.cell HBQ.out).trans HD.out; go_simp; try with_reducible rfl
   try simp only [Act.put, zA, zB, zC]
   refine wpAnyH_ready (rs := [1]) (by kernel_rfl) (by simp) ?_
   refine AllReadyH.cons (o := ⟨some 48, _, _, _, _, none⟩) rfl (fun K hK => ?_) AllReadyH.nil
   go_simp
   go_at_call 22
   refine (ref13_Binds_any (LA.lies_below (HB4.out.trans ((bel_drew wr).mono HB4.out.size)) b HLB.out) HSMB.out HSB.out).mono ?_
   rintro e w5 ⟨p5, n5, c5, rfl, hr5, hb⟩
   have HR5 := hid hr5
   have HB5 := hid (bel_step (bel_drew wr) hb)
   clear hr5
   try go_wp2_with fail
   refine hK.out _ _ ?_ (fun hNew => ?_)
   ·(try dsimp only); exact bel_step hHeld hb
   clear hHeld hK K; have hHeld := hNew; clear hNew
   try simp only [Act.put, zA, zB, zC]
   refine wpAnyH_ready (rs := [6]) (by kernel_rfl) (by simp) ?_
   refine AllReadyH.cons (o := ⟨some 53, _, _, _, _, none⟩) rfl (fun K hK => ?_) AllReadyH.nil
   go_simp
   go_at_call 21
   refine (ref_Ints_b HR.out HR5.out).mono ?_
   rintro e w6 ⟨rfl, hb⟩
   have HB6 := hid (bel_step HB5.out hb)
   try go_wp2_with fail
   refine hK.out _ _ ?_ (fun hNew => ?_)
   ·(try dsimp only); exact bel_step hHeld hb
   clear hHeld hK K; have hHeld := hNew; clear hNew
   try simp only [Act.put, zA, zB, zC]
   refine wpAnyH_done (by kernel_rfl) ?_ _
   clear hHeld
   have HB7 := hid (HB4.out.trans (HB6.out.mono HB4.out.size))
   have HBR7 := hid (HBR.out.trans (HB6.out.mono HBR.out.size))
   clear HB4 HBR HB5 HB6 HR5 HD HBQ HBZ HQ4
   cases r with
   | true =>
    go_wp2_with (first
     | (go_at_call 11; refine (awake15_any (HV.out.below HB7.out)).mono ?_; rintro e w9 ⟨rfl, hb⟩; have HB := hid (HB7.out.trans (hb.mono HB7.out.size)); clear hb))
    go_ret
    exact ⟨rfl, HB.out⟩
   | false =>
    have HZ1 : Hid (∀ z ∈ (bindsT (PA.er a)).take (k + 1), z ∉ bindsT (PA.er b)) := by
     intro z hz
     rw [take_succ_get HX.out] at hz
     rcases List.mem_append.1 hz with hz | hz
     ·exact HZ.out z hz
     ·rw [List.mem_singleton.1 hz]
      intro hm
      have h1 := (inN_mem' _ _).2 hm
      rw [HR.out] at h1
      cases h1
    go_wp2_with fail
    go_roundw
    case rel => exact ⟨k + 1, by omega, by go_num, HZ1.out, HBR7.out⟩
    case measure => simp [intOf]; omega
  ·have hkn : k = n3 := by omega
   subst hkn
   have HAP : Hid (∀ z ∈ bindsT (PA.er a), z ∉ bindsT (PA.er b)) := by
    have h := HZ.out
    rw [List.take_of_length_le (by omega)] at h
    exact h
   have HB := HB4
   have HBX := hid ((HBX.out.below HBR.out))
   have HBY := HBZ
   clear HBZ HB4 HBR HQ4 HZ HQ3 hlq hmq
   go_upto_region 9 with fail
   clear hk hlt
   generalize wr = W8 at *
   cases hra : checkR a with
   | error e =>
    obtain ⟨za, na⟩ := e
    have HRA := hid hra
    have hna := check_no hra
    have ea : (na == 0) = false := by simp [hna]
    have ea2 : (na != 0) = true := by simp [hna]
    clear hna hra
    have HK9 := hid (check_Check_any (t := a) (LA.lies_below HB.out a HLA.out) HSMA.out HSA.out (HV.out.below HB.out))
    go_upto_region 10 with (first
     | (refine wpList_load_row rfl 31 _ rfl w.heap.size rfl 31 _ (0, 0) _ HBX.out.blk Tryz.underlying31 rfl (by kernel_rfl) ?_)
     | (go_at_call 12; refine (HK9.out).mono ?_; rw [HRA.out]; rintro e w9 ⟨he, hb⟩; obtain rfl := he; have HB := hid (HB.out.trans (hb.mono HB.out.size)); have HBX := hid (HBX.out.below hb); have HBY := hid (HBY.out.below hb); have HBC := hid hb; clear hb)
     | (refine wpList_store_row rfl 28 _ _ rfl _ #[.int .u8 0, .int .i64 0, .slice none 0 0, .slice none 0 0] rfl rfl 28 _ (heap_new_at _ _ _ _ (by simp)) (by kernel_rfl) rfl (by simp [Value.oneCell']) ?_; rw [setRow_alloc_at _ _ _ _ _ (by simp)]))
    have hb9 : Below w9.heap.size w9 (w9.alloc (.cells #[.int .u8 0, .int .i64 0, .slice none 0 0, .slice none 0 0] 28)) := (Below.refl _ _).alloc (Nat.le_refl _) _
    have HB := hid (HB.out.trans (hb9.mono HB.out.size))
    have HBX := hid (HBX.out.below hb9)
    have HBY := hid (HBY.out.below hb9)
    have HY9 := hid (heap_new_at w9 #[.int .u8 0, .int .i64 0, .slice none 0 0, .slice none 0 0] 28 _ rfl)
    obtain ⟨g9, hg9⟩ : ∃ g9, w9.heap.size = g9 := ⟨_, rfl⟩
    rw [hg9] at HY9 ⊢
    generalize w9.alloc (.cells #[.int .u8 0, .int .i64 0, .slice none 0 0, .slice none 0 0] 28) = W9 at *
    clear hg9 hb9 HBC HK9
    cases hrb : checkR b with
    | error e =>
     obtain ⟨zb, nb⟩ := e
     have HRB := hid hrb
     have hnb := check_no hrb
     have eb : (nb == 0) = false := by simp [hnb]
     have eb2 : (nb != 0) = true := by simp [hnb]
     clear hnb hrb
     have HK10 := hid (check_Check_any (t := b) (LA.lies_below HB.out b HLB.out) HSMB.out HSB.out (HV.out.below HB.out))
     go_upto_region 11 with (first
      | (refine wpList_load_row rfl 31 _ rfl gb rfl 31 _ (0, 0) _ HBY.out.blk Tryz.underlying31 rfl (by kernel_rfl) ?_)
      | (go_at_call 12; refine (HK10.out).mono ?_; rw [HRB.out]; rintro e w10 ⟨he, hb⟩; obtain rfl := he; have HB := hid (HB.out.trans (hb.mono HB.out.size)); have HBX := hid (HBX.out.below hb); have HBY := hid (HBY.out.below hb); have HBC := hid hb; clear hb)
      | (refine wpList_store_row rfl 28 _ _ rfl _ #[.int .u8 0, .int .i64 0, .slice none 0 0, .slice none 0 0] rfl rfl 28 _ (heap_new_at _ _ _ _ (by simp)) (by kernel_rfl) rfl (by simp [Value.oneCell']) ?_; rw [setRow_alloc_at _ _ _ _ _ (by simp)]))
     have hb10 : Below w10.heap.size w10 (w10.alloc (.cells #[.int .u8 0, .int .i64 0, .slice none 0 0, .slice none 0 0] 28)) := (Below.refl _ _).alloc (Nat.le_refl _) _
     have HB := hid (HB.out.trans (hb10.mono HB.out.size))
     have HBX := hid (HBX.out.below hb10)
     have HBY := hid (HBY.out.below hb10)
     have HY10 := hid (heap_new_at w10 #[.int .u8 0, .int .i64 0, .slice none 0 0, .slice none 0 0] 28 _ rfl)
     have HY9 := hid ((hb10.block _ (lt_heap ((HBC.out.block _ (lt_heap HY9.out)).trans HY9.out))).trans ((HBC.out.block _ (lt_heap HY9.out)).trans HY9.out))
     obtain ⟨g10, hg10⟩ : ∃ g10, w10.heap.size = g10 := ⟨_, rfl⟩
     rw [hg10] at HY10 ⊢
     generalize w10.alloc (.cells #[.int .u8 0, .int .i64 0, .slice none 0 0, .slice none 0 0] 28) = W10 at *
     clear hg10 hb10 HBC HK10
     refine wp_region_held_drew (S := fun W' => Below W10.heap.size W10 W') (by kernel_rfl) ?_ (fun hHeld => ?_)
     ·exact bel_drew W10
     refine tk (i := 0) (oi := ⟨some 69, _, _, _, _, none⟩) (v := ?_) rfl (Or.inl ⟨by rfl, ?_⟩) ?_
     rotate_left; · intro w h; go_simp; try with_reducible rfl
     try simp only [Act.put, zA, zB, zC]
     refine tk (i := 1) (oi := ⟨some 70, _, _, _, _, none⟩) (v := ?_) rfl (Or.inl ⟨by rfl, ?_⟩) ?_
     rotate_left; · intro w h; go_simp; try with_reducible rfl
     try simp only [Act.put, zA, zB, zC]
     refine tk (i := 2) (oi := ⟨some 71, _, _, _, _, none⟩) (v := ?_) rfl (Or.inl ⟨by rfl, ?_⟩) ?_
     rotate_left; · intro w h; go_simp; try with_reducible rfl
     try simp only [Act.put, zA, zB, zC]
     refine tk (i := 3) (oi := ⟨some 72, _, _, _, _, some (2, false)⟩) (v := undef) rfl (Or.inr ⟨by rfl, rfl⟩) ?_
     try simp only [Act.put, zA, zB, zC]
     refine tk (i := 4) (oi := ⟨some 73, _, _, _, _, some (2, false)⟩) (v := undef) rfl (Or.inr ⟨by rfl, rfl⟩) ?_
     try simp only [Act.put, zA, zB, zC]
     refine tk (i := 5) (oi := ⟨some 74, _, _, _, _, none⟩) (v := ?_) rfl (Or.inl ⟨by rfl, ?_⟩) ?_
     rotate_left; · intro w h; go_simp; try with_reducible rfl
     try simp only [Act.put, zA, zB, zC]
     refine tk (i := 6) (oi := ⟨some 75, _, _, _, _, none⟩) (v := ?_) rfl (Or.inl ⟨by rfl, ?_⟩) ?_
     rotate_left; · intro w h; go_simp; try with_reducible rfl
     try simp only [Act.put, zA, zB, zC]
     refine tk (i := 7) (oi := ⟨some 76, _, _, _, _, some (6, false)⟩) (v := undef) rfl (Or.inr ⟨by rfl, rfl⟩) ?_
     try simp only [Act.put, zA, zB, zC]
     refine tk (i := 9) (oi := ⟨some 78, _, _, _, _, some (6, false)⟩) (v := undef) rfl (Or.inr ⟨by rfl, rfl⟩) ?_
     try simp only [Act.put, zA, zB, zC]
     refine wpAnyH_ready (rs := [8]) (by kernel_rfl) (by simp) ?_
     refine AllReadyH.cons (o := ⟨some 77, _, _, _, _, some (6, false)⟩) rfl (fun K hK => ?_) AllReadyH.nil
     go_simp
     refine hK.out _ _ ?_ (fun hNew => ?_)
     ·(try dsimp only); exact hHeld
     clear hHeld hK K; have hHeld := hNew; clear hNew
     try simp only [Act.put, zA, zB, zC]
     refine wpAnyH_ready (rs := [10]) (by kernel_rfl) (by simp) ?_
     refine AllReadyH.cons (o := ⟨some 79, _, _, _, _, some (6, false)⟩) rfl (fun K hK => ?_) AllReadyH.nil
     go_simp
     refine hK.out _ _ ?_ (fun hNew => ?_)
     ·(try dsimp only); exact hHeld
     clear hHeld hK K; have hHeld := hNew; clear hNew
     try simp only [Act.put, zA, zB, zC]
     refine tk (i := 11) (oi := ⟨some 80, _, _, _, _, some (6, false)⟩) (v := undef) rfl (Or.inr ⟨by rfl, rfl⟩) ?_
     try simp only [Act.put, zA, zB, zC]
     refine tk (i := 12) (oi := ⟨some 81, _, _, _, _, some (6, false)⟩) (v := undef) rfl (Or.inr ⟨by rfl, rfl⟩) ?_
     try simp only [Act.put, zA, zB, zC]
     refine tk (i := 13) (oi := ⟨some 82, _, _, _, _, none⟩) (v := ?_) rfl (Or.inl ⟨by rfl, ?_⟩) ?_
     rotate_left; · intro w h; go_simp; try with_reducible rfl
     try simp only [Act.put, zA, zB, zC]
     refine wpAnyH_done (by kernel_rfl) ?_ _
     clear hHeld
     have HB := hid (HB.out.trans ((bel_drew W10).mono HB.out.size))
     go_wp2_with (first
      | (go_at_call 11; refine (awake15_any (HV.out.below HB.out)).mono ?_; rintro e w9 ⟨rfl, hb⟩; have HB := hid (HB.out.trans (hb.mono HB.out.size)); clear hb))
     go_ret
     exact ⟨rfl, HB.out⟩
    | ok xb =>
     have HRB := hid hrb
     clear hrb
     have HK10 := hid (check_Check_any (t := b) (LA.lies_below HB.out b HLB.out) HSMB.out HSB.out (HV.out.below HB.out))
     go_upto_region 11 with (first
      | (refine wpList_load_row rfl 31 _ rfl gb rfl 31 _ (0, 0) _ HBY.out.blk Tryz.underlying31 rfl (by kernel_rfl) ?_)
      | (go_at_call 12; refine (HK10.out).mono ?_; rw [HRB.out]; rintro e w10 ⟨⟨y10, q10, m10, c10, rfl, hly, hey, hrow⟩, hb⟩; have HLY10 := hid hly; have HEY10 := hid hey; have HRW10 := hid hrow; clear hly hey hrow; have HB := hid (HB.out.trans (hb.mono HB.out.size)); have HBX := hid (HBX.out.below hb); have HBY := hid (HBY.out.below hb); have HBC := hid hb; clear hb)
      | (refine wpList_store_row rfl 28 _ _ rfl _ #[.int .u8 y10.head.kind, .int .i64 y10.head.rho, .slice y10.head.ep y10.head.en y10.head.ec, .slice y10.head.kp y10.head.kn y10.head.kc] rfl rfl 28 _ (heap_new_at _ _ _ _ (by simp)) (by kernel_rfl) rfl (by simp [Value.oneCell']) ?_; rw [setRow_alloc_at _ _ _ _ _ (by simp)]))
     have hb10 : Below w10.heap.size w10 (w10.alloc (.cells #[.int .u8 y10.head.kind, .int .i64 y10.head.rho, .slice y10.head.ep y10.head.en y10.head.ec, .slice y10.head.kp y10.head.kn y10.head.kc] 28)) := (Below.refl _ _).alloc (Nat.le_refl _) _
     have HB := hid (HB.out.trans (hb10.mono HB.out.size))
     have HBX := hid (HBX.out.below hb10)
     have HBY := hid (HBY.out.below hb10)
     have HY10 := hid (heap_new_at w10 #[.int .u8 y10.head.kind, .int .i64 y10.head.rho, .slice y10.head.ep y10.head.en y10.head.ec, .slice y10.head.kp y10.head.kn y10.head.kc] 28 _ rfl)
     have HLY10 := hid (LR.lies_below hb10 _ HLY10.out)
     have HRW10 := hid (HRW10.out.below hb10)
     have HY9 := hid ((hb10.block _ (lt_heap ((HBC.out.block _ (lt_heap HY9.out)).trans HY9.out))).trans ((HBC.out.block _ (lt_heap HY9.out)).trans HY9.out))
     obtain ⟨g10, hg10⟩ : ∃ g10, w10.heap.size = g10 := ⟨_, rfl⟩
     rw [hg10] at HY10 ⊢
     generalize w10.alloc (.cells #[.int .u8 y10.head.kind, .int .i64 y10.head.rho, .slice y10.head.ep y10.head.en y10.head.ec, .slice y10.head.kp y10.head.kn y10.head.kc] 28) = W10 at *
     clear hg10 hb10 HBC HK10
     refine wp_region_held_drew (S := fun W' => Below W10.heap.size W10 W') (by kernel_rfl) ?_ (fun hHeld => ?_)
     ·exact bel_drew W10
     refine tk (i := 0) (oi := ⟨some 69, _, _, _, _, none⟩) (v := ?_) rfl (Or.inl ⟨by rfl, ?_⟩) ?_
     rotate_left; · intro w h; go_simp; try with_reducible rfl
     try simp only [Act.put, zA, zB, zC]
     refine tk (i := 1) (oi := ⟨some 70, _, _, _, _, none⟩) (v := ?_) rfl (Or.inl ⟨by rfl, ?_⟩) ?_
     rotate_left; · intro w h; go_simp; try with_reducible rfl
     try simp only [Act.put, zA, zB, zC]
     refine tk (i := 2) (oi := ⟨some 71, _, _, _, _, none⟩) (v := ?_) rfl (Or.inl ⟨by rfl, ?_⟩) ?_
     rotate_left; · intro w h; go_simp; try with_reducible rfl
     try simp only [Act.put, zA, zB, zC]
     refine tk (i := 3) (oi := ⟨some 72, _, _, _, _, some (2, false)⟩) (v := undef) rfl (Or.inr ⟨by rfl, rfl⟩) ?_
     try simp only [Act.put, zA, zB, zC]
     refine tk (i := 4) (oi := ⟨some 73, _, _, _, _, some (2, false)⟩) (v := undef) rfl (Or.inr ⟨by rfl, rfl⟩) ?_
     try simp only [Act.put, zA, zB, zC]
     refine tk (i := 5) (oi := ⟨some 74, _, _, _, _, none⟩) (v := ?_) rfl (Or.inl ⟨by rfl, ?_⟩) ?_
     rotate_left; · intro w h; go_simp; try with_reducible rfl
     try simp only [Act.put, zA, zB, zC]
     refine tk (i := 6) (oi := ⟨some 75, _, _, _, _, none⟩) (v := ?_) rfl (Or.inl ⟨by rfl, ?_⟩) ?_
     rotate_left; · intro w h; go_simp; try with_reducible rfl
     try simp only [Act.put, zA, zB, zC]
     refine tk (i := 7) (oi := ⟨some 76, _, _, _, _, some (6, false)⟩) (v := undef) rfl (Or.inr ⟨by rfl, rfl⟩) ?_
     try simp only [Act.put, zA, zB, zC]
     refine tk (i := 9) (oi := ⟨some 78, _, _, _, _, some (6, false)⟩) (v := undef) rfl (Or.inr ⟨by rfl, rfl⟩) ?_
     try simp only [Act.put, zA, zB, zC]
     refine wpAnyH_ready (rs := [8]) (by kernel_rfl) (by simp) ?_
     refine AllReadyH.cons (o := ⟨some 77, _, _, _, _, some (6, false)⟩) rfl (fun K hK => ?_) AllReadyH.nil
     go_simp
     refine hK.out _ _ ?_ (fun hNew => ?_)
     ·(try dsimp only); exact hHeld
     clear hHeld hK K; have hHeld := hNew; clear hNew
     try simp only [Act.put, zA, zB, zC]
     refine wpAnyH_ready (rs := [10]) (by kernel_rfl) (by simp) ?_
     refine AllReadyH.cons (o := ⟨some 79, _, _, _, _, some (6, false)⟩) rfl (fun K hK => ?_) AllReadyH.nil
     go_simp
     refine hK.out _ _ ?_ (fun hNew => ?_)
     ·(try dsimp only); exact hHeld
     clear hHeld hK K; have hHeld := hNew; clear hNew
     try simp only [Act.put, zA, zB, zC]
     refine tk (i := 11) (oi := ⟨some 80, _, _, _, _, some (6, false)⟩) (v := undef) rfl (Or.inr ⟨by rfl, rfl⟩) ?_
     try simp only [Act.put, zA, zB, zC]
     refine tk (i := 12) (oi := ⟨some 81, _, _, _, _, some (6, false)⟩) (v := undef) rfl (Or.inr ⟨by rfl, rfl⟩) ?_
     try simp only [Act.put, zA, zB, zC]
     refine tk (i := 13) (oi := ⟨some 82, _, _, _, _, none⟩) (v := ?_) rfl (Or.inl ⟨by rfl, ?_⟩) ?_
     rotate_left; · intro w h; go_simp; try with_reducible rfl
     try simp only [Act.put, zA, zB, zC]
     refine wpAnyH_done (by kernel_rfl) ?_ _
     clear hHeld
     have HB := hid (HB.out.trans ((bel_drew W10).mono HB.out.size))
     go_wp2_with (first
      | (go_at_call 11; refine (awake15_any (HV.out.below HB.out)).mono ?_; rintro e w9 ⟨rfl, hb⟩; have HB := hid (HB.out.trans (hb.mono HB.out.size)); clear hb))
     go_ret
     exact ⟨rfl, HB.out⟩
   | ok xa =>
    have HRA := hid hra
    have hza := checkR_size hra
    clear hra
    have HK9 := hid (check_Check_any (t := a) (LA.lies_below HB.out a HLA.out) HSMA.out HSA.out (HV.out.below HB.out))
    go_upto_region 10 with (first
     | (refine wpList_load_row rfl 31 _ rfl w.heap.size rfl 31 _ (0, 0) _ HBX.out.blk Tryz.underlying31 rfl (by kernel_rfl) ?_)
     | (go_at_call 12; refine (HK9.out).mono ?_; rw [HRA.out]; rintro e w9 ⟨⟨y9, q9, m9, c9, rfl, hly, hey, hrow⟩, hb⟩; have HLY9 := hid hly; have HEY9 := hid hey; have HRW9 := hid hrow; clear hly hey hrow; have HB := hid (HB.out.trans (hb.mono HB.out.size)); have HBX := hid (HBX.out.below hb); have HBY := hid (HBY.out.below hb); have HBC := hid hb; clear hb)
     | (refine wpList_store_row rfl 28 _ _ rfl _ #[.int .u8 y9.head.kind, .int .i64 y9.head.rho, .slice y9.head.ep y9.head.en y9.head.ec, .slice y9.head.kp y9.head.kn y9.head.kc] rfl rfl 28 _ (heap_new_at _ _ _ _ (by simp)) (by kernel_rfl) rfl (by simp [Value.oneCell']) ?_; rw [setRow_alloc_at _ _ _ _ _ (by simp)]))
    have hb9 : Below w9.heap.size w9 (w9.alloc (.cells #[.int .u8 y9.head.kind, .int .i64 y9.head.rho, .slice y9.head.ep y9.head.en y9.head.ec, .slice y9.head.kp y9.head.kn y9.head.kc] 28)) := (Below.refl _ _).alloc (Nat.le_refl _) _
    have HB := hid (HB.out.trans (hb9.mono HB.out.size))
    have HBX := hid (HBX.out.below hb9)
    have HBY := hid (HBY.out.below hb9)
    have HY9 := hid (heap_new_at w9 #[.int .u8 y9.head.kind, .int .i64 y9.head.rho, .slice y9.head.ep y9.head.en y9.head.ec, .slice y9.head.kp y9.head.kn y9.head.kc] 28 _ rfl)
    have HLY9 := hid (LR.lies_below hb9 _ HLY9.out)
    have HRW9 := hid (HRW9.out.below hb9)
    obtain ⟨g9, hg9⟩ : ∃ g9, w9.heap.size = g9 := ⟨_, rfl⟩
    rw [hg9] at HY9 ⊢
    generalize w9.alloc (.cells #[.int .u8 y9.head.kind, .int .i64 y9.head.rho, .slice y9.head.ep y9.head.en y9.head.ec, .slice y9.head.kp y9.head.kn y9.head.kc] 28) = W9 at *
    clear hg9 hb9 HBC HK9
    cases hrb : checkR b with
    | error e =>
     obtain ⟨zb, nb⟩ := e
     have HRB := hid hrb
     have hnb := check_no hrb
     have eb : (nb == 0) = false := by simp [hnb]
     have eb2 : (nb != 0) = true := by simp [hnb]
     clear hnb hrb
     have HK10 := hid (check_Check_any (t := b) (LA.lies_below HB.out b HLB.out) HSMB.out HSB.out (HV.out.below HB.out))
     go_upto_region 11 with (first
      | (refine wpList_load_row rfl 31 _ rfl gb rfl 31 _ (0, 0) _ HBY.out.blk Tryz.underlying31 rfl (by kernel_rfl) ?_)
      | (go_at_call 12; refine (HK10.out).mono ?_; rw [HRB.out]; rintro e w10 ⟨he, hb⟩; obtain rfl := he; have HB := hid (HB.out.trans (hb.mono HB.out.size)); have HBX := hid (HBX.out.below hb); have HBY := hid (HBY.out.below hb); have HBC := hid hb; clear hb)
      | (refine wpList_store_row rfl 28 _ _ rfl _ #[.int .u8 0, .int .i64 0, .slice none 0 0, .slice none 0 0] rfl rfl 28 _ (heap_new_at _ _ _ _ (by simp)) (by kernel_rfl) rfl (by simp [Value.oneCell']) ?_; rw [setRow_alloc_at _ _ _ _ _ (by simp)]))
     have hb10 : Below w10.heap.size w10 (w10.alloc (.cells #[.int .u8 0, .int .i64 0, .slice none 0 0, .slice none 0 0] 28)) := (Below.refl _ _).alloc (Nat.le_refl _) _
     have HB := hid (HB.out.trans (hb10.mono HB.out.size))
     have HBX := hid (HBX.out.below hb10)
     have HBY := hid (HBY.out.below hb10)
     have HY10 := hid (heap_new_at w10 #[.int .u8 0, .int .i64 0, .slice none 0 0, .slice none 0 0] 28 _ rfl)
     have HY9 := hid ((hb10.block _ (lt_heap ((HBC.out.block _ (lt_heap HY9.out)).trans HY9.out))).trans ((HBC.out.block _ (lt_heap HY9.out)).trans HY9.out))
     have HLY9 := hid (LR.lies_below hb10 _ (LR.lies_below HBC.out _ HLY9.out))
     have HRW9 := hid ((HRW9.out.below HBC.out).below hb10)
     obtain ⟨g10, hg10⟩ : ∃ g10, w10.heap.size = g10 := ⟨_, rfl⟩
     rw [hg10] at HY10 ⊢
     generalize w10.alloc (.cells #[.int .u8 0, .int .i64 0, .slice none 0 0, .slice none 0 0] 28) = W10 at *
     clear hg10 hb10 HBC HK10
     refine wp_region_held_drew (S := fun W' => Below W10.heap.size W10 W') (by kernel_rfl) ?_ (fun hHeld => ?_)
     ·exact bel_drew W10
     refine tk (i := 0) (oi := ⟨some 69, _, _, _, _, none⟩) (v := ?_) rfl (Or.inl ⟨by rfl, ?_⟩) ?_
     rotate_left; · intro w h; go_simp; try with_reducible rfl
     try simp only [Act.put, zA, zB, zC]
     refine tk (i := 1) (oi := ⟨some 70, _, _, _, _, none⟩) (v := ?_) rfl (Or.inl ⟨by rfl, ?_⟩) ?_
     rotate_left; · intro w h; go_simp; try with_reducible rfl
     try simp only [Act.put, zA, zB, zC]
     refine tk (i := 2) (oi := ⟨some 71, _, _, _, _, none⟩) (v := ?_) rfl (Or.inl ⟨by rfl, ?_⟩) ?_
     rotate_left; · intro w h; go_simp; try with_reducible rfl
     try simp only [Act.put, zA, zB, zC]
     refine tk (i := 3) (oi := ⟨some 72, _, _, _, _, some (2, false)⟩) (v := ?_) rfl (Or.inl ⟨by rfl, ?_⟩) ?_
     rotate_left; · intro w h; go_simp; try with_reducible rfl
     try simp only [Act.put, zA, zB, zC]
     refine tk (i := 4) (oi := ⟨some 73, _, _, _, _, some (2, false)⟩) (v := ?_) rfl (Or.inl ⟨by rfl, ?_⟩) ?_
     rotate_left; · intro w h; go_simp; try with_reducible rfl
     try simp only [Act.put, zA, zB, zC]
     refine tk (i := 5) (oi := ⟨some 74, _, _, _, _, none⟩) (v := ?_) rfl (Or.inl ⟨by rfl, ?_⟩) ?_
     rotate_left; · intro w h; go_simp; try with_reducible rfl
     try simp only [Act.put, zA, zB, zC]
     refine tk (i := 6) (oi := ⟨some 75, _, _, _, _, none⟩) (v := ?_) rfl (Or.inl ⟨by rfl, ?_⟩) ?_
     rotate_left; · intro w h; go_simp; try with_reducible rfl
     try simp only [Act.put, zA, zB, zC]
     refine tk (i := 7) (oi := ⟨some 76, _, _, _, _, some (6, false)⟩) (v := undef) rfl (Or.inr ⟨by rfl, rfl⟩) ?_
     try simp only [Act.put, zA, zB, zC]
     refine tk (i := 9) (oi := ⟨some 78, _, _, _, _, some (6, false)⟩) (v := undef) rfl (Or.inr ⟨by rfl, rfl⟩) ?_
     try simp only [Act.put, zA, zB, zC]
     refine wpAnyH_ready (rs := [8]) (by kernel_rfl) (by simp) ?_
     refine AllReadyH.cons (o := ⟨some 77, _, _, _, _, some (6, false)⟩) rfl (fun K hK => ?_) AllReadyH.nil
     go_simp
     refine hK.out _ _ ?_ (fun hNew => ?_)
     ·(try dsimp only); exact hHeld
     clear hHeld hK K; have hHeld := hNew; clear hNew
     try simp only [Act.put, zA, zB, zC]
     refine wpAnyH_ready (rs := [10]) (by kernel_rfl) (by simp) ?_
     refine AllReadyH.cons (o := ⟨some 79, _, _, _, _, some (6, false)⟩) rfl (fun K hK => ?_) AllReadyH.nil
     go_simp
     refine hK.out _ _ ?_ (fun hNew => ?_)
     ·(try dsimp only); exact hHeld
     clear hHeld hK K; have hHeld := hNew; clear hNew
     try simp only [Act.put, zA, zB, zC]
     refine tk (i := 11) (oi := ⟨some 80, _, _, _, _, some (6, false)⟩) (v := undef) rfl (Or.inr ⟨by rfl, rfl⟩) ?_
     try simp only [Act.put, zA, zB, zC]
     refine tk (i := 12) (oi := ⟨some 81, _, _, _, _, some (6, false)⟩) (v := undef) rfl (Or.inr ⟨by rfl, rfl⟩) ?_
     try simp only [Act.put, zA, zB, zC]
     refine tk (i := 13) (oi := ⟨some 82, _, _, _, _, none⟩) (v := ?_) rfl (Or.inl ⟨by rfl, ?_⟩) ?_
     rotate_left; · intro w h; go_simp; try with_reducible rfl
     try simp only [Act.put, zA, zB, zC]
     refine wpAnyH_done (by kernel_rfl) ?_ _
     clear hHeld
     have HB := hid (HB.out.trans ((bel_drew W10).mono HB.out.size))
     go_wp2_with (first
      | (go_at_call 11; refine (awake15_any (HV.out.below HB.out)).mono ?_; rintro e w9 ⟨rfl, hb⟩; have HB := hid (HB.out.trans (hb.mono HB.out.size)); clear hb))
     go_ret
     exact ⟨rfl, HB.out⟩
    | ok xb =>
     have HRB := hid hrb
     have hzb := checkR_size hrb
     clear hrb
     obtain ⟨s9, hs9⟩ : ∃ s9, xa.1.size = s9 := ⟨_, rfl⟩
     obtain ⟨s10, hs10⟩ : ∃ s10, xb.1.size = s10 := ⟨_, rfl⟩
     rw [hs9] at hza
     rw [hs10] at hzb
     have HS9 := hid hs9
     have HS10 := hid hs10
     obtain ⟨Z, hZ⟩ : ∃ Z : Int, (s9 : Int) + (s10 : Int) = Z := ⟨_, rfl⟩
     have ew : IntKind.i64.wrap ((s9 : Int) + (s10 : Int)) = Z := by rw [IntWalk.i64_in _ (by omega)]; exact hZ
     obtain ⟨xz, ez⟩ : ∃ x, decide ((500 : Int) ≤ Z) = x := ⟨_, rfl⟩
     have HZX : Hid (xz = false → xa.1.size + xb.1.size < 500) := fun h => by
      rw [h] at ez
      have h2 := of_decide_eq_false ez
      omega
     clear hs9 hs10 hZ
     have HK10 := hid (check_Check_any (t := b) (LA.lies_below HB.out b HLB.out) HSMB.out HSB.out (HV.out.below HB.out))
     go_upto_region 11 with (first
      | (refine wpList_load_row rfl 31 _ rfl gb rfl 31 _ (0, 0) _ HBY.out.blk Tryz.underlying31 rfl (by kernel_rfl) ?_)
      | (go_at_call 12; refine (HK10.out).mono ?_; rw [HRB.out]; rintro e w10 ⟨⟨y10, q10, m10, c10, rfl, hly, hey, hrow⟩, hb⟩; have HLY10 := hid hly; have HEY10 := hid hey; have HRW10 := hid hrow; clear hly hey hrow; have HB := hid (HB.out.trans (hb.mono HB.out.size)); have HBX := hid (HBX.out.below hb); have HBY := hid (HBY.out.below hb); have HBC := hid hb; clear hb)
      | (refine wpList_store_row rfl 28 _ _ rfl _ #[.int .u8 y10.head.kind, .int .i64 y10.head.rho, .slice y10.head.ep y10.head.en y10.head.ec, .slice y10.head.kp y10.head.kn y10.head.kc] rfl rfl 28 _ (heap_new_at _ _ _ _ (by simp)) (by kernel_rfl) rfl (by simp [Value.oneCell']) ?_; rw [setRow_alloc_at _ _ _ _ _ (by simp)]))
     have hb10 : Below w10.heap.size w10 (w10.alloc (.cells #[.int .u8 y10.head.kind, .int .i64 y10.head.rho, .slice y10.head.ep y10.head.en y10.head.ec, .slice y10.head.kp y10.head.kn y10.head.kc] 28)) := (Below.refl _ _).alloc (Nat.le_refl _) _
     have HB := hid (HB.out.trans (hb10.mono HB.out.size))
     have HBX := hid (HBX.out.below hb10)
     have HBY := hid (HBY.out.below hb10)
     have HY10 := hid (heap_new_at w10 #[.int .u8 y10.head.kind, .int .i64 y10.head.rho, .slice y10.head.ep y10.head.en y10.head.ec, .slice y10.head.kp y10.head.kn y10.head.kc] 28 _ rfl)
     have HLY10 := hid (LR.lies_below hb10 _ HLY10.out)
     have HRW10 := hid (HRW10.out.below hb10)
     have HY9 := hid ((hb10.block _ (lt_heap ((HBC.out.block _ (lt_heap HY9.out)).trans HY9.out))).trans ((HBC.out.block _ (lt_heap HY9.out)).trans HY9.out))
     have HLY9 := hid (LR.lies_below hb10 _ (LR.lies_below HBC.out _ HLY9.out))
     have HRW9 := hid ((HRW9.out.below HBC.out).below hb10)
     obtain ⟨g10, hg10⟩ : ∃ g10, w10.heap.size = g10 := ⟨_, rfl⟩
     rw [hg10] at HY10 ⊢
     generalize w10.alloc (.cells #[.int .u8 y10.head.kind, .int .i64 y10.head.rho, .slice y10.head.ep y10.head.en y10.head.ec, .slice y10.head.kp y10.head.kn y10.head.kc] 28) = W10 at *
     clear hg10 hb10 HBC HK10
     have HC9 : Hid (∀ W, LR.lies W y9 → Calls Tryz.prog 27 #[aggR y9.head] W fun e w' => e = .returned (.int .i64 (s9 : Int)) ∧ Below W.heap.size W w') := by
      intro W hl
      have h1 : y9.size = s9 := by rw [← HS9.out, ← HEY9.out]; exact (er_size y9).symm
      have h := ref_Size12_any y9 W hl (by rw [h1]; omega)
      rw [h1] at h
      exact h
     have HC10 : Hid (∀ W, LR.lies W y10 → Calls Tryz.prog 27 #[aggR y10.head] W fun e w' => e = .returned (.int .i64 (s10 : Int)) ∧ Below W.heap.size W w') := by
      intro W hl
      have h1 : y10.size = s10 := by rw [← HS10.out, ← HEY10.out]; exact (er_size y10).symm
      have h := ref_Size12_any y10 W hl (by rw [h1]; omega)
      rw [h1] at h
      exact h
     refine wp_region_held_drew (S := fun W' => Below W10.heap.size W10 W') (by kernel_rfl) ?_ (fun hHeld => ?_)
     ·exact bel_drew W10
     refine tk (i := 0) (oi := ⟨some 69, _, _, _, _, none⟩) (v := ?_) rfl (Or.inl ⟨by rfl, ?_⟩) ?_
     rotate_left; · intro w h; go_simp; try with_reducible rfl
     try simp only [Act.put, zA, zB, zC]
     refine tk (i := 1) (oi := ⟨some 70, _, _, _, _, none⟩) (v := ?_) rfl (Or.inl ⟨by rfl, ?_⟩) ?_
     rotate_left; · intro w h; go_simp; try with_reducible rfl
     try simp only [Act.put, zA, zB, zC]
     refine tk (i := 2) (oi := ⟨some 71, _, _, _, _, none⟩) (v := ?_) rfl (Or.inl ⟨by rfl, ?_⟩) ?_
     rotate_left; · intro w h; go_simp; try with_reducible rfl
     try simp only [Act.put, zA, zB, zC]
     refine tk (i := 3) (oi := ⟨some 72, _, _, _, _, some (2, false)⟩) (v := ?_) rfl (Or.inl ⟨by rfl, ?_⟩) ?_
     rotate_left; · intro w h; go_simp; try with_reducible rfl
     try simp only [Act.put, zA, zB, zC]
     refine tk (i := 4) (oi := ⟨some 73, _, _, _, _, some (2, false)⟩) (v := ?_) rfl (Or.inl ⟨by rfl, ?_⟩) ?_
     rotate_left; · intro w h; go_simp; try with_reducible rfl
     try simp only [Act.put, zA, zB, zC]
     refine tk (i := 5) (oi := ⟨some 74, _, _, _, _, none⟩) (v := ?_) rfl (Or.inl ⟨by rfl, ?_⟩) ?_
     rotate_left; · intro w h; go_simp; try with_reducible rfl
     try simp only [Act.put, zA, zB, zC]
     refine tk (i := 6) (oi := ⟨some 75, _, _, _, _, none⟩) (v := ?_) rfl (Or.inl ⟨by rfl, ?_⟩) ?_
     rotate_left; · intro w h; go_simp; try with_reducible rfl
     try simp only [Act.put, zA, zB, zC]
     refine tk (i := 7) (oi := ⟨some 76, _, _, _, _, some (6, false)⟩) (v := .agg ([.int .u8 y9.head.kind, .int .i64 y9.head.rho, .slice y9.head.ep y9.head.en y9.head.ec, .slice y9.head.kp y9.head.kn y9.head.kc] : List Value).toArray) rfl (yieldsIf_load_mid (by rfl) 28 _ rfl g9 0 rfl _ _ (fun W' hSw => r4 ((hSw.block _ (lt_heap HY9.out)).trans HY9.out)) Tryz.underlying28 rfl (by kernel_rfl)) ?_
     try simp only [Act.put, zA, zB, zC]
     refine tk (i := 9) (oi := ⟨some 78, _, _, _, _, some (6, false)⟩) (v := .agg ([.int .u8 y10.head.kind, .int .i64 y10.head.rho, .slice y10.head.ep y10.head.en y10.head.ec, .slice y10.head.kp y10.head.kn y10.head.kc] : List Value).toArray) rfl (yieldsIf_load_mid (by rfl) 28 _ rfl g10 0 rfl _ _ (fun W' hSw => r4 ((hSw.block _ (lt_heap HY10.out)).trans HY10.out)) Tryz.underlying28 rfl (by kernel_rfl)) ?_
     try simp only [Act.put, zA, zB, zC]
     refine wpAnyH_ready (rs := [8]) (by kernel_rfl) (by simp) ?_
     refine AllReadyH.cons (o := ⟨some 77, _, _, _, _, some (6, false)⟩) rfl (fun K hK => ?_) AllReadyH.nil
     go_simp
     go_at_call 27
     refine (HC9.out _ (LR.lies_below (bel_drew W10) _ HLY9.out)).mono ?_
     rintro e w11 ⟨rfl, hb⟩
     have HB11 := hid (bel_step (bel_drew W10) hb)
     try go_wp2_with fail
     refine hK.out _ _ ?_ (fun hNew => ?_)
     ·(try dsimp only); exact bel_step hHeld hb
     clear hHeld hK K; have hHeld := hNew; clear hNew
     try simp only [Act.put, zA, zB, zC]
     refine wpAnyH_ready (rs := [10]) (by kernel_rfl) (by simp) ?_
     refine AllReadyH.cons (o := ⟨some 79, _, _, _, _, some (6, false)⟩) rfl (fun K hK => ?_) AllReadyH.nil
     go_simp
     go_at_call 27
     refine (HC10.out _ (LR.lies_below HB11.out _ HLY10.out)).mono ?_
     rintro e w12 ⟨rfl, hb⟩
     have HB12 := hid (bel_step HB11.out hb)
     try go_wp2_with fail
     refine hK.out _ _ ?_ (fun hNew => ?_)
     ·(try dsimp only); exact bel_step hHeld hb
     clear hHeld hK K; have hHeld := hNew; clear hNew
     try simp only [Act.put, zA, zB, zC]
     refine tk (i := 11) (oi := ⟨some 80, _, _, _, _, some (6, false)⟩) (v := ?_) rfl (Or.inl ⟨by rfl, ?_⟩) ?_
     rotate_left; · intro w h; go_simp; try with_reducible rfl
     try simp only [Act.put, zA, zB, zC]
     refine tk (i := 12) (oi := ⟨some 81, _, _, _, _, some (6, false)⟩) (v := ?_) rfl (Or.inl ⟨by rfl, ?_⟩) ?_
     rotate_left; · intro w h; go_simp; try with_reducible rfl
     try simp only [Act.put, zA, zB, zC]
     refine tk (i := 13) (oi := ⟨some 82, _, _, _, _, none⟩) (v := ?_) rfl (Or.inl ⟨by rfl, ?_⟩) ?_
     rotate_left; · intro w h; go_simp; try with_reducible rfl
     try simp only [Act.put, zA, zB, zC]
     refine wpAnyH_done (by kernel_rfl) ?_ _
     clear hHeld
     have HB := hid (HB.out.trans (HB12.out.mono HB.out.size))
     cases xz with
     | true =>
      go_wp2_with (first
       | (go_at_call 11; refine (awake15_any (HV.out.below HB.out)).mono ?_; rintro e w9 ⟨rfl, hb⟩; have HB := hid (HB.out.trans (hb.mono HB.out.size)); clear hb))
      go_ret
      exact ⟨rfl, HB.out⟩
     | false =>
      go_upto_region 13 with fail
      have HBX := hid (HBX.out.below HB12.out)
      have HBY := hid (HBY.out.below HB12.out)
      have HY9 := hid ((HB12.out.block _ (lt_heap HY9.out)).trans HY9.out)
      have HY10 := hid ((HB12.out.block _ (lt_heap HY10.out)).trans HY10.out)
      have HLY9 := hid (LR.lies_below HB12.out _ HLY9.out)
      have HLY10 := hid (LR.lies_below HB12.out _ HLY10.out)
      have HRW9 := hid (HRW9.out.below HB12.out)
      have HRW10 := hid (HRW10.out.below HB12.out)
      clear HB11 HB12 HC9 HC10 ew ez
      have hb13 : Below w12.heap.size w12 (w12.alloc (.cells #[.int .u8 a.head.kind, .int .u8 a.head.op, .int .i64 a.head.at_, .int .i64 a.head.n, .string a.head.name, .string a.head.arg, .string a.head.exn, .int .i64 a.head.rho, .slice a.head.rp a.head.rn a.head.rc, .slice a.head.ep a.head.en a.head.ec, .int .u8 a.head.ty.head.kind, .int .i64 a.head.ty.head.rho, .slice a.head.ty.head.ep a.head.ty.head.en a.head.ty.head.ec, .slice a.head.ty.head.kp a.head.ty.head.kn a.head.ty.head.kc, .int .u8 a.head.res.head.kind, .int .i64 a.head.res.head.rho, .slice a.head.res.head.ep a.head.res.head.en a.head.res.head.ec, .slice a.head.res.head.kp a.head.res.head.kn a.head.res.head.kc, .slice a.head.kp a.head.kn a.head.kc, .int .u8 b.head.kind, .int .u8 b.head.op, .int .i64 b.head.at_, .int .i64 b.head.n, .string b.head.name, .string b.head.arg, .string b.head.exn, .int .i64 b.head.rho, .slice b.head.rp b.head.rn b.head.rc, .slice b.head.ep b.head.en b.head.ec, .int .u8 b.head.ty.head.kind, .int .i64 b.head.ty.head.rho, .slice b.head.ty.head.ep b.head.ty.head.en b.head.ty.head.ec, .slice b.head.ty.head.kp b.head.ty.head.kn b.head.ty.head.kc, .int .u8 b.head.res.head.kind, .int .i64 b.head.res.head.rho, .slice b.head.res.head.ep b.head.res.head.en b.head.res.head.ec, .slice b.head.res.head.kp b.head.res.head.kn b.head.res.head.kc, .slice b.head.kp b.head.kn b.head.kc] 31)) := (Below.refl _ _).alloc (Nat.le_refl _) _
      have HR13 := hid (rowTA_two (LA.lies_below HB.out a HLA.out) (LA.lies_below HB.out b HLB.out) #[.int .u8 a.head.kind, .int .u8 a.head.op, .int .i64 a.head.at_, .int .i64 a.head.n, .string a.head.name, .string a.head.arg, .string a.head.exn, .int .i64 a.head.rho, .slice a.head.rp a.head.rn a.head.rc, .slice a.head.ep a.head.en a.head.ec, .int .u8 a.head.ty.head.kind, .int .i64 a.head.ty.head.rho, .slice a.head.ty.head.ep a.head.ty.head.en a.head.ty.head.ec, .slice a.head.ty.head.kp a.head.ty.head.kn a.head.ty.head.kc, .int .u8 a.head.res.head.kind, .int .i64 a.head.res.head.rho, .slice a.head.res.head.ep a.head.res.head.en a.head.res.head.ec, .slice a.head.res.head.kp a.head.res.head.kn a.head.res.head.kc, .slice a.head.kp a.head.kn a.head.kc, .int .u8 b.head.kind, .int .u8 b.head.op, .int .i64 b.head.at_, .int .i64 b.head.n, .string b.head.name, .string b.head.arg, .string b.head.exn, .int .i64 b.head.rho, .slice b.head.rp b.head.rn b.head.rc, .slice b.head.ep b.head.en b.head.ec, .int .u8 b.head.ty.head.kind, .int .i64 b.head.ty.head.rho, .slice b.head.ty.head.ep b.head.ty.head.en b.head.ty.head.ec, .slice b.head.ty.head.kp b.head.ty.head.kn b.head.ty.head.kc, .int .u8 b.head.res.head.kind, .int .i64 b.head.res.head.rho, .slice b.head.res.head.ep b.head.res.head.en b.head.res.head.ec, .slice b.head.res.head.kp b.head.res.head.kn b.head.res.head.kc, .slice b.head.kp b.head.kn b.head.kc] rfl 31 _ rfl)
      have HB13 := hid (HB.out.trans (hb13.mono HB.out.size))
      have HLC := hid (pairX_check (g := w12.heap.size) HRA.out HRB.out HAP.out (HZX.out rfl))
      have HK13 := hid (check_Check_any (t := pairX w12.heap.size a b) (mkA_lies (by omega) (by omega) ⟨by omega, by omega⟩ ⟨by omega, by omega⟩ HR13.out) (pairX_small HSMA.out HSMB.out) (by have h1 := HS1.out; have h2 := HS2.out; rw [pairX_size]; omega) (HV.out.below HB13.out))
      go_upto_region 14 with (first
       | (refine wpList_load_row rfl 31 _ rfl w.heap.size rfl 31 _ (0, 0) _ HBX.out.blk Tryz.underlying31 rfl (by kernel_rfl) ?_)
       | (refine wpList_load_row rfl 31 _ rfl gb rfl 31 _ (0, 0) _ HBY.out.blk Tryz.underlying31 rfl (by kernel_rfl) ?_)
       | (go_at_call 12; refine (HK13.out).mono ?_; rw [HLC.out]; rintro e w13 ⟨⟨y13, q13, m13, c13, rfl, hly, hey, hrow⟩, hb⟩; have HLY13 := hid hly; have HEY13 := hid hey; have HRW13 := hid hrow; clear hly hey hrow; have HBC := hid (hb13.trans (hb.mono hb13.size)); clear hb)
       | (refine wpList_store_row rfl 28 _ _ rfl _ #[.int .u8 y13.head.kind, .int .i64 y13.head.rho, .slice y13.head.ep y13.head.en y13.head.ec, .slice y13.head.kp y13.head.kn y13.head.kc] rfl rfl 28 _ (heap_new_at _ _ _ _ (by simp)) (by kernel_rfl) rfl (by simp [Value.oneCell']) ?_; rw [setRow_alloc_at _ _ _ _ _ (by simp)]))
      have hb14 : Below w13.heap.size w13 (w13.alloc (.cells #[.int .u8 y13.head.kind, .int .i64 y13.head.rho, .slice y13.head.ep y13.head.en y13.head.ec, .slice y13.head.kp y13.head.kn y13.head.kc] 28)) := (Below.refl _ _).alloc (Nat.le_refl _) _
      have HBD := hid (HBC.out.trans (hb14.mono HBC.out.size))
      have HB := hid (HB.out.trans (HBD.out.mono HB.out.size))
      have HY9 := hid ((HBD.out.block _ (lt_heap HY9.out)).trans HY9.out)
      have HY10 := hid ((HBD.out.block _ (lt_heap HY10.out)).trans HY10.out)
      have HLY9 := hid (LR.lies_below HBD.out _ HLY9.out)
      have HLY10 := hid (LR.lies_below HBD.out _ HLY10.out)
      have HRW9 := hid (HRW9.out.below HBD.out)
      have HRW10 := hid (HRW10.out.below HBD.out)
      have HY13 := hid (heap_new_at w13 #[.int .u8 y13.head.kind, .int .i64 y13.head.rho, .slice y13.head.ep y13.head.en y13.head.ec, .slice y13.head.kp y13.head.kn y13.head.kc] 28 _ rfl)
      have HLY13 := hid (LR.lies_below hb14 _ HLY13.out)
      have HRW13 := hid (HRW13.out.below hb14)
      obtain ⟨g13, hg13⟩ : ∃ g13, w13.heap.size = g13 := ⟨_, rfl⟩
      rw [hg13] at HY13 ⊢
      generalize w13.alloc (.cells #[.int .u8 y13.head.kind, .int .i64 y13.head.rho, .slice y13.head.ep y13.head.en y13.head.ec, .slice y13.head.kp y13.head.kn y13.head.kc] 28) = W14 at *
      clear hg13 hb14 hb13 HBC HBD HBX HBY HR13 HB13 HK13
      have hbA : Below W14.heap.size W14 (W14.alloc (.cells #[.int .u8 2, .int .i64 0, .string ⟨#[]⟩] 59)) := (Below.refl _ _).alloc (Nat.le_refl _) _
      have hbB : Below (W14.alloc (.cells #[.int .u8 2, .int .i64 0, .string ⟨#[]⟩] 59)).heap.size (W14.alloc (.cells #[.int .u8 2, .int .i64 0, .string ⟨#[]⟩] 59)) ((W14.alloc (.cells #[.int .u8 2, .int .i64 0, .string ⟨#[]⟩] 59)).alloc (.cells #[.slice q9 m9 c9, .slice q10 m10 c10, .slice (some ⟨W14.heap.size, 0, none⟩) 1 1] 25)) := (Below.refl _ _).alloc (Nat.le_refl _) _
      have hbAB := hbA.trans (hbB.mono hbA.size)
      have hrA := (row_made encA_len (by omega) W14 59 [aPut 0] 1 #[.int .u8 2, .int .i64 0, .string ⟨#[]⟩] rfl rfl (by decide)).below hbB
      have hrB := row_made encSl_len (by omega) (W14.alloc (.cells #[.int .u8 2, .int .i64 0, .string ⟨#[]⟩] 59)) 25 [(⟨q9, m9, c9, xa.2⟩ : SlE Atom), ⟨q10, m10, c10, xb.2⟩, ⟨some ⟨W14.heap.size, 0, none⟩, 1, 1, [aPut 0]⟩] 3 #[.slice q9 m9 c9, .slice q10 m10 c10, .slice (some ⟨W14.heap.size, 0, none⟩) 1 1] rfl rfl (by decide)
      have hsA : (W14.alloc (.cells #[.int .u8 2, .int .i64 0, .string ⟨#[]⟩] 59)).heap.size = W14.heap.size + 1 := by simp
      rw [hsA] at hrB
      have HRU := hid hrB
      have hr9 := HRW9.out.below hbAB
      have hr10 := HRW10.out.below hbAB
      have HOKU : Hid (∀ r ∈ [(⟨q9, m9, c9, xa.2⟩ : SlE Atom), ⟨q10, m10, c10, xb.2⟩, ⟨some ⟨W14.heap.size, 0, none⟩, 1, 1, [aPut 0]⟩], r.Ok encA 3 ((W14.alloc (.cells #[.int .u8 2, .int .i64 0, .string ⟨#[]⟩] 59)).alloc (.cells #[.slice q9 m9 c9, .slice q10 m10 c10, .slice (some ⟨W14.heap.size, 0, none⟩) 1 1] 25))) := by
       intro r hr
       simp only [List.mem_cons, List.not_mem_nil, or_false] at hr
       rcases hr with rfl | rfl | rfl
       ·exact ⟨hr9.len, hr9.le, hr9.nil, hr9.row⟩
       ·exact ⟨hr10.len, hr10.le, hr10.nil, hr10.row⟩
       ·exact ⟨hrA.len, hrA.le, hrA.nil, hrA.row⟩
      have HBA := hid hbAB
      clear hbA hbB hbAB hrA hrB hsA hr9 hr10
      have HTU : Hid (([(⟨q9, m9, c9, xa.2⟩ : SlE Atom), ⟨q10, m10, c10, xb.2⟩, ⟨some ⟨W14.heap.size, 0, none⟩, 1, 1, [aPut 0]⟩].map (·.n)).sum ≤ 1000000) := by
       have h1 := HRW9.out.len
       have h2 := HRW10.out.len
       have h3 := (checkR_len HLA.out HSMA.out HSA.out HRA.out)
       have h4 := (checkR_len HLB.out HSMB.out HSB.out HRB.out)
       show m9 + (m10 + (1 + 0)) ≤ 1000000
       omega
      go_upto_region 15 with (first
       | (go_at_call 28; refine (ref_Union_any (rows := [(⟨q9, m9, c9, xa.2⟩ : SlE Atom), ⟨q10, m10, c10, xb.2⟩, ⟨some ⟨W14.heap.size, 0, none⟩, 1, 1, [aPut 0]⟩]) HRU.out (by omega) HOKU.out HTU.out).mono ?_; rintro e w15 ⟨⟨q15, m15, c15, rfl, hrow⟩, hb⟩; have HRW15 := hid hrow; have HBD := hid (HBA.out.trans (hb.mono HBA.out.size)); clear hb hrow))
      obtain ⟨u13, v13, bk, ok, hpp, hue, hve⟩ := pair_parts ((HBD.out.block _ (lt_heap HY13.out)).trans HY13.out) (LR.lies_below HBD.out _ HLY13.out) HEY13.out
      have HPP := hid hpp
      have HSA9 := hid (same_er (hue.trans HEY9.out.symm))
      have HSA10 := hid (same_er (hve.trans HEY10.out.symm))
      have HY9 := hid ((HBD.out.block _ (lt_heap HY9.out)).trans HY9.out)
      have HY10 := hid ((HBD.out.block _ (lt_heap HY10.out)).trans HY10.out)
      have HLY9 := hid (LR.lies_below HBD.out _ HLY9.out)
      have HLY10 := hid (LR.lies_below HBD.out _ HLY10.out)
      have HRW13 := hid (HRW13.out.below HBD.out)
      have HRWE : Hid (IsRow encA 3 w15 q15 m15 c15 (effL ([aPut 0] ++ (xa.2 ++ xb.2)))) := by
       rw [← pair_eff]
       exact HRW15.out
      have HB := hid (HB.out.trans (HBD.out.mono HB.out.size))
      clear hpp hue hve HBD HRW15 HY13 HLY13 HEY13 HRU HOKU HTU HBA HRW9 HRW10 HEY9 HEY10
      refine wp_region_held_drew (S := fun W' => Below w15.heap.size w15 W') (by kernel_rfl) ?_ (fun hHeld => ?_)
      ·exact bel_drew w15
      refine tk (i := 0) (oi := ⟨some 101, _, _, _, _, none⟩) (v := ?_) rfl (Or.inl ⟨by rfl, ?_⟩) ?_
      rotate_left; · intro w h; go_simp; try with_reducible rfl
      try simp only [Act.put, zA, zB, zC]
      refine tk (i := 1) (oi := ⟨some 102, _, _, _, _, none⟩) (v := ?_) rfl (Or.inl ⟨by rfl, ?_⟩) ?_
      rotate_left; · intro w h; go_simp; try with_reducible rfl
      try simp only [Act.put, zA, zB, zC]
      refine tk (i := 2) (oi := ⟨some 103, _, _, _, _, none⟩) (v := ?_) rfl (Or.inl ⟨by rfl, ?_⟩) ?_
      rotate_left; · intro w h; go_simp; try with_reducible rfl
      try simp only [Act.put, zA, zB, zC]
      refine tk (i := 3) (oi := ⟨some 104, _, _, _, _, some (2, true)⟩) (v := ?_) rfl (Or.inl ⟨by rfl, ?_⟩) ?_
      rotate_left; · intro w h; go_simp; try with_reducible rfl
      try simp only [Act.put, zA, zB, zC]
      refine tk (i := 4) (oi := ⟨some 105, _, _, _, _, some (2, true)⟩) (v := ?_) rfl (Or.inl ⟨by rfl, ?_⟩) ?_
      rotate_left
      ·intro w hSw; (try dsimp only at hSw); have q0 := HPP.out.kind _ hSw; go_simp; try with_reducible rfl
      try simp only [Act.put, zA, zB, zC]
      refine tk (i := 5) (oi := ⟨some 106, _, _, _, _, some (2, true)⟩) (v := ?_) rfl (Or.inl ⟨by rfl, ?_⟩) ?_
      rotate_left; · intro w h; go_simp; try with_reducible rfl
      try simp only [Act.put, zA, zB, zC]
      refine tk (i := 6) (oi := ⟨some 107, _, _, _, _, none⟩) (v := ?_) rfl (Or.inl ⟨by rfl, ?_⟩) ?_
      rotate_left; · intro w h; go_simp; try with_reducible rfl
      try simp only [Act.put, zA, zB, zC]
      refine tk (i := 7) (oi := ⟨some 108, _, _, _, _, none⟩) (v := ?_) rfl (Or.inl ⟨by rfl, ?_⟩) ?_
      rotate_left; · intro w h; go_simp; try with_reducible rfl
      try simp only [Act.put, zA, zB, zC]
      refine tk (i := 8) (oi := ⟨some 109, _, _, _, _, some (7, true)⟩) (v := ?_) rfl (Or.inl ⟨by rfl, ?_⟩) ?_
      rotate_left; · intro w h; go_simp; try with_reducible rfl
      try simp only [Act.put, zA, zB, zC]
      refine tk (i := 9) (oi := ⟨some 110, _, _, _, _, some (7, true)⟩) (v := ?_) rfl (Or.inl ⟨by rfl, ?_⟩) ?_
      rotate_left
      ·intro w hSw; (try dsimp only at hSw); have q3 := HPP.out.kids _ hSw; go_simp; try with_reducible rfl
      try simp only [Act.put, zA, zB, zC]
      refine tk (i := 10) (oi := ⟨some 111, _, _, _, _, some (7, true)⟩) (v := ?_) rfl (Or.inl ⟨by rfl, ?_⟩) ?_
      rotate_left; · intro w h; go_simp; try with_reducible rfl
      try simp only [Act.put, zA, zB, zC]
      refine tk (i := 11) (oi := ⟨some 112, _, _, _, _, some (7, true)⟩) (v := ?_) rfl (Or.inl ⟨by rfl, ?_⟩) ?_
      rotate_left; · intro w h; go_simp; try with_reducible rfl
      try simp only [Act.put, zA, zB, zC]
      refine tk (i := 12) (oi := ⟨some 113, _, _, _, _, none⟩) (v := ?_) rfl (Or.inl ⟨by rfl, ?_⟩) ?_
      rotate_left; · intro w h; go_simp; try with_reducible rfl
      try simp only [Act.put, zA, zB, zC]
      refine tk (i := 13) (oi := ⟨some 114, _, _, _, _, none⟩) (v := ?_) rfl (Or.inl ⟨by rfl, ?_⟩) ?_
      rotate_left; · intro w h; go_simp; try with_reducible rfl
      try simp only [Act.put, zA, zB, zC]
      refine tk (i := 14) (oi := ⟨some 115, _, _, _, _, some (13, true)⟩) (v := ?_) rfl (Or.inl ⟨by rfl, ?_⟩) ?_
      rotate_left; · intro w h; go_simp; try with_reducible rfl
      try simp only [Act.put, zA, zB, zC]
      refine tk (i := 15) (oi := ⟨some 116, _, _, _, _, some (13, true)⟩) (v := ?_) rfl (Or.inl ⟨by rfl, ?_⟩) ?_
      rotate_left
      ·intro w hSw; (try dsimp only at hSw); have q3 := HPP.out.kids _ hSw; go_simp; try with_reducible rfl
      try simp only [Act.put, zA, zB, zC]
      refine tk (i := 16) (oi := ⟨some 117, _, _, _, _, some (13, true)⟩) (v := ?_) rfl (Or.inl ⟨by rfl, ?_⟩) ?_
      rotate_left; · intro w h; go_simp; try with_reducible rfl
      try simp only [Act.put, zA, zB, zC]
      refine tk (i := 17) (oi := ⟨some 118, _, _, _, _, some (13, true)⟩) (v := .agg ([.int .u8 u13.head.kind, .int .i64 u13.head.rho, .slice u13.head.ep u13.head.en u13.head.ec, .slice u13.head.kp u13.head.kn u13.head.kc] : List Value).toArray) rfl (yieldsIf_load_mid (by rfl) 28 _ rfl bk ok rfl _ _ (fun W' hSw => HPP.out.ru _ hSw) Tryz.underlying28 rfl (by kernel_rfl)) ?_
      try simp only [Act.put, zA, zB, zC]
      refine tk (i := 18) (oi := ⟨some 119, _, _, _, _, some (13, true)⟩) (v := .agg ([.int .u8 y9.head.kind, .int .i64 y9.head.rho, .slice y9.head.ep y9.head.en y9.head.ec, .slice y9.head.kp y9.head.kn y9.head.kc] : List Value).toArray) rfl (yieldsIf_load_mid (by rfl) 28 _ rfl g9 0 rfl _ _ (fun W' hSw => r4 ((hSw.block _ (lt_heap HY9.out)).trans HY9.out)) Tryz.underlying28 rfl (by kernel_rfl)) ?_
      try simp only [Act.put, zA, zB, zC]
      refine wpAnyH_ready (rs := [19]) (by kernel_rfl) (by simp) ?_
      refine AllReadyH.cons (o := ⟨some 120, _, _, _, _, some (13, true)⟩) rfl (fun K hK => ?_) AllReadyH.nil
      go_simp
      go_at_call 13
      refine (rsameAt_any u13 y9 _ (LR.lies_below (bel_drew w15) _ HPP.out.lu) (LR.lies_below (bel_drew w15) _ HLY9.out) true HSA9.out).mono ?_
      rintro e w16 ⟨rfl, hb⟩
      have HB16 := hid (bel_step (bel_drew w15) hb)
      try go_wp2_with fail
      refine hK.out _ _ ?_ (fun hNew => ?_)
      ·(try dsimp only); exact bel_step hHeld hb
      clear hHeld hK K; have hHeld := hNew; clear hNew
      try simp only [Act.put, zA, zB, zC]
      refine tk (i := 20) (oi := ⟨some 121, _, _, _, _, none⟩) (v := ?_) rfl (Or.inl ⟨by rfl, ?_⟩) ?_
      rotate_left; · intro w h; go_simp; try with_reducible rfl
      try simp only [Act.put, zA, zB, zC]
      refine tk (i := 21) (oi := ⟨some 122, _, _, _, _, none⟩) (v := ?_) rfl (Or.inl ⟨by rfl, ?_⟩) ?_
      rotate_left; · intro w h; go_simp; try with_reducible rfl
      try simp only [Act.put, zA, zB, zC]
      refine tk (i := 22) (oi := ⟨some 123, _, _, _, _, some (21, true)⟩) (v := ?_) rfl (Or.inl ⟨by rfl, ?_⟩) ?_
      rotate_left; · intro w h; go_simp; try with_reducible rfl
      try simp only [Act.put, zA, zB, zC]
      refine tk (i := 23) (oi := ⟨some 124, _, _, _, _, some (21, true)⟩) (v := ?_) rfl (Or.inl ⟨by rfl, ?_⟩) ?_
      rotate_left
      ·intro w hSw; (try dsimp only at hSw); have q3 := HPP.out.kids _ hSw; go_simp; try with_reducible rfl
      try simp only [Act.put, zA, zB, zC]
      refine tk (i := 24) (oi := ⟨some 125, _, _, _, _, some (21, true)⟩) (v := ?_) rfl (Or.inl ⟨by rfl, ?_⟩) ?_
      rotate_left; · intro w h; go_simp; try with_reducible rfl
      try simp only [Act.put, zA, zB, zC]
      refine tk (i := 25) (oi := ⟨some 126, _, _, _, _, some (21, true)⟩) (v := .agg ([.int .u8 v13.head.kind, .int .i64 v13.head.rho, .slice v13.head.ep v13.head.en v13.head.ec, .slice v13.head.kp v13.head.kn v13.head.kc] : List Value).toArray) rfl (yieldsIf_load_mid (by rfl) 28 _ rfl bk (ok + 4) rfl _ _ (fun W' hSw => HPP.out.rv _ hSw) Tryz.underlying28 rfl (by kernel_rfl)) ?_
      try simp only [Act.put, zA, zB, zC]
      refine tk (i := 26) (oi := ⟨some 127, _, _, _, _, some (21, true)⟩) (v := .agg ([.int .u8 y10.head.kind, .int .i64 y10.head.rho, .slice y10.head.ep y10.head.en y10.head.ec, .slice y10.head.kp y10.head.kn y10.head.kc] : List Value).toArray) rfl (yieldsIf_load_mid (by rfl) 28 _ rfl g10 0 rfl _ _ (fun W' hSw => r4 ((hSw.block _ (lt_heap HY10.out)).trans HY10.out)) Tryz.underlying28 rfl (by kernel_rfl)) ?_
      try simp only [Act.put, zA, zB, zC]
      refine wpAnyH_ready (rs := [27]) (by kernel_rfl) (by simp) ?_
      refine AllReadyH.cons (o := ⟨some 128, _, _, _, _, some (21, true)⟩) rfl (fun K hK => ?_) AllReadyH.nil
      go_simp
      go_at_call 13
      refine (rsameAt_any v13 y10 _ (LR.lies_below HB16.out _ HPP.out.lv) (LR.lies_below HB16.out _ HLY10.out) true HSA10.out).mono ?_
      rintro e w17 ⟨rfl, hb⟩
      have HB17 := hid (bel_step HB16.out hb)
      try go_wp2_with fail
      refine hK.out _ _ ?_ (fun hNew => ?_)
      ·(try dsimp only); exact bel_step hHeld hb
      clear hHeld hK K; have hHeld := hNew; clear hNew
      try simp only [Act.put, zA, zB, zC]
      refine tk (i := 28) (oi := ⟨some 129, _, _, _, _, none⟩) (v := ?_) rfl (Or.inl ⟨by rfl, ?_⟩) ?_
      rotate_left; · intro w h; go_simp; try with_reducible rfl
      try simp only [Act.put, zA, zB, zC]
      refine tk (i := 29) (oi := ⟨some 130, _, _, _, _, none⟩) (v := ?_) rfl (Or.inl ⟨by rfl, ?_⟩) ?_
      rotate_left; · intro w h; go_simp; try with_reducible rfl
      try simp only [Act.put, zA, zB, zC]
      refine tk (i := 30) (oi := ⟨some 131, _, _, _, _, some (29, true)⟩) (v := ?_) rfl (Or.inl ⟨by rfl, ?_⟩) ?_
      rotate_left; · intro w h; go_simp; try with_reducible rfl
      try simp only [Act.put, zA, zB, zC]
      refine tk (i := 31) (oi := ⟨some 132, _, _, _, _, some (29, true)⟩) (v := ?_) rfl (Or.inl ⟨by rfl, ?_⟩) ?_
      rotate_left; · intro w h; go_simp; try with_reducible rfl
      try simp only [Act.put, zA, zB, zC]
      refine wpAnyH_ready (rs := [32]) (by kernel_rfl) (by simp) ?_
      refine AllReadyH.cons (o := ⟨some 133, _, _, _, _, some (29, true)⟩) rfl (fun K hK => ?_) AllReadyH.nil
      go_simp
      go_at_call 14
      refine (ref_Equal_rowC (HRW13.out.below HB17.out) (HRWE.out.below HB17.out)).mono ?_
      rintro e w18 ⟨rfl, hb⟩
      have HB18 := hid (bel_step HB17.out hb)
      try go_wp2_with fail
      refine hK.out _ _ ?_ (fun hNew => ?_)
      ·(try dsimp only); exact bel_step hHeld hb
      clear hHeld hK K; have hHeld := hNew; clear hNew
      try simp only [Act.put, zA, zB, zC]
      refine tk (i := 33) (oi := ⟨some 134, _, _, _, _, none⟩) (v := ?_) rfl (Or.inl ⟨by rfl, ?_⟩) ?_
      rotate_left; · intro w h; go_simp; try with_reducible rfl
      try simp only [Act.put, zA, zB, zC]
      refine tk (i := 34) (oi := ⟨some 135, _, _, _, _, none⟩) (v := ?_) rfl (Or.inl ⟨by rfl, ?_⟩) ?_
      rotate_left; · intro w h; go_simp; try with_reducible rfl
      try simp only [Act.put, zA, zB, zC]
      refine wpAnyH_ready (rs := [35]) (by kernel_rfl) (by simp) ?_
      refine AllReadyH.cons (o := ⟨some 136, _, _, _, _, some (34, true)⟩) rfl (fun K hK => ?_) AllReadyH.nil
      go_simp
      go_at_call 11
      refine (awake15_any (HV.out.below (HB.out.trans (HB18.out.mono HB.out.size)))).mono ?_
      rintro e w19 ⟨rfl, hb⟩
      have HB19 := hid (bel_step HB18.out hb)
      try go_wp2_with fail
      refine hK.out _ _ ?_ (fun hNew => ?_)
      ·(try dsimp only); exact bel_step hHeld hb
      clear hHeld hK K; have hHeld := hNew; clear hNew
      try simp only [Act.put, zA, zB, zC]
      refine tk (i := 36) (oi := ⟨some 137, _, _, _, _, none⟩) (v := ?_) rfl (Or.inl ⟨by rfl, ?_⟩) ?_
      rotate_left; · intro w h; go_simp; try with_reducible rfl
      try simp only [Act.put, zA, zB, zC]
      refine tk (i := 37) (oi := ⟨some 4, _, _, _, _, none⟩) (v := ?_) rfl (Or.inl ⟨by rfl, ?_⟩) ?_
      rotate_left; · intro w h; go_simp; try with_reducible rfl
      try simp only [Act.put, zA, zB, zC]
      refine wpAnyH_done (by kernel_rfl) ?_ _
      clear hHeld
      have HB := hid (HB.out.trans (HB19.out.mono HB.out.size))
      go_wp2_with fail
      go_ret
      exact ⟨rfl, HB.out⟩
end
end Go.Proofs.YtkdjnegfnhldpaaGreatDoor
