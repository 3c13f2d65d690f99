/- Part 34: Rb, Ru, Kg. -/
import Derived.Test.YtkdjnegfnhldpaaGreatDoorH28
import Derived.Test.YtkdjnegfnhldpaaGreatDoorH27
import Derived.Test.YtkdjnegfnhldpaaGreatDoorH29
import Derived.Test.YtkdjnegfnhldpaaGreatDoorH30
import Derived.Test.YtkdjnegfnhldpaaGreatDoorH31
import Derived.Test.YtkdjnegfnhldpaaGreatDoorH33
import Derived.Test.YtkdjnegfnhldpaaGreatDoorH24
import Derived.Test.YtkdjnegfnhldpaaGreatDoorH25
import Derived.Test.YtkdjnegfnhldpaaGreatDoorH01
set_option linter.unusedVariables false
set_option maxRecDepth 100000
set_option linter.unusedSimpArgs false
namespace Go.Proofs.YtkdjnegfnhldpaaGreatDoor
open Go.Lib (hid)
section
open Go.RowKit
theorem rlin_sn {w W : World} {S : Nat → Prop} {a : AH} {p : Option Addr} {n c : Nat} {l : List RV} (h : RlIn w S a p n c l) (hb : Below w.heap.size w W) (hs : w.heap.size + 2 ≤ W.heap.size) : RlIn W (Sn w S) a p n c l :=
  ⟨LA.below h.own hb, h.small, res_sn h.res hb, fun b hb => .inr (by omega), fun b hb => .inl ⟨lies_uses _ h.own.ty b hb, h.ty b hb⟩, h.few, h.sum, h.good⟩
set_option maxHeartbeats 8000000 in
theorem rule_binds {w : World} {S : Nat → Prop} {a : AH} {p : Option Addr} {n c : Nat} {l : List RV} (h : RlIn w S a p n c l) (hk : a.kind = 11 ∨ a.kind = 12 ∨ a.kind = 13 ∨ a.kind = 16 ∨ a.kind = 17)
    (HB : ∀ W, RlIn W (Sn w S) a p n c l → Calls Tryz.prog 144 #[aggT a, .slice p n c] W (OutC W (Sn w S) (bindsP a.plain (erL l)))) :
    Calls Tryz.prog 99 #[aggT a, .slice p n c] w (OutC w S (ruleP a.plain (erL l))) := by
  have HX := hid (rls_new w a)
  have HH := hid h
  have HBB := hid HB
  clear HB
  have n3 : a.kind ≠ 3 := by omega
  have n4 : a.kind ≠ 4 := by omega
  have n5 : a.kind ≠ 5 := by omega
  have n6 : a.kind ≠ 6 := by omega
  have n7 : a.kind ≠ 7 := by omega
  have n8 : a.kind ≠ 8 := by omega
  have n10 : a.kind ≠ 10 := by omega
  have n9 : a.kind ≠ 9 := by omega
  have n14 : a.kind ≠ 14 := by omega
  have n15 : a.kind ≠ 15 := by omega
  have n1 : a.kind ≠ 1 := by omega
  have HRU : Hid (ruleP a.plain (erL l) = bindsP a.plain (erL l)) := by
    show _ = _
    unfold ruleP
    simp [show a.plain.kind = a.kind from rfl, n3, n4, n5, n6, n7, n8, n10, n9, n14, n15, n1]
  rw [HRU.out]
  clear HRU
  revert HBB
  generalize bindsP a.plain (erL l) = R
  intro HBB
  have e3 : (a.kind == 3) = false := by simp [n3]
  have e4 : (a.kind == 4) = false := by simp [n4]
  have e5 : (a.kind == 5) = false := by simp [n5]
  have e6 : (a.kind == 6) = false := by simp [n6]
  have e7 : (a.kind == 7) = false := by simp [n7]
  have e8 : (a.kind == 8) = false := by simp [n8]
  have e10 : (a.kind == 10) = false := by simp [n10]
  have e9 : (a.kind == 9) = false := by simp [n9]
  have e14 : (a.kind == 14) = false := by simp [n14]
  have e15 : (a.kind == 15) = false := by simp [n15]
  have e1 : (a.kind == 1) = false := by simp [n1]
  have hc0 := HX.out.box.c 0 _ rfl
  clear h hk n3 n4 n5 n6 n7 n8 n10 n9 n14 n15 n1
  rcases R with ⟨r1, r2⟩ | r
  · go_enter Tryz.func99, Tryz.ntmps99
    go_upto_region 2 with fail
    clear hc0 e3 e4 e5 e6 e7 e8 e10 e9 e14 e15 e1
    generalize (w.alloc (.cells #[.int .u8 a.kind, .int .u8 a.op, .int .i64 a.at_, .int .i64 a.n, .string a.name, .string a.arg, .string a.exn, .int .i64 a.rho, .slice a.rp a.rn a.rc, .slice a.ep a.en a.ec, .int .u8 a.ty.head.kind, .int .i64 a.ty.head.rho, .slice a.ty.head.ep a.ty.head.en a.ty.head.ec, .slice a.ty.head.kp a.ty.head.kn a.ty.head.kc, .int .u8 a.res.head.kind, .int .i64 a.res.head.rho, .slice a.res.head.ep a.res.head.en a.res.head.ec, .slice a.res.head.kp a.res.head.kn a.res.head.kc, .slice a.kp a.kn a.kc] 31)).alloc (.cells #[.int .u8 0, .int .i64 0, .slice none 0 0, .slice none 0 0, .slice none 0 0] 81) = W1 at *
    go_wp2_with (refine wpList_load_row rfl 31 _ rfl w.heap.size rfl 31 _ (0, 0) _ HX.out.box.blk Tryz.underlying31 rfl (by kernel_rfl) ?_)
    go_at_call 144
    refine (HBB.out _ (rlin_sn HH.out HX.out.below HX.out.size)).mono ?_
    rintro e W9 ⟨hr, hb⟩
    subst hr
    exact ⟨rfl, rfl, (HX.out.step hb).below⟩
  · go_enter Tryz.func99, Tryz.ntmps99
    go_upto_region 2 with fail
    clear hc0 e3 e4 e5 e6 e7 e8 e10 e9 e14 e15 e1
    generalize (w.alloc (.cells #[.int .u8 a.kind, .int .u8 a.op, .int .i64 a.at_, .int .i64 a.n, .string a.name, .string a.arg, .string a.exn, .int .i64 a.rho, .slice a.rp a.rn a.rc, .slice a.ep a.en a.ec, .int .u8 a.ty.head.kind, .int .i64 a.ty.head.rho, .slice a.ty.head.ep a.ty.head.en a.ty.head.ec, .slice a.ty.head.kp a.ty.head.kn a.ty.head.kc, .int .u8 a.res.head.kind, .int .i64 a.res.head.rho, .slice a.res.head.ep a.res.head.en a.res.head.ec, .slice a.res.head.kp a.res.head.kn a.res.head.kc, .slice a.kp a.kn a.kc] 31)).alloc (.cells #[.int .u8 0, .int .i64 0, .slice none 0 0, .slice none 0 0, .slice none 0 0] 81) = W1 at *
    go_wp2_with (refine wpList_load_row rfl 31 _ rfl w.heap.size rfl 31 _ (0, 0) _ HX.out.box.blk Tryz.underlying31 rfl (by kernel_rfl) ?_)
    go_at_call 144
    refine (HBB.out _ (rlin_sn HH.out HX.out.below HX.out.size)).mono ?_
    rintro e W9 ⟨hr, hb⟩
    obtain ⟨y, rfl, hyx, hy⟩ := hr
    have HX9 := hid (HX.out.step hb)
    have HY := hid hy
    have HYX := hid hyx
    clear hy hyx HX
    go_wp2_with (refine wpList_store_res rfl _ _ _ rfl HX9.out (cellsRV y) (by rfl) (by rfl) (by kernel_rfl) rfl (by simp [Value.oneCell']) ?_)
    refine bodyPost_ret (results_cell_row rfl _ _ _ _ _ _ _ rfl (HX9.out.heap _) Tryz.underlying81 rfl (by kernel_rfl)) rfl ?_
    exact out_of HX9.out HH.out.new HY.out HYX.out
end
section
open Go.RowKit
section
variable {w : World} {S : Nat → Prop} {a : AH} {p : Option Addr} {n c : Nat} {l : List RV}
theorem rl_at (h : RlIn w S a p n c l) {x : RV} (hx : l[0]? = some x) : ∃ b o, p = some ⟨b, o, none⟩ := by
  obtain ⟨b, o, hp, _⟩ := h.res.row.row.elem hx
  exact ⟨b, o, hp⟩
theorem rl1 (h : RlIn w S a p n c l) (hl : l.length = 1) : ∃ b o x, p = some ⟨b, o, none⟩ ∧ n = 1 ∧ l = [x] := by
  match l, h, hl with
  | [x], h, _ => obtain ⟨b, o, hp⟩ := rl_at h (x := x) rfl; exact ⟨b, o, x, hp, h.res.row.len.symm, rfl⟩
theorem rl2 (h : RlIn w S a p n c l) (hl : l.length = 2) : ∃ b o x y, p = some ⟨b, o, none⟩ ∧ n = 2 ∧ l = [x, y] := by
  match l, h, hl with
  | [x, y], h, _ => obtain ⟨b, o, hp⟩ := rl_at h (x := x) rfl; exact ⟨b, o, x, y, hp, h.res.row.len.symm, rfl⟩
theorem rl3 (h : RlIn w S a p n c l) (hl : l.length = 3) : ∃ b o x y z, p = some ⟨b, o, none⟩ ∧ n = 3 ∧ l = [x, y, z] := by
  match l, h, hl with
  | [x, y, z], h, _ => obtain ⟨b, o, hp⟩ := rl_at h (x := x) rfl; exact ⟨b, o, x, y, z, hp, h.res.row.len.symm, rfl⟩
theorem rule_any (h : RlIn w S a p n c l) (hg : GoodN a.plain l.length) (h2 : a.kind ≠ 2) (h18 : a.kind ≠ 18) :
    Calls Tryz.prog 99 #[aggT a, .slice p n c] w (OutC w S (ruleP a.plain (erL l))) := by
  have g1 : 1 ≤ a.kind := hg.k1
  have g2 : a.kind ≤ 18 := hg.k18
  have gk : kidsI (if a.kind = 17 then 4 else if a.kind = 18 then 1 else a.kind) = l.length := hg.kids
  have hc : a.kind = 1 ∨ a.kind = 3 ∨ a.kind = 4 ∨ a.kind = 5 ∨ a.kind = 6 ∨ a.kind = 7 ∨ a.kind = 8 ∨ a.kind = 9 ∨ a.kind = 10 ∨ a.kind = 11 ∨ a.kind = 12 ∨ a.kind = 13 ∨ a.kind = 14 ∨ a.kind = 15 ∨ a.kind = 16 ∨ a.kind = 17 := by omega
  rcases hc with k | k | k | k | k | k | k | k | k | k | k | k | k | k | k | k
  · exact rule_num h k
  · obtain ⟨b, o, x, y, rfl, rfl, rfl⟩ := rl2 h (by rw [k] at gk; simp [kidsI] at gk; omega); exact rule_pair h k
  · obtain ⟨b, o, x, rfl, rfl, rfl⟩ := rl1 h (by rw [k] at gk; simp [kidsI] at gk; omega); exact rule_fst h k
  · obtain ⟨b, o, x, rfl, rfl, rfl⟩ := rl1 h (by rw [k] at gk; simp [kidsI] at gk; omega); exact rule_snd h k
  · obtain ⟨b, o, x, rfl, rfl, rfl⟩ := rl1 h (by rw [k] at gk; simp [kidsI] at gk; omega); exact rule_ref h k
  · obtain ⟨b, o, x, rfl, rfl, rfl⟩ := rl1 h (by rw [k] at gk; simp [kidsI] at gk; omega); exact rule_get h k
  · obtain ⟨b, o, x, y, rfl, rfl, rfl⟩ := rl2 h (by rw [k] at gk; simp [kidsI] at gk; omega); exact rule_set h k
  · exact rule_op h k
  · obtain ⟨b, o, x, y, rfl, rfl, rfl⟩ := rl2 h (by rw [k] at gk; simp [kidsI] at gk; omega); exact rule_app h k
  · obtain ⟨b, o, x, rfl, rfl, rfl⟩ := rl1 h (by rw [k] at gk; simp [kidsI] at gk; omega); exact rule_binds h (by omega) fun W hW => binds_fn hW k
  · obtain ⟨b, o, x, y, rfl, rfl, rfl⟩ := rl2 h (by rw [k] at gk; simp [kidsI] at gk; omega); exact rule_binds h (by omega) fun W hW => binds_let hW k
  · obtain ⟨b, o, x, y, rfl, rfl, rfl⟩ := rl2 h (by rw [k] at gk; simp [kidsI] at gk; omega); exact rule_binds h (by omega) fun W hW => binds_letrec hW k
  · obtain ⟨b, o, x, y, z, rfl, rfl, rfl⟩ := rl3 h (by rw [k] at gk; simp [kidsI] at gk; omega); exact rule_ite h k
  · exact rule_raise h k
  · obtain ⟨b, o, x, y, rfl, rfl, rfl⟩ := rl2 h (by rw [k] at gk; simp [kidsI] at gk; omega); exact rule_binds h (by omega) fun W hW => binds_handle hW k
  · obtain ⟨b, o, x, rfl, rfl, rfl⟩ := rl1 h (by rw [k] at gk; simp [kidsI] at gk; omega); exact rule_binds h (by omega) fun W hW => binds_region hW k
end
end
section
open Go.RowKit
set_option maxHeartbeats 8000000 in
theorem found_kids {w0 w : World} {S : Nat → Prop} {a : AH} {l : List PA} {p q : Option Addr} {n c m mc : Nat} {env : List BV} {rhos : List Int} (h : ChkIn w0 w S (.node a l) p q n c m mc env rhos) (hu : regionsB a.plain rhos = true) (h2 : a.kind ≠ 2) (h18 : a.kind ≠ 18) (ih : ∀ t ∈ l, NodeAt w0 t) :
    Calls Tryz.prog 63 #[.agg #[.slice p n c, .slice q m mc], aggT a] w (OutC w S (foundP (erE env) rhos a.plain (l.map PA.er))) := by
  have HX := hid (nds_new w a (.slice p n c) (.slice q m mc))
  have HC := hid h
  have HN := hid (nodeA h.lies)
  have hsm : SmallN a := h.small a (by rw [Rose.nodes_node]; exact List.mem_cons_self)
  have HSM := hid hsm
  have hm9 : m ≤ 900000 := by have := h.hm; omega
  have hn9 : n ≤ 900000 := by have := h.hn; omega
  have HOW := hid (LA.below (nodeA h.lies).own (h.old.trans (HX.out.below.mono h.old.size)))
  clear hsm
  have HU := hid hu
  have HIH := hid ih
  have H2 := hid h2
  have H18 := hid h18
  have HR : Hid (foundP (erE env) rhos a.plain (l.map PA.er) = match chkL (erE env) rhos a.plain 0 [] (l.map PA.er) with | .error e => .error e | .ok ks => ruleP a.plain ks) := by
    show _ = _
    unfold foundP
    rw [hu]
    simp [show a.plain.kind = a.kind from rfl, h2, h18, mustP]
    try rfl
  have e2 : (a.kind == 2) = false := by simp [h2]
  have e18 : (a.kind == 18) = false := by simp [h18]
  have hln : l.length = a.kn := (nodeA h.lies).kids.len
  have hkn : a.kn ≤ 3 := by
    have hg := h.good
    rw [PA.er_node] at hg
    have h1 := hg.head.kids
    have h3 := kidsI_le (if a.plain.kind = 17 then 4 else if a.plain.kind = 18 then 1 else a.plain.kind)
    rw [List.length_map] at h1
    omega
  have HLN := hid hln
  clear hu h h2 h18 hln
  go_enter Tryz.func63, Tryz.ntmps63
  go_upto_region 1 with fail
  generalize (((w.alloc (.cells #[.slice p n c, .slice q m mc] 84)).alloc (boxA a)).alloc (.cells #[.int .u8 0, .int .i64 0, .slice none 0 0, .slice none 0 0, .slice none 0 0] 81)) = W1 at *
  go_upto_region 2 with (first
    | (refine wpList_load_row rfl 84 _ rfl w.heap.size rfl 84 _ (0, 0) _ HX.out.b.b0 Tryz.underlying84 rfl (by kernel_rfl) ?_)
    | (refine wpList_load_row rfl 31 _ rfl (w.heap.size + 1) rfl 31 _ (0, 0) _ HX.out.b.b1.blk Tryz.underlying31 rfl (by kernel_rfl) ?_)
    | (go_at_call 95; refine (scope_regions_any HOW.out HSM.out p n c (HC.out.rhosA.below HX.out.below) hm9).mono ?_; rintro e w2 ⟨hr, hb⟩; rw [HU.out] at hr; obtain rfl := hr.1 rfl; have HX2 := hid (HX.out.step hb); clear hr))
  have c0 := HX2.out.b.b1.c 0 _ rfl
  go_upto_region 11 with fail
  clear c0
  clear e2 e18
  have c18 := HX2.out.b.b1.c 18 _ rfl
  obtain ⟨KP, hKP⟩ : ∃ KP, a.kp = KP := ⟨_, rfl⟩
  have HKP := hid hKP
  rw [hKP] at c18
  clear hKP
  go_wp2_with fail
  clear c18
  go_loopw [7, 8, 9, 45] (fun s7 _ _ s45 wr => ∃ (k : Nat) (rs : List RV), k ≤ a.kn ∧ s45 = .int .i64 k ∧ KidsI w S a l (.slice p n c) (.slice q m mc) (erE env) rhos s7 k rs wr) (fun _ _ _ i _ => a.kn - (intOf i).toNat)
  case atStart => exact ⟨0, [], Nat.zero_le _, rfl, kidsI_start HX2.out⟩
  case round =>
    obtain ⟨k, rs, hk, rfl, hki⟩ := hrel
    obtain ⟨p7, c7, rfl, _, _, _⟩ := hki.row
    have HK := hid hki
    clear hki HX2
    by_cases hlt : k < a.kn
    · have hR0 := (HN.out.rowT.below (HC.out.old.trans (HK.out.nd.below.mono HC.out.old.size)))
      obtain ⟨x, hx⟩ := hR0.at (j := k) hlt
      obtain ⟨b, o, hbo, hbl, hcs⟩ := hR0.kid hx
      rw [HKP.out] at hbo
      subst hbo
      have HXK := hid hx
      have HCS := hid hcs
      have HXN := hid (HIH.out x (List.mem_of_getElem? hx))
      have HAL := hid (heap_alloc_new wr (.cells #[.int .u8 0, .int .u8 0, .int .i64 0, .int .i64 0, .string ⟨#[]⟩, .string ⟨#[]⟩, .string ⟨#[]⟩, .int .i64 0, .slice none 0 0, .slice none 0 0, .int .u8 0, .int .i64 0, .slice none 0 0, .slice none 0 0, .int .u8 0, .int .i64 0, .slice none 0 0, .slice none 0 0, .slice none 0 0] 31))
      clear hR0 hx hbl hcs
      go_upto_region 14 with (first
        | (refine wpList_load_mid rfl 31 _ rfl b (o + k * 19) rfl (encAH x.head) _ HCS.out.c Tryz.underlying31 rfl (by kernel_rfl) ?_)
        | (refine wpList_store_row rfl 31 _ _ rfl wr.heap.size (encAH x.head).toArray rfl rfl 31 _ HAL.out (by kernel_rfl) rfl (all_oneCell_toArray (encAH_one x.head)) ?_; rw [World.setRow_alloc_new]))
      have HL2 : Hid (LpS w a (.slice p n c) (.slice q m mc) wr.heap.size x.head (wr.alloc (boxA x.head))) := ⟨HK.out.nd.alloc _, boxA_new wr x.head⟩
      have HK2 := hid (HK.out.below ((Below.refl wr.heap.size wr).alloc (Nat.le_refl _) (boxA x.head)))
      obtain ⟨g, hg⟩ : ∃ g, wr.heap.size = g := ⟨_, rfl⟩
      have HOG : Hid (∀ b', (Value.slice p7 k c7).ownBlock = some b' → w.heap.size + 3 ≤ b' ∧ b' < g) := fun b' e => by
        obtain ⟨_, _, _, _, _, hh⟩ := HK.out.row
        rw [← hg]; exact hh b' e
      rw [show (wr.alloc (.cells (encAH x.head).toArray 31)) = wr.alloc (boxA x.head) from rfl]
      rw [hg] at HL2 ⊢
      generalize (wr.alloc (boxA x.head)) = W2 at *
      clear hg HAL HCS HK
      have HKD := hid (HK2.out.below (bel_drew W2))
      clear HK2
      cases hch : chk (innerE (erE env) a.plain k (erL rs)) (innerR rhos a.plain k) (PA.er x) with
      | error er =>
        obtain ⟨er1, er2⟩ := er
        have HCH := hid hch
        have HRS : Hid (foundP (erE env) rhos a.plain (l.map PA.er) = .error (er1, er2)) := by
          show _ = _
          rw [HR.out, HKD.out.stop HXK.out hch]
        clear hch HR
        refine wp_region_held_drew (S := fun W' => LpS w a (.slice p n c) (.slice q m mc) g x.head W') (by kernel_rfl) ?_ (fun hHeld => ?_)
        · exact HL2.out.drew
        refine tk (i := 0) (oi := ⟨some 50, _, _, _, _, none⟩) (v := ?_) rfl (Or.inl ⟨by rfl, ?_⟩) ?_
        rotate_left; · intro w h; go_simp; try with_reducible rfl
        try simp only [Act.put, zA, zB, zC]
        refine tk (i := 1) (oi := ⟨some 51, _, _, _, _, none⟩) (v := .agg ([.slice p n c, .slice q m mc] : List Value).toArray) rfl (yieldsIf_load_mid (by rfl) 84 _ rfl w.heap.size 0 rfl _ _ (fun W' hSw => hSw.nd.b.r0) Tryz.underlying84 rfl (by kernel_rfl)) ?_
        try simp only [Act.put, zA, zB, zC]
        refine tk (i := 2) (oi := ⟨some 52, _, _, _, _, none⟩) (v := .agg ([.int .u8 a.kind, .int .u8 a.op, .int .i64 a.at_, .int .i64 a.n, .string a.name, .string a.arg, .string a.exn, .int .i64 a.rho, .slice a.rp a.rn a.rc, .slice a.ep a.en a.ec, .int .u8 a.ty.head.kind, .int .i64 a.ty.head.rho, .slice a.ty.head.ep a.ty.head.en a.ty.head.ec, .slice a.ty.head.kp a.ty.head.kn a.ty.head.kc, .int .u8 a.res.head.kind, .int .i64 a.res.head.rho, .slice a.res.head.ep a.res.head.en a.res.head.ec, .slice a.res.head.kp a.res.head.kn a.res.head.kc, .slice a.kp a.kn a.kc] : List Value).toArray) rfl (yieldsIf_load_mid (by rfl) 31 _ rfl (w.heap.size + 1) 0 rfl _ _ (fun W' hSw => hSw.nd.b.b1.range) Tryz.underlying31 rfl (by kernel_rfl)) ?_
        try simp only [Act.put, zA, zB, zC]
        refine tk (i := 3) (oi := ⟨some 53, _, _, _, _, none⟩) (v := ?_) rfl (Or.inl ⟨by rfl, ?_⟩) ?_
        rotate_left; · intro w h; go_simp; try with_reducible rfl
        try simp only [Act.put, zA, zB, zC]
        refine tk (i := 4) (oi := ⟨some 54, _, _, _, _, none⟩) (v := ?_) rfl (Or.inl ⟨by rfl, ?_⟩) ?_
        rotate_left; · intro w h; go_simp; try with_reducible rfl
        try simp only [Act.put, zA, zB, zC]
        refine tk (i := 6) (oi := ⟨some 56, _, _, _, _, none⟩) (v := .agg ([.int .u8 x.head.kind, .int .u8 x.head.op, .int .i64 x.head.at_, .int .i64 x.head.n, .string x.head.name, .string x.head.arg, .string x.head.exn, .int .i64 x.head.rho, .slice x.head.rp x.head.rn x.head.rc, .slice x.head.ep x.head.en x.head.ec, .int .u8 x.head.ty.head.kind, .int .i64 x.head.ty.head.rho, .slice x.head.ty.head.ep x.head.ty.head.en x.head.ty.head.ec, .slice x.head.ty.head.kp x.head.ty.head.kn x.head.ty.head.kc, .int .u8 x.head.res.head.kind, .int .i64 x.head.res.head.rho, .slice x.head.res.head.ep x.head.res.head.en x.head.res.head.ec, .slice x.head.res.head.kp x.head.res.head.kn x.head.res.head.kc, .slice x.head.kp x.head.kn x.head.kc] : List Value).toArray) rfl (yieldsIf_load_mid (by rfl) 31 _ rfl g 0 rfl _ _ (fun W' hSw => hSw.kid.range) Tryz.underlying31 rfl (by kernel_rfl)) ?_
        try simp only [Act.put, zA, zB, zC]
        refine wpAnyH_ready (rs := [5]) (by kernel_rfl) (by simp) ?_
        refine AllReadyH.cons (o := ⟨some 55, _, _, _, _, none⟩) rfl (fun K hK => ?_) AllReadyH.nil
        go_simp
        go_at_call 98
        obtain ⟨_, _, hve, hres, hrl, hob⟩ := HKD.out.row
        cases hve
        refine (inner_any k (env_sx HC.out.envA hHeld.nd.below) (HC.out.rhosA.below hHeld.nd.below) (LA.below HN.out.own (HC.out.old.trans (hHeld.nd.below.mono HC.out.old.size))) HN.out.own (sx_new hHeld.nd.size (fun b' e => (hob b' e).2)) (fun b' hb' => .inl ⟨Nat.lt_of_lt_of_le (lies_uses _ HN.out.own.ty b' hb') HC.out.old.size, HC.out.s0 b' (lies_uses _ HN.out.own.ty b' hb')⟩) hn9 hm9 HSM.out.rhos hres (fun _ e => by rw [hrl, e])).mono ?_
        rintro e w3 ⟨p', n', c', env', q', m', c'', rfl, hE3, he3, hq3, hn3, hm3, hb⟩
        have HB3 := hid hb
        have HCK := hid (HC.out.kid HXK.out HKD.out hb hE3 he3 hq3 hn3 hm3)
        have HE3 := hid he3
        clear hres hrl hob hE3 he3 hq3 hn3 hm3
        try go_wp2_with fail
        refine hK.out _ _ ?_ (fun hNew => ?_)
        · (try dsimp only); exact hHeld.step hb
        clear hHeld hK K; have hHeld := hNew; clear hNew
        try simp only [Act.put, zA, zB, zC]
        refine wpAnyH_ready (rs := [7]) (by kernel_rfl) (by simp) ?_
        refine AllReadyH.cons (o := ⟨some 57, _, _, _, _, none⟩) rfl (fun K hK => ?_) AllReadyH.nil
        go_simp
        go_at_call 38
        refine (HXN.out _ _ _ _ _ _ _ _ _ _ HCK.out).mono ?_
        rw [HE3.out, HCH.out]
        rintro e w4 ⟨hr, hb⟩
        subst hr
        exact ⟨rfl, by rw [HRS.out], (hHeld.step hb).nd.below⟩
      | ok r =>
        have HCH := hid hch
        clear hch
        refine wp_region_held_drew (S := fun W' => LpS w a (.slice p n c) (.slice q m mc) g x.head W') (by kernel_rfl) ?_ (fun hHeld => ?_)
        · exact HL2.out.drew
        refine tk (i := 0) (oi := ⟨some 50, _, _, _, _, none⟩) (v := ?_) rfl (Or.inl ⟨by rfl, ?_⟩) ?_
        rotate_left; · intro w h; go_simp; try with_reducible rfl
        try simp only [Act.put, zA, zB, zC]
        refine tk (i := 1) (oi := ⟨some 51, _, _, _, _, none⟩) (v := .agg ([.slice p n c, .slice q m mc] : List Value).toArray) rfl (yieldsIf_load_mid (by rfl) 84 _ rfl w.heap.size 0 rfl _ _ (fun W' hSw => hSw.nd.b.r0) Tryz.underlying84 rfl (by kernel_rfl)) ?_
        try simp only [Act.put, zA, zB, zC]
        refine tk (i := 2) (oi := ⟨some 52, _, _, _, _, none⟩) (v := .agg ([.int .u8 a.kind, .int .u8 a.op, .int .i64 a.at_, .int .i64 a.n, .string a.name, .string a.arg, .string a.exn, .int .i64 a.rho, .slice a.rp a.rn a.rc, .slice a.ep a.en a.ec, .int .u8 a.ty.head.kind, .int .i64 a.ty.head.rho, .slice a.ty.head.ep a.ty.head.en a.ty.head.ec, .slice a.ty.head.kp a.ty.head.kn a.ty.head.kc, .int .u8 a.res.head.kind, .int .i64 a.res.head.rho, .slice a.res.head.ep a.res.head.en a.res.head.ec, .slice a.res.head.kp a.res.head.kn a.res.head.kc, .slice a.kp a.kn a.kc] : List Value).toArray) rfl (yieldsIf_load_mid (by rfl) 31 _ rfl (w.heap.size + 1) 0 rfl _ _ (fun W' hSw => hSw.nd.b.b1.range) Tryz.underlying31 rfl (by kernel_rfl)) ?_
        try simp only [Act.put, zA, zB, zC]
        refine tk (i := 3) (oi := ⟨some 53, _, _, _, _, none⟩) (v := ?_) rfl (Or.inl ⟨by rfl, ?_⟩) ?_
        rotate_left; · intro w h; go_simp; try with_reducible rfl
        try simp only [Act.put, zA, zB, zC]
        refine tk (i := 4) (oi := ⟨some 54, _, _, _, _, none⟩) (v := ?_) rfl (Or.inl ⟨by rfl, ?_⟩) ?_
        rotate_left; · intro w h; go_simp; try with_reducible rfl
        try simp only [Act.put, zA, zB, zC]
        refine tk (i := 6) (oi := ⟨some 56, _, _, _, _, none⟩) (v := .agg ([.int .u8 x.head.kind, .int .u8 x.head.op, .int .i64 x.head.at_, .int .i64 x.head.n, .string x.head.name, .string x.head.arg, .string x.head.exn, .int .i64 x.head.rho, .slice x.head.rp x.head.rn x.head.rc, .slice x.head.ep x.head.en x.head.ec, .int .u8 x.head.ty.head.kind, .int .i64 x.head.ty.head.rho, .slice x.head.ty.head.ep x.head.ty.head.en x.head.ty.head.ec, .slice x.head.ty.head.kp x.head.ty.head.kn x.head.ty.head.kc, .int .u8 x.head.res.head.kind, .int .i64 x.head.res.head.rho, .slice x.head.res.head.ep x.head.res.head.en x.head.res.head.ec, .slice x.head.res.head.kp x.head.res.head.kn x.head.res.head.kc, .slice x.head.kp x.head.kn x.head.kc] : List Value).toArray) rfl (yieldsIf_load_mid (by rfl) 31 _ rfl g 0 rfl _ _ (fun W' hSw => hSw.kid.range) Tryz.underlying31 rfl (by kernel_rfl)) ?_
        try simp only [Act.put, zA, zB, zC]
        refine wpAnyH_ready (rs := [5]) (by kernel_rfl) (by simp) ?_
        refine AllReadyH.cons (o := ⟨some 55, _, _, _, _, none⟩) rfl (fun K hK => ?_) AllReadyH.nil
        go_simp
        go_at_call 98
        obtain ⟨_, _, hve, hres, hrl, hob⟩ := HKD.out.row
        cases hve
        refine (inner_any k (env_sx HC.out.envA hHeld.nd.below) (HC.out.rhosA.below hHeld.nd.below) (LA.below HN.out.own (HC.out.old.trans (hHeld.nd.below.mono HC.out.old.size))) HN.out.own (sx_new hHeld.nd.size (fun b' e => (hob b' e).2)) (fun b' hb' => .inl ⟨Nat.lt_of_lt_of_le (lies_uses _ HN.out.own.ty b' hb') HC.out.old.size, HC.out.s0 b' (lies_uses _ HN.out.own.ty b' hb')⟩) hn9 hm9 HSM.out.rhos hres (fun _ e => by rw [hrl, e])).mono ?_
        rintro e w3 ⟨p', n', c', env', q', m', c'', rfl, hE3, he3, hq3, hn3, hm3, hb⟩
        have HB3 := hid hb
        have HCK := hid (HC.out.kid HXK.out HKD.out hb hE3 he3 hq3 hn3 hm3)
        have HE3 := hid he3
        clear hres hrl hob hE3 he3 hq3 hn3 hm3
        try go_wp2_with fail
        refine hK.out _ _ ?_ (fun hNew => ?_)
        · (try dsimp only); exact hHeld.step hb
        clear hHeld hK K; have hHeld := hNew; clear hNew
        try simp only [Act.put, zA, zB, zC]
        refine wpAnyH_ready (rs := [7]) (by kernel_rfl) (by simp) ?_
        refine AllReadyH.cons (o := ⟨some 57, _, _, _, _, none⟩) rfl (fun K hK => ?_) AllReadyH.nil
        go_simp
        go_at_call 38
        refine (HXN.out _ _ _ _ _ _ _ _ _ _ HCK.out).mono ?_
        have hgd := kid_good HCK.out (r := r) (by rw [HE3.out]; exact HCH.out)
        have HGD := hid hgd
        rw [HE3.out, HCH.out]
        rintro e w4 ⟨hr, hb⟩
        obtain ⟨z, rfl, hzx, hz⟩ := hr
        have HZ := hid hz
        have HZX := hid hzx
        have HK5 := hid (((HKD.out.below HB3.out).below hb).below ((Below.refl w4.heap.size w4).alloc (Nat.le_refl _) (.cells #[.int .u8 z.ty.head.kind, .int .i64 z.ty.head.rho, .slice z.ty.head.ep z.ty.head.en z.ty.head.ec, .slice z.ty.head.kp z.ty.head.kn z.ty.head.kc, .slice z.ep z.en z.ec] 81)))
        have HZ5 := hid (HZ.out.below ((Below.refl w4.heap.size w4).alloc (Nat.le_refl _) (.cells #[.int .u8 z.ty.head.kind, .int .i64 z.ty.head.rho, .slice z.ty.head.ep z.ty.head.en z.ty.head.ec, .slice z.ty.head.kp z.ty.head.kn z.ty.head.kc, .slice z.ep z.en z.ec] 81)))
        have HRZ := hid (row_made encRV_len (by omega) w4 81 [z] 1 #[.int .u8 z.ty.head.kind, .int .i64 z.ty.head.rho, .slice z.ty.head.ep z.ty.head.en z.ty.head.ec, .slice z.ty.head.kp z.ty.head.kn z.ty.head.kc, .slice z.ep z.en z.ec] rfl rfl (by decide))
        clear hgd hz hzx
        try go_wp2_with fail
        refine hK.out _ _ ?_ (fun hNew => ?_)
        · (try dsimp only); exact hHeld.step hb
        clear hHeld hK K; have hHeld := hNew; clear hNew
        try simp only [Act.put, zA, zB, zC]
        refine wpAnyH_ready (rs := [8]) (by kernel_rfl) (by simp) ?_
        refine AllReadyH.cons (o := ⟨some 58, _, _, _, _, none⟩) rfl (fun K hK => ?_) AllReadyH.nil
        go_simp
        refine hK.out _ _ ?_ (fun hNew => ?_)
        · (try dsimp only); exact hHeld.alloc _
        clear hHeld hK K; have hHeld := hNew; clear hNew
        try simp only [Act.put, zA, zB, zC]
        refine wpAnyH_ready (rs := [9]) (by kernel_rfl) (by simp) ?_
        refine AllReadyH.cons (o := ⟨some 59, _, _, _, _, none⟩) rfl (fun K hK => ?_) AllReadyH.nil
        have hsz5 := HK5.out.nd.size
        refine step_appendR (by rfl) _ _ 148 (by rfl) (w.heap.size + 3) 81 _ 5 88 Tryz.underlying148 infoRV rfl (by decide) encRV encRV_len encRV_one [z] rs k _ HK5.out.own _ 1 _ (by rfl) (by rfl) rfl (by intro h; cases h) HRZ.out.row (by omega) (by omega) hsz5 ?_
        intro v6 w6 hown6 hg6 hf6
        have HK6 := hid (HK5.out.push HXK.out HZ5.out HZX.out HCH.out HGD.out hown6 hg6 hf6)
        clear hown6 hf6 hsz5
        refine hK.out _ _ ?_ (fun hNew => ?_)
        · (try dsimp only); exact hHeld.grown hg6 HOG.out
        clear hHeld hK K; have hHeld := hNew; clear hNew
        try simp only [Act.put, zA, zB, zC]
        refine tk (i := 10) (oi := ⟨some 7, _, _, _, _, none⟩) (v := ?_) rfl (Or.inl ⟨by rfl, ?_⟩) ?_
        rotate_left; · intro w h; go_simp; try with_reducible rfl
        try simp only [Act.put, zA, zB, zC]
        refine wpAnyH_done (by kernel_rfl) ?_ _
        clear hHeld
        go_wp2_with fail
        go_roundw
        case rel => exact ⟨k + 1, rs ++ [z], by omega, by go_num, HK6.out⟩
        case measure => simp [intOf]; omega
    · have hkn2 : k = l.length := by have := HLN.out; omega
      subst hkn2
      obtain ⟨_, _, hve, hres, hrl, hob⟩ := HK.out.row
      cases hve
      have HRES := hid hres
      have HFU := hid HK.out.full
      have hlen3 : l.length ≤ 3 := by have := HLN.out; omega
      have HRL : Hid (RlIn wr (Sx w S (.slice p7 l.length c7)) a p7 l.length c7 rs) :=
        ⟨LA.below HN.out.own (HC.out.old.trans (HK.out.nd.below.mono HC.out.old.size)), HSM.out, HRES.out, sx_new HK.out.nd.size (fun b' e => (hob b' e).2), fun b' hb' => .inl ⟨Nat.lt_of_lt_of_le (lies_uses _ HN.out.own.ty b' hb') HC.out.old.size, HC.out.s0 b' (lies_uses _ HN.out.own.ty b' hb')⟩, by omega,
          (by
            have h1 := HK.out.sum
            have h2 := HC.out.hs
            rw [Rose.size_node] at h2
            omega),
          fun r hr => by
            obtain ⟨j, hj⟩ := List.getElem?_of_mem hr
            have hjl : j < l.length := by rw [← hrl]; exact get_lt hj
            have hg := HK.out.acc j _ r (List.getElem?_eq_getElem hjl) hj
            refine ⟨hg.1.may, hg.1.effs, ?_⟩
            have h1 := hg.2
            rw [show r.er.1 = PT.er r.ty from rfl, er_size] at h1
            omega⟩
      have HGN : Hid (GoodN a.plain rs.length) := by
        have hg := HC.out.good
        rw [PA.er_node] at hg
        have h1 := hg.head
        rw [List.length_map] at h1
        show GoodN _ _
        rw [hrl]; exact h1
      have HR2 : Hid (foundP (erE env) rhos a.plain (l.map PA.er) = ruleP a.plain (erL rs)) := by
        show _ = _
        rw [HR.out, HFU.out]
      clear HR HFU hres hrl hob hlen3
      have HRU := hid (rule_any HRL.out HGN.out H2.out H18.out)
      revert HRU HR2
      generalize ruleP a.plain (erL rs) = R
      intro HR2 HRU
      go_upto_region 16 with fail
      rcases R with ⟨r1, r2⟩ | r
      · go_wp2_with (first
          | (refine wpList_load_row rfl 31 _ rfl (w.heap.size + 1) rfl 31 _ (0, 0) _ HK.out.nd.b.b1.blk Tryz.underlying31 rfl (by kernel_rfl) ?_))
        go_at_call 99
        refine HRU.out.mono ?_
        rintro e W9 ⟨hr, hb⟩
        subst hr
        exact ⟨rfl, by rw [HR2.out], (HK.out.nd.step hb).below⟩
      · go_wp2_with (first
          | (refine wpList_load_row rfl 31 _ rfl (w.heap.size + 1) rfl 31 _ (0, 0) _ HK.out.nd.b.b1.blk Tryz.underlying31 rfl (by kernel_rfl) ?_)
          | (go_at_call 99; refine HRU.out.mono ?_; rintro e W9 ⟨hr, hb⟩; obtain ⟨y, rfl, hyx, hy⟩ := hr; have HX9 := hid (HK.out.nd.step hb); have HY := hid hy; have HYX := hid hyx; clear hy hyx)
          | (refine wpList_store_nd rfl _ _ _ rfl HX9.out (cellsRV y) (by rfl) (by rfl) (by kernel_rfl) rfl (by simp [Value.oneCell']) ?_))
        refine bodyPost_ret (results_cell_row rfl _ _ _ _ _ _ _ rfl (HX9.out.heap _) Tryz.underlying81 rfl (by kernel_rfl)) rfl ?_
        rw [HR2.out]
        exact out_nd HX9.out HC.out.new (HY.out.weak (fun b' _ hs => hs.imp id And.left)) HYX.out
end
end Go.Proofs.YtkdjnegfnhldpaaGreatDoor
