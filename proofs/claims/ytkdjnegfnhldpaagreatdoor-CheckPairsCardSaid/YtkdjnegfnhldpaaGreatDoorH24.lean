/- Part 24: Kf, Ki. -/
import Derived.Test.YtkdjnegfnhldpaaGreatDoorH22
import Derived.Test.YtkdjnegfnhldpaaGreatDoorH23
import Derived.Test.YtkdjnegfnhldpaaGreatDoorH12
import Derived.Test.YtkdjnegfnhldpaaGreatDoorH01
set_option linter.unusedVariables false
set_option maxRecDepth 100000
set_option linter.unusedSimpArgs false
namespace Go.Proofs.YtkdjnegfnhldpaaGreatDoor
open Go.Lib (hid)
section
open Go.RowKit
theorem findBV_mem {env : List BV} {x : ByteArray} {b : BV} (h : findBV env x = some b) : b ∈ env := by
  unfold findBV at h
  have := List.mem_of_find?_eq_some h
  simpa using this
theorem range_mid {W : World} {g : Nat} {cs : Array Value} {t : TypeId} (h : W.heap[g]? = some (.cells cs t (0, 0))) (o : Nat) (l : List Value) (hl : ∀ (i : Nat) (v : Value), l[i]? = some v → cs[o + i]? = some v) : W.rangeAt g o l := fun j v hj => by
  rw [Lib.cell_of_heap h]
  exact hl j v hj
structure LpS (w : World) (a : AH) (x y : Value) (g : Nat) (a' : AH) (W : World) : Prop where
  nd : NdS w a x y W
  kid : BoxA W g a'
theorem LpS.step {w W W' : World} {a a' : AH} {x y : Value} {g : Nat} (h : LpS w a x y g a' W) (hb : Below W.heap.size W W') : LpS w a x y g a' W' := ⟨h.nd.step hb, h.kid.below hb⟩
theorem LpS.alloc {w W : World} {a a' : AH} {x y : Value} {g : Nat} (h : LpS w a x y g a' W) (o : Obj) : LpS w a x y g a' (W.alloc o) := h.step ((Below.refl _ _).alloc (Nat.le_refl _) _)
theorem LpS.drew {w W : World} {a a' : AH} {x y : Value} {g : Nat} (h : LpS w a x y g a' W) : LpS w a x y g a' W.drew := h.step (bel_drew W)
theorem LpS.grown {w W W' : World} {a a' : AH} {x y : Value} {g : Nat} {r : Option Nat} (h : LpS w a x y g a' W) (hg : W.grownBy W' r) (hr : ∀ b, r = some b → w.heap.size + 3 ≤ b ∧ b < g) : LpS w a x y g a' W' :=
  ⟨h.nd.grown hg (fun b e => (hr b e).1), ⟨(hg.block _ h.kid.lt (fun e => by have := (hr g e.symm).2; omega)).trans h.kid.blk⟩⟩
theorem infoRV : (Tryz.prog.info? 81).map (fun i => (i.zero, i.size, i.bytes)) = some (some (.agg #[.int .u8 0, .int .i64 0, .slice none 0 0, .slice none 0 0, .slice none 0 0]), 5, 88) := by kernel_rfl
set_option maxHeartbeats 8000000 in
theorem found_no {w0 w : World} {S : Nat → Prop} {a : AH} {l : List PA} {p q : Option Addr} {n c m mc : Nat} {env : List BV} {rhos : List Int} (h : ChkIn w0 w S (.node a l) p q n c m mc env rhos) (hu : regionsB a.plain rhos = false) :
    Calls Tryz.prog 63 #[.agg #[.slice p n c, .slice q m mc], aggT a] w (OutC w S (foundP (erE env) rhos a.plain (l.map PA.er))) := by
  have HX := hid (nds_new w a (.slice p n c) (.slice q m mc))
  have HC := hid h
  have HN := hid (nodeA h.lies)
  have hsm : SmallN a := h.small a (by rw [Rose.nodes_node]; exact List.mem_cons_self)
  have HSM := hid hsm
  have hm9 : m ≤ 900000 := by have := h.hm; omega
  have hn9 : n ≤ 900000 := by have := h.hn; omega
  have HOW := hid (LA.below (nodeA h.lies).own (h.old.trans (HX.out.below.mono h.old.size)))
  clear hsm
  have HU := hid hu
  have HR : Hid (foundP (erE env) rhos a.plain (l.map PA.er) = .error (a.at_, 4)) := by
    show _ = _
    unfold foundP
    rw [hu]; rfl
  rw [HR.out]
  clear hu h HR
  go_enter Tryz.func63, Tryz.ntmps63
  go_upto_region 1 with fail
  generalize (((w.alloc (.cells #[.slice p n c, .slice q m mc] 84)).alloc (boxA a)).alloc (.cells #[.int .u8 0, .int .i64 0, .slice none 0 0, .slice none 0 0, .slice none 0 0] 81)) = W1 at *
  go_wp2_with (first
    | (refine wpList_load_row rfl 84 _ rfl w.heap.size rfl 84 _ (0, 0) _ HX.out.b.b0 Tryz.underlying84 rfl (by kernel_rfl) ?_)
    | (refine wpList_load_row rfl 31 _ rfl (w.heap.size + 1) rfl 31 _ (0, 0) _ HX.out.b.b1.blk Tryz.underlying31 rfl (by kernel_rfl) ?_))
  go_at_call 95
  refine (scope_regions_any HOW.out HSM.out p n c (HC.out.rhosA.below HX.out.below) hm9).mono ?_
  rintro e w2 ⟨hr, hb⟩
  rw [HU.out] at hr
  obtain rfl := hr.2 rfl
  exact ⟨rfl, rfl, (HX.out.step hb).below⟩
set_option maxHeartbeats 8000000 in
theorem found_inst {w0 w : World} {S : Nat → Prop} {a : AH} {l : List PA} {p q : Option Addr} {n c m mc : Nat} {env : List BV} {rhos : List Int} (h : ChkIn w0 w S (.node a l) p q n c m mc env rhos) (hu : regionsB a.plain rhos = true) (hk : a.kind = 18) (HI : ∀ W, Below w.heap.size w W → w.heap.size + 3 ≤ W.heap.size → Calls Tryz.prog 97 #[.agg #[.slice p n c, .slice q m mc], aggT a] W (OutC W (Si w S) (instP (erE env) a.plain))) :
    Calls Tryz.prog 63 #[.agg #[.slice p n c, .slice q m mc], aggT a] w (OutC w S (foundP (erE env) rhos a.plain (l.map PA.er))) := by
  have HX := hid (nds_new w a (.slice p n c) (.slice q m mc))
  have HC := hid h
  have HN := hid (nodeA h.lies)
  have hsm : SmallN a := h.small a (by rw [Rose.nodes_node]; exact List.mem_cons_self)
  have HSM := hid hsm
  have hm9 : m ≤ 900000 := by have := h.hm; omega
  have hn9 : n ≤ 900000 := by have := h.hn; omega
  have HOW := hid (LA.below (nodeA h.lies).own (h.old.trans (HX.out.below.mono h.old.size)))
  clear hsm
  have HU := hid hu
  have HII := hid HI
  have HR : Hid (foundP (erE env) rhos a.plain (l.map PA.er) = instP (erE env) a.plain) := by
    show _ = _
    unfold foundP
    rw [hu]
    simp [show a.plain.kind = 18 from hk, mustP]
  rw [HR.out]
  have e2 : (a.kind == 2) = false := by simp [hk]
  have e18 : (a.kind == 18) = true := by simp [hk]
  clear hu h HR HI hk
  revert HII
  generalize instP (erE env) a.plain = R
  intro HII
  go_enter Tryz.func63, Tryz.ntmps63
  go_upto_region 1 with fail
  generalize (((w.alloc (.cells #[.slice p n c, .slice q m mc] 84)).alloc (boxA a)).alloc (.cells #[.int .u8 0, .int .i64 0, .slice none 0 0, .slice none 0 0, .slice none 0 0] 81)) = W1 at *
  go_upto_region 2 with (first
    | (refine wpList_load_row rfl 84 _ rfl w.heap.size rfl 84 _ (0, 0) _ HX.out.b.b0 Tryz.underlying84 rfl (by kernel_rfl) ?_)
    | (refine wpList_load_row rfl 31 _ rfl (w.heap.size + 1) rfl 31 _ (0, 0) _ HX.out.b.b1.blk Tryz.underlying31 rfl (by kernel_rfl) ?_)
    | (go_at_call 95; refine (scope_regions_any HOW.out HSM.out p n c (HC.out.rhosA.below HX.out.below) hm9).mono ?_; rintro e w2 ⟨hr, hb⟩; rw [HU.out] at hr; obtain rfl := hr.1 rfl; have HX2 := hid (HX.out.step hb); clear hr))
  have c0 := HX2.out.b.b1.c 0 _ rfl
  go_upto_region 9 with fail
  clear c0
  clear e2 e18
  rcases R with ⟨r1, r2⟩ | r
  · go_wp2_with (first
      | (refine wpList_load_row rfl 84 _ rfl w.heap.size rfl 84 _ (0, 0) _ HX2.out.b.b0 Tryz.underlying84 rfl (by kernel_rfl) ?_)
      | (refine wpList_load_row rfl 31 _ rfl (w.heap.size + 1) rfl 31 _ (0, 0) _ HX2.out.b.b1.blk Tryz.underlying31 rfl (by kernel_rfl) ?_))
    go_at_call 97
    refine (HII.out _ HX2.out.below HX2.out.size).mono ?_
    rintro e W9 ⟨hr, hb⟩
    subst hr
    exact ⟨rfl, rfl, (HX2.out.step hb).below⟩
  · go_wp2_with (first
      | (refine wpList_load_row rfl 84 _ rfl w.heap.size rfl 84 _ (0, 0) _ HX2.out.b.b0 Tryz.underlying84 rfl (by kernel_rfl) ?_)
      | (refine wpList_load_row rfl 31 _ rfl (w.heap.size + 1) rfl 31 _ (0, 0) _ HX2.out.b.b1.blk Tryz.underlying31 rfl (by kernel_rfl) ?_)
      | (go_at_call 97; refine (HII.out _ HX2.out.below HX2.out.size).mono ?_; rintro e W9 ⟨hr, hb⟩; obtain ⟨y, rfl, hyx, hy⟩ := hr; have HX9 := hid (HX2.out.step hb); have HY := hid hy; have HYX := hid hyx; clear hy hyx HX2)
      | (refine wpList_store_nd rfl _ _ _ rfl HX9.out (cellsRV y) (by rfl) (by rfl) (by kernel_rfl) rfl (by simp [Value.oneCell']) ?_))
    refine bodyPost_ret (results_cell_row rfl _ _ _ _ _ _ _ rfl (HX9.out.heap _) Tryz.underlying81 rfl (by kernel_rfl)) rfl ?_
    exact out_nd HX9.out HC.out.new HY.out HYX.out
set_option maxHeartbeats 8000000 in
theorem found_var {w0 w : World} {S : Nat → Prop} {a : AH} {l : List PA} {p q : Option Addr} {n c m mc : Nat} {env : List BV} {rhos : List Int} (h : ChkIn w0 w S (.node a l) p q n c m mc env rhos) (hu : regionsB a.plain rhos = true) (hk : a.kind = 2) :
    Calls Tryz.prog 63 #[.agg #[.slice p n c, .slice q m mc], aggT a] w (OutC w S (foundP (erE env) rhos a.plain (l.map PA.er))) := by
  have HX := hid (nds_new w a (.slice p n c) (.slice q m mc))
  have HC := hid h
  have HN := hid (nodeA h.lies)
  have hsm : SmallN a := h.small a (by rw [Rose.nodes_node]; exact List.mem_cons_self)
  have HSM := hid hsm
  have hm9 : m ≤ 900000 := by have := h.hm; omega
  have hn9 : n ≤ 900000 := by have := h.hn; omega
  have HOW := hid (LA.below (nodeA h.lies).own (h.old.trans (HX.out.below.mono h.old.size)))
  clear hsm
  have HU := hid hu
  have HR : Hid (foundP (erE env) rhos a.plain (l.map PA.er) = varP (erE env) a.plain) := by
    show _ = _
    unfold foundP
    rw [hu]
    simp [show a.plain.kind = 2 from hk, mustP]
  rw [HR.out]
  have e2 : (a.kind == 2) = true := by simp [hk]
  clear hu h HR hk
  cases hfb : findBV env a.name with
  | none =>
    have HF : Hid (∀ e, FindOut env a.name e → e = .returned (.tuple #[zeroBV, .bool false])) := fun e he => by
      unfold FindOut at he; rw [hfb] at he; exact he
    have HR : Hid (varP (erE env) a.plain = .error (a.at_, 4)) := by
      show _ = _
      unfold varP
      rw [show a.plain.name = a.name from rfl, findBV_er, hfb]; rfl
    rw [HR.out]
    clear HR hfb
    go_enter Tryz.func63, Tryz.ntmps63
    go_upto_region 1 with fail
    generalize (((w.alloc (.cells #[.slice p n c, .slice q m mc] 84)).alloc (boxA a)).alloc (.cells #[.int .u8 0, .int .i64 0, .slice none 0 0, .slice none 0 0, .slice none 0 0] 81)) = W1 at *
    go_upto_region 2 with (first
      | (refine wpList_load_row rfl 84 _ rfl w.heap.size rfl 84 _ (0, 0) _ HX.out.b.b0 Tryz.underlying84 rfl (by kernel_rfl) ?_)
      | (refine wpList_load_row rfl 31 _ rfl (w.heap.size + 1) rfl 31 _ (0, 0) _ HX.out.b.b1.blk Tryz.underlying31 rfl (by kernel_rfl) ?_)
      | (go_at_call 95; refine (scope_regions_any HOW.out HSM.out p n c (HC.out.rhosA.below HX.out.below) hm9).mono ?_; rintro e w2 ⟨hr, hb⟩; rw [HU.out] at hr; obtain rfl := hr.1 rfl; have HX2 := hid (HX.out.step hb); clear hr))
    have c0 := HX2.out.b.b1.c 0 _ rfl
    go_upto_region 4 with fail
    clear c0
    clear e2
    have c4 := HX2.out.b.b1.c 4 _ rfl
    go_upto_region 5 with (first
      | (refine wpList_load_row rfl 84 _ rfl w.heap.size rfl 84 _ (0, 0) _ HX2.out.b.b0 Tryz.underlying84 rfl (by kernel_rfl) ?_)
      | (go_at_call 96; refine (scope_find_any (HC.out.envA.row.below HX2.out.below) (by omega) (.slice q m mc) a.name).mono ?_; rintro e w3 ⟨hf, hb⟩; obtain rfl := HF.out _ hf; have HX3 := hid (HX2.out.step hb); have HAL := hid (heap_alloc_new w3 (.cells #[.string ⟨#[]⟩, .int .u8 0, .int .i64 0, .slice none 0 0, .slice none 0 0, .pointer none] 145)); clear hf hb)
      | (refine wpList_store_row rfl 145 _ _ rfl w3.heap.size #[.string ⟨#[]⟩, .int .u8 0, .int .i64 0, .slice none 0 0, .slice none 0 0, .pointer none] rfl rfl 145 _ HAL.out (by kernel_rfl) rfl (by simp [Value.oneCell']) ?_; rw [World.setRow_alloc_new]))
    clear c4
    have HX4 := hid (HX3.out.alloc (.cells #[.string ⟨#[]⟩, .int .u8 0, .int .i64 0, .slice none 0 0, .slice none 0 0, .pointer none] 145))
    generalize (w3.alloc (.cells #[.string ⟨#[]⟩, .int .u8 0, .int .i64 0, .slice none 0 0, .slice none 0 0, .pointer none] 145)) = W4 at *
    go_wp2_with (first
      | (refine wpList_load_row rfl 31 _ rfl (w.heap.size + 1) rfl 31 _ (0, 0) _ HX4.out.b.b1.blk Tryz.underlying31 rfl (by kernel_rfl) ?_))
    go_at_call 64
    refine (must_no a 4 _).mono ?_
    rintro e w9 ⟨rfl, hb⟩
    exact ⟨rfl, rfl, (HX4.out.step hb).below⟩
  | some b =>
    have HF : Hid (∀ e, FindOut env a.name e → e = .returned (.tuple #[aggBV b, .bool true])) := fun e he => by
      unfold FindOut at he; rw [hfb] at he; exact he
    have hbm : b ∈ env := findBV_mem hfb
    have HBO := hid (HC.out.envA.each b hbm)
    obtain ⟨u, hu⟩ : ∃ u, (b.fn.map (fun x => (⟨x.2, 0, none⟩ : Addr))).isNone = u := ⟨_, rfl⟩
    have HR : Hid (varP (erE env) a.plain = mustP u a.plain 5 (.ok (b.ty.er, []))) := by
      show _ = _
      unfold varP
      rw [show a.plain.name = a.name from rfl, findBV_er, hfb, ← hu]
      show mustP (BV.er b).fn.isNone a.plain 5 _ = _
      unfold BV.er
      cases b.fn <;> rfl
    rw [HR.out]
    clear HR hfb
    go_enter Tryz.func63, Tryz.ntmps63
    go_upto_region 1 with fail
    generalize (((w.alloc (.cells #[.slice p n c, .slice q m mc] 84)).alloc (boxA a)).alloc (.cells #[.int .u8 0, .int .i64 0, .slice none 0 0, .slice none 0 0, .slice none 0 0] 81)) = W1 at *
    go_upto_region 2 with (first
      | (refine wpList_load_row rfl 84 _ rfl w.heap.size rfl 84 _ (0, 0) _ HX.out.b.b0 Tryz.underlying84 rfl (by kernel_rfl) ?_)
      | (refine wpList_load_row rfl 31 _ rfl (w.heap.size + 1) rfl 31 _ (0, 0) _ HX.out.b.b1.blk Tryz.underlying31 rfl (by kernel_rfl) ?_)
      | (go_at_call 95; refine (scope_regions_any HOW.out HSM.out p n c (HC.out.rhosA.below HX.out.below) hm9).mono ?_; rintro e w2 ⟨hr, hb⟩; rw [HU.out] at hr; obtain rfl := hr.1 rfl; have HX2 := hid (HX.out.step hb); clear hr))
    have c0 := HX2.out.b.b1.c 0 _ rfl
    go_upto_region 4 with fail
    clear c0
    clear e2
    have c4 := HX2.out.b.b1.c 4 _ rfl
    go_upto_region 5 with (first
      | (refine wpList_load_row rfl 84 _ rfl w.heap.size rfl 84 _ (0, 0) _ HX2.out.b.b0 Tryz.underlying84 rfl (by kernel_rfl) ?_)
      | (go_at_call 96; refine (scope_find_any (HC.out.envA.row.below HX2.out.below) (by omega) (.slice q m mc) a.name).mono ?_; rintro e w3 ⟨hf, hb⟩; obtain rfl := HF.out _ hf; have HX3 := hid (HX2.out.step hb); have HAL := hid (heap_alloc_new w3 (.cells #[.string ⟨#[]⟩, .int .u8 0, .int .i64 0, .slice none 0 0, .slice none 0 0, .pointer none] 145)); clear hf hb)
      | (refine wpList_store_row rfl 145 _ _ rfl w3.heap.size #[.string b.name, .int .u8 b.ty.head.kind, .int .i64 b.ty.head.rho, .slice b.ty.head.ep b.ty.head.en b.ty.head.ec, .slice b.ty.head.kp b.ty.head.kn b.ty.head.kc, .pointer (b.fn.map (fun x => ⟨x.2, 0, none⟩))] rfl rfl 145 _ HAL.out (by kernel_rfl) rfl (by simp [Value.oneCell']) ?_; rw [World.setRow_alloc_new]))
    clear c4
    have HX4 := hid (HX3.out.alloc (.cells #[.string b.name, .int .u8 b.ty.head.kind, .int .i64 b.ty.head.rho, .slice b.ty.head.ep b.ty.head.en b.ty.head.ec, .slice b.ty.head.kp b.ty.head.kn b.ty.head.kc, .pointer (b.fn.map (fun x => ⟨x.2, 0, none⟩))] 145))
    have HG4 := hid (heap_alloc_new w3 (.cells #[.string b.name, .int .u8 b.ty.head.kind, .int .i64 b.ty.head.rho, .slice b.ty.head.ep b.ty.head.en b.ty.head.ec, .slice b.ty.head.kp b.ty.head.kn b.ty.head.kc, .pointer (b.fn.map (fun x => ⟨x.2, 0, none⟩))] 145))
    obtain ⟨g, hg⟩ : ∃ g, w3.heap.size = g := ⟨_, rfl⟩
    rw [hg] at HG4 ⊢
    generalize (w3.alloc (.cells #[.string b.name, .int .u8 b.ty.head.kind, .int .i64 b.ty.head.rho, .slice b.ty.head.ep b.ty.head.en b.ty.head.ec, .slice b.ty.head.kp b.ty.head.kn b.ty.head.kc, .pointer (b.fn.map (fun x => ⟨x.2, 0, none⟩))] 145)) = W4 at *
    clear hg
    go_upto_region 6 with (first
      | (refine wpList_load_row rfl 31 _ rfl (w.heap.size + 1) rfl 31 _ (0, 0) _ HX4.out.b.b1.blk Tryz.underlying31 rfl (by kernel_rfl) ?_)
      | (go_at_call 64; refine (must_yes a 4 _).mono ?_; rintro e w5 ⟨rfl, hb⟩; have HX5 := hid (HX4.out.step hb); have HG5 := hid ((hb.block _ (Array.getElem?_eq_some_iff.1 HG4.out).1).trans HG4.out); clear hb))
    have g5 : w5.cell? ⟨g, 5, none⟩ = some (.pointer (b.fn.map (fun x => ⟨x.2, 0, none⟩))) := by rw [Lib.cell_of_heap HG5.out]; rfl
    obtain ⟨P, hP⟩ : ∃ P, b.fn.map (fun x => (⟨x.2, 0, none⟩ : Addr)) = P := ⟨_, rfl⟩
    rw [hP] at g5 hu
    cases P with
    | some ad =>
      obtain rfl : u = false := by rw [← hu]; rfl
      go_wp2_with (first
        | (refine wpList_load_row rfl 31 _ rfl (w.heap.size + 1) rfl 31 _ (0, 0) _ HX5.out.b.b1.blk Tryz.underlying31 rfl (by kernel_rfl) ?_))
      go_at_call 64
      refine (must_no a 5 _).mono ?_
      rintro e w9 ⟨rfl, hb⟩
      exact ⟨rfl, rfl, (HX5.out.step hb).below⟩
    | none =>
      obtain rfl : u = true := by rw [← hu]; rfl
      go_upto_region 7 with (first
        | (refine wpList_load_row rfl 31 _ rfl (w.heap.size + 1) rfl 31 _ (0, 0) _ HX5.out.b.b1.blk Tryz.underlying31 rfl (by kernel_rfl) ?_)
        | (go_at_call 64; refine (must_yes a 5 _).mono ?_; rintro e w6 ⟨rfl, hb⟩; have HX6 := hid (HX5.out.step hb); have HG6 := hid ((hb.block _ (Array.getElem?_eq_some_iff.1 HG5.out).1).trans HG5.out); clear hb))
      clear g5 hu hP
      go_wp2_with (first
        | (refine wpList_load_mid rfl 28 _ rfl g 1 rfl [.int .u8 b.ty.head.kind, .int .i64 b.ty.head.rho, .slice b.ty.head.ep b.ty.head.en b.ty.head.ec, .slice b.ty.head.kp b.ty.head.kn b.ty.head.kc] _ (range_mid HG6.out 1 _ (by intro i v hv; match i, hv with | 0, hv => exact hv | 1, hv => exact hv | 2, hv => exact hv | 3, hv => exact hv)) Tryz.underlying28 rfl (by kernel_rfl) ?_)
        | (refine wpList_store_nd rfl _ _ _ rfl HX6.out (cellsRV ⟨b.ty, none, 0, 0, []⟩) (by rfl) (by rfl) (by kernel_rfl) rfl (by simp [Value.oneCell']) ?_))
      refine bodyPost_ret (results_cell_row rfl _ _ _ _ _ _ _ rfl (HX6.out.heap _) Tryz.underlying81 rfl (by kernel_rfl)) rfl ?_
      exact out_nd (y := ⟨b.ty, none, 0, 0, []⟩) HX6.out HC.out.new ⟨LR.lies_below HX6.out.below _ HBO.out.ty, fun x hx => .inl ⟨lies_uses _ HBO.out.ty x hx, HBO.out.uses x hx⟩, IsRow.none _ _ _, fun x hx => (nomatch hx), fun hne => absurd rfl hne⟩ rfl
end
section
open Go.RowKit
theorem bel_setRow {W W' : World} {r : Nat} {cs : Array Value} (h : Below W.heap.size W W') (hr : W.heap.size ≤ r) : Below W.heap.size W (W'.setRow r cs) := h.grown row_set h.size (fun k e => by cases e; exact hr)
abbrev zero4 : Array Value := #[.int .u8 0, .int .i64 0, .slice none 0 0, .slice none 0 0]
abbrev cells4 (y : PT) : Array Value := #[.int .u8 y.head.kind, .int .i64 y.head.rho, .slice y.head.ep y.head.en y.head.ec, .slice y.head.kp y.head.kn y.head.kc]
structure SwT (N B : Nat) (W : World) (g8 g9 : Option Nat) (f t : List Int) (x y : PT) : Prop where
  lies : LR.lies W y
  span : ∀ b ∈ usesR y, b < N ∨ B ≤ b
  ne8 : ∀ b ∈ usesR y, g8 ≠ some b
  ne9 : ∀ b ∈ usesR y, g9 ≠ some b
  er : PT.er y = swapT f t (PT.er x)
theorem SwT.below {N B : Nat} {W W' : World} {g8 g9 : Option Nat} {f t : List Int} {x y : PT} (h : SwT N B W g8 g9 f t x y) (hb : Below W.heap.size W W') : SwT N B W' g8 g9 f t x y := ⟨LR.lies_below hb _ h.lies, h.span, h.ne8, h.ne9, h.er⟩
structure Sw6 (N B : Nat) (W : World) (g8 g9 : Option Nat) (f t : List Int) (x1 x2 : PT) (y1 y2 : Option PT) : Prop where
  size : B ≤ W.heap.size
  old : N ≤ B
  h8 : ∀ g, g8 = some g → B ≤ g ∧ W.heap[g]? = some (.cells zero4 28 (0, 0))
  h9 : ∀ g, g9 = some g → B ≤ g ∧ W.heap[g]? = some (.cells zero4 28 (0, 0))
  ne : ∀ g, g8 = some g → g9 ≠ some g
  t1 : ∀ y, y1 = some y → SwT N B W g8 g9 f t x1 y
  t2 : ∀ y, y2 = some y → SwT N B W g8 g9 f t x2 y
theorem sw6_start {N B : Nat} {W : World} {f t : List Int} {x1 x2 : PT} (h : B ≤ W.heap.size) (hN : N ≤ B) : Sw6 N B W none none f t x1 x2 none none := ⟨h, hN, fun g e => (nomatch e), fun g e => (nomatch e), fun g e => (nomatch e), fun g e => (nomatch e), fun g e => (nomatch e)⟩
theorem lt_heap {W : World} {g : Nat} {o : Obj} (h : W.heap[g]? = some o) : g < W.heap.size := (Array.getElem?_eq_some_iff.1 h).1
section
variable {N B : Nat} {W : World} {g8 g9 : Option Nat} {f t : List Int} {x1 x2 : PT} {y1 y2 : Option PT}
theorem Sw6.alloc8 (h : Sw6 N B W none g9 f t x1 x2 y1 y2) {G : Nat} (hG : G = W.heap.size) : Sw6 N B (W.alloc (.cells zero4 28)) (some G) g9 f t x1 x2 y1 y2 := by
  subst hG
  have hb : Below W.heap.size W (W.alloc (.cells zero4 28)) := (Below.refl _ _).alloc (Nat.le_refl _) _
  refine ⟨Nat.le_trans h.size hb.size, h.old, fun g e => ?_, fun g e => ?_, fun g e e' => ?_, fun y e => ?_, fun y e => ?_⟩
  · cases e; exact ⟨h.size, heap_alloc_new W _⟩
  · exact ⟨(h.h9 g e).1, (hb.block g (lt_heap (h.h9 g e).2)).trans (h.h9 g e).2⟩
  · cases e; exact Nat.lt_irrefl _ (lt_heap (h.h9 _ e').2)
  · have ht := h.t1 y e
    exact ⟨LR.lies_below hb _ ht.lies, ht.span, fun b hb' e' => by cases e'; exact Nat.lt_irrefl _ (lies_uses _ ht.lies _ hb'), ht.ne9, ht.er⟩
  · have ht := h.t2 y e
    exact ⟨LR.lies_below hb _ ht.lies, ht.span, fun b hb' e' => by cases e'; exact Nat.lt_irrefl _ (lies_uses _ ht.lies _ hb'), ht.ne9, ht.er⟩
theorem Sw6.alloc9 (h : Sw6 N B W g8 none f t x1 x2 y1 y2) {G : Nat} (hG : G = W.heap.size) : Sw6 N B (W.alloc (.cells zero4 28)) g8 (some G) f t x1 x2 y1 y2 := by
  subst hG
  have hb : Below W.heap.size W (W.alloc (.cells zero4 28)) := (Below.refl _ _).alloc (Nat.le_refl _) _
  refine ⟨Nat.le_trans h.size hb.size, h.old, fun g e => ?_, fun g e => ?_, fun g e e' => ?_, fun y e => ?_, fun y e => ?_⟩
  · exact ⟨(h.h8 g e).1, (hb.block g (lt_heap (h.h8 g e).2)).trans (h.h8 g e).2⟩
  · cases e; exact ⟨h.size, heap_alloc_new W _⟩
  · cases e'; exact Nat.lt_irrefl _ (lt_heap (h.h8 _ e).2)
  · have ht := h.t1 y e
    exact ⟨LR.lies_below hb _ ht.lies, ht.span, ht.ne8, fun b hb' e' => by cases e'; exact Nat.lt_irrefl _ (lies_uses _ ht.lies _ hb'), ht.er⟩
  · have ht := h.t2 y e
    exact ⟨LR.lies_below hb _ ht.lies, ht.span, ht.ne8, fun b hb' e' => by cases e'; exact Nat.lt_irrefl _ (lies_uses _ ht.lies _ hb'), ht.er⟩
theorem Sw6.step {w' : World} (h : Sw6 N B W g8 g9 f t x1 x2 y1 y2) (hb : Below W.heap.size W w') : Sw6 N B w' g8 g9 f t x1 x2 y1 y2 :=
  ⟨Nat.le_trans h.size hb.size, h.old, fun g e => ⟨(h.h8 g e).1, (hb.block g (lt_heap (h.h8 g e).2)).trans (h.h8 g e).2⟩, fun g e => ⟨(h.h9 g e).1, (hb.block g (lt_heap (h.h9 g e).2)).trans (h.h9 g e).2⟩, h.ne, fun y e => (h.t1 y e).below hb, fun y e => (h.t2 y e).below hb⟩
theorem Sw6.out {w' : World} {x y : PT} (h : Sw6 N B W g8 g9 f t x1 x2 y1 y2) (hl : LR.lies w' y) (hs : SpanR N W.heap.size w'.heap.size y) (he : PT.er y = swapT f t (PT.er x)) : SwT N B w' g8 g9 f t x y :=
  ⟨hl, fun b hb => (span_uses y hs b hb).imp id (Nat.le_trans h.size), fun b hb e => by
    have h1 := h.h8 b e
    have h2 := lt_heap h1.2
    have h3 := h.old
    rcases span_uses y hs b hb with h4 | h4 <;> omega, fun b hb e => by
    have h1 := h.h9 b e
    have h2 := lt_heap h1.2
    have h3 := h.old
    rcases span_uses y hs b hb with h4 | h4 <;> omega, he⟩
theorem Sw6.call1 {w' : World} {y : PT} (h : Sw6 N B W g8 g9 f t x1 x2 none y2) (hb : Below W.heap.size W w') (hl : LR.lies w' y) (hs : SpanR N W.heap.size w'.heap.size y) (he : PT.er y = swapT f t (PT.er x1)) : Sw6 N B w' g8 g9 f t x1 x2 (some y) y2 :=
  have hh := h.step hb
  ⟨hh.size, hh.old, hh.h8, hh.h9, hh.ne, fun z e => by cases e; exact h.out hl hs he, hh.t2⟩
theorem Sw6.call2 {w' : World} {y : PT} (h : Sw6 N B W g8 g9 f t x1 x2 y1 none) (hb : Below W.heap.size W w') (hl : LR.lies w' y) (hs : SpanR N W.heap.size w'.heap.size y) (he : PT.er y = swapT f t (PT.er x2)) : Sw6 N B w' g8 g9 f t x1 x2 y1 (some y) :=
  have hh := h.step hb
  ⟨hh.size, hh.old, hh.h8, hh.h9, hh.ne, hh.t1, fun z e => by cases e; exact h.out hl hs he⟩
end
structure Sw7 (N B : Nat) (W : World) (g8 g9 : Nat) (f t : List Int) (x1 x2 y1 y2 : PT) : Prop where
  h8 : B ≤ g8 ∧ W.heap[g8]? = some (.cells (cells4 y1) 28 (0, 0))
  h9 : B ≤ g9 ∧ W.heap[g9]? = some (.cells (cells4 y2) 28 (0, 0))
  t1 : LR.lies W y1 ∧ (∀ b ∈ usesR y1, b < N ∨ B ≤ b) ∧ PT.er y1 = swapT f t (PT.er x1)
  t2 : LR.lies W y2 ∧ (∀ b ∈ usesR y2, b < N ∨ B ≤ b) ∧ PT.er y2 = swapT f t (PT.er x2)
theorem Sw6.fin {N B : Nat} {W : World} {g8 g9 : Nat} {f t : List Int} {x1 x2 y1 y2 : PT} (h : Sw6 N B W (some g8) (some g9) f t x1 x2 (some y1) (some y2)) : Sw7 N B ((W.setRow g8 (cells4 y1)).setRow g9 (cells4 y2)) g8 g9 f t x1 x2 y1 y2 := by
  have h8 := h.h8 _ rfl
  have h9 := h.h9 _ rfl
  have hne : g8 ≠ g9 := fun e => h.ne g8 rfl (by rw [e])
  have t1 := h.t1 _ rfl
  have t2 := h.t2 _ rfl
  have hl : ∀ x y : PT, SwT N B W (some g8) (some g9) f t x y → LR.lies ((W.setRow g8 (cells4 y1)).setRow g9 (cells4 y2)) y := fun x y ht =>
    lies_grownU row_set y (fun b hb e => ht.ne9 b hb e) (lies_grownU row_set y (fun b hb e => ht.ne8 b hb e) ht.lies)
  exact ⟨⟨h8.1, (setRow_other _ _ _ _ (fun e => hne e)).trans (setRow_heap _ _ _ _ _ _ h8.2)⟩, ⟨h9.1, setRow_heap _ _ _ _ _ _ ((setRow_other _ _ _ _ (fun e => hne e.symm)).trans h9.2)⟩, ⟨hl _ _ t1, t1.span, t1.er⟩, ⟨hl _ _ t2, t2.span, t2.er⟩⟩
theorem Sw7.step {N B : Nat} {W W' : World} {g8 g9 : Nat} {f t : List Int} {x1 x2 y1 y2 : PT} (h : Sw7 N B W g8 g9 f t x1 x2 y1 y2) (hb : Below W.heap.size W W') : Sw7 N B W' g8 g9 f t x1 x2 y1 y2 :=
  ⟨⟨h.h8.1, (hb.block _ (lt_heap h.h8.2)).trans h.h8.2⟩, ⟨h.h9.1, (hb.block _ (lt_heap h.h9.2)).trans h.h9.2⟩, ⟨LR.lies_below hb _ h.t1.1, h.t1.2⟩, ⟨LR.lies_below hb _ h.t2.1, h.t2.2⟩⟩
theorem step_store4 {P : Program} {ops : Array Oper} {o : Oper} {act : Act} {K : Act → World → Prop} {Q : Exit → Act → World → Prop} {E : Prop} (hgd : o.guard = none) (ty : TypeId) (x y : Operand) (ho : o.op = .store ty x y)
    {W : World} {g : Nat} (h : W.heap[g]? = some (.cells zero4 28 (0, 0))) (z : PT) (hx : act.eval x = .pointer (some ⟨g, 0, none⟩)) (hy : act.eval y = .agg (cells4 z)) (hi : (P.info? ty).map (·.size) = some 4)
    (hK : K (act.put o.dst undef) (W.setRow g (cells4 z))) : if Region.wanted o (yielded ops act.tmps) = true then Oper.wp P o act W K Q else E := by
  rw [if_pos (by simp [Region.wanted, hgd])]
  exact wp_store_row ty x y ho g (cells4 z) hx hy 28 zero4 h hi rfl (by simp [Value.oneCell']) hK
structure IsS (w : World) (a : AH) (x y : Value) (g8 g9 : Nat) (y1 y2 : PT) (W : World) : Prop where
  nd : NdS w a x y W
  h8 : w.heap.size + 3 ≤ g8 ∧ W.heap[g8]? = some (.cells (cells4 y1) 28 (0, 0))
  h9 : w.heap.size + 3 ≤ g9 ∧ W.heap[g9]? = some (.cells (cells4 y2) 28 (0, 0))
theorem IsS.step {w W W' : World} {a : AH} {x y : Value} {g8 g9 : Nat} {y1 y2 : PT} (h : IsS w a x y g8 g9 y1 y2 W) (hb : Below W.heap.size W W') : IsS w a x y g8 g9 y1 y2 W' :=
  ⟨h.nd.step hb, ⟨h.h8.1, (hb.block _ (lt_heap h.h8.2)).trans h.h8.2⟩, ⟨h.h9.1, (hb.block _ (lt_heap h.h9.2)).trans h.h9.2⟩⟩
theorem IsS.alloc {w W : World} {a : AH} {x y : Value} {g8 g9 : Nat} {y1 y2 : PT} (h : IsS w a x y g8 g9 y1 y2 W) (o : Obj) : IsS w a x y g8 g9 y1 y2 (W.alloc o) := h.step ((Below.refl _ _).alloc (Nat.le_refl _) _)
theorem IsS.store {w W : World} {a : AH} {x y : Value} {g8 g9 : Nat} {y1 y2 : PT} (h : IsS w a x y g8 g9 y1 y2 W) {cs : Array Value} (hc : cs.size = 5) : IsS w a x y g8 g9 y1 y2 (W.setRow (w.heap.size + 2) cs) :=
  ⟨h.nd.store hc, ⟨h.h8.1, (setRow_other _ _ _ _ (by have := h.h8.1; omega)).trans h.h8.2⟩, ⟨h.h9.1, (setRow_other _ _ _ _ (by have := h.h9.1; omega)).trans h.h9.2⟩⟩
theorem r4 {W : World} {g : Nat} {y : PT} (h : W.heap[g]? = some (.cells (cells4 y) 28 (0, 0))) : W.rangeAt g 0 [.int .u8 y.head.kind, .int .i64 y.head.rho, .slice y.head.ep y.head.en y.head.ec, .slice y.head.kp y.head.kn y.head.kc] := range_heap h _ (by intro i v hv; match i, hv with | 0, hv => exact hv | 1, hv => exact hv | 2, hv => exact hv | 3, hv => exact hv)
set_option maxHeartbeats 16000000 in
theorem inst_none {w0 w : World} {S : Nat → Prop} {a : AH} {l : List PA} {p q : Option Addr} {n c m mc : Nat} {env : List BV} {rhos : List Int} (h : ChkIn w0 w S (.node a l) p q n c m mc env rhos) (hfb : findBV env a.name = none) :
    Calls Tryz.prog 97 #[.agg #[.slice p n c, .slice q m mc], aggT a] w (OutC w S (instP (erE env) a.plain)) := by
  have HX := hid (nds_new w a (.slice p n c) (.slice q m mc))
  have HC := hid h
  have HN := hid (nodeA h.lies)
  have hsm : SmallN a := h.small a (by rw [Rose.nodes_node]; exact List.mem_cons_self)
  have HSM := hid hsm
  have hn9 : n ≤ 900000 := by have := h.hn; omega
  clear hsm h
  have HF : Hid (∀ e, FindOut env a.name e → e = .returned (.tuple #[zeroBV, .bool false])) := fun e he => by
    unfold FindOut at he; rw [hfb] at he; exact he
  have HR : Hid (instP (erE env) a.plain = .error (a.at_, 4)) := by
    show _ = _
    unfold instP
    rw [show a.plain.name = a.name from rfl, findBV_er, hfb]; rfl
  rw [HR.out]
  clear HR hfb
  go_enter Tryz.func97, Tryz.ntmps97
  go_upto_region 1 with fail
  generalize (((w.alloc (.cells #[.slice p n c, .slice q m mc] 84)).alloc (boxA a)).alloc (.cells #[.int .u8 0, .int .i64 0, .slice none 0 0, .slice none 0 0, .slice none 0 0] 81)) = W1 at *
  have c4 := HX.out.b.b1.c 4 _ rfl
  go_upto_region 2 with (first
    | (refine wpList_load_row rfl 84 _ rfl w.heap.size rfl 84 _ (0, 0) _ HX.out.b.b0 Tryz.underlying84 rfl (by kernel_rfl) ?_)
    | (go_at_call 96; refine (scope_find_any (HC.out.envA.row.below HX.out.below) (by omega) (.slice q m mc) a.name).mono ?_; rintro e w3 ⟨hf, hb⟩; obtain rfl := HF.out _ hf; have HX3 := hid (HX.out.step hb); have HAL := hid (heap_alloc_new w3 (.cells #[.string ⟨#[]⟩, .int .u8 0, .int .i64 0, .slice none 0 0, .slice none 0 0, .pointer none] 145)); clear hf hb)
    | (refine wpList_store_row rfl 145 _ _ rfl w3.heap.size #[.string ⟨#[]⟩, .int .u8 0, .int .i64 0, .slice none 0 0, .slice none 0 0, .pointer none] rfl rfl 145 _ HAL.out (by kernel_rfl) rfl (by simp [Value.oneCell']) ?_; rw [World.setRow_alloc_new]))
  clear c4
  have HX4 := hid (HX3.out.alloc (.cells #[.string ⟨#[]⟩, .int .u8 0, .int .i64 0, .slice none 0 0, .slice none 0 0, .pointer none] 145))
  generalize (w3.alloc (.cells #[.string ⟨#[]⟩, .int .u8 0, .int .i64 0, .slice none 0 0, .slice none 0 0, .pointer none] 145)) = W4 at *
  go_wp2_with (first
    | (refine wpList_load_row rfl 31 _ rfl (w.heap.size + 1) rfl 31 _ (0, 0) _ HX4.out.b.b1.blk Tryz.underlying31 rfl (by kernel_rfl) ?_))
  go_at_call 64
  refine (must_no a 4 _).mono ?_
  rintro e w9 ⟨rfl, hb⟩
  exact ⟨rfl, rfl, (HX4.out.step hb).below⟩
set_option maxHeartbeats 16000000 in
theorem inst_nofn {w0 w : World} {S : Nat → Prop} {a : AH} {l : List PA} {p q : Option Addr} {n c m mc : Nat} {env : List BV} {rhos : List Int} (h : ChkIn w0 w S (.node a l) p q n c m mc env rhos) {b : BV} (hfb : findBV env a.name = some b) (hfn : b.fn = none) :
    Calls Tryz.prog 97 #[.agg #[.slice p n c, .slice q m mc], aggT a] w (OutC w S (instP (erE env) a.plain)) := by
  have HX := hid (nds_new w a (.slice p n c) (.slice q m mc))
  have HC := hid h
  have HN := hid (nodeA h.lies)
  have hsm : SmallN a := h.small a (by rw [Rose.nodes_node]; exact List.mem_cons_self)
  have HSM := hid hsm
  have hn9 : n ≤ 900000 := by have := h.hn; omega
  clear hsm h
  have HF : Hid (∀ e, FindOut env a.name e → e = .returned (.tuple #[aggBV b, .bool true])) := fun e he => by
    unfold FindOut at he; rw [hfb] at he; exact he
  have hbm : b ∈ env := findBV_mem hfb
  have HBM := hid hbm
  have HBO := hid (HC.out.envA.each b hbm)
  have HFN := hid hfn
  have HR : Hid (instP (erE env) a.plain = .error (a.at_, 5)) := by
    show _ = _
    unfold instP
    rw [show a.plain.name = a.name from rfl, findBV_er, hfb]
    show (match (BV.er b).fn with | none => _ | some f => _) = _
    unfold BV.er
    rw [hfn]; rfl
  rw [HR.out]
  clear HR hfn
  clear hfb hbm
  go_enter Tryz.func97, Tryz.ntmps97
  go_upto_region 1 with fail
  generalize (((w.alloc (.cells #[.slice p n c, .slice q m mc] 84)).alloc (boxA a)).alloc (.cells #[.int .u8 0, .int .i64 0, .slice none 0 0, .slice none 0 0, .slice none 0 0] 81)) = W1 at *
  have c4 := HX.out.b.b1.c 4 _ rfl
  go_upto_region 2 with (first
    | (refine wpList_load_row rfl 84 _ rfl w.heap.size rfl 84 _ (0, 0) _ HX.out.b.b0 Tryz.underlying84 rfl (by kernel_rfl) ?_)
    | (go_at_call 96; refine (scope_find_any (HC.out.envA.row.below HX.out.below) (by omega) (.slice q m mc) a.name).mono ?_; rintro e w3 ⟨hf, hb⟩; obtain rfl := HF.out _ hf; have HX3 := hid (HX.out.step hb); have HAL := hid (heap_alloc_new w3 (.cells #[.string ⟨#[]⟩, .int .u8 0, .int .i64 0, .slice none 0 0, .slice none 0 0, .pointer none] 145)); clear hf hb)
    | (refine wpList_store_row rfl 145 _ _ rfl w3.heap.size #[.string b.name, .int .u8 b.ty.head.kind, .int .i64 b.ty.head.rho, .slice b.ty.head.ep b.ty.head.en b.ty.head.ec, .slice b.ty.head.kp b.ty.head.kn b.ty.head.kc, .pointer (b.fn.map (fun x => ⟨x.2, 0, none⟩))] rfl rfl 145 _ HAL.out (by kernel_rfl) rfl (by simp [Value.oneCell']) ?_; rw [World.setRow_alloc_new]))
  clear c4
  have HX4 := hid (HX3.out.alloc (.cells #[.string b.name, .int .u8 b.ty.head.kind, .int .i64 b.ty.head.rho, .slice b.ty.head.ep b.ty.head.en b.ty.head.ec, .slice b.ty.head.kp b.ty.head.kn b.ty.head.kc, .pointer (b.fn.map (fun x => ⟨x.2, 0, none⟩))] 145))
  have HG4 := hid (heap_alloc_new w3 (.cells #[.string b.name, .int .u8 b.ty.head.kind, .int .i64 b.ty.head.rho, .slice b.ty.head.ep b.ty.head.en b.ty.head.ec, .slice b.ty.head.kp b.ty.head.kn b.ty.head.kc, .pointer (b.fn.map (fun x => ⟨x.2, 0, none⟩))] 145))
  obtain ⟨g, hg⟩ : ∃ g, w3.heap.size = g := ⟨_, rfl⟩
  rw [hg] at HG4 ⊢
  generalize (w3.alloc (.cells #[.string b.name, .int .u8 b.ty.head.kind, .int .i64 b.ty.head.rho, .slice b.ty.head.ep b.ty.head.en b.ty.head.ec, .slice b.ty.head.kp b.ty.head.kn b.ty.head.kc, .pointer (b.fn.map (fun x => ⟨x.2, 0, none⟩))] 145)) = W4 at *
  clear hg HAL HX3
  go_upto_region 3 with (first
    | (refine wpList_load_row rfl 31 _ rfl (w.heap.size + 1) rfl 31 _ (0, 0) _ HX4.out.b.b1.blk Tryz.underlying31 rfl (by kernel_rfl) ?_)
    | (go_at_call 64; refine (must_yes a 4 _).mono ?_; rintro e w5 ⟨rfl, hb⟩; have HX5 := hid (HX4.out.step hb); have HG5 := hid ((hb.block _ (Array.getElem?_eq_some_iff.1 HG4.out).1).trans HG4.out); clear hb))
  clear HX4 HG4
  have HP5 : Hid (∀ W', Below w5.heap.size w5 W' → W'.cell? ⟨g, 5, none⟩ = some (.pointer none)) := fun W' hb => by
    rw [Lib.cell_of_heap ((hb.block _ (Array.getElem?_eq_some_iff.1 HG5.out).1).trans HG5.out)]
    show some (Value.pointer (b.fn.map _)) = _
    rw [HFN.out]; rfl
  refine wp_region_held_drew (S := fun W' => Below w5.heap.size w5 W') (by kernel_rfl) ?_ (fun hHeld => ?_)
  · exact bel_drew w5
  refine tk (i := 0) (oi := ⟨some 21, _, _, _, _, none⟩) (v := ?_) rfl (Or.inl ⟨by rfl, ?_⟩) ?_
  rotate_left; · intro w h; go_simp; try with_reducible rfl
  try simp only [Act.put, zA, zB, zC]
  refine tk (i := 1) (oi := ⟨some 22, _, _, _, _, none⟩) (v := ?_) rfl (Or.inl ⟨by rfl, ?_⟩) ?_
  rotate_left
  · intro w hSw; (try dsimp only at hSw); have q5 := HP5.out _ hSw; go_simp; try with_reducible rfl
  try simp only [Act.put, zA, zB, zC]
  refine tk (i := 2) (oi := ⟨some 23, _, _, _, _, none⟩) (v := ?_) rfl (Or.inl ⟨by rfl, ?_⟩) ?_
  rotate_left; · intro w h; go_simp; try with_reducible rfl
  try simp only [Act.put, zA, zB, zC]
  refine tk (i := 3) (oi := ⟨some 24, _, _, _, _, none⟩) (v := ?_) rfl (Or.inl ⟨by rfl, ?_⟩) ?_
  rotate_left; · intro w h; go_simp; try with_reducible rfl
  try simp only [Act.put, zA, zB, zC]
  refine tk (i := 4) (oi := ⟨some 25, _, _, _, _, some (3, true)⟩) (v := undef) rfl (Or.inr ⟨by rfl, rfl⟩) ?_
  try simp only [Act.put, zA, zB, zC]
  refine tk (i := 5) (oi := ⟨some 26, _, _, _, _, some (3, true)⟩) (v := undef) rfl (Or.inr ⟨by rfl, rfl⟩) ?_
  try simp only [Act.put, zA, zB, zC]
  refine tk (i := 6) (oi := ⟨some 27, _, _, _, _, some (3, true)⟩) (v := undef) rfl (Or.inr ⟨by rfl, rfl⟩) ?_
  try simp only [Act.put, zA, zB, zC]
  refine tk (i := 7) (oi := ⟨some 28, _, _, _, _, some (3, true)⟩) (v := undef) rfl (Or.inr ⟨by rfl, rfl⟩) ?_
  try simp only [Act.put, zA, zB, zC]
  refine tk (i := 8) (oi := ⟨some 29, _, _, _, _, some (3, true)⟩) (v := undef) rfl (Or.inr ⟨by rfl, rfl⟩) ?_
  try simp only [Act.put, zA, zB, zC]
  refine tk (i := 9) (oi := ⟨some 30, _, _, _, _, some (3, true)⟩) (v := undef) rfl (Or.inr ⟨by rfl, rfl⟩) ?_
  try simp only [Act.put, zA, zB, zC]
  refine tk (i := 10) (oi := ⟨some 31, _, _, _, _, some (3, true)⟩) (v := undef) rfl (Or.inr ⟨by rfl, rfl⟩) ?_
  try simp only [Act.put, zA, zB, zC]
  refine tk (i := 11) (oi := ⟨some 32, _, _, _, _, some (3, true)⟩) (v := undef) rfl (Or.inr ⟨by rfl, rfl⟩) ?_
  try simp only [Act.put, zA, zB, zC]
  refine tk (i := 12) (oi := ⟨some 33, _, _, _, _, some (3, true)⟩) (v := undef) rfl (Or.inr ⟨by rfl, rfl⟩) ?_
  try simp only [Act.put, zA, zB, zC]
  refine tk (i := 13) (oi := ⟨some 34, _, _, _, _, some (3, true)⟩) (v := undef) rfl (Or.inr ⟨by rfl, rfl⟩) ?_
  try simp only [Act.put, zA, zB, zC]
  refine tk (i := 14) (oi := ⟨some 35, _, _, _, _, none⟩) (v := ?_) rfl (Or.inl ⟨by rfl, ?_⟩) ?_
  rotate_left; · intro w h; go_simp; try with_reducible rfl
  try simp only [Act.put, zA, zB, zC]
  refine tk (i := 15) (oi := ⟨some 36, _, _, _, _, none⟩) (v := .agg ([.int .u8 a.kind, .int .u8 a.op, .int .i64 a.at_, .int .i64 a.n, .string a.name, .string a.arg, .string a.exn, .int .i64 a.rho, .slice a.rp a.rn a.rc, .slice a.ep a.en a.ec, .int .u8 a.ty.head.kind, .int .i64 a.ty.head.rho, .slice a.ty.head.ep a.ty.head.en a.ty.head.ec, .slice a.ty.head.kp a.ty.head.kn a.ty.head.kc, .int .u8 a.res.head.kind, .int .i64 a.res.head.rho, .slice a.res.head.ep a.res.head.en a.res.head.ec, .slice a.res.head.kp a.res.head.kn a.res.head.kc, .slice a.kp a.kn a.kc] : List Value).toArray) rfl (yieldsIf_load_mid (by rfl) 31 _ rfl (w.heap.size + 1) 0 rfl _ _ (fun W' hSw => (HX5.out.step hSw).b.b1.range) Tryz.underlying31 rfl (by kernel_rfl)) ?_
  try simp only [Act.put, zA, zB, zC]
  refine wpAnyH_ready (rs := [16]) (by kernel_rfl) (by simp) ?_
  refine AllReadyH.cons (o := ⟨some 37, _, _, _, _, none⟩) rfl (fun K hK => ?_) AllReadyH.nil
  go_simp
  go_at_call 64
  refine (must_no a 5 _).mono ?_
  rintro e w9 ⟨rfl, hb⟩
  exact ⟨rfl, rfl, HX5.out.below.trans ((bel_step hHeld hb).mono HX5.out.below.size)⟩
end
end Go.Proofs.YtkdjnegfnhldpaaGreatDoor
