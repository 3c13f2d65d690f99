/- Part 35: Kj. -/
import Derived.Test.YtkdjnegfnhldpaaGreatDoorH24
import Derived.Test.YtkdjnegfnhldpaaGreatDoorH33
import Derived.Deep.CutRange
import Derived.Test.YtkdjnegfnhldpaaGreatDoorH01
set_option linter.unusedVariables false
set_option maxRecDepth 100000
set_option linter.unusedSimpArgs false
namespace Go.Proofs.YtkdjnegfnhldpaaGreatDoor
open Go.Lib (hid)
section
open Go.RowKit
set_option maxHeartbeats 16000000 in
theorem inst_fn {w0 w : World} {S : Nat → Prop} {a : AH} {l : List PA} {p q : Option Addr} {n c m mc : Nat} {env : List BV} {rhos : List Int} (h : ChkIn w0 w S (.node a l) p q n c m mc env rhos) {b : BV} (hfb : findBV env a.name = some b) {f : AH} {gf : Nat} (hfn : b.fn = some (f, gf)) :
    Calls Tryz.prog 97 #[.agg #[.slice p n c, .slice q m mc], aggT a] w (OutC w S (instP (erE env) a.plain)) := by
  have HX := hid (nds_new w a (.slice p n c) (.slice q m mc))
  have HC := hid h
  have HN := hid (nodeA h.lies)
  have hsm : SmallN a := h.small a (by rw [Rose.nodes_node]; exact List.mem_cons_self)
  have HSM := hid hsm
  have hn9 : n ≤ 900000 := by have := h.hn; omega
  clear hsm h
  have HF : Hid (∀ e, FindOut env a.name e → e = .returned (.tuple #[aggBV b, .bool true])) := fun e he => by
    unfold FindOut at he; rw [hfb] at he; exact he
  have hbm : b ∈ env := findBV_mem hfb
  have HBM := hid hbm
  have HBO := hid (HC.out.envA.each b hbm)
  have HFN := hid hfn
  obtain ⟨hfc, hfo, hfl⟩ := HBO.out.fn f gf hfn
  have hgb : GoodB b.er := (HC.out.genv b.er (List.mem_map_of_mem hbm)).1
  obtain ⟨nf, hgf, _, _⟩ := hgb.fn f.plain (by unfold BV.er; rw [hfn]; rfl)
  have HGF := hid hgf
  have HFO := hid hfo
  have HFC : Hid (∀ W', Below w.heap.size w W' → CellsA W' gf 0 f) := fun W' hb => hfc.below hb hfl
  obtain ⟨u, hu⟩ : ∃ u, decide (f.rhos.length = a.rhos.length) = u := ⟨_, rfl⟩
  obtain ⟨v, hv⟩ : ∃ v, withinB (swL f.rhos a.rhos f.eff) a.eff = v := ⟨_, rfl⟩
  have HU := hid hu
  have HV := hid hv
  have hln : ((f.rn : Int) == (a.rn : Int)) = u := by
    rw [← hu, ← hfo.rhos.len, ← HN.out.own.rhos.len]
    rw [Bool.eq_iff_iff]
    simp only [beq_iff_eq, decide_eq_true_eq]
    exact ⟨fun h => by omega, fun h => by omega⟩
  have HR : Hid (instP (erE env) a.plain = mustP u a.plain 5 (mustP v a.plain 6 (.ok (tyP 4 a.rho a.eff [swapT f.rhos a.rhos (PT.er f.ty), swapT f.rhos a.rhos (PT.er f.res)], effL [aGet f.rho, aPut a.rho])))) := by
    show _ = _
    unfold instP
    rw [show a.plain.name = a.name from rfl, findBV_er, hfb, ← hu, ← hv]
    show (match (BV.er b).fn with | none => _ | some f => _) = _
    unfold BV.er
    rw [hfn]; rfl
  rw [HR.out]
  clear HR hfn hfc hfo hfl hgb hgf hu hv
  clear hfb hbm
  go_enter Tryz.func97, Tryz.ntmps97
  go_upto_region 1 with fail
  generalize (((w.alloc (.cells #[.slice p n c, .slice q m mc] 84)).alloc (boxA a)).alloc (.cells #[.int .u8 0, .int .i64 0, .slice none 0 0, .slice none 0 0, .slice none 0 0] 81)) = W1 at *
  have c4 := HX.out.b.b1.c 4 _ rfl
  go_upto_region 2 with (first
    | (refine wpList_load_row rfl 84 _ rfl w.heap.size rfl 84 _ (0, 0) _ HX.out.b.b0 Tryz.underlying84 rfl (by kernel_rfl) ?_)
    | (go_at_call 96; refine (scope_find_any (HC.out.envA.row.below HX.out.below) (by omega) (.slice q m mc) a.name).mono ?_; rintro e w3 ⟨hf, hb⟩; obtain rfl := HF.out _ hf; have HX3 := hid (HX.out.step hb); have HAL := hid (heap_alloc_new w3 (.cells #[.string ⟨#[]⟩, .int .u8 0, .int .i64 0, .slice none 0 0, .slice none 0 0, .pointer none] 145)); clear hf hb)
    | (refine wpList_store_row rfl 145 _ _ rfl w3.heap.size #[.string b.name, .int .u8 b.ty.head.kind, .int .i64 b.ty.head.rho, .slice b.ty.head.ep b.ty.head.en b.ty.head.ec, .slice b.ty.head.kp b.ty.head.kn b.ty.head.kc, .pointer (b.fn.map (fun x => ⟨x.2, 0, none⟩))] rfl rfl 145 _ HAL.out (by kernel_rfl) rfl (by simp [Value.oneCell']) ?_; rw [World.setRow_alloc_new]))
  clear c4
  have HX4 := hid (HX3.out.alloc (.cells #[.string b.name, .int .u8 b.ty.head.kind, .int .i64 b.ty.head.rho, .slice b.ty.head.ep b.ty.head.en b.ty.head.ec, .slice b.ty.head.kp b.ty.head.kn b.ty.head.kc, .pointer (b.fn.map (fun x => ⟨x.2, 0, none⟩))] 145))
  have HG4 := hid (heap_alloc_new w3 (.cells #[.string b.name, .int .u8 b.ty.head.kind, .int .i64 b.ty.head.rho, .slice b.ty.head.ep b.ty.head.en b.ty.head.ec, .slice b.ty.head.kp b.ty.head.kn b.ty.head.kc, .pointer (b.fn.map (fun x => ⟨x.2, 0, none⟩))] 145))
  obtain ⟨g, hg⟩ : ∃ g, w3.heap.size = g := ⟨_, rfl⟩
  rw [hg] at HG4 ⊢
  generalize (w3.alloc (.cells #[.string b.name, .int .u8 b.ty.head.kind, .int .i64 b.ty.head.rho, .slice b.ty.head.ep b.ty.head.en b.ty.head.ec, .slice b.ty.head.kp b.ty.head.kn b.ty.head.kc, .pointer (b.fn.map (fun x => ⟨x.2, 0, none⟩))] 145)) = W4 at *
  clear hg HAL HX3
  go_upto_region 3 with (first
    | (refine wpList_load_row rfl 31 _ rfl (w.heap.size + 1) rfl 31 _ (0, 0) _ HX4.out.b.b1.blk Tryz.underlying31 rfl (by kernel_rfl) ?_)
    | (go_at_call 64; refine (must_yes a 4 _).mono ?_; rintro e w5 ⟨rfl, hb⟩; have HX5 := hid (HX4.out.step hb); have HG5 := hid ((hb.block _ (Array.getElem?_eq_some_iff.1 HG4.out).1).trans HG4.out); clear hb))
  clear HX4 HG4
  have HP5 : Hid (∀ W', Below w5.heap.size w5 W' → W'.cell? ⟨g, 5, none⟩ = some (.pointer (some ⟨gf, 0, none⟩))) := fun W' hb => by
    rw [Lib.cell_of_heap ((hb.block _ (Array.getElem?_eq_some_iff.1 HG5.out).1).trans HG5.out)]
    show some (Value.pointer (b.fn.map _)) = _
    rw [HFN.out]; rfl
  have HF1 : Hid (∀ W', Below w.heap.size w W' → W'.cell? ⟨gf, 7, none⟩ = some (.int .i64 f.rho)) := fun W' hb => by simpa using (HFC.out W' hb).c 7 _ rfl
  have HF2 : Hid (∀ W', Below w.heap.size w W' → W'.cell? ⟨gf, 8, none⟩ = some (.slice f.rp f.rn f.rc)) := fun W' hb => by simpa using (HFC.out W' hb).c 8 _ rfl
  have HF3 : Hid (∀ W', Below w.heap.size w W' → W'.cell? ⟨gf, 9, none⟩ = some (.slice f.ep f.en f.ec)) := fun W' hb => by simpa using (HFC.out W' hb).c 9 _ rfl
  have HF4 : Hid (∀ W', Below w.heap.size w W' → W'.rangeAt gf 10 [.int .u8 f.ty.head.kind, .int .i64 f.ty.head.rho, .slice f.ty.head.ep f.ty.head.en f.ty.head.ec, .slice f.ty.head.kp f.ty.head.kn f.ty.head.kc]) := fun W' hb j v hj => by
    have h1 := (HFC.out W' hb).c (10 + j) v (by match j, hj with | 0, hj => exact hj | 1, hj => exact hj | 2, hj => exact hj | 3, hj => exact hj)
    rwa [Nat.zero_add] at h1
  have HF5 : Hid (∀ W', Below w.heap.size w W' → W'.rangeAt gf 14 [.int .u8 f.res.head.kind, .int .i64 f.res.head.rho, .slice f.res.head.ep f.res.head.en f.res.head.ec, .slice f.res.head.kp f.res.head.kn f.res.head.kc]) := fun W' hb j v hj => by
    have h1 := (HFC.out W' hb).c (14 + j) v (by match j, hj with | 0, hj => exact hj | 1, hj => exact hj | 2, hj => exact hj | 3, hj => exact hj)
    rwa [Nat.zero_add] at h1
  refine wp_region_held_drew (S := fun W' => Below w5.heap.size w5 W') (by kernel_rfl) ?_ (fun hHeld => ?_)
  · exact bel_drew w5
  refine tk (i := 0) (oi := ⟨some 21, _, _, _, _, none⟩) (v := ?_) rfl (Or.inl ⟨by rfl, ?_⟩) ?_
  rotate_left; · intro w h; go_simp; try with_reducible rfl
  try simp only [Act.put, zA, zB, zC]
  refine tk (i := 1) (oi := ⟨some 22, _, _, _, _, none⟩) (v := ?_) rfl (Or.inl ⟨by rfl, ?_⟩) ?_
  rotate_left
  · intro w hSw; (try dsimp only at hSw); have q5 := HP5.out _ hSw; go_simp; try with_reducible rfl
  try simp only [Act.put, zA, zB, zC]
  refine tk (i := 2) (oi := ⟨some 23, _, _, _, _, none⟩) (v := ?_) rfl (Or.inl ⟨by rfl, ?_⟩) ?_
  rotate_left; · intro w h; go_simp; try with_reducible rfl
  try simp only [Act.put, zA, zB, zC]
  refine tk (i := 3) (oi := ⟨some 24, _, _, _, _, none⟩) (v := ?_) rfl (Or.inl ⟨by rfl, ?_⟩) ?_
  rotate_left; · intro w h; go_simp; try with_reducible rfl
  try simp only [Act.put, zA, zB, zC]
  refine tk (i := 4) (oi := ⟨some 25, _, _, _, _, some (3, true)⟩) (v := ?_) rfl (Or.inl ⟨by rfl, ?_⟩) ?_
  rotate_left; · intro w h; go_simp; try with_reducible rfl
  try simp only [Act.put, zA, zB, zC]
  refine tk (i := 5) (oi := ⟨some 26, _, _, _, _, some (3, true)⟩) (v := ?_) rfl (Or.inl ⟨by rfl, ?_⟩) ?_
  rotate_left
  · intro w hSw; (try dsimp only at hSw); have q5 := HP5.out _ hSw; go_simp; try with_reducible rfl
  try simp only [Act.put, zA, zB, zC]
  refine tk (i := 6) (oi := ⟨some 27, _, _, _, _, some (3, true)⟩) (v := ?_) rfl (Or.inl ⟨by rfl, ?_⟩) ?_
  rotate_left; · intro w h; go_simp; try with_reducible rfl
  try simp only [Act.put, zA, zB, zC]
  refine tk (i := 7) (oi := ⟨some 28, _, _, _, _, some (3, true)⟩) (v := ?_) rfl (Or.inl ⟨by rfl, ?_⟩) ?_
  rotate_left; · intro w h; go_simp; try with_reducible rfl
  try simp only [Act.put, zA, zB, zC]
  refine tk (i := 8) (oi := ⟨some 29, _, _, _, _, some (3, true)⟩) (v := ?_) rfl (Or.inl ⟨by rfl, ?_⟩) ?_
  rotate_left
  · intro w hSw; (try dsimp only at hSw); have q8 := HF2.out _ (HX5.out.step hSw).below; go_simp; try with_reducible rfl
  try simp only [Act.put, zA, zB, zC]
  refine tk (i := 9) (oi := ⟨some 30, _, _, _, _, some (3, true)⟩) (v := ?_) rfl (Or.inl ⟨by rfl, ?_⟩) ?_
  rotate_left; · intro w h; go_simp; try with_reducible rfl
  try simp only [Act.put, zA, zB, zC]
  refine tk (i := 10) (oi := ⟨some 31, _, _, _, _, some (3, true)⟩) (v := ?_) rfl (Or.inl ⟨by rfl, ?_⟩) ?_
  rotate_left; · intro w h; go_simp; try with_reducible rfl
  try simp only [Act.put, zA, zB, zC]
  refine tk (i := 11) (oi := ⟨some 32, _, _, _, _, some (3, true)⟩) (v := ?_) rfl (Or.inl ⟨by rfl, ?_⟩) ?_
  rotate_left
  · intro w hSw; (try dsimp only at hSw); have q8 := (HX5.out.step hSw).b.b1.c 8 _ rfl; go_simp; try with_reducible rfl
  try simp only [Act.put, zA, zB, zC]
  refine tk (i := 12) (oi := ⟨some 33, _, _, _, _, some (3, true)⟩) (v := ?_) rfl (Or.inl ⟨by rfl, ?_⟩) ?_
  rotate_left; · intro w h; go_simp; try with_reducible rfl
  try simp only [Act.put, zA, zB, zC]
  refine tk (i := 13) (oi := ⟨some 34, _, _, _, _, some (3, true)⟩) (v := ?_) rfl (Or.inl ⟨by rfl, ?_⟩) ?_
  rotate_left; · intro w h; go_simp; try with_reducible rfl
  try simp only [Act.put, zA, zB, zC]
  refine tk (i := 14) (oi := ⟨some 35, _, _, _, _, none⟩) (v := ?_) rfl (Or.inl ⟨by rfl, ?_⟩) ?_
  rotate_left; · intro w h; go_simp; try with_reducible rfl
  try simp only [Act.put, zA, zB, zC]
  refine tk (i := 15) (oi := ⟨some 36, _, _, _, _, none⟩) (v := .agg ([.int .u8 a.kind, .int .u8 a.op, .int .i64 a.at_, .int .i64 a.n, .string a.name, .string a.arg, .string a.exn, .int .i64 a.rho, .slice a.rp a.rn a.rc, .slice a.ep a.en a.ec, .int .u8 a.ty.head.kind, .int .i64 a.ty.head.rho, .slice a.ty.head.ep a.ty.head.en a.ty.head.ec, .slice a.ty.head.kp a.ty.head.kn a.ty.head.kc, .int .u8 a.res.head.kind, .int .i64 a.res.head.rho, .slice a.res.head.ep a.res.head.en a.res.head.ec, .slice a.res.head.kp a.res.head.kn a.res.head.kc, .slice a.kp a.kn a.kc] : List Value).toArray) rfl (yieldsIf_load_mid (by rfl) 31 _ rfl (w.heap.size + 1) 0 rfl _ _ (fun W' hSw => (HX5.out.step hSw).b.b1.range) Tryz.underlying31 rfl (by kernel_rfl)) ?_
  try simp only [Act.put, zA, zB, zC]
  refine wpAnyH_ready (rs := [16]) (by kernel_rfl) (by simp) ?_
  refine AllReadyH.cons (o := ⟨some 37, _, _, _, _, none⟩) rfl (fun K hK => ?_) AllReadyH.nil
  go_simp
  cases u
  · go_at_call 64
    refine (must_no a 5 _).mono ?_
    rintro e w9 ⟨rfl, hb⟩
    exact ⟨rfl, rfl, HX5.out.below.trans ((bel_step hHeld hb).mono HX5.out.below.size)⟩
  go_at_call 64
  refine (must_yes a 5 _).mono ?_
  rintro e w9 ⟨rfl, hb⟩
  try go_wp2_with fail
  refine hK.out _ _ ?_ (fun hNew => ?_)
  · (try dsimp only); exact bel_step hHeld hb
  clear hHeld hK K; have hHeld := hNew; clear hNew
  try simp only [Act.put, zA, zB, zC]
  refine wpAnyH_done (by kernel_rfl) ?_ _
  have HX6 := hid (HX5.out.step hHeld)
  have g5 := HP5.out _ hHeld
  have hrn : f.rn ≤ 50 := by
    have h1 : f.rhos.length = a.rhos.length := by simpa using HU.out
    have h2 := HFO.out.rhos.len
    have h3 := HN.out.own.rhos.len
    have h4 := HSM.out.rhos
    omega
  have HRN := hid hrn
  clear hHeld hln
  go_upto_region 5 with fail
  clear g5 hrn
  have hfen : f.en ≤ 100 := by have h1 := HFO.out.eff.len; have h2 := greatB_len HGF.out.gr; have h3 : f.plain.eff = f.eff := rfl; rw [h3] at h2; omega
  have HFE := hid hfen
  have HO6 : Hid (∀ W', Below w9.heap.size w9 W' → AH.Own W' f ∧ AH.Own W' a) := fun W' hb =>
    have h1 := HC.out.old.trans ((HX6.out.step hb).below.mono HC.out.old.size)
    ⟨LA.below HFO.out h1, LA.below HN.out.own h1⟩
  clear hfen
  refine wp_region_held_drew (S := fun W' => Below w9.heap.size w9 W') (by kernel_rfl) ?_ (fun hHeld => ?_)
  · exact bel_drew w9
  refine tk (i := 0) (oi := ⟨some 40, _, _, _, _, none⟩) (v := ?_) rfl (Or.inl ⟨by rfl, ?_⟩) ?_
  rotate_left; · intro w h; go_simp; try with_reducible rfl
  try simp only [Act.put, zA, zB, zC]
  refine tk (i := 1) (oi := ⟨some 41, _, _, _, _, none⟩) (v := ?_) rfl (Or.inl ⟨by rfl, ?_⟩) ?_
  rotate_left; · intro w h; go_simp; try with_reducible rfl
  try simp only [Act.put, zA, zB, zC]
  refine tk (i := 2) (oi := ⟨some 42, _, _, _, _, none⟩) (v := ?_) rfl (Or.inl ⟨by rfl, ?_⟩) ?_
  rotate_left; · intro w h; go_simp; try with_reducible rfl
  try simp only [Act.put, zA, zB, zC]
  refine tk (i := 3) (oi := ⟨some 43, _, _, _, _, none⟩) (v := ?_) rfl (Or.inl ⟨by rfl, ?_⟩) ?_
  rotate_left
  · intro w hSw; (try dsimp only at hSw); have q9 := HF3.out _ (HX6.out.step hSw).below; go_simp; try with_reducible rfl
  try simp only [Act.put, zA, zB, zC]
  refine tk (i := 4) (oi := ⟨some 44, _, _, _, _, none⟩) (v := ?_) rfl (Or.inl ⟨by rfl, ?_⟩) ?_
  rotate_left; · intro w h; go_simp; try with_reducible rfl
  try simp only [Act.put, zA, zB, zC]
  refine tk (i := 5) (oi := ⟨some 45, _, _, _, _, none⟩) (v := ?_) rfl (Or.inl ⟨by rfl, ?_⟩) ?_
  rotate_left; · intro w h; go_simp; try with_reducible rfl
  try simp only [Act.put, zA, zB, zC]
  refine tk (i := 6) (oi := ⟨some 46, _, _, _, _, none⟩) (v := ?_) rfl (Or.inl ⟨by rfl, ?_⟩) ?_
  rotate_left; · intro w h; go_simp; try with_reducible rfl
  try simp only [Act.put, zA, zB, zC]
  refine tk (i := 7) (oi := ⟨some 47, _, _, _, _, none⟩) (v := ?_) rfl (Or.inl ⟨by rfl, ?_⟩) ?_
  rotate_left
  · intro w hSw; (try dsimp only at hSw); have q8 := HF2.out _ (HX6.out.step hSw).below; go_simp; try with_reducible rfl
  try simp only [Act.put, zA, zB, zC]
  refine tk (i := 8) (oi := ⟨some 48, _, _, _, _, none⟩) (v := ?_) rfl (Or.inl ⟨by rfl, ?_⟩) ?_
  rotate_left; · intro w h; go_simp; try with_reducible rfl
  try simp only [Act.put, zA, zB, zC]
  refine tk (i := 9) (oi := ⟨some 49, _, _, _, _, none⟩) (v := ?_) rfl (Or.inl ⟨by rfl, ?_⟩) ?_
  rotate_left
  · intro w hSw; (try dsimp only at hSw); have q8 := (HX6.out.step hSw).b.b1.c 8 _ rfl; go_simp; try with_reducible rfl
  try simp only [Act.put, zA, zB, zC]
  refine tk (i := 11) (oi := ⟨some 51, _, _, _, _, none⟩) (v := ?_) rfl (Or.inl ⟨by rfl, ?_⟩) ?_
  rotate_left; · intro w h; go_simp; try with_reducible rfl
  try simp only [Act.put, zA, zB, zC]
  refine tk (i := 12) (oi := ⟨some 52, _, _, _, _, none⟩) (v := ?_) rfl (Or.inl ⟨by rfl, ?_⟩) ?_
  rotate_left
  · intro w hSw; (try dsimp only at hSw); have q9 := (HX6.out.step hSw).b.b1.c 9 _ rfl; go_simp; try with_reducible rfl
  try simp only [Act.put, zA, zB, zC]
  refine tk (i := 14) (oi := ⟨some 54, _, _, _, _, none⟩) (v := .agg ([.int .u8 a.kind, .int .u8 a.op, .int .i64 a.at_, .int .i64 a.n, .string a.name, .string a.arg, .string a.exn, .int .i64 a.rho, .slice a.rp a.rn a.rc, .slice a.ep a.en a.ec, .int .u8 a.ty.head.kind, .int .i64 a.ty.head.rho, .slice a.ty.head.ep a.ty.head.en a.ty.head.ec, .slice a.ty.head.kp a.ty.head.kn a.ty.head.kc, .int .u8 a.res.head.kind, .int .i64 a.res.head.rho, .slice a.res.head.ep a.res.head.en a.res.head.ec, .slice a.res.head.kp a.res.head.kn a.res.head.kc, .slice a.kp a.kn a.kc] : List Value).toArray) rfl (yieldsIf_load_mid (by rfl) 31 _ rfl (w.heap.size + 1) 0 rfl _ _ (fun W' hSw => (HX6.out.step hSw).b.b1.range) Tryz.underlying31 rfl (by kernel_rfl)) ?_
  try simp only [Act.put, zA, zB, zC]
  refine wpAnyH_ready (rs := [10]) (by kernel_rfl) (by simp) ?_
  refine AllReadyH.cons (o := ⟨some 50, _, _, _, _, none⟩) rfl (fun K hK => ?_) AllReadyH.nil
  go_simp
  go_at_call 66
  refine (effect_Swap_any f.ep f.en f.ec f.eff f.rp f.rn f.rc f.rhos a.rp a.rn a.rc a.rhos _ (HO6.out _ hHeld).1.eff.len (by have := HFE.out; omega) (HO6.out _ hHeld).1.eff.row (HO6.out _ hHeld).1.rhos.len (by have := HRN.out; omega) (HO6.out _ hHeld).1.rhos.row (HO6.out _ hHeld).2.rhos.len (by have := HSM.out.rhos; omega) (HO6.out _ hHeld).2.rhos.row).mono ?_
  rintro e w7 ⟨v7, rfl, ⟨p7, n7, c7, rfl, hl7, hc7, hr7⟩, hb⟩
  have hn7 : n7 ≤ 100 := by have h1 := greatB_len (greatB_swL f.rhos a.rhos (l := f.eff) HGF.out.gr); omega
  have HL7 := hid hl7
  have HR7 := hid hr7
  have HN7 := hid hn7
  clear hl7 hr7 hc7 hn7
  try go_wp2_with fail
  refine hK.out _ _ ?_ (fun hNew => ?_)
  · (try dsimp only); exact bel_step hHeld hb
  clear hHeld hK K; have hHeld := hNew; clear hNew
  try simp only [Act.put, zA, zB, zC]
  refine wpAnyH_ready (rs := [13]) (by kernel_rfl) (by simp) ?_
  refine AllReadyH.cons (o := ⟨some 53, _, _, _, _, none⟩) rfl (fun K hK => ?_) AllReadyH.nil
  go_simp
  go_at_call 135
  refine (effect_Within_any p7 n7 c7 (swL f.rhos a.rhos f.eff) a.ep a.en a.ec a.eff _ HL7.out (by have := HN7.out; omega) HR7.out (HO6.out _ hHeld).2.eff.len (HO6.out _ hHeld).2.eff.max (HO6.out _ hHeld).2.eff.row).mono ?_
  rw [HV.out]
  rintro e w8 ⟨rfl, hb⟩
  try go_wp2_with fail
  refine hK.out _ _ ?_ (fun hNew => ?_)
  · (try dsimp only); exact bel_step hHeld hb
  clear hHeld hK K; have hHeld := hNew; clear hNew
  try simp only [Act.put, zA, zB, zC]
  refine wpAnyH_ready (rs := [15]) (by kernel_rfl) (by simp) ?_
  refine AllReadyH.cons (o := ⟨some 55, _, _, _, _, none⟩) rfl (fun K hK => ?_) AllReadyH.nil
  go_simp
  cases v
  · go_at_call 64
    refine (must_no a 6 _).mono ?_
    rintro e w10 ⟨rfl, hb⟩
    exact ⟨rfl, rfl, HX6.out.below.trans ((bel_step hHeld hb).mono HX6.out.below.size)⟩
  go_at_call 64
  refine (must_yes a 6 _).mono ?_
  rintro e w10 ⟨rfl, hb⟩
  try go_wp2_with fail
  refine hK.out _ _ ?_ (fun hNew => ?_)
  · (try dsimp only); exact bel_step hHeld hb
  clear hHeld hK K; have hHeld := hNew; clear hNew
  try simp only [Act.put, zA, zB, zC]
  refine wpAnyH_done (by kernel_rfl) ?_ _
  have HX7 := hid (HX6.out.step hHeld)
  clear hHeld HO6
  have hsz7 := HX7.out.size
  have hTwo : Two w0 f.rp f.rn f.rc f.rhos a.rp a.rn a.rc a.rhos := ⟨HFO.out.rhos, HN.out.own.rhos, by have := HRN.out; omega, by have := HSM.out.rhos; omega, HN.out.own.rok⟩
  have HSA : Hid (∀ W', Below w10.heap.size w10 W' → SwapAt w0.heap.size f.rp f.rn f.rc f.rhos a.rp a.rn a.rc a.rhos f.ty W') := fun W' hb =>
    swapAt_any hTwo f.ty HFO.out.ty HGF.out.tys.effs (by have h1 := HGF.out.tys.size; rw [show f.plain.ty = PT.er f.ty from rfl, er_size] at h1; omega) W' (HC.out.old.trans ((HX7.out.step hb).below.mono HC.out.old.size))
  have HSB : Hid (∀ W', Below w10.heap.size w10 W' → SwapAt w0.heap.size f.rp f.rn f.rc f.rhos a.rp a.rn a.rc a.rhos f.res W') := fun W' hb =>
    swapAt_any hTwo f.res HFO.out.res HGF.out.ress.effs (by have h1 := HGF.out.ress.size; rw [show f.plain.res = PT.er f.res from rfl, er_size] at h1; omega) W' (HC.out.old.trans ((HX7.out.step hb).below.mono HC.out.old.size))
  have HI0 : Hid (Sw6 w0.heap.size w10.heap.size w10.drew none none f.rhos a.rhos f.ty f.res none none) := sw6_start (Nat.le_refl _) (by have := HC.out.old.size; omega)
  clear hTwo
  go_upto_region 6 with fail
  go_cut [8, 9] from 8 to 77 (fun s8 s9 wx => ∃ (g8 g9 : Nat) (y1 y2 : PT), s8 = .pointer (some ⟨g8, 0, none⟩) ∧ s9 = .pointer (some ⟨g9, 0, none⟩) ∧ Sw7 w0.heap.size w10.heap.size wx g8 g9 f.rhos a.rhos f.ty f.res y1 y2 ∧ NdS w a (.slice p n c) (.slice q m mc) wx)
  case first =>
    refine wp_region_held_drew (S := fun W' => Below w10.heap.size w10 W') (by kernel_rfl) ?_ (fun hHeld => ?_)
    · exact bel_drew w10
    refine tk (i := 0) (oi := ⟨some 56, _, _, _, _, none⟩) (v := ?_) rfl (Or.inl ⟨by rfl, ?_⟩) ?_
    rotate_left; · intro w h; go_simp; try with_reducible rfl
    try simp only [Act.put, zA, zB, zC]
    refine tk (i := 1) (oi := ⟨some 57, _, _, _, _, none⟩) (v := ?_) rfl (Or.inl ⟨by rfl, ?_⟩) ?_
    rotate_left; · intro w h; go_simp; try with_reducible rfl
    try simp only [Act.put, zA, zB, zC]
    refine tk (i := 2) (oi := ⟨some 58, _, _, _, _, none⟩) (v := ?_) rfl (Or.inl ⟨by rfl, ?_⟩) ?_
    rotate_left; · intro w h; go_simp; try with_reducible rfl
    try simp only [Act.put, zA, zB, zC]
    refine tk (i := 3) (oi := ⟨some 59, _, _, _, _, none⟩) (v := .agg ([.int .u8 f.ty.head.kind, .int .i64 f.ty.head.rho, .slice f.ty.head.ep f.ty.head.en f.ty.head.ec, .slice f.ty.head.kp f.ty.head.kn f.ty.head.kc] : List Value).toArray) rfl (yieldsIf_load_mid (by rfl) 28 _ rfl gf 10 rfl _ _ (fun W' hSw => HF4.out _ (HX7.out.step hSw).below) Tryz.underlying28 rfl (by kernel_rfl)) ?_
    try simp only [Act.put, zA, zB, zC]
    refine tk (i := 4) (oi := ⟨some 60, _, _, _, _, none⟩) (v := ?_) rfl (Or.inl ⟨by rfl, ?_⟩) ?_
    rotate_left; · intro w h; go_simp; try with_reducible rfl
    try simp only [Act.put, zA, zB, zC]
    refine tk (i := 5) (oi := ⟨some 61, _, _, _, _, none⟩) (v := ?_) rfl (Or.inl ⟨by rfl, ?_⟩) ?_
    rotate_left; · intro w h; go_simp; try with_reducible rfl
    try simp only [Act.put, zA, zB, zC]
    refine tk (i := 6) (oi := ⟨some 62, _, _, _, _, none⟩) (v := ?_) rfl (Or.inl ⟨by rfl, ?_⟩) ?_
    rotate_left; · intro w h; go_simp; try with_reducible rfl
    try simp only [Act.put, zA, zB, zC]
    refine tk (i := 7) (oi := ⟨some 63, _, _, _, _, none⟩) (v := ?_) rfl (Or.inl ⟨by rfl, ?_⟩) ?_
    rotate_left
    · intro w hSw; (try dsimp only at hSw); have q8 := HF2.out _ (HX7.out.step hSw).below; go_simp; try with_reducible rfl
    try simp only [Act.put, zA, zB, zC]
    refine tk (i := 8) (oi := ⟨some 64, _, _, _, _, none⟩) (v := ?_) rfl (Or.inl ⟨by rfl, ?_⟩) ?_
    rotate_left; · intro w h; go_simp; try with_reducible rfl
    try simp only [Act.put, zA, zB, zC]
    refine tk (i := 9) (oi := ⟨some 65, _, _, _, _, none⟩) (v := ?_) rfl (Or.inl ⟨by rfl, ?_⟩) ?_
    rotate_left
    · intro w hSw; (try dsimp only at hSw); have q8 := (HX7.out.step hSw).b.b1.c 8 _ rfl; go_simp; try with_reducible rfl
    try simp only [Act.put, zA, zB, zC]
    refine tk (i := 11) (oi := ⟨some 67, _, _, _, _, none⟩) (v := ?_) rfl (Or.inl ⟨by rfl, ?_⟩) ?_
    rotate_left; · intro w h; go_simp; try with_reducible rfl
    try simp only [Act.put, zA, zB, zC]
    refine tk (i := 12) (oi := ⟨some 68, _, _, _, _, none⟩) (v := ?_) rfl (Or.inl ⟨by rfl, ?_⟩) ?_
    rotate_left; · intro w h; go_simp; try with_reducible rfl
    try simp only [Act.put, zA, zB, zC]
    refine tk (i := 13) (oi := ⟨some 69, _, _, _, _, none⟩) (v := ?_) rfl (Or.inl ⟨by rfl, ?_⟩) ?_
    rotate_left; · intro w h; go_simp; try with_reducible rfl
    try simp only [Act.put, zA, zB, zC]
    refine tk (i := 14) (oi := ⟨some 70, _, _, _, _, none⟩) (v := .agg ([.int .u8 f.res.head.kind, .int .i64 f.res.head.rho, .slice f.res.head.ep f.res.head.en f.res.head.ec, .slice f.res.head.kp f.res.head.kn f.res.head.kc] : List Value).toArray) rfl (yieldsIf_load_mid (by rfl) 28 _ rfl gf 14 rfl _ _ (fun W' hSw => HF5.out _ (HX7.out.step hSw).below) Tryz.underlying28 rfl (by kernel_rfl)) ?_
    try simp only [Act.put, zA, zB, zC]
    refine tk (i := 15) (oi := ⟨some 71, _, _, _, _, none⟩) (v := ?_) rfl (Or.inl ⟨by rfl, ?_⟩) ?_
    rotate_left; · intro w h; go_simp; try with_reducible rfl
    try simp only [Act.put, zA, zB, zC]
    refine tk (i := 16) (oi := ⟨some 72, _, _, _, _, none⟩) (v := ?_) rfl (Or.inl ⟨by rfl, ?_⟩) ?_
    rotate_left; · intro w h; go_simp; try with_reducible rfl
    try simp only [Act.put, zA, zB, zC]
    refine tk (i := 17) (oi := ⟨some 73, _, _, _, _, none⟩) (v := ?_) rfl (Or.inl ⟨by rfl, ?_⟩) ?_
    rotate_left; · intro w h; go_simp; try with_reducible rfl
    try simp only [Act.put, zA, zB, zC]
    refine tk (i := 18) (oi := ⟨some 74, _, _, _, _, none⟩) (v := ?_) rfl (Or.inl ⟨by rfl, ?_⟩) ?_
    rotate_left
    · intro w hSw; (try dsimp only at hSw); have q8 := HF2.out _ (HX7.out.step hSw).below; go_simp; try with_reducible rfl
    try simp only [Act.put, zA, zB, zC]
    refine tk (i := 19) (oi := ⟨some 75, _, _, _, _, none⟩) (v := ?_) rfl (Or.inl ⟨by rfl, ?_⟩) ?_
    rotate_left; · intro w h; go_simp; try with_reducible rfl
    try simp only [Act.put, zA, zB, zC]
    refine tk (i := 20) (oi := ⟨some 76, _, _, _, _, none⟩) (v := ?_) rfl (Or.inl ⟨by rfl, ?_⟩) ?_
    rotate_left
    · intro w hSw; (try dsimp only at hSw); have q8 := (HX7.out.step hSw).b.b1.c 8 _ rfl; go_simp; try with_reducible rfl
    try simp only [Act.put, zA, zB, zC]
    refine wpAnyH_ready (rs := [10, 22, 23]) (by kernel_rfl) (by simp) ?_
    refine AllReadyH.cons (o := ⟨some 66, _, _, _, _, none⟩) rfl (fun K hK => ?_) (AllReadyH.cons (o := ⟨some 8, _, _, _, _, none⟩) rfl (fun K hK => ?_) (AllReadyH.cons (o := ⟨some 9, _, _, _, _, none⟩) rfl (fun K hK => ?_) AllReadyH.nil))
    · skip
      go_simp
      go_at_call 39
      refine (HSA.out _ hHeld).mono ?_
      rintro e w11 ⟨⟨y1, rfl, hl, hs, he⟩, hb⟩
      have HI1 := hid (HI0.out.call1 hb hl hs he)
      clear hl hs he
      try go_wp2_with fail
      refine hK.out _ _ ?_ (fun hNew => ?_)
      · (try dsimp only); exact bel_step hHeld hb
      clear hHeld hK K; have hHeld := hNew; clear hNew
      try simp only [Act.put, zA, zB, zC]
      refine wpAnyH_ready (rs := [21, 22, 23]) (by kernel_rfl) (by simp) ?_
      refine AllReadyH.cons (o := ⟨some 77, _, _, _, _, none⟩) rfl (fun K hK => ?_) (AllReadyH.cons (o := ⟨some 8, _, _, _, _, none⟩) rfl (fun K hK => ?_) (AllReadyH.cons (o := ⟨some 9, _, _, _, _, none⟩) rfl (fun K hK => ?_) AllReadyH.nil))
      · skip
        go_simp
        go_at_call 39
        refine (HSB.out _ hHeld).mono ?_
        rintro e w12 ⟨⟨y2, rfl, hl, hs, he⟩, hb⟩
        have HI2 := hid (HI1.out.call2 hb hl hs he)
        clear hl hs he
        try go_wp2_with fail
        refine hK.out _ _ ?_ (fun hNew => ?_)
        · (try dsimp only); exact bel_step hHeld hb
        clear hHeld hK K; have hHeld := hNew; clear hNew
        try simp only [Act.put, zA, zB, zC]
        refine wpAnyH_ready (rs := [22, 23]) (by kernel_rfl) (by simp) ?_
        refine AllReadyH.cons (o := ⟨some 8, _, _, _, _, none⟩) rfl (fun K hK => ?_) (AllReadyH.cons (o := ⟨some 9, _, _, _, _, none⟩) rfl (fun K hK => ?_) AllReadyH.nil)
        · skip
          go_simp
          have HI3 := hid (HI2.out.alloc8 (G := w12.heap.size) (by simp))
          refine hK.out _ _ ?_ (fun hNew => ?_)
          · (try dsimp only); exact bel_alloc hHeld _
          clear hHeld hK K; have hHeld := hNew; clear hNew
          try simp only [Act.put, zA, zB, zC]
          refine wpAnyH_ready (rs := [23]) (by kernel_rfl) (by simp) ?_
          refine AllReadyH.cons (o := ⟨some 9, _, _, _, _, none⟩) rfl (fun K hK => ?_) AllReadyH.nil
          go_simp
          have HI4 := hid (HI3.out.alloc9 (G := w12.heap.size + 1) (by simp))
          refine hK.out _ _ ?_ (fun hNew => ?_)
          · (try dsimp only); exact bel_alloc hHeld _
          clear hHeld hK K; have hHeld := hNew; clear hNew
          try simp only [Act.put, zA, zB, zC]
          refine wpAnyH_ready (rs := [24]) (by kernel_rfl) (by simp) ?_
          refine AllReadyH.cons (o := ⟨none, _, _, _, _, none⟩) rfl (fun K hK => ?_) AllReadyH.nil
          refine step_store4 (by rfl) _ _ _ (by rfl) (g := w12.heap.size) (HI4.out.h8 _ rfl).2 y1 (by rfl) (by rfl) (by kernel_rfl) ?_
          refine hK.out _ _ ?_ (fun hNew => ?_)
          · (try dsimp only); exact bel_setRow hHeld (HI4.out.h8 _ rfl).1
          clear hHeld hK K; have hHeld := hNew; clear hNew
          try simp only [Act.put, zA, zB, zC]
          refine wpAnyH_ready (rs := [25]) (by kernel_rfl) (by simp) ?_
          refine AllReadyH.cons (o := ⟨none, _, _, _, _, none⟩) rfl (fun K hK => ?_) AllReadyH.nil
          refine step_store4 (by rfl) _ _ _ (by rfl) (g := w12.heap.size + 1) ((setRow_other _ _ _ _ (fun e => HI4.out.ne _ rfl (congrArg some e))).trans (HI4.out.h9 _ rfl).2) y2 (by rfl) (by rfl) (by kernel_rfl) ?_
          refine hK.out _ _ ?_ (fun hNew => ?_)
          · (try dsimp only); exact bel_setRow hHeld (HI4.out.h9 _ rfl).1
          clear hHeld hK K; have hHeld := hNew; clear hNew
          try simp only [Act.put, zA, zB, zC]
          refine wpAnyH_done (by kernel_rfl) ?_ _
          have HX8 := hid (HX7.out.step hHeld)
          clear hHeld
          go_wp2_with fail
          go_meet
          case rel => exact ⟨w12.heap.size, w12.heap.size + 1, y1, y2, rfl, rfl, HI4.out.fin, HX8.out⟩
        · skip
          go_simp
          have HI3 := hid (HI2.out.alloc9 (G := w12.heap.size) (by simp))
          refine hK.out _ _ ?_ (fun hNew => ?_)
          · (try dsimp only); exact bel_alloc hHeld _
          clear hHeld hK K; have hHeld := hNew; clear hNew
          try simp only [Act.put, zA, zB, zC]
          refine wpAnyH_ready (rs := [22]) (by kernel_rfl) (by simp) ?_
          refine AllReadyH.cons (o := ⟨some 8, _, _, _, _, none⟩) rfl (fun K hK => ?_) AllReadyH.nil
          go_simp
          have HI4 := hid (HI3.out.alloc8 (G := w12.heap.size + 1) (by simp))
          refine hK.out _ _ ?_ (fun hNew => ?_)
          · (try dsimp only); exact bel_alloc hHeld _
          clear hHeld hK K; have hHeld := hNew; clear hNew
          try simp only [Act.put, zA, zB, zC]
          refine wpAnyH_ready (rs := [24]) (by kernel_rfl) (by simp) ?_
          refine AllReadyH.cons (o := ⟨none, _, _, _, _, none⟩) rfl (fun K hK => ?_) AllReadyH.nil
          refine step_store4 (by rfl) _ _ _ (by rfl) (g := w12.heap.size + 1) (HI4.out.h8 _ rfl).2 y1 (by rfl) (by rfl) (by kernel_rfl) ?_
          refine hK.out _ _ ?_ (fun hNew => ?_)
          · (try dsimp only); exact bel_setRow hHeld (HI4.out.h8 _ rfl).1
          clear hHeld hK K; have hHeld := hNew; clear hNew
          try simp only [Act.put, zA, zB, zC]
          refine wpAnyH_ready (rs := [25]) (by kernel_rfl) (by simp) ?_
          refine AllReadyH.cons (o := ⟨none, _, _, _, _, none⟩) rfl (fun K hK => ?_) AllReadyH.nil
          refine step_store4 (by rfl) _ _ _ (by rfl) (g := w12.heap.size) ((setRow_other _ _ _ _ (fun e => HI4.out.ne _ rfl (congrArg some e))).trans (HI4.out.h9 _ rfl).2) y2 (by rfl) (by rfl) (by kernel_rfl) ?_
          refine hK.out _ _ ?_ (fun hNew => ?_)
          · (try dsimp only); exact bel_setRow hHeld (HI4.out.h9 _ rfl).1
          clear hHeld hK K; have hHeld := hNew; clear hNew
          try simp only [Act.put, zA, zB, zC]
          refine wpAnyH_done (by kernel_rfl) ?_ _
          have HX8 := hid (HX7.out.step hHeld)
          clear hHeld
          go_wp2_with fail
          go_meet
          case rel => exact ⟨w12.heap.size + 1, w12.heap.size, y1, y2, rfl, rfl, HI4.out.fin, HX8.out⟩
      · skip
        go_simp
        have HI2 := hid (HI1.out.alloc8 (G := w11.heap.size) (by simp))
        refine hK.out _ _ ?_ (fun hNew => ?_)
        · (try dsimp only); exact bel_alloc hHeld _
        clear hHeld hK K; have hHeld := hNew; clear hNew
        try simp only [Act.put, zA, zB, zC]
        refine wpAnyH_ready (rs := [21, 23]) (by kernel_rfl) (by simp) ?_
        refine AllReadyH.cons (o := ⟨some 77, _, _, _, _, none⟩) rfl (fun K hK => ?_) (AllReadyH.cons (o := ⟨some 9, _, _, _, _, none⟩) rfl (fun K hK => ?_) AllReadyH.nil)
        · skip
          go_simp
          go_at_call 39
          refine (HSB.out _ hHeld).mono ?_
          rintro e w12 ⟨⟨y2, rfl, hl, hs, he⟩, hb⟩
          have HI3 := hid (HI2.out.call2 hb hl hs he)
          clear hl hs he
          try go_wp2_with fail
          refine hK.out _ _ ?_ (fun hNew => ?_)
          · (try dsimp only); exact bel_step hHeld hb
          clear hHeld hK K; have hHeld := hNew; clear hNew
          try simp only [Act.put, zA, zB, zC]
          refine wpAnyH_ready (rs := [23]) (by kernel_rfl) (by simp) ?_
          refine AllReadyH.cons (o := ⟨some 9, _, _, _, _, none⟩) rfl (fun K hK => ?_) AllReadyH.nil
          go_simp
          have HI4 := hid (HI3.out.alloc9 (G := w12.heap.size) (by simp))
          refine hK.out _ _ ?_ (fun hNew => ?_)
          · (try dsimp only); exact bel_alloc hHeld _
          clear hHeld hK K; have hHeld := hNew; clear hNew
          try simp only [Act.put, zA, zB, zC]
          refine wpAnyH_ready (rs := [24]) (by kernel_rfl) (by simp) ?_
          refine AllReadyH.cons (o := ⟨none, _, _, _, _, none⟩) rfl (fun K hK => ?_) AllReadyH.nil
          refine step_store4 (by rfl) _ _ _ (by rfl) (g := w11.heap.size) (HI4.out.h8 _ rfl).2 y1 (by rfl) (by rfl) (by kernel_rfl) ?_
          refine hK.out _ _ ?_ (fun hNew => ?_)
          · (try dsimp only); exact bel_setRow hHeld (HI4.out.h8 _ rfl).1
          clear hHeld hK K; have hHeld := hNew; clear hNew
          try simp only [Act.put, zA, zB, zC]
          refine wpAnyH_ready (rs := [25]) (by kernel_rfl) (by simp) ?_
          refine AllReadyH.cons (o := ⟨none, _, _, _, _, none⟩) rfl (fun K hK => ?_) AllReadyH.nil
          refine step_store4 (by rfl) _ _ _ (by rfl) (g := w12.heap.size) ((setRow_other _ _ _ _ (fun e => HI4.out.ne _ rfl (congrArg some e))).trans (HI4.out.h9 _ rfl).2) y2 (by rfl) (by rfl) (by kernel_rfl) ?_
          refine hK.out _ _ ?_ (fun hNew => ?_)
          · (try dsimp only); exact bel_setRow hHeld (HI4.out.h9 _ rfl).1
          clear hHeld hK K; have hHeld := hNew; clear hNew
          try simp only [Act.put, zA, zB, zC]
          refine wpAnyH_done (by kernel_rfl) ?_ _
          have HX8 := hid (HX7.out.step hHeld)
          clear hHeld
          go_wp2_with fail
          go_meet
          case rel => exact ⟨w11.heap.size, w12.heap.size, y1, y2, rfl, rfl, HI4.out.fin, HX8.out⟩
        · skip
          go_simp
          have HI3 := hid (HI2.out.alloc9 (G := w11.heap.size + 1) (by simp))
          refine hK.out _ _ ?_ (fun hNew => ?_)
          · (try dsimp only); exact bel_alloc hHeld _
          clear hHeld hK K; have hHeld := hNew; clear hNew
          try simp only [Act.put, zA, zB, zC]
          refine wpAnyH_ready (rs := [21]) (by kernel_rfl) (by simp) ?_
          refine AllReadyH.cons (o := ⟨some 77, _, _, _, _, none⟩) rfl (fun K hK => ?_) AllReadyH.nil
          go_simp
          go_at_call 39
          refine (HSB.out _ hHeld).mono ?_
          rintro e w12 ⟨⟨y2, rfl, hl, hs, he⟩, hb⟩
          have HI4 := hid (HI3.out.call2 hb hl hs he)
          clear hl hs he
          try go_wp2_with fail
          refine hK.out _ _ ?_ (fun hNew => ?_)
          · (try dsimp only); exact bel_step hHeld hb
          clear hHeld hK K; have hHeld := hNew; clear hNew
          try simp only [Act.put, zA, zB, zC]
          refine wpAnyH_ready (rs := [24]) (by kernel_rfl) (by simp) ?_
          refine AllReadyH.cons (o := ⟨none, _, _, _, _, none⟩) rfl (fun K hK => ?_) AllReadyH.nil
          refine step_store4 (by rfl) _ _ _ (by rfl) (g := w11.heap.size) (HI4.out.h8 _ rfl).2 y1 (by rfl) (by rfl) (by kernel_rfl) ?_
          refine hK.out _ _ ?_ (fun hNew => ?_)
          · (try dsimp only); exact bel_setRow hHeld (HI4.out.h8 _ rfl).1
          clear hHeld hK K; have hHeld := hNew; clear hNew
          try simp only [Act.put, zA, zB, zC]
          refine wpAnyH_ready (rs := [25]) (by kernel_rfl) (by simp) ?_
          refine AllReadyH.cons (o := ⟨none, _, _, _, _, none⟩) rfl (fun K hK => ?_) AllReadyH.nil
          refine step_store4 (by rfl) _ _ _ (by rfl) (g := w11.heap.size + 1) ((setRow_other _ _ _ _ (fun e => HI4.out.ne _ rfl (congrArg some e))).trans (HI4.out.h9 _ rfl).2) y2 (by rfl) (by rfl) (by kernel_rfl) ?_
          refine hK.out _ _ ?_ (fun hNew => ?_)
          · (try dsimp only); exact bel_setRow hHeld (HI4.out.h9 _ rfl).1
          clear hHeld hK K; have hHeld := hNew; clear hNew
          try simp only [Act.put, zA, zB, zC]
          refine wpAnyH_done (by kernel_rfl) ?_ _
          have HX8 := hid (HX7.out.step hHeld)
          clear hHeld
          go_wp2_with fail
          go_meet
          case rel => exact ⟨w11.heap.size, w11.heap.size + 1, y1, y2, rfl, rfl, HI4.out.fin, HX8.out⟩
      · skip
        go_simp
        have HI2 := hid (HI1.out.alloc9 (G := w11.heap.size) (by simp))
        refine hK.out _ _ ?_ (fun hNew => ?_)
        · (try dsimp only); exact bel_alloc hHeld _
        clear hHeld hK K; have hHeld := hNew; clear hNew
        try simp only [Act.put, zA, zB, zC]
        refine wpAnyH_ready (rs := [21, 22]) (by kernel_rfl) (by simp) ?_
        refine AllReadyH.cons (o := ⟨some 77, _, _, _, _, none⟩) rfl (fun K hK => ?_) (AllReadyH.cons (o := ⟨some 8, _, _, _, _, none⟩) rfl (fun K hK => ?_) AllReadyH.nil)
        · skip
          go_simp
          go_at_call 39
          refine (HSB.out _ hHeld).mono ?_
          rintro e w12 ⟨⟨y2, rfl, hl, hs, he⟩, hb⟩
          have HI3 := hid (HI2.out.call2 hb hl hs he)
          clear hl hs he
          try go_wp2_with fail
          refine hK.out _ _ ?_ (fun hNew => ?_)
          · (try dsimp only); exact bel_step hHeld hb
          clear hHeld hK K; have hHeld := hNew; clear hNew
          try simp only [Act.put, zA, zB, zC]
          refine wpAnyH_ready (rs := [22]) (by kernel_rfl) (by simp) ?_
          refine AllReadyH.cons (o := ⟨some 8, _, _, _, _, none⟩) rfl (fun K hK => ?_) AllReadyH.nil
          go_simp
          have HI4 := hid (HI3.out.alloc8 (G := w12.heap.size) (by simp))
          refine hK.out _ _ ?_ (fun hNew => ?_)
          · (try dsimp only); exact bel_alloc hHeld _
          clear hHeld hK K; have hHeld := hNew; clear hNew
          try simp only [Act.put, zA, zB, zC]
          refine wpAnyH_ready (rs := [24]) (by kernel_rfl) (by simp) ?_
          refine AllReadyH.cons (o := ⟨none, _, _, _, _, none⟩) rfl (fun K hK => ?_) AllReadyH.nil
          refine step_store4 (by rfl) _ _ _ (by rfl) (g := w12.heap.size) (HI4.out.h8 _ rfl).2 y1 (by rfl) (by rfl) (by kernel_rfl) ?_
          refine hK.out _ _ ?_ (fun hNew => ?_)
          · (try dsimp only); exact bel_setRow hHeld (HI4.out.h8 _ rfl).1
          clear hHeld hK K; have hHeld := hNew; clear hNew
          try simp only [Act.put, zA, zB, zC]
          refine wpAnyH_ready (rs := [25]) (by kernel_rfl) (by simp) ?_
          refine AllReadyH.cons (o := ⟨none, _, _, _, _, none⟩) rfl (fun K hK => ?_) AllReadyH.nil
          refine step_store4 (by rfl) _ _ _ (by rfl) (g := w11.heap.size) ((setRow_other _ _ _ _ (fun e => HI4.out.ne _ rfl (congrArg some e))).trans (HI4.out.h9 _ rfl).2) y2 (by rfl) (by rfl) (by kernel_rfl) ?_
          refine hK.out _ _ ?_ (fun hNew => ?_)
          · (try dsimp only); exact bel_setRow hHeld (HI4.out.h9 _ rfl).1
          clear hHeld hK K; have hHeld := hNew; clear hNew
          try simp only [Act.put, zA, zB, zC]
          refine wpAnyH_done (by kernel_rfl) ?_ _
          have HX8 := hid (HX7.out.step hHeld)
          clear hHeld
          go_wp2_with fail
          go_meet
          case rel => exact ⟨w12.heap.size, w11.heap.size, y1, y2, rfl, rfl, HI4.out.fin, HX8.out⟩
        · skip
          go_simp
          have HI3 := hid (HI2.out.alloc8 (G := w11.heap.size + 1) (by simp))
          refine hK.out _ _ ?_ (fun hNew => ?_)
          · (try dsimp only); exact bel_alloc hHeld _
          clear hHeld hK K; have hHeld := hNew; clear hNew
          try simp only [Act.put, zA, zB, zC]
          refine wpAnyH_ready (rs := [21]) (by kernel_rfl) (by simp) ?_
          refine AllReadyH.cons (o := ⟨some 77, _, _, _, _, none⟩) rfl (fun K hK => ?_) AllReadyH.nil
          go_simp
          go_at_call 39
          refine (HSB.out _ hHeld).mono ?_
          rintro e w12 ⟨⟨y2, rfl, hl, hs, he⟩, hb⟩
          have HI4 := hid (HI3.out.call2 hb hl hs he)
          clear hl hs he
          try go_wp2_with fail
          refine hK.out _ _ ?_ (fun hNew => ?_)
          · (try dsimp only); exact bel_step hHeld hb
          clear hHeld hK K; have hHeld := hNew; clear hNew
          try simp only [Act.put, zA, zB, zC]
          refine wpAnyH_ready (rs := [24]) (by kernel_rfl) (by simp) ?_
          refine AllReadyH.cons (o := ⟨none, _, _, _, _, none⟩) rfl (fun K hK => ?_) AllReadyH.nil
          refine step_store4 (by rfl) _ _ _ (by rfl) (g := w11.heap.size + 1) (HI4.out.h8 _ rfl).2 y1 (by rfl) (by rfl) (by kernel_rfl) ?_
          refine hK.out _ _ ?_ (fun hNew => ?_)
          · (try dsimp only); exact bel_setRow hHeld (HI4.out.h8 _ rfl).1
          clear hHeld hK K; have hHeld := hNew; clear hNew
          try simp only [Act.put, zA, zB, zC]
          refine wpAnyH_ready (rs := [25]) (by kernel_rfl) (by simp) ?_
          refine AllReadyH.cons (o := ⟨none, _, _, _, _, none⟩) rfl (fun K hK => ?_) AllReadyH.nil
          refine step_store4 (by rfl) _ _ _ (by rfl) (g := w11.heap.size) ((setRow_other _ _ _ _ (fun e => HI4.out.ne _ rfl (congrArg some e))).trans (HI4.out.h9 _ rfl).2) y2 (by rfl) (by rfl) (by kernel_rfl) ?_
          refine hK.out _ _ ?_ (fun hNew => ?_)
          · (try dsimp only); exact bel_setRow hHeld (HI4.out.h9 _ rfl).1
          clear hHeld hK K; have hHeld := hNew; clear hNew
          try simp only [Act.put, zA, zB, zC]
          refine wpAnyH_done (by kernel_rfl) ?_ _
          have HX8 := hid (HX7.out.step hHeld)
          clear hHeld
          go_wp2_with fail
          go_meet
          case rel => exact ⟨w11.heap.size + 1, w11.heap.size, y1, y2, rfl, rfl, HI4.out.fin, HX8.out⟩
    · skip
      go_simp
      have HI1 := hid (HI0.out.alloc8 (G := w10.heap.size) (by simp))
      refine hK.out _ _ ?_ (fun hNew => ?_)
      · (try dsimp only); exact bel_alloc hHeld _
      clear hHeld hK K; have hHeld := hNew; clear hNew
      try simp only [Act.put, zA, zB, zC]
      refine wpAnyH_ready (rs := [10, 23]) (by kernel_rfl) (by simp) ?_
      refine AllReadyH.cons (o := ⟨some 66, _, _, _, _, none⟩) rfl (fun K hK => ?_) (AllReadyH.cons (o := ⟨some 9, _, _, _, _, none⟩) rfl (fun K hK => ?_) AllReadyH.nil)
      · skip
        go_simp
        go_at_call 39
        refine (HSA.out _ hHeld).mono ?_
        rintro e w11 ⟨⟨y1, rfl, hl, hs, he⟩, hb⟩
        have HI2 := hid (HI1.out.call1 hb hl hs he)
        clear hl hs he
        try go_wp2_with fail
        refine hK.out _ _ ?_ (fun hNew => ?_)
        · (try dsimp only); exact bel_step hHeld hb
        clear hHeld hK K; have hHeld := hNew; clear hNew
        try simp only [Act.put, zA, zB, zC]
        refine wpAnyH_ready (rs := [21, 23]) (by kernel_rfl) (by simp) ?_
        refine AllReadyH.cons (o := ⟨some 77, _, _, _, _, none⟩) rfl (fun K hK => ?_) (AllReadyH.cons (o := ⟨some 9, _, _, _, _, none⟩) rfl (fun K hK => ?_) AllReadyH.nil)
        · skip
          go_simp
          go_at_call 39
          refine (HSB.out _ hHeld).mono ?_
          rintro e w12 ⟨⟨y2, rfl, hl, hs, he⟩, hb⟩
          have HI3 := hid (HI2.out.call2 hb hl hs he)
          clear hl hs he
          try go_wp2_with fail
          refine hK.out _ _ ?_ (fun hNew => ?_)
          · (try dsimp only); exact bel_step hHeld hb
          clear hHeld hK K; have hHeld := hNew; clear hNew
          try simp only [Act.put, zA, zB, zC]
          refine wpAnyH_ready (rs := [23]) (by kernel_rfl) (by simp) ?_
          refine AllReadyH.cons (o := ⟨some 9, _, _, _, _, none⟩) rfl (fun K hK => ?_) AllReadyH.nil
          go_simp
          have HI4 := hid (HI3.out.alloc9 (G := w12.heap.size) (by simp))
          refine hK.out _ _ ?_ (fun hNew => ?_)
          · (try dsimp only); exact bel_alloc hHeld _
          clear hHeld hK K; have hHeld := hNew; clear hNew
          try simp only [Act.put, zA, zB, zC]
          refine wpAnyH_ready (rs := [24]) (by kernel_rfl) (by simp) ?_
          refine AllReadyH.cons (o := ⟨none, _, _, _, _, none⟩) rfl (fun K hK => ?_) AllReadyH.nil
          refine step_store4 (by rfl) _ _ _ (by rfl) (g := w10.heap.size) (HI4.out.h8 _ rfl).2 y1 (by rfl) (by rfl) (by kernel_rfl) ?_
          refine hK.out _ _ ?_ (fun hNew => ?_)
          · (try dsimp only); exact bel_setRow hHeld (HI4.out.h8 _ rfl).1
          clear hHeld hK K; have hHeld := hNew; clear hNew
          try simp only [Act.put, zA, zB, zC]
          refine wpAnyH_ready (rs := [25]) (by kernel_rfl) (by simp) ?_
          refine AllReadyH.cons (o := ⟨none, _, _, _, _, none⟩) rfl (fun K hK => ?_) AllReadyH.nil
          refine step_store4 (by rfl) _ _ _ (by rfl) (g := w12.heap.size) ((setRow_other _ _ _ _ (fun e => HI4.out.ne _ rfl (congrArg some e))).trans (HI4.out.h9 _ rfl).2) y2 (by rfl) (by rfl) (by kernel_rfl) ?_
          refine hK.out _ _ ?_ (fun hNew => ?_)
          · (try dsimp only); exact bel_setRow hHeld (HI4.out.h9 _ rfl).1
          clear hHeld hK K; have hHeld := hNew; clear hNew
          try simp only [Act.put, zA, zB, zC]
          refine wpAnyH_done (by kernel_rfl) ?_ _
          have HX8 := hid (HX7.out.step hHeld)
          clear hHeld
          go_wp2_with fail
          go_meet
          case rel => exact ⟨w10.heap.size, w12.heap.size, y1, y2, rfl, rfl, HI4.out.fin, HX8.out⟩
        · skip
          go_simp
          have HI3 := hid (HI2.out.alloc9 (G := w11.heap.size) (by simp))
          refine hK.out _ _ ?_ (fun hNew => ?_)
          · (try dsimp only); exact bel_alloc hHeld _
          clear hHeld hK K; have hHeld := hNew; clear hNew
          try simp only [Act.put, zA, zB, zC]
          refine wpAnyH_ready (rs := [21]) (by kernel_rfl) (by simp) ?_
          refine AllReadyH.cons (o := ⟨some 77, _, _, _, _, none⟩) rfl (fun K hK => ?_) AllReadyH.nil
          go_simp
          go_at_call 39
          refine (HSB.out _ hHeld).mono ?_
          rintro e w12 ⟨⟨y2, rfl, hl, hs, he⟩, hb⟩
          have HI4 := hid (HI3.out.call2 hb hl hs he)
          clear hl hs he
          try go_wp2_with fail
          refine hK.out _ _ ?_ (fun hNew => ?_)
          · (try dsimp only); exact bel_step hHeld hb
          clear hHeld hK K; have hHeld := hNew; clear hNew
          try simp only [Act.put, zA, zB, zC]
          refine wpAnyH_ready (rs := [24]) (by kernel_rfl) (by simp) ?_
          refine AllReadyH.cons (o := ⟨none, _, _, _, _, none⟩) rfl (fun K hK => ?_) AllReadyH.nil
          refine step_store4 (by rfl) _ _ _ (by rfl) (g := w10.heap.size) (HI4.out.h8 _ rfl).2 y1 (by rfl) (by rfl) (by kernel_rfl) ?_
          refine hK.out _ _ ?_ (fun hNew => ?_)
          · (try dsimp only); exact bel_setRow hHeld (HI4.out.h8 _ rfl).1
          clear hHeld hK K; have hHeld := hNew; clear hNew
          try simp only [Act.put, zA, zB, zC]
          refine wpAnyH_ready (rs := [25]) (by kernel_rfl) (by simp) ?_
          refine AllReadyH.cons (o := ⟨none, _, _, _, _, none⟩) rfl (fun K hK => ?_) AllReadyH.nil
          refine step_store4 (by rfl) _ _ _ (by rfl) (g := w11.heap.size) ((setRow_other _ _ _ _ (fun e => HI4.out.ne _ rfl (congrArg some e))).trans (HI4.out.h9 _ rfl).2) y2 (by rfl) (by rfl) (by kernel_rfl) ?_
          refine hK.out _ _ ?_ (fun hNew => ?_)
          · (try dsimp only); exact bel_setRow hHeld (HI4.out.h9 _ rfl).1
          clear hHeld hK K; have hHeld := hNew; clear hNew
          try simp only [Act.put, zA, zB, zC]
          refine wpAnyH_done (by kernel_rfl) ?_ _
          have HX8 := hid (HX7.out.step hHeld)
          clear hHeld
          go_wp2_with fail
          go_meet
          case rel => exact ⟨w10.heap.size, w11.heap.size, y1, y2, rfl, rfl, HI4.out.fin, HX8.out⟩
      · skip
        go_simp
        have HI2 := hid (HI1.out.alloc9 (G := w10.heap.size + 1) (by simp))
        refine hK.out _ _ ?_ (fun hNew => ?_)
        · (try dsimp only); exact bel_alloc hHeld _
        clear hHeld hK K; have hHeld := hNew; clear hNew
        try simp only [Act.put, zA, zB, zC]
        refine wpAnyH_ready (rs := [10]) (by kernel_rfl) (by simp) ?_
        refine AllReadyH.cons (o := ⟨some 66, _, _, _, _, none⟩) rfl (fun K hK => ?_) AllReadyH.nil
        go_simp
        go_at_call 39
        refine (HSA.out _ hHeld).mono ?_
        rintro e w11 ⟨⟨y1, rfl, hl, hs, he⟩, hb⟩
        have HI3 := hid (HI2.out.call1 hb hl hs he)
        clear hl hs he
        try go_wp2_with fail
        refine hK.out _ _ ?_ (fun hNew => ?_)
        · (try dsimp only); exact bel_step hHeld hb
        clear hHeld hK K; have hHeld := hNew; clear hNew
        try simp only [Act.put, zA, zB, zC]
        refine wpAnyH_ready (rs := [21]) (by kernel_rfl) (by simp) ?_
        refine AllReadyH.cons (o := ⟨some 77, _, _, _, _, none⟩) rfl (fun K hK => ?_) AllReadyH.nil
        go_simp
        go_at_call 39
        refine (HSB.out _ hHeld).mono ?_
        rintro e w12 ⟨⟨y2, rfl, hl, hs, he⟩, hb⟩
        have HI4 := hid (HI3.out.call2 hb hl hs he)
        clear hl hs he
        try go_wp2_with fail
        refine hK.out _ _ ?_ (fun hNew => ?_)
        · (try dsimp only); exact bel_step hHeld hb
        clear hHeld hK K; have hHeld := hNew; clear hNew
        try simp only [Act.put, zA, zB, zC]
        refine wpAnyH_ready (rs := [24]) (by kernel_rfl) (by simp) ?_
        refine AllReadyH.cons (o := ⟨none, _, _, _, _, none⟩) rfl (fun K hK => ?_) AllReadyH.nil
        refine step_store4 (by rfl) _ _ _ (by rfl) (g := w10.heap.size) (HI4.out.h8 _ rfl).2 y1 (by rfl) (by rfl) (by kernel_rfl) ?_
        refine hK.out _ _ ?_ (fun hNew => ?_)
        · (try dsimp only); exact bel_setRow hHeld (HI4.out.h8 _ rfl).1
        clear hHeld hK K; have hHeld := hNew; clear hNew
        try simp only [Act.put, zA, zB, zC]
        refine wpAnyH_ready (rs := [25]) (by kernel_rfl) (by simp) ?_
        refine AllReadyH.cons (o := ⟨none, _, _, _, _, none⟩) rfl (fun K hK => ?_) AllReadyH.nil
        refine step_store4 (by rfl) _ _ _ (by rfl) (g := w10.heap.size + 1) ((setRow_other _ _ _ _ (fun e => HI4.out.ne _ rfl (congrArg some e))).trans (HI4.out.h9 _ rfl).2) y2 (by rfl) (by rfl) (by kernel_rfl) ?_
        refine hK.out _ _ ?_ (fun hNew => ?_)
        · (try dsimp only); exact bel_setRow hHeld (HI4.out.h9 _ rfl).1
        clear hHeld hK K; have hHeld := hNew; clear hNew
        try simp only [Act.put, zA, zB, zC]
        refine wpAnyH_done (by kernel_rfl) ?_ _
        have HX8 := hid (HX7.out.step hHeld)
        clear hHeld
        go_wp2_with fail
        go_meet
        case rel => exact ⟨w10.heap.size, w10.heap.size + 1, y1, y2, rfl, rfl, HI4.out.fin, HX8.out⟩
    · skip
      go_simp
      have HI1 := hid (HI0.out.alloc9 (G := w10.heap.size) (by simp))
      refine hK.out _ _ ?_ (fun hNew => ?_)
      · (try dsimp only); exact bel_alloc hHeld _
      clear hHeld hK K; have hHeld := hNew; clear hNew
      try simp only [Act.put, zA, zB, zC]
      refine wpAnyH_ready (rs := [10, 22]) (by kernel_rfl) (by simp) ?_
      refine AllReadyH.cons (o := ⟨some 66, _, _, _, _, none⟩) rfl (fun K hK => ?_) (AllReadyH.cons (o := ⟨some 8, _, _, _, _, none⟩) rfl (fun K hK => ?_) AllReadyH.nil)
      · skip
        go_simp
        go_at_call 39
        refine (HSA.out _ hHeld).mono ?_
        rintro e w11 ⟨⟨y1, rfl, hl, hs, he⟩, hb⟩
        have HI2 := hid (HI1.out.call1 hb hl hs he)
        clear hl hs he
        try go_wp2_with fail
        refine hK.out _ _ ?_ (fun hNew => ?_)
        · (try dsimp only); exact bel_step hHeld hb
        clear hHeld hK K; have hHeld := hNew; clear hNew
        try simp only [Act.put, zA, zB, zC]
        refine wpAnyH_ready (rs := [21, 22]) (by kernel_rfl) (by simp) ?_
        refine AllReadyH.cons (o := ⟨some 77, _, _, _, _, none⟩) rfl (fun K hK => ?_) (AllReadyH.cons (o := ⟨some 8, _, _, _, _, none⟩) rfl (fun K hK => ?_) AllReadyH.nil)
        · skip
          go_simp
          go_at_call 39
          refine (HSB.out _ hHeld).mono ?_
          rintro e w12 ⟨⟨y2, rfl, hl, hs, he⟩, hb⟩
          have HI3 := hid (HI2.out.call2 hb hl hs he)
          clear hl hs he
          try go_wp2_with fail
          refine hK.out _ _ ?_ (fun hNew => ?_)
          · (try dsimp only); exact bel_step hHeld hb
          clear hHeld hK K; have hHeld := hNew; clear hNew
          try simp only [Act.put, zA, zB, zC]
          refine wpAnyH_ready (rs := [22]) (by kernel_rfl) (by simp) ?_
          refine AllReadyH.cons (o := ⟨some 8, _, _, _, _, none⟩) rfl (fun K hK => ?_) AllReadyH.nil
          go_simp
          have HI4 := hid (HI3.out.alloc8 (G := w12.heap.size) (by simp))
          refine hK.out _ _ ?_ (fun hNew => ?_)
          · (try dsimp only); exact bel_alloc hHeld _
          clear hHeld hK K; have hHeld := hNew; clear hNew
          try simp only [Act.put, zA, zB, zC]
          refine wpAnyH_ready (rs := [24]) (by kernel_rfl) (by simp) ?_
          refine AllReadyH.cons (o := ⟨none, _, _, _, _, none⟩) rfl (fun K hK => ?_) AllReadyH.nil
          refine step_store4 (by rfl) _ _ _ (by rfl) (g := w12.heap.size) (HI4.out.h8 _ rfl).2 y1 (by rfl) (by rfl) (by kernel_rfl) ?_
          refine hK.out _ _ ?_ (fun hNew => ?_)
          · (try dsimp only); exact bel_setRow hHeld (HI4.out.h8 _ rfl).1
          clear hHeld hK K; have hHeld := hNew; clear hNew
          try simp only [Act.put, zA, zB, zC]
          refine wpAnyH_ready (rs := [25]) (by kernel_rfl) (by simp) ?_
          refine AllReadyH.cons (o := ⟨none, _, _, _, _, none⟩) rfl (fun K hK => ?_) AllReadyH.nil
          refine step_store4 (by rfl) _ _ _ (by rfl) (g := w10.heap.size) ((setRow_other _ _ _ _ (fun e => HI4.out.ne _ rfl (congrArg some e))).trans (HI4.out.h9 _ rfl).2) y2 (by rfl) (by rfl) (by kernel_rfl) ?_
          refine hK.out _ _ ?_ (fun hNew => ?_)
          · (try dsimp only); exact bel_setRow hHeld (HI4.out.h9 _ rfl).1
          clear hHeld hK K; have hHeld := hNew; clear hNew
          try simp only [Act.put, zA, zB, zC]
          refine wpAnyH_done (by kernel_rfl) ?_ _
          have HX8 := hid (HX7.out.step hHeld)
          clear hHeld
          go_wp2_with fail
          go_meet
          case rel => exact ⟨w12.heap.size, w10.heap.size, y1, y2, rfl, rfl, HI4.out.fin, HX8.out⟩
        · skip
          go_simp
          have HI3 := hid (HI2.out.alloc8 (G := w11.heap.size) (by simp))
          refine hK.out _ _ ?_ (fun hNew => ?_)
          · (try dsimp only); exact bel_alloc hHeld _
          clear hHeld hK K; have hHeld := hNew; clear hNew
          try simp only [Act.put, zA, zB, zC]
          refine wpAnyH_ready (rs := [21]) (by kernel_rfl) (by simp) ?_
          refine AllReadyH.cons (o := ⟨some 77, _, _, _, _, none⟩) rfl (fun K hK => ?_) AllReadyH.nil
          go_simp
          go_at_call 39
          refine (HSB.out _ hHeld).mono ?_
          rintro e w12 ⟨⟨y2, rfl, hl, hs, he⟩, hb⟩
          have HI4 := hid (HI3.out.call2 hb hl hs he)
          clear hl hs he
          try go_wp2_with fail
          refine hK.out _ _ ?_ (fun hNew => ?_)
          · (try dsimp only); exact bel_step hHeld hb
          clear hHeld hK K; have hHeld := hNew; clear hNew
          try simp only [Act.put, zA, zB, zC]
          refine wpAnyH_ready (rs := [24]) (by kernel_rfl) (by simp) ?_
          refine AllReadyH.cons (o := ⟨none, _, _, _, _, none⟩) rfl (fun K hK => ?_) AllReadyH.nil
          refine step_store4 (by rfl) _ _ _ (by rfl) (g := w11.heap.size) (HI4.out.h8 _ rfl).2 y1 (by rfl) (by rfl) (by kernel_rfl) ?_
          refine hK.out _ _ ?_ (fun hNew => ?_)
          · (try dsimp only); exact bel_setRow hHeld (HI4.out.h8 _ rfl).1
          clear hHeld hK K; have hHeld := hNew; clear hNew
          try simp only [Act.put, zA, zB, zC]
          refine wpAnyH_ready (rs := [25]) (by kernel_rfl) (by simp) ?_
          refine AllReadyH.cons (o := ⟨none, _, _, _, _, none⟩) rfl (fun K hK => ?_) AllReadyH.nil
          refine step_store4 (by rfl) _ _ _ (by rfl) (g := w10.heap.size) ((setRow_other _ _ _ _ (fun e => HI4.out.ne _ rfl (congrArg some e))).trans (HI4.out.h9 _ rfl).2) y2 (by rfl) (by rfl) (by kernel_rfl) ?_
          refine hK.out _ _ ?_ (fun hNew => ?_)
          · (try dsimp only); exact bel_setRow hHeld (HI4.out.h9 _ rfl).1
          clear hHeld hK K; have hHeld := hNew; clear hNew
          try simp only [Act.put, zA, zB, zC]
          refine wpAnyH_done (by kernel_rfl) ?_ _
          have HX8 := hid (HX7.out.step hHeld)
          clear hHeld
          go_wp2_with fail
          go_meet
          case rel => exact ⟨w11.heap.size, w10.heap.size, y1, y2, rfl, rfl, HI4.out.fin, HX8.out⟩
      · skip
        go_simp
        have HI2 := hid (HI1.out.alloc8 (G := w10.heap.size + 1) (by simp))
        refine hK.out _ _ ?_ (fun hNew => ?_)
        · (try dsimp only); exact bel_alloc hHeld _
        clear hHeld hK K; have hHeld := hNew; clear hNew
        try simp only [Act.put, zA, zB, zC]
        refine wpAnyH_ready (rs := [10]) (by kernel_rfl) (by simp) ?_
        refine AllReadyH.cons (o := ⟨some 66, _, _, _, _, none⟩) rfl (fun K hK => ?_) AllReadyH.nil
        go_simp
        go_at_call 39
        refine (HSA.out _ hHeld).mono ?_
        rintro e w11 ⟨⟨y1, rfl, hl, hs, he⟩, hb⟩
        have HI3 := hid (HI2.out.call1 hb hl hs he)
        clear hl hs he
        try go_wp2_with fail
        refine hK.out _ _ ?_ (fun hNew => ?_)
        · (try dsimp only); exact bel_step hHeld hb
        clear hHeld hK K; have hHeld := hNew; clear hNew
        try simp only [Act.put, zA, zB, zC]
        refine wpAnyH_ready (rs := [21]) (by kernel_rfl) (by simp) ?_
        refine AllReadyH.cons (o := ⟨some 77, _, _, _, _, none⟩) rfl (fun K hK => ?_) AllReadyH.nil
        go_simp
        go_at_call 39
        refine (HSB.out _ hHeld).mono ?_
        rintro e w12 ⟨⟨y2, rfl, hl, hs, he⟩, hb⟩
        have HI4 := hid (HI3.out.call2 hb hl hs he)
        clear hl hs he
        try go_wp2_with fail
        refine hK.out _ _ ?_ (fun hNew => ?_)
        · (try dsimp only); exact bel_step hHeld hb
        clear hHeld hK K; have hHeld := hNew; clear hNew
        try simp only [Act.put, zA, zB, zC]
        refine wpAnyH_ready (rs := [24]) (by kernel_rfl) (by simp) ?_
        refine AllReadyH.cons (o := ⟨none, _, _, _, _, none⟩) rfl (fun K hK => ?_) AllReadyH.nil
        refine step_store4 (by rfl) _ _ _ (by rfl) (g := w10.heap.size + 1) (HI4.out.h8 _ rfl).2 y1 (by rfl) (by rfl) (by kernel_rfl) ?_
        refine hK.out _ _ ?_ (fun hNew => ?_)
        · (try dsimp only); exact bel_setRow hHeld (HI4.out.h8 _ rfl).1
        clear hHeld hK K; have hHeld := hNew; clear hNew
        try simp only [Act.put, zA, zB, zC]
        refine wpAnyH_ready (rs := [25]) (by kernel_rfl) (by simp) ?_
        refine AllReadyH.cons (o := ⟨none, _, _, _, _, none⟩) rfl (fun K hK => ?_) AllReadyH.nil
        refine step_store4 (by rfl) _ _ _ (by rfl) (g := w10.heap.size) ((setRow_other _ _ _ _ (fun e => HI4.out.ne _ rfl (congrArg some e))).trans (HI4.out.h9 _ rfl).2) y2 (by rfl) (by rfl) (by kernel_rfl) ?_
        refine hK.out _ _ ?_ (fun hNew => ?_)
        · (try dsimp only); exact bel_setRow hHeld (HI4.out.h9 _ rfl).1
        clear hHeld hK K; have hHeld := hNew; clear hNew
        try simp only [Act.put, zA, zB, zC]
        refine wpAnyH_done (by kernel_rfl) ?_ _
        have HX8 := hid (HX7.out.step hHeld)
        clear hHeld
        go_wp2_with fail
        go_meet
        case rel => exact ⟨w10.heap.size + 1, w10.heap.size, y1, y2, rfl, rfl, HI4.out.fin, HX8.out⟩
  case rest =>
    obtain ⟨g8, g9, y1, y2, rfl, rfl, h7, hx⟩ := hcut
    have HS7 := hid h7
    have HI7 : Hid (IsS w a (.slice p n c) (.slice q m mc) g8 g9 y1 y2 wc) := ⟨hx, ⟨Nat.le_trans hsz7 h7.h8.1, h7.h8.2⟩, ⟨Nat.le_trans hsz7 h7.h9.1, h7.h9.2⟩⟩
    clear h7 hx
    go_upto_region 7 with fail
    refine wp_region_held_drew (S := fun W' => IsS w a (.slice p n c) (.slice q m mc) g8 g9 y1 y2 W') (by kernel_rfl) ?_ (fun hHeld => ?_)
    · exact HI7.out.step (bel_drew wc)
    refine tk (i := 0) (oi := ⟨some 78, _, _, _, _, none⟩) (v := ?_) rfl (Or.inl ⟨by rfl, ?_⟩) ?_
    rotate_left; · intro w h; go_simp; try with_reducible rfl
    try simp only [Act.put, zA, zB, zC]
    refine tk (i := 1) (oi := ⟨some 79, _, _, _, _, none⟩) (v := ?_) rfl (Or.inl ⟨by rfl, ?_⟩) ?_
    rotate_left
    · intro w hSw; (try dsimp only at hSw); have q7 := hSw.nd.b.b1.c 7 _ rfl; go_simp; try with_reducible rfl
    try simp only [Act.put, zA, zB, zC]
    refine tk (i := 2) (oi := ⟨some 80, _, _, _, _, none⟩) (v := ?_) rfl (Or.inl ⟨by rfl, ?_⟩) ?_
    rotate_left; · intro w h; go_simp; try with_reducible rfl
    try simp only [Act.put, zA, zB, zC]
    refine tk (i := 3) (oi := ⟨some 81, _, _, _, _, none⟩) (v := ?_) rfl (Or.inl ⟨by rfl, ?_⟩) ?_
    rotate_left
    · intro w hSw; (try dsimp only at hSw); have q9 := hSw.nd.b.b1.c 9 _ rfl; go_simp; try with_reducible rfl
    try simp only [Act.put, zA, zB, zC]
    refine tk (i := 4) (oi := ⟨some 82, _, _, _, _, none⟩) (v := .agg ([.int .u8 y1.head.kind, .int .i64 y1.head.rho, .slice y1.head.ep y1.head.en y1.head.ec, .slice y1.head.kp y1.head.kn y1.head.kc] : List Value).toArray) rfl (yieldsIf_load_mid (by rfl) 28 _ rfl g8 0 rfl _ _ (fun W' hSw => r4 hSw.h8.2) Tryz.underlying28 rfl (by kernel_rfl)) ?_
    try simp only [Act.put, zA, zB, zC]
    refine tk (i := 5) (oi := ⟨some 83, _, _, _, _, none⟩) (v := .agg ([.int .u8 y2.head.kind, .int .i64 y2.head.rho, .slice y2.head.ep y2.head.en y2.head.ec, .slice y2.head.kp y2.head.kn y2.head.kc] : List Value).toArray) rfl (yieldsIf_load_mid (by rfl) 28 _ rfl g9 0 rfl _ _ (fun W' hSw => r4 hSw.h9.2) Tryz.underlying28 rfl (by kernel_rfl)) ?_
    try simp only [Act.put, zA, zB, zC]
    refine tk (i := 8) (oi := ⟨some 86, _, _, _, _, none⟩) (v := ?_) rfl (Or.inl ⟨by rfl, ?_⟩) ?_
    rotate_left; · intro w h; go_simp; try with_reducible rfl
    try simp only [Act.put, zA, zB, zC]
    refine tk (i := 9) (oi := ⟨some 87, _, _, _, _, none⟩) (v := ?_) rfl (Or.inl ⟨by rfl, ?_⟩) ?_
    rotate_left; · intro w h; go_simp; try with_reducible rfl
    try simp only [Act.put, zA, zB, zC]
    refine tk (i := 10) (oi := ⟨some 88, _, _, _, _, none⟩) (v := ?_) rfl (Or.inl ⟨by rfl, ?_⟩) ?_
    rotate_left; · intro w h; go_simp; try with_reducible rfl
    try simp only [Act.put, zA, zB, zC]
    refine tk (i := 11) (oi := ⟨some 89, _, _, _, _, none⟩) (v := ?_) rfl (Or.inl ⟨by rfl, ?_⟩) ?_
    rotate_left
    · intro w hSw; (try dsimp only at hSw); have q7 := HF1.out _ hSw.nd.below; go_simp; try with_reducible rfl
    try simp only [Act.put, zA, zB, zC]
    refine tk (i := 13) (oi := ⟨some 91, _, _, _, _, none⟩) (v := ?_) rfl (Or.inl ⟨by rfl, ?_⟩) ?_
    rotate_left; · intro w h; go_simp; try with_reducible rfl
    try simp only [Act.put, zA, zB, zC]
    refine tk (i := 14) (oi := ⟨some 92, _, _, _, _, none⟩) (v := ?_) rfl (Or.inl ⟨by rfl, ?_⟩) ?_
    rotate_left
    · intro w hSw; (try dsimp only at hSw); have q7 := hSw.nd.b.b1.c 7 _ rfl; go_simp; try with_reducible rfl
    try simp only [Act.put, zA, zB, zC]
    refine wpAnyH_ready (rs := [6]) (by kernel_rfl) (by simp) ?_
    refine AllReadyH.cons (o := ⟨some 84, _, _, _, _, none⟩) rfl (fun K hK => ?_) AllReadyH.nil
    go_simp
    refine hK.out _ _ ?_ (fun hNew => ?_)
    · (try dsimp only); exact hHeld.alloc _
    clear hHeld hK K; have hHeld := hNew; clear hNew
    try simp only [Act.put, zA, zB, zC]
    refine wpAnyH_ready (rs := [7]) (by kernel_rfl) (by simp) ?_
    refine AllReadyH.cons (o := ⟨some 85, _, _, _, _, none⟩) rfl (fun K hK => ?_) AllReadyH.nil
    go_simp
    have hsz := hHeld.nd.size
    go_at_call 136
    refine (check_of_any 4 a.rho ((LA.below HN.out.own (HC.out.old.trans (hHeld.nd.below.mono HC.out.old.size))).eff) (by have h1 := HN.out.own.eff.len; have h2 := greatB_len HSM.out.eff; omega) (some ⟨wc.heap.size, 0, none⟩) 2 2).mono ?_
    rintro e w2 ⟨q2, m2, c2, rfl, hrow, hfar, hb⟩
    have HR2 := hid hrow
    have HF2 : Hid (∀ ad, q2 = some ad → w.heap.size + 3 ≤ ad.block) := fun ad hp => Nat.le_trans hsz (hfar ad hp)
    have HT2 : Hid (RowT w2 (some ⟨wc.heap.size, 0, none⟩) 2 2 [y1, y2]) := ((rowT_two HS7.out.t1.1 HS7.out.t2.1 28).below (bel_drew _)).below hb
    clear hrow hfar hsz
    try go_wp2_with fail
    refine hK.out _ _ ?_ (fun hNew => ?_)
    · (try dsimp only); exact hHeld.step hb
    clear hHeld hK K; have hHeld := hNew; clear hNew
    try simp only [Act.put, zA, zB, zC]
    refine wpAnyH_ready (rs := [12]) (by kernel_rfl) (by simp) ?_
    refine AllReadyH.cons (o := ⟨some 90, _, _, _, _, none⟩) rfl (fun K hK => ?_) AllReadyH.nil
    go_simp
    go_at_call 137
    refine (check_get_any f.rho _).mono ?_
    rintro e w3 ⟨rfl, hb⟩
    have HB3 := hid hb
    try go_wp2_with fail
    refine hK.out _ _ ?_ (fun hNew => ?_)
    · (try dsimp only); exact hHeld.step hb
    clear hHeld hK K; have hHeld := hNew; clear hNew
    try simp only [Act.put, zA, zB, zC]
    refine wpAnyH_ready (rs := [15]) (by kernel_rfl) (by simp) ?_
    refine AllReadyH.cons (o := ⟨some 93, _, _, _, _, none⟩) rfl (fun K hK => ?_) AllReadyH.nil
    go_simp
    go_at_call 138
    refine (check_put_any a.rho _).mono ?_
    rintro e w4 ⟨rfl, hb⟩
    have HB4 := hid hb
    try go_wp2_with fail
    refine hK.out _ _ ?_ (fun hNew => ?_)
    · (try dsimp only); exact hHeld.step hb
    clear hHeld hK K; have hHeld := hNew; clear hNew
    try simp only [Act.put, zA, zB, zC]
    refine wpAnyH_ready (rs := [16]) (by kernel_rfl) (by simp) ?_
    refine AllReadyH.cons (o := ⟨some 94, _, _, _, _, none⟩) rfl (fun K hK => ?_) AllReadyH.nil
    go_simp
    refine hK.out _ _ ?_ (fun hNew => ?_)
    · (try dsimp only); exact hHeld.alloc _
    clear hHeld hK K; have hHeld := hNew; clear hNew
    try simp only [Act.put, zA, zB, zC]
    refine wpAnyH_ready (rs := [17]) (by kernel_rfl) (by simp) ?_
    refine AllReadyH.cons (o := ⟨some 95, _, _, _, _, none⟩) rfl (fun K hK => ?_) AllReadyH.nil
    go_simp
    have hsz := hHeld.nd.size
    go_at_call 100
    refine (effect_Of_any _ 2 2 [aGet f.rho, aPut a.rho] _ rfl (by decide) (row_made encA_len (by omega) w4 59 [aGet f.rho, aPut a.rho] 2 _ rfl rfl (by decide)).row).mono ?_
    rintro e w6 ⟨v6, k6, rfl, _, hown6, hb⟩
    obtain ⟨q6, c6, rfl, hrow6⟩ := OwnE.isRow encA_len (by omega) hown6
    have hfar6 := (fun ad hp => Nat.le_trans hsz (by subst hp; exact OwnE.from hown6 ad.block rfl) : ∀ ad, q6 = some ad → w.heap.size + 3 ≤ ad.block)
    have HR6 : Hid (IsRow encA 3 w6 q6 k6 c6 (effL [aGet f.rho, aPut a.rho])) := hrow6
    have HF6 := hid hfar6
    have HB6 := hid hb
    clear hown6 hrow6 hfar6 hsz
    try go_wp2_with fail
    refine hK.out _ _ ?_ (fun hNew => ?_)
    · (try dsimp only); exact hHeld.step hb
    clear hHeld hK K; have hHeld := hNew; clear hNew
    try simp only [Act.put, zA, zB, zC]
    refine tk (i := 18) (oi := ⟨some 96, _, _, _, _, none⟩) (v := ?_) rfl (Or.inl ⟨by rfl, ?_⟩) ?_
    rotate_left; · intro w h; go_simp; try with_reducible rfl
    try simp only [Act.put, zA, zB, zC]
    refine wpAnyH_ready (rs := [19]) (by kernel_rfl) (by simp) ?_
    refine AllReadyH.cons (o := ⟨none, _, _, _, _, none⟩) rfl (fun K hK => ?_) AllReadyH.nil
    have HX9 := hid hHeld
    refine step_store_nd rfl _ _ _ (by rfl) hHeld.nd #[.int .u8 4, .int .i64 a.rho, .slice q2 m2 c2, .slice (some ⟨wc.heap.size, 0, none⟩) 2 2, .slice q6 k6 c6] (by rfl) (by rfl) (by kernel_rfl) rfl (by simp [Value.oneCell']) ?_
    refine hK.out _ _ ?_ (fun hNew => ?_)
    · (try dsimp only); exact hHeld.store rfl
    clear hHeld hK K; have hHeld := hNew; clear hNew
    try simp only [Act.put, zA, zB, zC]
    refine wpAnyH_done (by kernel_rfl) ?_ _
    clear hHeld
    go_wp2_with fail
    refine bodyPost_ret (results_cell_row rfl _ _ _ _ _ _ _ rfl (HX9.out.nd.heap _) Tryz.underlying81 rfl (by kernel_rfl)) rfl ?_
    have hown := HN.out.own
    have hfo := HFO.out
    have hb46 : Below w2.heap.size w2 w6 := bel_step (bel_alloc (bel_step HB3.out HB4.out) _) HB6.out
    refine out_nd (y := ⟨.node ⟨4, a.rho, q2, m2, c2, effL a.eff, some ⟨wc.heap.size, 0, none⟩, 2, 2⟩ [y1, y2], q6, k6, c6, effL [aGet f.rho, aPut a.rho]⟩) HX9.out.nd HC.out.new ⟨pair_lies (by decide) hown.rho (HR2.out.below hb46) (fun z hz => hown.eok z ((mem_effL _ _).1 hz).1) (HT2.out.below hb46), ?_, HR6.out, (fun z hz => ?_), fun _ ad hp => .inr (HF6.out ad hp)⟩ ?_
    · have hN := HC.out.old.size
      have hS := HC.out.s0
      refine pair_uses (fun z hz => ?_) (fun z hz => ?_) (.inr (by have := HI7.out.nd.size; omega)) (fun _ ad hp => .inr (HF2.out ad hp))
      · rcases HS7.out.t1.2.1 z hz with h1 | h1
        · exact .inl ⟨by omega, hS z h1⟩
        · exact .inr (by omega)
      · rcases HS7.out.t2.2.1 z hz with h1 | h1
        · exact .inl ⟨by omega, hS z h1⟩
        · exact .inr (by omega)
    · have h1 := ((mem_effL _ _).1 hz).1
      simp only [List.mem_cons, List.not_mem_nil, or_false] at h1
      rcases h1 with rfl | rfl
      · exact okAt_get hfo.rho.1 hfo.rho.2
      · exact okAt_put hown.rho.1 hown.rho.2
    · show (PT.er _, _) = _
      rw [PT.er_node]
      show (Rose.node _ [PT.er y1, PT.er y2], _) = _
      rw [HS7.out.t1.2.2, HS7.out.t2.2.2]; rfl
theorem scope_inst_any {w0 w : World} {S : Nat → Prop} {a : AH} {l : List PA} {p q : Option Addr} {n c m mc : Nat} {env : List BV} {rhos : List Int} (h : ChkIn w0 w S (.node a l) p q n c m mc env rhos) :
    Calls Tryz.prog 97 #[.agg #[.slice p n c, .slice q m mc], aggT a] w (OutC w S (instP (erE env) a.plain)) := by
  cases hfb : findBV env a.name with
  | none => exact inst_none h hfb
  | some b =>
    cases hfn : b.fn with
    | none => exact inst_nofn h hfb hfn
    | some f => exact inst_fn h hfb hfn
end
end Go.Proofs.YtkdjnegfnhldpaaGreatDoor
