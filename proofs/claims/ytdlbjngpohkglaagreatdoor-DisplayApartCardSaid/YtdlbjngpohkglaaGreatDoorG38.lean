/- Part 38 of the texts: Uk, Sa1, Sa2. -/
import Derived.Test.YtdlbjngpohkglaaGreatDoorG35
import Derived.Test.YtdlbjngpohkglaaGreatDoorG37
import Derived.Deep.RegionHeld3
section
set_option linter.unusedVariables false
set_option maxRecDepth 100000
set_option linter.unusedSimpArgs false
namespace Go.Proofs.YtdlbjngpohkglaaGreatDoor
open Go.RowKit Go.Sort Go.Lib

theorem keyT_pieces (x : PA) : ∀ y : PA, keyT x = keyT y → piecesT x = piecesT y := by
  refine Rose.ind (P := fun (x : PA) => ∀ y : PA, keyT x = keyT y → piecesT x = piecesT y) (fun a l ih y h => ?_) x
  obtain ⟨b, m⟩ := y
  rw [keyT_node, keyT_node, Rose.node.injEq] at h
  obtain ⟨h1, h2⟩ := h
  have hk : l.map piecesT = m.map piecesT := by
    have hl : l.length = m.length := by simpa using congrArg List.length h2
    apply List.ext_getElem?
    intro j
    rw [List.getElem?_map, List.getElem?_map]
    have h3 := congrArg (fun z => z[j]?) h2
    simp only [List.getElem?_map] at h3
    cases hx : l[j]? with
    | none =>
      cases hy : m[j]? with
      | none => rfl
      | some y => rw [hx, hy] at h3; cases h3
    | some x =>
      cases hy : m[j]? with
      | none => rw [hx, hy] at h3; cases h3
      | some y =>
        rw [hx, hy] at h3
        simp only [Option.map_some, Option.some.injEq] at h3 ⊢
        exact ih x (List.mem_of_getElem? hx) y h3
  rw [piecesT_node, piecesT_node, hk]
  unfold KH.put AH.kh at h1
  simp only [KH.mk.injEq] at h1
  obtain ⟨e1, e2, _, e3, e4, e5, e6, e7, e8, e9, e10, e11⟩ := h1
  unfold nodeP innerP binderP rhosP effP typedP atP
  rw [e1, e2, e3, e4, e5, e6, e7, e8, e9, e10, e11]
theorem W_eq_spl (t : PA) : W t = spl (textOf t) := (spl_joinW _ (piecesT_ne' t)).symm
theorem text_key {x y : PA} (gx : Good x) (gy : Good y) : textOf x = textOf y ↔ keyT x = keyT y := by
  constructor
  · intro h
    refine (W_inj x y [] [] gx gy ?_).1
    rw [W_eq_spl, W_eq_spl, h]
  · intro h
    unfold textOf
    rw [keyT_pieces x y h]
theorem same_map {α β : Type} (f : α → β) (r : β → β → Bool) (x : Rose α) : ∀ y : Rose α, Rose.same (fun a b => r (f a) (f b)) x y = Rose.same r (Rose.map f x) (Rose.map f y) := by
  refine Rose.ind (P := fun (x : Rose α) => ∀ y : Rose α, Rose.same (fun a b => r (f a) (f b)) x y = Rose.same r (Rose.map f x) (Rose.map f y)) (fun a l ih y => ?_) x
  obtain ⟨b, m⟩ := y
  rw [Rose.same_node, Rose.map_node, Rose.map_node, Rose.same_node]
  congr 1
  have key : ∀ l m : List (Rose α), (∀ x ∈ l, ∀ y, Rose.same (fun a b => r (f a) (f b)) x y = Rose.same r (Rose.map f x) (Rose.map f y)) → Rose.sameL (fun a b => r (f a) (f b)) l m = Rose.sameL r (l.map (Rose.map f)) (m.map (Rose.map f)) := by
    intro l m h
    rw [Bool.eq_iff_iff, Rose.sameL_get, Rose.sameL_get, List.length_map, List.length_map]
    constructor
    · rintro ⟨h1, h2⟩
      refine ⟨h1, fun j t u ht hu => ?_⟩
      rw [List.getElem?_map] at ht hu
      obtain ⟨x, hx, rfl⟩ := Option.map_eq_some_iff.1 ht
      obtain ⟨y, hy, rfl⟩ := Option.map_eq_some_iff.1 hu
      rw [← h x (List.mem_of_getElem? hx)]
      exact h2 j x y hx hy
    · rintro ⟨h1, h2⟩
      refine ⟨h1, fun j x y hx hy => ?_⟩
      rw [h x (List.mem_of_getElem? hx)]
      exact h2 j _ _ (by rw [List.getElem?_map, hx]; rfl) (by rw [List.getElem?_map, hy]; rfl)
  exact key l m ih
/-- a relation of trees that is equality where the nodes are good -/
theorem same_iff {β : Type} {r : β → β → Bool} {G : β → Prop} (hr : ∀ a b, G a → G b → (r a b = true ↔ a = b)) (x : Rose β) : ∀ y : Rose β, (∀ a ∈ x.nodes, G a) → (∀ a ∈ y.nodes, G a) → (Rose.same r x y = true ↔ x = y) := by
  refine Rose.ind (P := fun (x : Rose β) => ∀ y : Rose β, (∀ a ∈ x.nodes, G a) → (∀ a ∈ y.nodes, G a) → (Rose.same r x y = true ↔ x = y)) (fun a l ih y hx hy => ?_) x
  obtain ⟨b, m⟩ := y
  have ha := hx a (by rw [Rose.nodes_node]; simp)
  have hb := hy b (by rw [Rose.nodes_node]; simp)
  have hl : ∀ t ∈ l, ∀ z ∈ t.nodes, G z := fun t ht z hz => hx z (by rw [Rose.nodes_node]; exact List.mem_cons_of_mem _ (List.mem_flatten.2 ⟨_, List.mem_map_of_mem ht, hz⟩))
  have hm : ∀ t ∈ m, ∀ z ∈ t.nodes, G z := fun t ht z hz => hy z (by rw [Rose.nodes_node]; exact List.mem_cons_of_mem _ (List.mem_flatten.2 ⟨_, List.mem_map_of_mem ht, hz⟩))
  rw [Rose.same_node, Bool.and_eq_true, hr a b ha hb, Rose.node.injEq]
  refine and_congr Iff.rfl ?_
  rw [Rose.sameL_get]
  constructor
  · rintro ⟨h1, h2⟩
    apply List.ext_getElem?
    intro j
    cases hxj : l[j]? with
    | none =>
      have : m.length ≤ j := by have := List.getElem?_eq_none_iff.1 hxj; omega
      rw [List.getElem?_eq_none this]
    | some t =>
      obtain ⟨u, hu⟩ := get_of_lt (l := m) (j := j) (by have := (List.getElem?_eq_some_iff.1 hxj).1; omega)
      rw [hu, (ih t (List.mem_of_getElem? hxj) u (hl t (List.mem_of_getElem? hxj)) (hm u (List.mem_of_getElem? hu))).1 (h2 j t u hxj hu)]
  · rintro rfl
    refine ⟨rfl, fun j t u ht hu => ?_⟩
    rw [ht] at hu
    cases hu
    exact (ih t (List.mem_of_getElem? ht) t (hl t (List.mem_of_getElem? ht)) (hl t (List.mem_of_getElem? ht))).2 rfl
theorem sameH_iff {a b : LH} (ha : mayB a.eff = true) (hb : mayB b.eff = true) : sameH a b = true ↔ a = b := by
  unfold sameH
  rw [Bool.and_eq_true, Bool.and_eq_true, may_within ha hb, decide_eq_true_eq, decide_eq_true_eq]
  obtain ⟨k, r, e⟩ := a
  obtain ⟨k', r', e'⟩ := b
  simp only [LH.mk.injEq]
  exact ⟨fun ⟨⟨h1, h2⟩, h3⟩ => ⟨h1, h2, h3⟩, fun ⟨h1, h2, h3⟩ => ⟨⟨h1, h2⟩, h3⟩⟩
theorem mayT_effs (t : RT) : mayT t = true → ∀ a ∈ t.nodes, mayB a.eff = true := by
  refine Rose.ind (P := fun (t : RT) => mayT t = true → ∀ a ∈ t.nodes, mayB a.eff = true) (fun a l ih h => ?_) t
  obtain ⟨h1, h2⟩ := may_kinds h
  intro x hx
  rw [Rose.nodes_node, List.mem_cons] at hx
  rcases hx with rfl | hx
  · rcases h2 with ⟨_, _, e, _⟩ | ⟨_, _, e, _⟩ | ⟨_, _, e, _⟩ | ⟨_, _, e, _⟩
    · rw [e]; rfl
    · rw [e]; rfl
    · rw [e]; rfl
    · exact e
  · obtain ⟨m, hm, hx⟩ := List.mem_flatten.1 hx
    obtain ⟨t, ht, rfl⟩ := List.mem_map.1 hm
    exact ih t ht (h1 t ht) x hx
/-- what a good node's key is -/
structure KG (k : KH) : Prop where
  eff : mayB k.eff = true
  ty : ∀ a ∈ k.ty.nodes, mayB a.eff = true
  res : ∀ a ∈ k.res.nodes, mayB a.eff = true
theorem leaf_effs : ∀ a ∈ (Rose.node (⟨0, 0, []⟩ : LH) []).nodes, mayB a.eff = true := by
  intro a ha
  rw [Rose.nodes_node] at ha
  simp at ha
  rw [ha]; rfl
theorem AOk.kg {a : AH} (h : AOk a) : KG a.kh.put := by
  refine ⟨h.ok.eff, ?_, ?_⟩
  · show ∀ x ∈ a.ty.er.nodes, mayB x.eff = true
    cases hq : inB [11, 13, 15] a.kind
    · rw [h.ht (h.ok.ty0 hq)]; exact leaf_effs
    · exact mayT_effs _ (h.ok.ty hq)
  · show ∀ x ∈ a.res.er.nodes, mayB x.eff = true
    by_cases hq : a.kind = 13
    · exact mayT_effs _ (h.ok.res hq)
    · rw [h.hs (h.ok.res0 hq)]; exact leaf_effs
theorem hdB_iff (x y : KH) : hdB x y = true ↔ x.kind = y.kind ∧ x.op = y.op ∧ x.at_ = y.at_ ∧ x.n = y.n ∧ x.name = y.name ∧ x.arg = y.arg ∧ x.exn = y.exn := by
  have ht : ∀ s t : ByteArray, s.toList = t.toList ↔ s = t := fun s t => ⟨toList_inj, fun h => by rw [h]⟩
  unfold hdB
  simp only [Bool.and_eq_true, beq_iff_eq, ht]
theorem sameKH_iff {x y : KH} (hx : KG x) (hy : KG y) : sameKH x y = true ↔ x = y := by
  unfold sameKH
  rw [Bool.and_eq_true, Bool.and_eq_true, Bool.and_eq_true, ← Bool.and_assoc (withinB x.eff y.eff), Bool.and_eq_true, may_within hx.eff hy.eff, Bool.and_eq_true, hdB_iff, decide_eq_true_eq,
    same_iff (G := fun a : LH => mayB a.eff = true) (fun a b ha hb => sameH_iff ha hb) x.ty y.ty hx.ty hy.ty, same_iff (G := fun a : LH => mayB a.eff = true) (fun a b ha hb => sameH_iff ha hb) x.res y.res hx.res hy.res]
  unfold eqN
  rw [decide_eq_true_eq]
  obtain ⟨a1, a2, a3, a4, a5, a6, a7, a8, a9, a10, a11, a12⟩ := x
  obtain ⟨b1, b2, b3, b4, b5, b6, b7, b8, b9, b10, b11, b12⟩ := y
  simp only [KH.mk.injEq]
  exact ⟨fun ⟨⟨h1, h2, h3, h4, h5, h6, h7⟩, h8, h9, h10, h11, h12⟩ => ⟨h1, h2, h3, h4, h5, h6, h7, h8, h9, h10, h11, h12⟩, fun ⟨h1, h2, h3, h4, h5, h6, h7, h8, h9, h10, h11, h12⟩ => ⟨⟨h1, h2, h3, h4, h5, h6, h7⟩, h8, h9, h10, h11, h12⟩⟩
theorem keyT_kg (t : PA) : Good t → ∀ k ∈ (keyT t).nodes, KG k := by
  refine Rose.ind (P := fun (t : PA) => Good t → ∀ k ∈ (keyT t).nodes, KG k) (fun a l ih g => ?_) t
  rw [Good_node] at g
  intro k hk
  rw [keyT_node, Rose.nodes_node, List.mem_cons] at hk
  rcases hk with rfl | hk
  · exact g.1.kg
  · obtain ⟨m, hm, hk⟩ := List.mem_flatten.1 hk
    rw [List.map_map] at hm
    obtain ⟨x, hx, rfl⟩ := List.mem_map.1 hm
    exact ih x hx (g.2.2 x hx) k hk
/-- two terms at no places are the same just if they have one text -/
theorem placed_same {x y px py : PA} (gx : Good x) (gy : Good y) (hx : Rose.map AH.kh px = keyT x) (hy : Rose.map AH.kh py = keyT y) : sameA px py = ((textOf x).toList == (textOf y).toList) := by
  have h1 : sameA px py = Rose.same sameKH (keyT x) (keyT y) := by
    rw [← hx, ← hy]
    exact same_map AH.kh sameKH px py
  rw [h1, Bool.eq_iff_iff, same_iff (fun a b ha hb => sameKH_iff ha hb) (keyT x) (keyT y) (keyT_kg x gx) (keyT_kg y gy), ← text_key gx gy, beq_iff_eq]
  exact ⟨fun h => by rw [h], toList_inj⟩
end Go.Proofs.YtdlbjngpohkglaaGreatDoor
end
section
set_option linter.unusedVariables false
set_option maxRecDepth 100000
set_option linter.unusedSimpArgs false
namespace Go.Proofs.YtdlbjngpohkglaaGreatDoor
open Go.RowKit Go.Sort Go.Lib

set_option maxHeartbeats 4000000 in
theorem same13_h {a b : AH} {l m : List PA} {w : World} (ha : NodeA w a l) (hb : NodeA w b m) (hf : ∀ x ∈ l, ∀ y ∈ m, ∀ W, Below w.heap.size w W → RSame13At x y W) (h1 : hdB a.kh b.kh = false) : RSame13At (.node a l) (.node b m) w := by
  intro r hrr
  have HNA := Lib.hid ha
  have HNB := Lib.hid hb
  have HF := Lib.hid hf
  have hla := ha.kids.len
  have hlb := hb.kids.len
  have hma := ha.own.kmax
  have hmb := hb.own.kmax
  have HD : Hid (Two2 w ((w.alloc (boxA a)).alloc (boxA b)) a b) := by
    have h1 := boxA_new w a
    have h2 := boxA_new (w.alloc (boxA a)) b
    rw [show (w.alloc (boxA a)).heap.size = w.heap.size + 1 by simp] at h2
    exact ⟨h1.below ((Below.refl _ _).alloc (Nat.le_refl _) _), h2, ((Below.refl w.heap.size w).alloc (Nat.le_refl _) _).alloc (by simp) _⟩
  have HNEH := Lib.hid (run_neH a b)
  have hr1 : r = (sameKH a.kh b.kh && sameAL l m) := by rw [← sameA_node]; exact hrr.symm
  have hr2 : sameKH a.kh b.kh = (hdB a.kh b.kh && (decide (a.rho = b.rho) && (eqN a.rhos b.rhos && (withinB a.eff b.eff && (withinB b.eff a.eff && (sameP a.ty b.ty && sameP a.res b.res)))))) := rfl
  rw [hr2] at hr1
  have HQ3 := Lib.hid (fun (W : World) (h : Two2 w W a b) => eqInts_is (r := eqN a.rhos b.rhos) rfl (HNA.out.below h.below).own.rhos (HNB.out.below h.below).own.rhos)
  have HW := Lib.hid (fun (W : World) (h : Two2 w W a b) => ref_Within_is (r := withinB a.eff b.eff) rfl (HNA.out.below h.below).own.eff (HNB.out.below h.below).own.eff)
  have HW2 := Lib.hid (fun (W : World) (h : Two2 w W a b) => ref_Within_is (r := withinB b.eff a.eff) rfl (HNB.out.below h.below).own.eff (HNA.out.below h.below).own.eff)
  have HT := Lib.hid (fun (W : World) (h : Two2 w W a b) => rsameAt_any a.ty b.ty W (HNA.out.below h.below).own.ty (HNB.out.below h.below).own.ty (sameP a.ty b.ty) rfl)
  have HT2 := Lib.hid (fun (W : World) (h : Two2 w W a b) => rsameAt_any a.res b.res W (HNA.out.below h.below).own.res (HNB.out.below h.below).own.res (sameP a.res b.res) rfl)
  have HRA0 := Lib.hid (fun (W : World) (h : Two2 w W a b) => (h.r0 0 7 rfl : W.rangeAt w.heap.size 0 [.int .u8 a.kind, .int .u8 a.op, .int .i64 a.at_, .int .i64 a.n, .string a.name, .string a.arg, .string a.exn]))
  have HRB0 := Lib.hid (fun (W : World) (h : Two2 w W a b) => (h.r1 0 7 rfl : W.rangeAt (w.heap.size + 1) 0 [.int .u8 b.kind, .int .u8 b.op, .int .i64 b.at_, .int .i64 b.n, .string b.name, .string b.arg, .string b.exn]))
  have HRA1 := Lib.hid (fun (W : World) (h : Two2 w W a b) => (h.r0 10 4 rfl : W.rangeAt w.heap.size 10 [.int .u8 a.ty.head.kind, .int .i64 a.ty.head.rho, .slice a.ty.head.ep a.ty.head.en a.ty.head.ec, .slice a.ty.head.kp a.ty.head.kn a.ty.head.kc]))
  have HRB1 := Lib.hid (fun (W : World) (h : Two2 w W a b) => (h.r1 10 4 rfl : W.rangeAt (w.heap.size + 1) 10 [.int .u8 b.ty.head.kind, .int .i64 b.ty.head.rho, .slice b.ty.head.ep b.ty.head.en b.ty.head.ec, .slice b.ty.head.kp b.ty.head.kn b.ty.head.kc]))
  have HRA2 := Lib.hid (fun (W : World) (h : Two2 w W a b) => (h.r0 14 4 rfl : W.rangeAt w.heap.size 14 [.int .u8 a.res.head.kind, .int .i64 a.res.head.rho, .slice a.res.head.ep a.res.head.en a.res.head.ec, .slice a.res.head.kp a.res.head.kn a.res.head.kc]))
  have HRB2 := Lib.hid (fun (W : World) (h : Two2 w W a b) => (h.r1 14 4 rfl : W.rangeAt (w.heap.size + 1) 14 [.int .u8 b.res.head.kind, .int .i64 b.res.head.rho, .slice b.res.head.ep b.res.head.en b.res.head.ec, .slice b.res.head.kp b.res.head.kn b.res.head.kc]))
  generalize eqN a.rhos b.rhos = u3 at *
  generalize withinB a.eff b.eff = u4 at *
  generalize withinB b.eff a.eff = u5 at *
  generalize sameP a.ty b.ty = u6 at *
  generalize sameP a.res b.res = u7 at *
  have HRR := Lib.hid hr1
  clear ha hb hf hrr hr1 hr2
  show Calls _ _ #[aggT a, aggT b] w _
  rw [h1] at HRR HNEH
  have H1 := Lib.hid h1
  clear h1
  go_enter Tryz.func12, Tryz.ntmps12
  go_upto_region 1 with fail
  generalize (w.alloc (boxA a)).alloc (boxA b) = W0 at *
  have c7 := HD.out.b0.c 7 _ rfl
  have d7 := HD.out.b1.c 7 _ rfl
  have c8 := HD.out.b0.c 8 _ rfl
  have d8 := HD.out.b1.c 8 _ rfl
  have c9 := HD.out.b0.c 9 _ rfl
  have d9 := HD.out.b1.c 9 _ rfl
  have c18 := HD.out.b0.c 18 _ rfl
  have d18 := HD.out.b1.c 18 _ rfl
  go_wp2_with (first | ((with_reducible refine isNeq ?_); refine wpList_neq rfl 23 _ _ _ rfl _ _ rfl rfl (by kernel_rfl) _ (HNEH.out _) ?_) | ((with_reducible refine isLoad (ty := 23) ?_); first | (have := MH1; refine wpList_load_midG (by rfl) 23 _ rfl (w.heap.size + 1) 0 rfl [.int .u8 b.kind, .int .u8 b.op, .int .i64 b.at_, .int .i64 b.n, .string b.name, .string b.arg, .string b.exn] _ (HRB0.out _ HD.out) Tryz.underlying23 rfl (by kernel_rfl) ?_; have MH2 := Lib.hid True.intro) | (refine wpList_load_midG (by rfl) 23 _ rfl w.heap.size 0 rfl [.int .u8 a.kind, .int .u8 a.op, .int .i64 a.at_, .int .i64 a.n, .string a.name, .string a.arg, .string a.exn] _ (HRA0.out _ HD.out) Tryz.underlying23 rfl (by kernel_rfl) ?_; have MH1 := Lib.hid True.intro)))
  go_ret
  exact ⟨ret_bool (by rw [HRR.out]; rfl), HD.out.below⟩
set_option maxHeartbeats 4000000 in
theorem same13_r {a b : AH} {l m : List PA} {w : World} (ha : NodeA w a l) (hb : NodeA w b m) (hf : ∀ x ∈ l, ∀ y ∈ m, ∀ W, Below w.heap.size w W → RSame13At x y W) (h1 : hdB a.kh b.kh = true) (h2 : decide (a.rho = b.rho) = false) : RSame13At (.node a l) (.node b m) w := by
  intro r hrr
  have HNA := Lib.hid ha
  have HNB := Lib.hid hb
  have HF := Lib.hid hf
  have hla := ha.kids.len
  have hlb := hb.kids.len
  have hma := ha.own.kmax
  have hmb := hb.own.kmax
  have HD : Hid (Two2 w ((w.alloc (boxA a)).alloc (boxA b)) a b) := by
    have h1 := boxA_new w a
    have h2 := boxA_new (w.alloc (boxA a)) b
    rw [show (w.alloc (boxA a)).heap.size = w.heap.size + 1 by simp] at h2
    exact ⟨h1.below ((Below.refl _ _).alloc (Nat.le_refl _) _), h2, ((Below.refl w.heap.size w).alloc (Nat.le_refl _) _).alloc (by simp) _⟩
  have HNEH := Lib.hid (run_neH a b)
  have hr1 : r = (sameKH a.kh b.kh && sameAL l m) := by rw [← sameA_node]; exact hrr.symm
  have hr2 : sameKH a.kh b.kh = (hdB a.kh b.kh && (decide (a.rho = b.rho) && (eqN a.rhos b.rhos && (withinB a.eff b.eff && (withinB b.eff a.eff && (sameP a.ty b.ty && sameP a.res b.res)))))) := rfl
  rw [hr2] at hr1
  have HQ3 := Lib.hid (fun (W : World) (h : Two2 w W a b) => eqInts_is (r := eqN a.rhos b.rhos) rfl (HNA.out.below h.below).own.rhos (HNB.out.below h.below).own.rhos)
  have HW := Lib.hid (fun (W : World) (h : Two2 w W a b) => ref_Within_is (r := withinB a.eff b.eff) rfl (HNA.out.below h.below).own.eff (HNB.out.below h.below).own.eff)
  have HW2 := Lib.hid (fun (W : World) (h : Two2 w W a b) => ref_Within_is (r := withinB b.eff a.eff) rfl (HNB.out.below h.below).own.eff (HNA.out.below h.below).own.eff)
  have HT := Lib.hid (fun (W : World) (h : Two2 w W a b) => rsameAt_any a.ty b.ty W (HNA.out.below h.below).own.ty (HNB.out.below h.below).own.ty (sameP a.ty b.ty) rfl)
  have HT2 := Lib.hid (fun (W : World) (h : Two2 w W a b) => rsameAt_any a.res b.res W (HNA.out.below h.below).own.res (HNB.out.below h.below).own.res (sameP a.res b.res) rfl)
  have HRA0 := Lib.hid (fun (W : World) (h : Two2 w W a b) => (h.r0 0 7 rfl : W.rangeAt w.heap.size 0 [.int .u8 a.kind, .int .u8 a.op, .int .i64 a.at_, .int .i64 a.n, .string a.name, .string a.arg, .string a.exn]))
  have HRB0 := Lib.hid (fun (W : World) (h : Two2 w W a b) => (h.r1 0 7 rfl : W.rangeAt (w.heap.size + 1) 0 [.int .u8 b.kind, .int .u8 b.op, .int .i64 b.at_, .int .i64 b.n, .string b.name, .string b.arg, .string b.exn]))
  have HRA1 := Lib.hid (fun (W : World) (h : Two2 w W a b) => (h.r0 10 4 rfl : W.rangeAt w.heap.size 10 [.int .u8 a.ty.head.kind, .int .i64 a.ty.head.rho, .slice a.ty.head.ep a.ty.head.en a.ty.head.ec, .slice a.ty.head.kp a.ty.head.kn a.ty.head.kc]))
  have HRB1 := Lib.hid (fun (W : World) (h : Two2 w W a b) => (h.r1 10 4 rfl : W.rangeAt (w.heap.size + 1) 10 [.int .u8 b.ty.head.kind, .int .i64 b.ty.head.rho, .slice b.ty.head.ep b.ty.head.en b.ty.head.ec, .slice b.ty.head.kp b.ty.head.kn b.ty.head.kc]))
  have HRA2 := Lib.hid (fun (W : World) (h : Two2 w W a b) => (h.r0 14 4 rfl : W.rangeAt w.heap.size 14 [.int .u8 a.res.head.kind, .int .i64 a.res.head.rho, .slice a.res.head.ep a.res.head.en a.res.head.ec, .slice a.res.head.kp a.res.head.kn a.res.head.kc]))
  have HRB2 := Lib.hid (fun (W : World) (h : Two2 w W a b) => (h.r1 14 4 rfl : W.rangeAt (w.heap.size + 1) 14 [.int .u8 b.res.head.kind, .int .i64 b.res.head.rho, .slice b.res.head.ep b.res.head.en b.res.head.ec, .slice b.res.head.kp b.res.head.kn b.res.head.kc]))
  generalize eqN a.rhos b.rhos = u3 at *
  generalize withinB a.eff b.eff = u4 at *
  generalize withinB b.eff a.eff = u5 at *
  generalize sameP a.ty b.ty = u6 at *
  generalize sameP a.res b.res = u7 at *
  have HRR := Lib.hid hr1
  clear ha hb hf hrr hr1 hr2
  show Calls _ _ #[aggT a, aggT b] w _
  rw [h1, h2] at HRR
  rw [h1] at HNEH
  have q2 : (a.rho != b.rho) = true := by simp at h2; simp [h2]
  clear h1 h2
  go_enter Tryz.func12, Tryz.ntmps12
  go_upto_region 1 with fail
  generalize (w.alloc (boxA a)).alloc (boxA b) = W0 at *
  have c7 := HD.out.b0.c 7 _ rfl
  have d7 := HD.out.b1.c 7 _ rfl
  have c8 := HD.out.b0.c 8 _ rfl
  have d8 := HD.out.b1.c 8 _ rfl
  have c9 := HD.out.b0.c 9 _ rfl
  have d9 := HD.out.b1.c 9 _ rfl
  have c18 := HD.out.b0.c 18 _ rfl
  have d18 := HD.out.b1.c 18 _ rfl
  go_wp2_with (first | ((with_reducible refine isNeq ?_); refine wpList_neq rfl 23 _ _ _ rfl _ _ rfl rfl (by kernel_rfl) _ (HNEH.out _) ?_) | ((with_reducible refine isLoad (ty := 23) ?_); first | (have := MH1; refine wpList_load_midG (by rfl) 23 _ rfl (w.heap.size + 1) 0 rfl [.int .u8 b.kind, .int .u8 b.op, .int .i64 b.at_, .int .i64 b.n, .string b.name, .string b.arg, .string b.exn] _ (HRB0.out _ HD.out) Tryz.underlying23 rfl (by kernel_rfl) ?_; have MH2 := Lib.hid True.intro) | (refine wpList_load_midG (by rfl) 23 _ rfl w.heap.size 0 rfl [.int .u8 a.kind, .int .u8 a.op, .int .i64 a.at_, .int .i64 a.n, .string a.name, .string a.arg, .string a.exn] _ (HRA0.out _ HD.out) Tryz.underlying23 rfl (by kernel_rfl) ?_; have MH1 := Lib.hid True.intro)))
  go_ret
  exact ⟨ret_bool (by rw [HRR.out]; rfl), HD.out.below⟩
end Go.Proofs.YtdlbjngpohkglaaGreatDoor
end
section
set_option linter.unusedVariables false
set_option maxRecDepth 100000
set_option linter.unusedSimpArgs false
namespace Go.Proofs.YtdlbjngpohkglaaGreatDoor
open Go.RowKit Go.Sort Go.Lib

set_option maxHeartbeats 60000000 in
theorem same13_n {a b : AH} {l m : List PA} {w : World} (ha : NodeA w a l) (hb : NodeA w b m) (hf : ∀ x ∈ l, ∀ y ∈ m, ∀ W, Below w.heap.size w W → RSame13At x y W) (h1 : hdB a.kh b.kh = true) (h2 : decide (a.rho = b.rho) = true) (hn : a.kn ≠ b.kn) : RSame13At (.node a l) (.node b m) w := by
  intro r hrr
  have HNA := Lib.hid ha
  have HNB := Lib.hid hb
  have HF := Lib.hid hf
  have hla := ha.kids.len
  have hlb := hb.kids.len
  have hma := ha.own.kmax
  have hmb := hb.own.kmax
  have HD : Hid (Two2 w ((w.alloc (boxA a)).alloc (boxA b)) a b) := by
    have h1 := boxA_new w a
    have h2 := boxA_new (w.alloc (boxA a)) b
    rw [show (w.alloc (boxA a)).heap.size = w.heap.size + 1 by simp] at h2
    exact ⟨h1.below ((Below.refl _ _).alloc (Nat.le_refl _) _), h2, ((Below.refl w.heap.size w).alloc (Nat.le_refl _) _).alloc (by simp) _⟩
  have HNEH := Lib.hid (run_neH a b)
  have hr1 : r = (sameKH a.kh b.kh && sameAL l m) := by rw [← sameA_node]; exact hrr.symm
  have hr2 : sameKH a.kh b.kh = (hdB a.kh b.kh && (decide (a.rho = b.rho) && (eqN a.rhos b.rhos && (withinB a.eff b.eff && (withinB b.eff a.eff && (sameP a.ty b.ty && sameP a.res b.res)))))) := rfl
  rw [hr2] at hr1
  have HQ3 := Lib.hid (fun (W : World) (h : Two2 w W a b) => eqInts_is (r := eqN a.rhos b.rhos) rfl (HNA.out.below h.below).own.rhos (HNB.out.below h.below).own.rhos)
  have HW := Lib.hid (fun (W : World) (h : Two2 w W a b) => ref_Within_is (r := withinB a.eff b.eff) rfl (HNA.out.below h.below).own.eff (HNB.out.below h.below).own.eff)
  have HW2 := Lib.hid (fun (W : World) (h : Two2 w W a b) => ref_Within_is (r := withinB b.eff a.eff) rfl (HNB.out.below h.below).own.eff (HNA.out.below h.below).own.eff)
  have HT := Lib.hid (fun (W : World) (h : Two2 w W a b) => rsameAt_any a.ty b.ty W (HNA.out.below h.below).own.ty (HNB.out.below h.below).own.ty (sameP a.ty b.ty) rfl)
  have HT2 := Lib.hid (fun (W : World) (h : Two2 w W a b) => rsameAt_any a.res b.res W (HNA.out.below h.below).own.res (HNB.out.below h.below).own.res (sameP a.res b.res) rfl)
  have HRA0 := Lib.hid (fun (W : World) (h : Two2 w W a b) => (h.r0 0 7 rfl : W.rangeAt w.heap.size 0 [.int .u8 a.kind, .int .u8 a.op, .int .i64 a.at_, .int .i64 a.n, .string a.name, .string a.arg, .string a.exn]))
  have HRB0 := Lib.hid (fun (W : World) (h : Two2 w W a b) => (h.r1 0 7 rfl : W.rangeAt (w.heap.size + 1) 0 [.int .u8 b.kind, .int .u8 b.op, .int .i64 b.at_, .int .i64 b.n, .string b.name, .string b.arg, .string b.exn]))
  have HRA1 := Lib.hid (fun (W : World) (h : Two2 w W a b) => (h.r0 10 4 rfl : W.rangeAt w.heap.size 10 [.int .u8 a.ty.head.kind, .int .i64 a.ty.head.rho, .slice a.ty.head.ep a.ty.head.en a.ty.head.ec, .slice a.ty.head.kp a.ty.head.kn a.ty.head.kc]))
  have HRB1 := Lib.hid (fun (W : World) (h : Two2 w W a b) => (h.r1 10 4 rfl : W.rangeAt (w.heap.size + 1) 10 [.int .u8 b.ty.head.kind, .int .i64 b.ty.head.rho, .slice b.ty.head.ep b.ty.head.en b.ty.head.ec, .slice b.ty.head.kp b.ty.head.kn b.ty.head.kc]))
  have HRA2 := Lib.hid (fun (W : World) (h : Two2 w W a b) => (h.r0 14 4 rfl : W.rangeAt w.heap.size 14 [.int .u8 a.res.head.kind, .int .i64 a.res.head.rho, .slice a.res.head.ep a.res.head.en a.res.head.ec, .slice a.res.head.kp a.res.head.kn a.res.head.kc]))
  have HRB2 := Lib.hid (fun (W : World) (h : Two2 w W a b) => (h.r1 14 4 rfl : W.rangeAt (w.heap.size + 1) 14 [.int .u8 b.res.head.kind, .int .i64 b.res.head.rho, .slice b.res.head.ep b.res.head.en b.res.head.ec, .slice b.res.head.kp b.res.head.kn b.res.head.kc]))
  generalize eqN a.rhos b.rhos = u3 at *
  generalize withinB a.eff b.eff = u4 at *
  generalize withinB b.eff a.eff = u5 at *
  generalize sameP a.ty b.ty = u6 at *
  generalize sameP a.res b.res = u7 at *
  have HRR := Lib.hid hr1
  clear ha hb hf hrr hr1 hr2
  show Calls _ _ #[aggT a, aggT b] w _
  rw [h1, h2, sameAL_len (show l.length ≠ m.length by omega)] at HRR
  rw [h1] at HNEH
  have q2 : (a.rho != b.rho) = false := by simp at h2; simp [h2]
  have q8 : ((a.kn : Int) != (b.kn : Int)) = true := by rw [bne_iff_ne]; omega
  clear h1 h2 hn
  go_enter Tryz.func12, Tryz.ntmps12
  go_upto_region 1 with fail
  generalize (w.alloc (boxA a)).alloc (boxA b) = W0 at *
  have c7 := HD.out.b0.c 7 _ rfl
  have d7 := HD.out.b1.c 7 _ rfl
  have c8 := HD.out.b0.c 8 _ rfl
  have d8 := HD.out.b1.c 8 _ rfl
  have c9 := HD.out.b0.c 9 _ rfl
  have d9 := HD.out.b1.c 9 _ rfl
  have c18 := HD.out.b0.c 18 _ rfl
  have d18 := HD.out.b1.c 18 _ rfl
  go_upto_region 3 with (first | ((with_reducible refine isNeq ?_); refine wpList_neq rfl 23 _ _ _ rfl _ _ rfl rfl (by kernel_rfl) _ (HNEH.out _) ?_) | ((with_reducible refine isLoad (ty := 23) ?_); first | (have := MH1; refine wpList_load_midG (by rfl) 23 _ rfl (w.heap.size + 1) 0 rfl [.int .u8 b.kind, .int .u8 b.op, .int .i64 b.at_, .int .i64 b.n, .string b.name, .string b.arg, .string b.exn] _ (HRB0.out _ HD.out) Tryz.underlying23 rfl (by kernel_rfl) ?_; have MH2 := Lib.hid True.intro) | (refine wpList_load_midG (by rfl) 23 _ rfl w.heap.size 0 rfl [.int .u8 a.kind, .int .u8 a.op, .int .i64 a.at_, .int .i64 a.n, .string a.name, .string a.arg, .string a.exn] _ (HRA0.out _ HD.out) Tryz.underlying23 rfl (by kernel_rfl) ?_; have MH1 := Lib.hid True.intro)) | (go_at_call 25; refine (HQ3.out _ HD.out).mono ?_; rintro e w8 ⟨rfl, hb⟩; have HD := Lib.hid (HD.out.step hb); clear hb; clear c7 d7 c8 d8 c9 d9 c18 d18; have c7 := HD.out.b0.c 7 _ rfl; have d7 := HD.out.b1.c 7 _ rfl; have c8 := HD.out.b0.c 8 _ rfl; have d8 := HD.out.b1.c 8 _ rfl; have c9 := HD.out.b0.c 9 _ rfl; have d9 := HD.out.b1.c 9 _ rfl; have c18 := HD.out.b0.c 18 _ rfl; have d18 := HD.out.b1.c 18 _ rfl; cases u3) | (go_at_call 26; refine (HW.out _ HD.out).mono ?_; rintro e w8 ⟨rfl, hb⟩; have HD := Lib.hid (HD.out.step hb); clear hb; clear c7 d7 c8 d8 c9 d9 c18 d18; have c7 := HD.out.b0.c 7 _ rfl; have d7 := HD.out.b1.c 7 _ rfl; have c8 := HD.out.b0.c 8 _ rfl; have d8 := HD.out.b1.c 8 _ rfl; have c9 := HD.out.b0.c 9 _ rfl; have d9 := HD.out.b1.c 9 _ rfl; have c18 := HD.out.b0.c 18 _ rfl; have d18 := HD.out.b1.c 18 _ rfl; clear HW; have HW := HW2; first | (have := HM1; cases u5) | (have HM1 := Lib.hid True.intro; cases u4)))
  all_goals (try (go_ret; exact ⟨ret_bool (by rw [HRR.out]; simp), HD.out.below⟩))
  go_wp2_with (first | ((with_reducible refine isLoad (ty := 28) ?_); first | (have := MR3; refine wpList_load_midG (by rfl) 28 _ rfl (w.heap.size + 1) 14 rfl [.int .u8 b.res.head.kind, .int .i64 b.res.head.rho, .slice b.res.head.ep b.res.head.en b.res.head.ec, .slice b.res.head.kp b.res.head.kn b.res.head.kc] _ (HRB2.out _ HD.out) Tryz.underlying28 rfl (by kernel_rfl) ?_; have MR4 := Lib.hid True.intro) | (have := MR2; refine wpList_load_midG (by rfl) 28 _ rfl w.heap.size 14 rfl [.int .u8 a.res.head.kind, .int .i64 a.res.head.rho, .slice a.res.head.ep a.res.head.en a.res.head.ec, .slice a.res.head.kp a.res.head.kn a.res.head.kc] _ (HRA2.out _ HD.out) Tryz.underlying28 rfl (by kernel_rfl) ?_; have MR3 := Lib.hid True.intro) | (have := MR1; refine wpList_load_midG (by rfl) 28 _ rfl (w.heap.size + 1) 10 rfl [.int .u8 b.ty.head.kind, .int .i64 b.ty.head.rho, .slice b.ty.head.ep b.ty.head.en b.ty.head.ec, .slice b.ty.head.kp b.ty.head.kn b.ty.head.kc] _ (HRB1.out _ HD.out) Tryz.underlying28 rfl (by kernel_rfl) ?_; have MR2 := Lib.hid True.intro) | (refine wpList_load_midG (by rfl) 28 _ rfl w.heap.size 10 rfl [.int .u8 a.ty.head.kind, .int .i64 a.ty.head.rho, .slice a.ty.head.ep a.ty.head.en a.ty.head.ec, .slice a.ty.head.kp a.ty.head.kn a.ty.head.kc] _ (HRA1.out _ HD.out) Tryz.underlying28 rfl (by kernel_rfl) ?_; have MR1 := Lib.hid True.intro)) | (go_at_call 27; refine (HT.out _ HD.out).mono ?_; rintro e w8 ⟨rfl, hb⟩; have HD := Lib.hid (HD.out.step hb); clear hb; clear c7 d7 c8 d8 c9 d9 c18 d18; have c7 := HD.out.b0.c 7 _ rfl; have d7 := HD.out.b1.c 7 _ rfl; have c8 := HD.out.b0.c 8 _ rfl; have d8 := HD.out.b1.c 8 _ rfl; have c9 := HD.out.b0.c 9 _ rfl; have d9 := HD.out.b1.c 9 _ rfl; have c18 := HD.out.b0.c 18 _ rfl; have d18 := HD.out.b1.c 18 _ rfl; clear HT; have HT := HT2; first | (have := HM2; cases u7) | (have HM2 := Lib.hid True.intro; cases u6)))
  all_goals (
    go_ret
    exact ⟨ret_bool (by rw [HRR.out]; simp), HD.out.below⟩)
end Go.Proofs.YtdlbjngpohkglaaGreatDoor
end
