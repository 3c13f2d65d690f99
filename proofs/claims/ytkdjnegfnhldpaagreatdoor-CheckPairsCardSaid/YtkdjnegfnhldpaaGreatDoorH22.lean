/- Part 22: Rl, Ib, Ka, Kn. -/
import Derived.Test.YtkdjnegfnhldpaaGreatDoorH21
import Derived.Test.YtkdjnegfnhldpaaGreatDoorH09
import Derived.Test.YtkdjnegfnhldpaaGreatDoorH01
set_option linter.unusedVariables false
set_option maxRecDepth 100000
set_option linter.unusedSimpArgs false
namespace Go.Proofs.YtkdjnegfnhldpaaGreatDoor
open Go.Lib (hid)
section
open Go.RowKit
structure RlS (w : World) (a : AH) (W : World) : Prop where
  box : BoxA W w.heap.size a
  res : ∃ cs : Array Value, cs.size = 5 ∧ W.heap[w.heap.size + 1]? = some (.cells cs 81 (0, 0))
  below : Below w.heap.size w W
  size : w.heap.size + 2 ≤ W.heap.size
theorem rls_new (w : World) (a : AH) : RlS w a ((w.alloc (boxA a)).alloc (.cells #[.int .u8 0, .int .i64 0, .slice none 0 0, .slice none 0 0, .slice none 0 0] 81)) := by
  have e := heap_alloc_new (w.alloc (boxA a)) (.cells #[.int .u8 0, .int .i64 0, .slice none 0 0, .slice none 0 0, .slice none 0 0] 81)
  simp only [World.size_alloc] at e
  exact ⟨(boxA_new w a).below ((Below.refl _ _).alloc (Nat.le_refl _) _), ⟨_, rfl, e⟩, ((Below.refl w.heap.size w).alloc (Nat.le_refl _) _).alloc (by simp) _, by simp⟩
theorem RlS.step {w W W' : World} {a : AH} (h : RlS w a W) (hb : Below W.heap.size W W') : RlS w a W' := by
  obtain ⟨cs, h1, h2⟩ := h.res
  exact ⟨h.box.below hb, ⟨cs, h1, (hb.block _ (Array.getElem?_eq_some_iff.1 h2).1).trans h2⟩, h.below.trans (hb.mono h.below.size), Nat.le_trans h.size hb.size⟩
theorem RlS.alloc {w W : World} {a : AH} (h : RlS w a W) (o : Obj) : RlS w a (W.alloc o) := h.step ((Below.refl _ _).alloc (Nat.le_refl _) _)
theorem RlS.drew {w W : World} {a : AH} (h : RlS w a W) : RlS w a W.drew := h.step (bel_drew W)
theorem RlS.store {w W : World} {a : AH} (h : RlS w a W) {cs : Array Value} (hc : cs.size = 5) : RlS w a (W.setRow (w.heap.size + 1) cs) := by
  obtain ⟨cs', h1, h2⟩ := h.res
  exact ⟨⟨(setRow_other _ _ _ _ (by omega)).trans h.box.blk⟩, ⟨cs, hc, setRow_heap _ _ _ _ _ _ h2⟩, h.below.grown row_set h.below.size (fun k e => by cases e; omega), by have := h.size; simpa using this⟩
theorem wpList_store_res {P : Program} {ops : Array Oper} {rest : List Oper} {o : Oper} {act : Act} {Q : Exit → Act → World → Prop} (hgd : o.guard = none) (ty : TypeId) (x y : Operand) (ho : o.op = .store ty x y)
    {w W : World} {a : AH} (h : RlS w a W) (cells : Array Value) (hx : act.eval x = .pointer (some ⟨w.heap.size + 1, 0, none⟩)) (hy : act.eval y = .agg cells) (hi : (P.info? ty).map (·.size) = some cells.size) (h5 : cells.size = 5) (h1 : cells.all (·.oneCell') = true)
    (hK : wpList P ops Q rest (act.put o.dst undef) (W.setRow (w.heap.size + 1) cells)) : wpList P ops Q (o :: rest) act W := by
  obtain ⟨cs, e1, e2⟩ := h.res
  exact wpList_store_row hgd ty x y ho (w.heap.size + 1) cells hx hy 81 cs e2 hi (by omega) h1 hK
theorem step_store_res {P : Program} {ops : Array Oper} {o : Oper} {act : Act} {K : Act → World → Prop} {Q : Exit → Act → World → Prop} {E : Prop} (hgd : o.guard = none) (ty : TypeId) (x y : Operand) (ho : o.op = .store ty x y)
    {w W : World} {a : AH} (h : RlS w a W) (cells : Array Value) (hx : act.eval x = .pointer (some ⟨w.heap.size + 1, 0, none⟩)) (hy : act.eval y = .agg cells) (hi : (P.info? ty).map (·.size) = some cells.size) (h5 : cells.size = 5) (h1 : cells.all (·.oneCell') = true)
    (hK : K (act.put o.dst undef) (W.setRow (w.heap.size + 1) cells)) : if Region.wanted o (yielded ops act.tmps) = true then Oper.wp P o act W K Q else E := by
  obtain ⟨cs, e1, e2⟩ := h.res
  rw [if_pos (by simp [Region.wanted, hgd])]
  exact wp_store_row ty x y ho (w.heap.size + 1) cells hx hy 81 cs e2 hi (by omega) h1 hK
theorem rv_store {w W : World} {a : AH} (h : RlS w a W) {S : Nat → Prop} (hS : ¬ S (w.heap.size + 1)) {y : RV} (hy : y.Ok W S) (cs : Array Value) : y.Ok (W.setRow (w.heap.size + 1) cs) S := hy.grown row_set (fun b e => by cases e; exact hS)
def Sn (w : World) (S : Nat → Prop) (b : Nat) : Prop := (b < w.heap.size ∧ S b) ∨ w.heap.size + 2 ≤ b
theorem RlS.heap {w W : World} {a : AH} (h : RlS w a W) (cs : Array Value) : (W.setRow (w.heap.size + 1) cs).heap[w.heap.size + 1]? = some (.cells cs 81 (0, 0)) := by
  obtain ⟨cs', _, h2⟩ := h.res
  exact setRow_heap _ _ _ _ _ _ h2
abbrev cellsRV (y : RV) : Array Value := #[.int .u8 y.ty.head.kind, .int .i64 y.ty.head.rho, .slice y.ty.head.ep y.ty.head.en y.ty.head.ec, .slice y.ty.head.kp y.ty.head.kn y.ty.head.kc, .slice y.ep y.en y.ec]
theorem out_of {w W : World} {a : AH} {S : Nat → Prop} {y : RV} {x : TE} (h : RlS w a W) (hS : ∀ b, w.heap.size ≤ b → S b) (hy : y.Ok W (Sn w S)) (hx : y.er = x) : OutC w S (.ok x) (.returned (aggRV y)) (W.setRow (w.heap.size + 1) (cellsRV y)) := by
  have hn : ¬ Sn w S (w.heap.size + 1) := by
    rintro (⟨h1, _⟩ | h1) <;> omega
  refine ⟨⟨y, rfl, hx, (rv_store h hn hy _).weak (fun b _ hb => ?_)⟩, (h.store (cs := cellsRV y) rfl).below⟩
  rcases hb with ⟨_, h2⟩ | h2
  · exact h2
  · exact hS b (by omega)
theorem res_sn {w W : World} {S : Nat → Prop} {p : Option Addr} {n c : Nat} {l : List RV} (h : ResAt w S p n c l) (hb : Below w.heap.size w W) : ResAt W (Sn w S) p n c l :=
  ⟨h.row.below hb, fun r hr => ((h.each r hr).weak (fun b h1 h2 => .inl ⟨h1, h2⟩)).below hb⟩
theorem allE_ok {l : List RV} {more : List Atom} (hl : ∀ r ∈ l, ∀ x ∈ r.eff, okAt x) (hm : ∀ x ∈ more, okAt x) : ∀ x ∈ allE (erL l) more, okAt x := fun x hx => by
  rcases (allE_mem hx).1 with h | ⟨y, hy, h⟩
  · exact hm x h
  · obtain ⟨r, hr, rfl⟩ := List.mem_map.1 hy
    exact hl r hr x h
structure RlIn (w : World) (S : Nat → Prop) (a : AH) (p : Option Addr) (n c : Nat) (l : List RV) : Prop where
  own : AH.Own w a
  small : SmallN a
  res : ResAt w S p n c l
  new : ∀ b, w.heap.size ≤ b → S b
  ty : ∀ b ∈ usesR a.ty, S b
  few : n ≤ 1000
  sum : (l.map (·.en)).sum ≤ 900000
  good : ∀ r ∈ l, mayT r.ty.er = true ∧ effsOK r.ty.er = true ∧ r.ty.size ≤ 1000
theorem int_of {w W : World} {a : AH} {S : Nat → Prop} {q q3 : Option Addr} {m qc k c3 : Nat} {eff : List Atom} (h : RlS w a W) (hS : ∀ b, w.heap.size ≤ b → S b) (hrow : IsRow encA 3 W q m qc []) (hrow3 : IsRow encA 3 W q3 k c3 eff) (hfar : ∀ ad, q3 = some ad → w.heap.size + 2 ≤ ad.block) (hok : ∀ x ∈ eff, okAt x) :
    OutC w S (.ok (tInt, eff)) (.returned (.agg #[.int .u8 1, .int .i64 0, .slice q m qc, .slice none 0 0, .slice q3 k c3])) (W.setRow (w.heap.size + 1) #[.int .u8 1, .int .i64 0, .slice q m qc, .slice none 0 0, .slice q3 k c3]) := by
  have hl : LR.lies W (.node ⟨1, 0, q, m, qc, [], none, 0, 0⟩ []) := NodeIn.lies ⟨⟨hrow, (fun x hx => (nomatch hx)), by dsimp only; decide, by dsimp only; decide, by dsimp only; decide, by dsimp only; decide, by dsimp only; decide, by dsimp only; decide, fun _ => rfl⟩, IsRow.none _ _ _, fun t ht => by cases ht⟩
  exact out_of (y := ⟨.node ⟨1, 0, q, m, qc, [], none, 0, 0⟩ [], q3, k, c3, eff⟩) h hS ⟨hl, fun b hb => by simp [usesR_node] at hb, hrow3, hok, fun _ ad hp => .inr (hfar ad hp)⟩ rfl
theorem rv_at {W : World} {b o n c : Nat} {l : List RV} (h : IsRow encRV 5 W (some ⟨b, o, none⟩) n c l) {j : Nat} {x : RV} (hx : l[j]? = some x) : W.rangeAt b (o + j * 5) (encRV x) := fun i v hv => by
  obtain ⟨b', o', hp, _, hc⟩ := h.row.elem hx
  cases hp
  exact hc i v hv
theorem range_take {W : World} {b o : Nat} {cs : List Value} (h : W.rangeAt b o cs) (k : Nat) : W.rangeAt b o (cs.take k) := fun i v hv => by
  rw [List.getElem?_take] at hv
  split at hv
  · exact h i v hv
  · cases hv
theorem rv_ty0 {W : World} {b o n c : Nat} {x : RV} {l : List RV} (h : IsRow encRV 5 W (some ⟨b, o, none⟩) n c (x :: l)) : W.rangeAt b o [.int .u8 x.ty.head.kind, .int .i64 x.ty.head.rho, .slice x.ty.head.ep x.ty.head.en x.ty.head.ec, .slice x.ty.head.kp x.ty.head.kn x.ty.head.kc] := by
  have := range_take (rv_at h (j := 0) rfl) 4
  simpa [encRV] using this
theorem rv_ty1 {W : World} {b o n c : Nat} {x y : RV} {l : List RV} (h : IsRow encRV 5 W (some ⟨b, o, none⟩) n c (x :: y :: l)) : W.rangeAt b (o + 5) [.int .u8 y.ty.head.kind, .int .i64 y.ty.head.rho, .slice y.ty.head.ep y.ty.head.en y.ty.head.ec, .slice y.ty.head.kp y.ty.head.kn y.ty.head.kc] := by
  have := range_take (rv_at h (j := 1) rfl) 4
  simpa [encRV] using this
theorem rv_ty2 {W : World} {b o n c : Nat} {x y z : RV} {l : List RV} (h : IsRow encRV 5 W (some ⟨b, o, none⟩) n c (x :: y :: z :: l)) : W.rangeAt b (o + 10) [.int .u8 z.ty.head.kind, .int .i64 z.ty.head.rho, .slice z.ty.head.ep z.ty.head.en z.ty.head.ec, .slice z.ty.head.kp z.ty.head.kn z.ty.head.kc] := by
  have := range_take (rv_at h (j := 2) rfl) 4
  simpa [encRV] using this
theorem rv_all0 {W : World} {b o n c : Nat} {x : RV} {l : List RV} (h : IsRow encRV 5 W (some ⟨b, o, none⟩) n c (x :: l)) : W.rangeAt b o (encRV x) := by
  simpa using rv_at h (j := 0) rfl
theorem okAt_put {r : Int} (h0 : -9223372036854775808 ≤ r) (h1 : r ≤ 9223372036854775807) : okAt (aPut r) := ⟨by show (0 : Int) ≤ 2; decide, by show (2 : Int) ≤ 255; decide, h0, h1, by show (ByteArray.size ⟨#[]⟩) ≤ _; decide⟩
theorem okAt_get {r : Int} (h0 : -9223372036854775808 ≤ r) (h1 : r ≤ 9223372036854775807) : okAt (aGet r) := ⟨by show (0 : Int) ≤ 1; decide, by show (1 : Int) ≤ 255; decide, h0, h1, by show (ByteArray.size ⟨#[]⟩) ≤ _; decide⟩
theorem atomRow (w : World) (x : Atom) : IsRow encA 3 (w.alloc (.cells #[.int .u8 x.kind, .int .i64 x.rho, .string x.exn] 59)) (some ⟨w.heap.size, 0, none⟩) 1 1 [x] := row_made encA_len (by omega) w 59 [x] 1 _ rfl rfl (by decide)
theorem pair_lies {W : World} {k rho : Int} {q : Option Addr} {m qc g : Nat} {eff : List Atom} {x y : PT} (hk : 0 ≤ k ∧ k ≤ 255) (hr : inI rho) (hrow : IsRow encA 3 W q m qc eff) (hok : ∀ x ∈ eff, okAt x) (ht : RowT W (some ⟨g, 0, none⟩) 2 2 [x, y]) : LR.lies W (.node ⟨k, rho, q, m, qc, eff, some ⟨g, 0, none⟩, 2, 2⟩ [x, y]) :=
  NodeIn.lies ⟨⟨hrow, hok, hk.1, hk.2, hr.1, hr.2, by dsimp only; decide, by dsimp only; decide, fun h => (nomatch h)⟩, ht.row, ht.each⟩
theorem pair_uses {T : Nat → Prop} {k rho : Int} {q : Option Addr} {m qc g : Nat} {eff : List Atom} {x y : PT} (hx : ∀ b ∈ usesR x, T b) (hy : ∀ b ∈ usesR y, T b) (hg : T g) (hq : eff ≠ [] → ∀ ad, q = some ad → T ad.block) : ∀ b ∈ usesR (.node ⟨k, rho, q, m, qc, eff, some ⟨g, 0, none⟩, 2, 2⟩ [x, y]), T b := fun b hb => by
  rcases usesR_cases hb with ⟨_, ad, hp, rfl⟩ | ⟨he, ad, hp, rfl⟩ | ⟨t, ht, hbt⟩
  · cases hp; exact hg
  · exact hq he ad hp
  · simp only [List.mem_cons, List.not_mem_nil, or_false] at ht
    rcases ht with rfl | rfl
    · exact hx b hbt
    · exact hy b hbt
theorem er_head (t : PT) : (PT.er t).head = t.head.plain := by cases t; rw [PT.er_node]; rfl
theorem er_kids (t : PT) : (PT.er t).kids = t.kids.map PT.er := by cases t; rw [PT.er_node]; rfl
theorem isK_er (k : Int) (r : RV) : isK k r.er = (r.ty.head.kind == k) := by
  unfold isK RV.er
  rw [er_head]; rfl
theorem all_er (k : Int) (l : List RV) : (erL l).all (isK k) = l.all (fun r => r.ty.head.kind == k) := by
  unfold erL
  rw [List.all_map]
  congr 1
  funext r
  exact isK_er k r
theorem one_lies {W : World} {k rho : Int} {q : Option Addr} {m qc g : Nat} {eff : List Atom} {x : PT} (hk : 0 ≤ k ∧ k ≤ 255) (hr : inI rho) (hrow : IsRow encA 3 W q m qc eff) (hok : ∀ x ∈ eff, okAt x) (ht : RowT W (some ⟨g, 0, none⟩) 1 1 [x]) : LR.lies W (.node ⟨k, rho, q, m, qc, eff, some ⟨g, 0, none⟩, 1, 1⟩ [x]) :=
  NodeIn.lies ⟨⟨hrow, hok, hk.1, hk.2, hr.1, hr.2, by dsimp only; decide, by dsimp only; decide, fun h => (nomatch h)⟩, ht.row, ht.each⟩
theorem one_uses {T : Nat → Prop} {k rho : Int} {q : Option Addr} {m qc g : Nat} {eff : List Atom} {x : PT} (hx : ∀ b ∈ usesR x, T b) (hg : T g) (hq : eff ≠ [] → ∀ ad, q = some ad → T ad.block) : ∀ b ∈ usesR (.node ⟨k, rho, q, m, qc, eff, some ⟨g, 0, none⟩, 1, 1⟩ [x]), T b := fun b hb => by
  rcases usesR_cases hb with ⟨_, ad, hp, rfl⟩ | ⟨he, ad, hp, rfl⟩ | ⟨t, ht, hbt⟩
  · cases hp; exact hg
  · exact hq he ad hp
  · rw [List.mem_singleton] at ht; subst ht
    exact hx b hbt
theorem er_rho (x : RV) : (Rose.head x.er.1).rho = x.ty.head.rho := by unfold RV.er; rw [er_head]; rfl
theorem er_eff (x : RV) : (Rose.head x.er.1).eff = x.ty.head.eff := by unfold RV.er; rw [er_head]; rfl
theorem rv_c {W : World} {b o n c : Nat} {x : RV} {l : List RV} (h : IsRow encRV 5 W (some ⟨b, o, none⟩) n c (x :: l)) (i : Nat) (v : Value) (hv : (encRV x)[i]? = some v) : W.cell? ⟨b, o + i, none⟩ = some v := rv_all0 h i v hv
structure Kids (w : World) (b o b1 o1 n kc : Nat) (x : RV) (ts : List PT) : Prop where
  kids : x.ty.kids = ts
  cell : ∀ W, Below w.heap.size w W → W.cell? ⟨b, o + 3, none⟩ = some (.slice (some ⟨b1, o1, none⟩) n kc)
  row : RowT w (some ⟨b1, o1, none⟩) n kc ts
theorem Kids.at {w : World} {b o b1 o1 n kc : Nat} {x : RV} {ts : List PT} (h : Kids w b o b1 o1 n kc x ts) {j : Nat} {t : PT} (ht : ts[j]? = some t) {W : World} (hb : Below w.heap.size w W) : W.rangeAt b1 (o1 + j * 4) [.int .u8 t.head.kind, .int .i64 t.head.rho, .slice t.head.ep t.head.en t.head.ec, .slice t.head.kp t.head.kn t.head.kc] := fun i v hv => by
  obtain ⟨b', o', hp, _, hc⟩ := (h.row.below hb).row.row.elem ht
  cases hp
  exact hc i v hv
theorem kids_of {w : World} {S : Nat → Prop} {a : AH} {b o n c : Nat} {x : RV} {l : List RV} (h : RlIn w S a (some ⟨b, o, none⟩) n c (x :: l)) {k : Int} (hk : x.ty.head.kind = k) (hkk : k = 2 ∨ k = 3 ∨ k = 4) :
    ∃ b1 o1 kc ts, Kids w b o b1 o1 ts.length kc x ts ∧ ts.length = if k = 3 then 1 else 2 := by
  have hx := h.res.each x (by simp)
  have hm := (h.good x (by simp)).1
  have hn : NodeIn w x.ty.head x.ty.kids := nodeIn (by rw [← Rose.eta]; exact hx.ty)
  have hlen : x.ty.kids.length = if k = 3 then 1 else 2 := by
    rw [Rose.eta x.ty, mayT_er, Bool.and_eq_true] at hm
    have h1 := hm.1
    unfold nodeB at h1
    have e : x.ty.head.plain.kind = k := hk
    rcases hkk with rfl | rfl | rfl
    · simp [e] at h1; simp [h1]
    · simp [e] at h1; simp [h1]
    · simp [e] at h1; simp [h1]
  have hne : x.ty.kids ≠ [] := by intro e; rw [e] at hlen; simp at hlen; split at hlen <;> omega
  have hkn := hn.kids.len
  rcases hn.kids.row with h0 | ⟨b1, o1, hp, _, _⟩
  · exact absurd h0 hne
  · refine ⟨b1, o1, x.ty.head.kc, x.ty.kids, ⟨rfl, fun W hb => ?_, ?_⟩, hlen⟩
    · rw [rv_c (h.res.row.below hb) 3 _ rfl, hp, hkn]
    · rw [← hp, hkn]; exact hn.rowT
theorem kid_uses {x : PT} {S : Nat → Prop} (h : ∀ b ∈ usesR x, S b) {t : PT} (ht : t ∈ x.kids) : ∀ b ∈ usesR t, S b := fun b hb => h b (by rw [Rose.eta x]; exact usesR_kid ht hb)
theorem kid_er {x : PT} {ts : List PT} (h : x.kids = ts) (j : Nat) : (PT.er x).kids.getD j tZero = ((ts.map PT.er)[j]?).getD tZero := by rw [er_kids, h, List.getD_eq_getElem?_getD]
end
section
open Go.RowKit
structure InS (w : World) (a : AH) (x y : Value) (W : World) : Prop where
  b : RgB w W a x y
  res : ∃ cs : Array Value, cs.size = 2 ∧ W.heap[w.heap.size + 2]? = some (.cells cs 84 (0, 0))
  size : w.heap.size + 3 ≤ W.heap.size
theorem ins_new (w : World) (a : AH) (x y : Value) : InS w a x y (((w.alloc (.cells #[x, y] 84)).alloc (boxA a)).alloc (.cells #[.slice none 0 0, .slice none 0 0] 84)) := by
  have e := heap_alloc_new ((w.alloc (.cells #[x, y] 84)).alloc (boxA a)) (.cells #[.slice none 0 0, .slice none 0 0] 84)
  simp only [World.size_alloc] at e
  exact ⟨(rgb_new w a x y).step ((Below.refl _ _).alloc (Nat.le_refl _) _), ⟨_, rfl, e⟩, by simp⟩
theorem InS.step {w W W' : World} {a : AH} {x y : Value} (h : InS w a x y W) (hb : Below W.heap.size W W') : InS w a x y W' := by
  obtain ⟨cs, h1, h2⟩ := h.res
  exact ⟨h.b.step hb, ⟨cs, h1, (hb.block _ (Array.getElem?_eq_some_iff.1 h2).1).trans h2⟩, Nat.le_trans h.size hb.size⟩
theorem InS.alloc {w W : World} {a : AH} {x y : Value} (h : InS w a x y W) (o : Obj) : InS w a x y (W.alloc o) := h.step ((Below.refl _ _).alloc (Nat.le_refl _) _)
theorem InS.drew {w W : World} {a : AH} {x y : Value} (h : InS w a x y W) : InS w a x y W.drew := h.step (bel_drew W)
theorem InS.below {w W : World} {a : AH} {x y : Value} (h : InS w a x y W) : Below w.heap.size w W := h.b.below
theorem InS.store {w W : World} {a : AH} {x y : Value} (h : InS w a x y W) {cs : Array Value} (hc : cs.size = 2) : InS w a x y (W.setRow (w.heap.size + 2) cs) := by
  obtain ⟨cs', h1, h2⟩ := h.res
  exact ⟨⟨(setRow_other _ _ _ _ (by omega)).trans h.b.b0, ⟨(setRow_other _ _ _ _ (by omega)).trans h.b.b1.blk⟩, h.below.grown row_set h.below.size (fun k e => by cases e; omega)⟩, ⟨cs, hc, setRow_heap _ _ _ _ _ _ h2⟩, by have := h.size; simpa using this⟩
theorem InS.heap {w W : World} {a : AH} {x y : Value} (h : InS w a x y W) (cs : Array Value) : (W.setRow (w.heap.size + 2) cs).heap[w.heap.size + 2]? = some (.cells cs 84 (0, 0)) := by
  obtain ⟨cs', _, h2⟩ := h.res
  exact setRow_heap _ _ _ _ _ _ h2
theorem cell_grown {w w' : World} {r g : Nat} (hg : w.grownBy w' (some r)) (hlt : g < w.heap.size) (hr : g ≠ r) (i : Nat) : w'.cell? ⟨g, i, none⟩ = w.cell? ⟨g, i, none⟩ := by
  have h := hg.5 g hlt (fun e => hr (by cases e; rfl))
  simp only [World.cell?, h]
theorem BV.Ok.grown {w0 w w' : World} {S : Nat → Prop} {b : BV} {r : Nat} (h : b.Ok w0 w S) (hg : w.grownBy w' (some r)) (hr : ¬ S r) (hf : ∀ a g, b.fn = some (a, g) → g ≠ r) (hsz : w.heap.size ≤ w'.heap.size) : b.Ok w0 w' S :=
  ⟨lies_grownU hg _ (fun x hx e => hr (by cases e; exact h.uses _ hx)) h.ty, h.uses, fun a g e => ⟨⟨fun i v hv => (cell_grown hg (h.fn a g e).2.2 (hf a g e) _).trans ((h.fn a g e).1.c i v hv)⟩, (h.fn a g e).2.1, Nat.lt_of_lt_of_le (h.fn a g e).2.2 hsz⟩, h.name⟩
def OutI (w0 w : World) (S : Nat → Prop) (n m : Nat) (eb : List Bnd) (rr : List Int) (e : Ending) (w' : World) : Prop :=
  ∃ p' n' c' env' q' m' c'', e = .returned (.agg #[.slice p' n' c', .slice q' m' c'']) ∧ EnvAt w0 w' S p' n' c' env' ∧ erE env' = eb ∧ IsRow encN 1 w' q' m' c'' rr ∧ n' ≤ n + 2 ∧ m' ≤ m + 50 ∧ Below w.heap.size w w'
theorem bv_tzero (W : World) (S : Nat → Prop) : LR.lies W (.node ⟨0, 0, none, 0, 0, [], none, 0, 0⟩ [] : PT) ∧ ∀ x ∈ usesR (.node ⟨0, 0, none, 0, 0, [], none, 0, 0⟩ [] : PT), S x :=
  ⟨NodeIn.lies ⟨⟨IsRow.none encA 3 _, (fun x hx => (nomatch hx)), by dsimp only; decide, by dsimp only; decide, by dsimp only; decide, by dsimp only; decide, by dsimp only; decide, by dsimp only; decide, fun _ => rfl⟩, IsRow.none _ _ _, fun t ht => by cases ht⟩, fun b hb => by simp [usesR_node] at hb⟩
theorem bv_tint (W : World) (S : Nat → Prop) : LR.lies W (.node ⟨1, 0, none, 0, 0, [], none, 0, 0⟩ [] : PT) ∧ ∀ x ∈ usesR (.node ⟨1, 0, none, 0, 0, [], none, 0, 0⟩ [] : PT), S x :=
  ⟨NodeIn.lies ⟨⟨IsRow.none encA 3 _, (fun x hx => (nomatch hx)), by dsimp only; decide, by dsimp only; decide, by dsimp only; decide, by dsimp only; decide, by dsimp only; decide, by dsimp only; decide, fun _ => rfl⟩, IsRow.none _ _ _, fun t ht => by cases ht⟩, fun b hb => by simp [usesR_node] at hb⟩
def Si (w : World) (S : Nat → Prop) (b : Nat) : Prop := (b < w.heap.size ∧ S b) ∨ w.heap.size + 3 ≤ b
theorem in_out {w0 w W : World} {S : Nat → Prop} {a : AH} {x y : Value} {n m : Nat} {eb : List Bnd} {rr : List Int} (hI : InS w a x y W) (hS : ∀ b, w.heap.size ≤ b → S b) {p' : Option Addr} {n' c' : Nat} {env' : List BV} (hrow : IsRow encBV 6 W p' n' c' env')
    (hfar : env' ≠ [] → ∀ ad, p' = some ad → ad.block ≠ w.heap.size + 2) (hok : ∀ b ∈ env', b.Ok w0 W (Si w S) ∧ ∀ a g, b.fn = some (a, g) → g ≠ w.heap.size + 2) (he : erE env' = eb)
    {q' : Option Addr} {m' c'' : Nat} (hq : IsRow encN 1 W q' m' c'' rr) (hqfar : rr ≠ [] → ∀ ad, q' = some ad → ad.block ≠ w.heap.size + 2) (hn : n' ≤ n + 2) (hm : m' ≤ m + 50) :
    OutI w0 w S n m eb rr (.returned (.agg #[.slice p' n' c', .slice q' m' c''])) (W.setRow (w.heap.size + 2) #[.slice p' n' c', .slice q' m' c'']) := by
  have hns : ¬ Si w S (w.heap.size + 2) := by
    rintro (⟨h1, _⟩ | h1) <;> omega
  refine ⟨p', n', c', env', q', m', c'', rfl, ⟨row_far hrow row_set hfar, fun b hb => ?_⟩, he, row_far hq row_set hqfar, hn, hm, (hI.store (cs := #[.slice p' n' c', .slice q' m' c'']) rfl).below⟩
  refine ((hok b hb).1.grown row_set hns (hok b hb).2 (by simp)).weak (fun z hz => ?_)
  rcases (hok b hb).1.uses z hz with ⟨_, h2⟩ | h2
  · exact h2
  · exact hS z (by omega)
end
section
open Go.RowKit
structure NdS (w : World) (a : AH) (x y : Value) (W : World) : Prop where
  b : RgB w W a x y
  res : ∃ cs : Array Value, cs.size = 5 ∧ W.heap[w.heap.size + 2]? = some (.cells cs 81 (0, 0))
  size : w.heap.size + 3 ≤ W.heap.size
theorem nds_new (w : World) (a : AH) (x y : Value) : NdS w a x y (((w.alloc (.cells #[x, y] 84)).alloc (boxA a)).alloc (.cells #[.int .u8 0, .int .i64 0, .slice none 0 0, .slice none 0 0, .slice none 0 0] 81)) := by
  have e := heap_alloc_new ((w.alloc (.cells #[x, y] 84)).alloc (boxA a)) (.cells #[.int .u8 0, .int .i64 0, .slice none 0 0, .slice none 0 0, .slice none 0 0] 81)
  simp only [World.size_alloc] at e
  exact ⟨(rgb_new w a x y).step ((Below.refl _ _).alloc (Nat.le_refl _) _), ⟨_, rfl, e⟩, by simp⟩
theorem NdS.step {w W W' : World} {a : AH} {x y : Value} (h : NdS w a x y W) (hb : Below W.heap.size W W') : NdS w a x y W' := by
  obtain ⟨cs, h1, h2⟩ := h.res
  exact ⟨h.b.step hb, ⟨cs, h1, (hb.block _ (Array.getElem?_eq_some_iff.1 h2).1).trans h2⟩, Nat.le_trans h.size hb.size⟩
theorem NdS.alloc {w W : World} {a : AH} {x y : Value} (h : NdS w a x y W) (o : Obj) : NdS w a x y (W.alloc o) := h.step ((Below.refl _ _).alloc (Nat.le_refl _) _)
theorem NdS.drew {w W : World} {a : AH} {x y : Value} (h : NdS w a x y W) : NdS w a x y W.drew := h.step (bel_drew W)
theorem NdS.below {w W : World} {a : AH} {x y : Value} (h : NdS w a x y W) : Below w.heap.size w W := h.b.below
theorem NdS.store {w W : World} {a : AH} {x y : Value} (h : NdS w a x y W) {cs : Array Value} (hc : cs.size = 5) : NdS w a x y (W.setRow (w.heap.size + 2) cs) := by
  obtain ⟨cs', h1, h2⟩ := h.res
  exact ⟨⟨(setRow_other _ _ _ _ (by omega)).trans h.b.b0, ⟨(setRow_other _ _ _ _ (by omega)).trans h.b.b1.blk⟩, h.below.grown row_set h.below.size (fun k e => by cases e; omega)⟩, ⟨cs, hc, setRow_heap _ _ _ _ _ _ h2⟩, by have := h.size; simpa using this⟩
theorem NdS.heap {w W : World} {a : AH} {x y : Value} (h : NdS w a x y W) (cs : Array Value) : (W.setRow (w.heap.size + 2) cs).heap[w.heap.size + 2]? = some (.cells cs 81 (0, 0)) := by
  obtain ⟨cs', _, h2⟩ := h.res
  exact setRow_heap _ _ _ _ _ _ h2
theorem wpList_store_nd {P : Program} {ops : Array Oper} {rest : List Oper} {o : Oper} {act : Act} {Q : Exit → Act → World → Prop} (hgd : o.guard = none) (ty : TypeId) (x y : Operand) (ho : o.op = .store ty x y)
    {w W : World} {a : AH} {u v : Value} (h : NdS w a u v W) (cells : Array Value) (hx : act.eval x = .pointer (some ⟨w.heap.size + 2, 0, none⟩)) (hy : act.eval y = .agg cells) (hi : (P.info? ty).map (·.size) = some cells.size) (h5 : cells.size = 5) (h1 : cells.all (·.oneCell') = true)
    (hK : wpList P ops Q rest (act.put o.dst undef) (W.setRow (w.heap.size + 2) cells)) : wpList P ops Q (o :: rest) act W := by
  obtain ⟨cs, e1, e2⟩ := h.res
  exact wpList_store_row hgd ty x y ho (w.heap.size + 2) cells hx hy 81 cs e2 hi (by omega) h1 hK
theorem step_store_nd {P : Program} {ops : Array Oper} {o : Oper} {act : Act} {K : Act → World → Prop} {Q : Exit → Act → World → Prop} {E : Prop} (hgd : o.guard = none) (ty : TypeId) (x y : Operand) (ho : o.op = .store ty x y)
    {w W : World} {a : AH} {u v : Value} (h : NdS w a u v W) (cells : Array Value) (hx : act.eval x = .pointer (some ⟨w.heap.size + 2, 0, none⟩)) (hy : act.eval y = .agg cells) (hi : (P.info? ty).map (·.size) = some cells.size) (h5 : cells.size = 5) (h1 : cells.all (·.oneCell') = true)
    (hK : K (act.put o.dst undef) (W.setRow (w.heap.size + 2) cells)) : if Region.wanted o (yielded ops act.tmps) = true then Oper.wp P o act W K Q else E := by
  obtain ⟨cs, e1, e2⟩ := h.res
  rw [if_pos (by simp [Region.wanted, hgd])]
  exact wp_store_row ty x y ho (w.heap.size + 2) cells hx hy 81 cs e2 hi (by omega) h1 hK
theorem not_si {w : World} {S : Nat → Prop} {k : Nat} (h0 : w.heap.size ≤ k) (h1 : k < w.heap.size + 3) : ¬ Si w S k := by
  rintro (⟨h, _⟩ | h) <;> omega
theorem out_nd {w W : World} {a : AH} {u v : Value} {S : Nat → Prop} {y : RV} {x : TE} (h : NdS w a u v W) (hS : ∀ b, w.heap.size ≤ b → S b) (hy : y.Ok W (Si w S)) (hx : y.er = x) : OutC w S (.ok x) (.returned (aggRV y)) (W.setRow (w.heap.size + 2) (cellsRV y)) := by
  refine ⟨⟨y, rfl, hx, (hy.grown row_set (fun b e => by cases e; exact not_si (by omega) (by omega))).weak (fun b _ hb => ?_)⟩, (h.store (cs := cellsRV y) rfl).below⟩
  rcases hb with ⟨_, h2⟩ | h2
  · exact h2
  · exact hS b (by omega)
theorem env_si {w0 w W : World} {S : Nat → Prop} {p : Option Addr} {n c : Nat} {env : List BV} (h : EnvAt w0 w S p n c env) (hb : Below w.heap.size w W) : EnvAt w0 W (Si w S) p n c env :=
  ⟨h.row.below hb, fun b hbm => ((h.each b hbm).below hb).weak (fun x hx => .inl ⟨lies_uses _ (h.each b hbm).ty x hx, (h.each b hbm).uses x hx⟩)⟩
def GoodEnv (env : List Bnd) : Prop := ∀ b ∈ env, GoodB b ∧ b.ty.size ≤ 500
theorem goodEnv_nil : GoodEnv [] := fun b hb => by cases hb
theorem goodEnv_inner {env : List Bnd} {a : LAH} {n i : Nat} {acc : List TE} (ha : GoodN a n) (he : GoodEnv env) (hacc : a.kind = 12 → i = 1 → mayT (acc.getD 0 dTE).1 = true ∧ effsOK (acc.getD 0 dTE).1 = true ∧ (acc.getD 0 dTE).1.size ≤ 500) : GoodEnv (innerE env a i acc) := by
  intro b hb
  refine ⟨env_good ha (fun x hx => (he x hx).1) (fun h1 h2 => ⟨(hacc h1 h2).1, (hacc h1 h2).2.1⟩) b hb, ?_⟩
  have h0 : tZero.size ≤ 500 := by decide
  have h1 : tInt.size ≤ 500 := by decide
  have ht := ha.tys.size
  unfold innerE at hb
  split at hb
  · rcases List.mem_append.1 hb with hb | hb
    · exact (he b hb).2
    · rw [List.mem_singleton] at hb; subst hb; show a.ty.size ≤ 500; omega
  split at hb
  · rename_i k
    rcases List.mem_append.1 hb with hb | hb
    · exact (he b hb).2
    · rw [List.mem_singleton] at hb; subst hb; exact (hacc k.1 k.2).2.2
  split at hb
  · rcases List.mem_append.1 hb with hb | hb
    · exact (he b hb).2
    · simp only [List.mem_cons, List.not_mem_nil, or_false] at hb
      rcases hb with rfl | rfl
      · exact h0
      · show a.ty.size ≤ 500; omega
  split at hb
  · rcases List.mem_append.1 hb with hb | hb
    · exact (he b hb).2
    · rw [List.mem_singleton] at hb; subst hb; exact h0
  split at hb
  · rcases List.mem_append.1 hb with hb | hb
    · exact (he b hb).2
    · rw [List.mem_singleton] at hb; subst hb; exact h1
  · exact (he b hb).2
theorem kid_size {x : RT} (j : Nat) : (x.kids.getD j tZero).size ≤ x.size := by
  cases x with
  | node a l =>
    rw [Rose.size_node]
    simp only [Rose.kids]
    rw [List.getD_eq_getElem?_getD]
    cases h : l[j]? with
    | none => simp only [Option.getD_none]; show 1 ≤ _; omega
    | some t =>
      simp only [Option.getD_some]
      have := le_sum_of_mem (List.mem_map_of_mem (f := Rose.size) (List.mem_of_getElem? h))
      omega
theorem getD_size {l : List TE} (hl : ∀ y ∈ l, y.1.size ≤ 500) (j : Nat) : (l.getD j dTE).1.size ≤ 500 := by
  rw [List.getD_eq_getElem?_getD]
  cases h : l[j]? with
  | none => simp only [Option.getD_none]; show 1 ≤ _; omega
  | some t => exact hl t (List.mem_of_getElem? h)
theorem rule_size {a : LAH} {n : Nat} {l : List TE} {x : TE} (ha : GoodN a n) (hl : ∀ y ∈ l, y.1.size ≤ 500) (h : RuleOk a l x) : x.1.size ≤ 1001 := by
  have h0 := getD_size hl 0
  have h1 := getD_size hl 1
  have ht := ha.tys.size
  have hk := fun j => kid_size (x := (l.getD 0 dTE).1) j
  cases h with
  | pair k => simp only [tyP, Rose.size_node, List.map_cons, List.map_nil, List.sum_cons, List.sum_nil]; omega
  | proj k _ => have := hk (a.kind - 4).toNat; simp only; omega
  | ref k => simp only [tyP, Rose.size_node, List.map_cons, List.map_nil, List.sum_cons, List.sum_nil]; omega
  | get k _ => have := hk 0; simp only; omega
  | set k _ _ => show 1 ≤ _; omega
  | app k _ _ => have := hk 1; simp only; omega
  | op k _ => show 1 ≤ _; omega
  | ite k _ _ => simp only; omega
  | raise k _ => simp only; omega
  | num k => show 1 ≤ _; omega
  | fn k _ => simp only [tyP, Rose.size_node, List.map_cons, List.map_nil, List.sum_cons, List.sum_nil]; omega
  | letrec k _ _ => simp only; omega
  | handle k _ => simp only; omega
  | region k _ => simp only; omega
  | other k => simp only; omega
theorem chk_size (t : AT) {env : List Bnd} {rhos : List Int} {x : TE} (h : chk env rhos t = .ok x) : x.1.size ≤ 500 := by
  cases t with
  | node a l => exact (chk_ok.1 h).2
theorem found_size {env : List Bnd} {rhos : List Int} {a : LAH} {l : List AT} {x : TE} (ha : GoodN a l.length) (he : GoodEnv env) (h : foundP env rhos a l = .ok x) : x.1.size ≤ 1001 := by
  rw [found_ok] at h
  rcases h.2 with ⟨k, h⟩ | ⟨k, h⟩ | ⟨k2, k18, ks, hks, h⟩
  · unfold varP errP at h
    cases hf : findP env a.name with
    | none => rw [hf] at h; cases h
    | some b =>
      rw [hf] at h
      simp only [mustP_ok] at h
      obtain ⟨hn, h⟩ := h
      cases h
      have := (he b (findP_mem hf).1).2
      simp only; omega
  · unfold instP errP at h
    cases hf : findP env a.name with
    | none => rw [hf] at h; cases h
    | some b =>
      rw [hf] at h
      simp only at h
      cases hb : b.fn with
      | none => rw [hb] at h; cases h
      | some f =>
        rw [hb] at h
        simp only [mustP_ok, decide_eq_true_eq] at h
        obtain ⟨hlen, _, h⟩ := h
        cases h
        obtain ⟨n, hfn, _, _⟩ := (he b (findP_mem hf).1).1.fn f hb
        have h1 := hfn.tys.size
        have h2 := hfn.ress.size
        simp only [tyP, Rose.size_node, List.map_cons, List.map_nil, List.sum_cons, List.sum_nil, size_swap]
        omega
  · rw [ruleP_ok] at h
    obtain ⟨rs, hrs, hl, hj⟩ := chkL_ok _ _ _ _ hks
    rw [List.nil_append] at hrs
    subst hrs
    refine rule_size ha (fun y hy => ?_) h
    obtain ⟨j, hj'⟩ := List.getElem?_of_mem hy
    have hlt : j < l.length := by rw [← hl]; exact get_lt hj'
    obtain ⟨r, e1, e2⟩ := hj j _ (List.getElem?_eq_getElem hlt)
    rw [hj'] at e1; cases e1
    exact chk_size _ e2
end
section
open Go.RowKit
theorem range_heap {W : World} {g : Nat} {cs : Array Value} {t : TypeId} (h : W.heap[g]? = some (.cells cs t (0, 0))) (l : List Value) (hl : ∀ (i : Nat) (v : Value), l[i]? = some v → cs[i]? = some v) : W.rangeAt g 0 l := fun j v hj => by
  rw [Nat.zero_add, Lib.cell_of_heap h]
  exact hl j v hj
theorem rtype_Size_one {p : Option Addr} {c : Nat} {t : PT} {w : World} (hr : RowT w p 1 c [t]) (hs : t.size ≤ 1000000) :
    Calls Tryz.prog 65 #[.slice p 1 c] w fun e w' => e = .returned (.int .i64 (t.size : Int)) ∧ Below w.heap.size w w' := by
  have e : sizes [t] = t.size := by simp [sizes]
  have := rtype_Size_any hr (by rw [e]; exact hs)
  rwa [e] at this
set_option maxHeartbeats 8000000 in
theorem scope_node_of {w : World} {S : Nat → Prop} {a : AH} {p q : Option Addr} {n c m mc : Nat} {R : ChkR} (hS : ∀ b, w.heap.size ≤ b → S b)
    (HF : ∀ W, Below w.heap.size w W → w.heap.size + 3 ≤ W.heap.size → Calls Tryz.prog 63 #[.agg #[.slice p n c, .slice q m mc], aggT a] W (OutC W (Si w S) R)) (hsz : ∀ x, R = .ok x → x.1.size ≤ 1001) :
    Calls Tryz.prog 38 #[.agg #[.slice p n c, .slice q m mc], aggT a] w (OutC w S (sizeP a.plain R)) := by
  have HX := hid (nds_new w a (.slice p n c) (.slice q m mc))
  have HS := hid hS
  have HFF := hid HF
  clear HF hS
  rcases R with ⟨r1, r2⟩ | x
  · clear hsz
    go_enter Tryz.func38, Tryz.ntmps38
    go_upto_region 1 with fail
    generalize (((w.alloc (.cells #[.slice p n c, .slice q m mc] 84)).alloc (boxA a)).alloc (.cells #[.int .u8 0, .int .i64 0, .slice none 0 0, .slice none 0 0, .slice none 0 0] 81)) = W1 at *
    go_wp2_with (first
      | (refine wpList_load_row rfl 84 _ rfl w.heap.size rfl 84 _ (0, 0) _ HX.out.b.b0 Tryz.underlying84 rfl (by kernel_rfl) ?_)
      | (refine wpList_load_row rfl 31 _ rfl (w.heap.size + 1) rfl 31 _ (0, 0) _ HX.out.b.b1.blk Tryz.underlying31 rfl (by kernel_rfl) ?_))
    go_at_call 63
    refine (HFF.out _ HX.out.below HX.out.size).mono ?_
    rintro e W9 ⟨hr, hb⟩
    subst hr
    exact ⟨rfl, rfl, (HX.out.step hb).below⟩
  · have hsx := hsz x rfl
    clear hsz
    obtain ⟨u, hu⟩ : ∃ u, decide (x.1.size ≤ 500) = u := ⟨_, rfl⟩
    have HR : Hid (sizeP a.plain (.ok x) = mustP u a.plain 3 (.ok x)) := by
      show _ = _
      rw [← hu]; rfl
    rw [HR.out]
    clear HR
    have HU := hid hu
    clear hu
    go_enter Tryz.func38, Tryz.ntmps38
    go_upto_region 1 with fail
    generalize (((w.alloc (.cells #[.slice p n c, .slice q m mc] 84)).alloc (boxA a)).alloc (.cells #[.int .u8 0, .int .i64 0, .slice none 0 0, .slice none 0 0, .slice none 0 0] 81)) = W1 at *
    go_wp2_with (first
      | (refine wpList_load_row rfl 84 _ rfl w.heap.size rfl 84 _ (0, 0) _ HX.out.b.b0 Tryz.underlying84 rfl (by kernel_rfl) ?_)
      | (refine wpList_load_row rfl 31 _ rfl (w.heap.size + 1) rfl 31 _ (0, 0) _ HX.out.b.b1.blk Tryz.underlying31 rfl (by kernel_rfl) ?_)
      | (go_at_call 63; refine (HFF.out _ HX.out.below HX.out.size).mono ?_; rintro e W9 ⟨hr, hb⟩; obtain ⟨y, rfl, hyx, hy⟩ := hr; have HX9 := hid (HX.out.step hb); have HY := hid hy; have HYX := hid hyx; have HAL := hid (heap_alloc_new W9 (.cells #[.int .u8 0, .int .i64 0, .slice none 0 0, .slice none 0 0, .slice none 0 0] 81)); clear hy hyx HX hb)
      | (refine wpList_store_row rfl 81 _ _ rfl W9.heap.size (cellsRV y) rfl rfl 81 _ HAL.out (by kernel_rfl) rfl (by simp [Value.oneCell']) ?_; rw [World.setRow_alloc_new]))
    have HG := hid (heap_alloc_new W9 (.cells (cellsRV y) 81))
    have HX2 := hid (HX9.out.alloc (.cells (cellsRV y) 81))
    have HY2 := hid (HY.out.below ((Below.refl W9.heap.size W9).alloc (Nat.le_refl _) (.cells (cellsRV y) 81)))
    have hsy : y.ty.size = x.1.size := by rw [← HYX.out]; exact (er_size y.ty).symm
    have hu2 : decide ((y.ty.size : Int) ≤ 500) = u := by
      rw [← HU.out, hsy]
      exact decide_eq_decide.2 (by omega)
    have hs2 : y.ty.size ≤ 1000000 := by omega
    have HS2 := hid hs2
    clear hsy hs2 HAL HY HX9 hsx
    obtain ⟨g, hg⟩ : ∃ g, W9.heap.size = g := ⟨_, rfl⟩
    rw [hg] at HG ⊢
    generalize (W9.alloc (.cells (cellsRV y) 81)) = W2 at *
    clear hg
    go_upto_region 2 with fail
    refine wp_region_held_drew (S := fun W' => Below W2.heap.size W2 W') (by kernel_rfl) ?_ (fun hHeld => ?_)
    · exact bel_drew W2
    refine tk (i := 0) (oi := ⟨some 9, _, _, _, _, none⟩) (v := ?_) rfl (Or.inl ⟨by rfl, ?_⟩) ?_
    rotate_left; · intro w h; go_simp; try with_reducible rfl
    try simp only [Act.put, zA, zB, zC]
    refine tk (i := 1) (oi := ⟨some 10, _, _, _, _, none⟩) (v := .agg ([.int .u8 y.ty.head.kind, .int .i64 y.ty.head.rho, .slice y.ty.head.ep y.ty.head.en y.ty.head.ec, .slice y.ty.head.kp y.ty.head.kn y.ty.head.kc] : List Value).toArray) rfl (yieldsIf_load_mid (by rfl) 28 _ rfl g 0 rfl _ _ (fun W' hSw => range_heap ((hSw.block _ (Array.getElem?_eq_some_iff.1 HG.out).1).trans HG.out) _ (by intro i v hv; match i, hv with | 0, hv => exact hv | 1, hv => exact hv | 2, hv => exact hv | 3, hv => exact hv)) Tryz.underlying28 rfl (by kernel_rfl)) ?_
    try simp only [Act.put, zA, zB, zC]
    refine tk (i := 5) (oi := ⟨some 14, _, _, _, _, none⟩) (v := .agg ([.int .u8 a.kind, .int .u8 a.op, .int .i64 a.at_, .int .i64 a.n, .string a.name, .string a.arg, .string a.exn, .int .i64 a.rho, .slice a.rp a.rn a.rc, .slice a.ep a.en a.ec, .int .u8 a.ty.head.kind, .int .i64 a.ty.head.rho, .slice a.ty.head.ep a.ty.head.en a.ty.head.ec, .slice a.ty.head.kp a.ty.head.kn a.ty.head.kc, .int .u8 a.res.head.kind, .int .i64 a.res.head.rho, .slice a.res.head.ep a.res.head.en a.res.head.ec, .slice a.res.head.kp a.res.head.kn a.res.head.kc, .slice a.kp a.kn a.kc] : List Value).toArray) rfl (yieldsIf_load_mid (by rfl) 31 _ rfl (w.heap.size + 1) 0 rfl _ _ (fun W' hSw => (HX2.out.step hSw).b.b1.range) Tryz.underlying31 rfl (by kernel_rfl)) ?_
    try simp only [Act.put, zA, zB, zC]
    refine wpAnyH_ready (rs := [2]) (by kernel_rfl) (by simp) ?_
    refine AllReadyH.cons (o := ⟨some 11, _, _, _, _, none⟩) rfl (fun K hK => ?_) AllReadyH.nil
    go_simp
    refine hK.out _ _ ?_ (fun hNew => ?_)
    · (try dsimp only); exact bel_alloc hHeld _
    clear hHeld hK K; have hHeld := hNew; clear hNew
    try simp only [Act.put, zA, zB, zC]
    refine wpAnyH_ready (rs := [3]) (by kernel_rfl) (by simp) ?_
    refine AllReadyH.cons (o := ⟨some 12, _, _, _, _, none⟩) rfl (fun K hK => ?_) AllReadyH.nil
    go_simp
    go_at_call 65
    refine (rtype_Size_one ((rowT_made HY2.out.ty 28).below (bel_drew _)) HS2.out).mono ?_
    rintro e w3 ⟨rfl, hb⟩
    try go_wp2_with fail
    refine hK.out _ _ ?_ (fun hNew => ?_)
    · (try dsimp only); exact bel_step hHeld hb
    clear hHeld hK K; have hHeld := hNew; clear hNew
    try simp only [Act.put, zA, zB, zC]
    refine tk (i := 4) (oi := ⟨some 13, _, _, _, _, none⟩) (v := ?_) rfl (Or.inl ⟨by rfl, ?_⟩) ?_
    rotate_left; · intro w h; go_simp; try with_reducible rfl
    try simp only [Act.put, zA, zB, zC]
    refine wpAnyH_ready (rs := [6]) (by kernel_rfl) (by simp) ?_
    refine AllReadyH.cons (o := ⟨some 15, _, _, _, _, none⟩) rfl (fun K hK => ?_) AllReadyH.nil
    go_simp
    cases u
    · go_at_call 64
      refine (must_no a 3 _).mono ?_
      rintro e w9 ⟨rfl, hb⟩
      exact ⟨rfl, rfl, HX2.out.below.trans ((bel_step hHeld hb).mono HX2.out.below.size)⟩
    go_at_call 64
    refine (must_yes a 3 _).mono ?_
    rintro e w9 ⟨rfl, hb⟩
    try go_wp2_with fail
    refine hK.out _ _ ?_ (fun hNew => ?_)
    · (try dsimp only); exact bel_step hHeld hb
    clear hHeld hK K; have hHeld := hNew; clear hNew
    try simp only [Act.put, zA, zB, zC]
    refine wpAnyH_done (by kernel_rfl) ?_ _
    have HX3 := hid (HX2.out.step hHeld)
    have HG3 := hid ((hHeld.block _ (Array.getElem?_eq_some_iff.1 HG.out).1).trans HG.out)
    have HY3 := hid (HY2.out.below hHeld)
    clear hHeld hu2
    go_wp2_with (first
      | (refine wpList_load_row rfl 81 _ rfl g rfl 81 _ (0, 0) _ HG3.out Tryz.underlying81 rfl (by kernel_rfl) ?_)
      | (refine wpList_store_nd rfl _ _ _ rfl HX3.out (cellsRV y) (by rfl) (by rfl) (by kernel_rfl) rfl (by simp [Value.oneCell']) ?_))
    refine bodyPost_ret (results_cell_row rfl _ _ _ _ _ _ _ rfl (HX3.out.heap _) Tryz.underlying81 rfl (by kernel_rfl)) rfl ?_
    exact out_nd HX3.out HS.out HY3.out HYX.out
end
end Go.Proofs.YtkdjnegfnhldpaaGreatDoor
