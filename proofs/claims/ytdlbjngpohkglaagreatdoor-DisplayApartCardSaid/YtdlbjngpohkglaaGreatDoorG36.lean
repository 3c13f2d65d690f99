/- Part 36 of the texts: Pl. -/
import Derived.Test.YtdlbjngpohkglaaGreatDoorG23
import Derived.Test.YtdlbjngpohkglaaGreatDoorG22
import Derived.Test.YtdlbjngpohkglaaGreatDoorG34
import Derived.Test.YtdlbjngpohkglaaGreatDoorG29
import Derived.Deep.WholeRow
import Derived.Deep.MidRow
section
set_option linter.unusedVariables false
set_option maxRecDepth 100000
set_option linter.unusedSimpArgs false
namespace Go.Proofs.YtdlbjngpohkglaaGreatDoor
open Go.RowKit Go.Sort Go.Lib

abbrev zAO : Obj := .cells #[.int .u8 0, .int .u8 0, .int .i64 0, .int .i64 0, .string ⟨#[]⟩, .string ⟨#[]⟩, .string ⟨#[]⟩, .int .i64 0, .slice none 0 0, .slice none 0 0, .int .u8 0, .int .i64 0, .slice none 0 0, .slice none 0 0, .int .u8 0, .int .i64 0, .slice none 0 0, .slice none 0 0, .slice none 0 0] 31
theorem step_load_mid {P : Program} {ops : Array Oper} {o : Oper} {a : Act} {w : World} {K : Act → World → Prop} {Q : Exit → Act → World → Prop} {E : Prop} (hgd : o.guard = none) (ty : TypeId) (x : Operand) (ho : o.op = .load ty x)
    (b off : Nat) (hx : a.eval x = .pointer (some ⟨b, off, none⟩)) (cs : List Value) (d : TypeDesc) (hc : w.rangeAt b off cs)
    (hu : P.underlying ty = some d) (hd : d.isRow = true) (hi : (P.info? ty).map (·.size) = some cs.length)
    (h : K (a.put o.dst (.agg cs.toArray)) w) : if Region.wanted o (yielded ops a.tmps) = true then Oper.wp P o a w K Q else E := by
  have hw : Region.wanted o (yielded ops a.tmps) = true := by simp [Region.wanted, hgd]
  rw [if_pos hw]
  exact wp_load_mid ty x ho b off hx cs d hc hu hd hi h
/-- a node with other kids, at no place -/
def putK (a : AH) (p : Option Addr) (n c : Nat) : AH := { a with at_ := 0, kp := p, kn := n, kc := c }
/-- what a node's own cells are good for, kids apart -/
def AH.Part (w : World) (a : AH) : Prop := AH.Own w { a with kp := none, kn := 0, kc := 0 }
theorem AH.Own.part {w : World} {a : AH} (h : AH.Own w a) : AH.Part w a :=
  ⟨h.k0, h.k1, h.o0, h.o1, h.at_, h.n, h.name, h.arg, h.exn, h.rho, h.rhos, h.rok, h.eff, h.eok, h.ty, h.res, by show 0 ≤ _; omega, by show 0 ≤ 0; omega, fun _ => rfl⟩
theorem AH.Own.put {w : World} {a : AH} (h : AH.Own w a) (p : Option Addr) (n c : Nat) : AH.Part w (putK a p n c) :=
  ⟨h.k0, h.k1, h.o0, h.o1, ⟨by show (-9223372036854775808 : Int) ≤ 0; omega, by show (0 : Int) ≤ 9223372036854775807; omega⟩, h.n, h.name, h.arg, h.exn, h.rho, h.rhos, h.rok, h.eff, h.eok, h.ty, h.res, by show 0 ≤ _; omega, by show 0 ≤ 0; omega, fun _ => rfl⟩
structure KOwn (a : AH) : Prop where
  kmax : a.kn ≤ 9223372036854775807
  kle : a.kn ≤ a.kc
  knil : a.kp = none → a.kc = 0
theorem AH.Part.own {w : World} {a : AH} (h : AH.Part w a) (k : KOwn a) : AH.Own w a :=
  ⟨h.k0, h.k1, h.o0, h.o1, h.at_, h.n, h.name, h.arg, h.exn, h.rho, h.rhos, h.rok, h.eff, h.eok, h.ty, h.res, k.kmax, k.kle, k.knil⟩
theorem AH.Part.below {w w' : World} {a : AH} (h : AH.Part w a) (hb : Below w.heap.size w w') : AH.Part w' a := LA.below h hb
def LK : Laid AH where
  enc := encAH
  k := 19
  own := fun _ a => KOwn a
  kp := AH.kp
  kn := AH.kn
  len := fun _ => rfl
  below := fun h _ => h
theorem lk_la {w : World} (t : PA) : LK.lies w t → (∀ a ∈ t.nodes, AH.Part w a) → LA.lies w t := by
  refine Rose.ind (P := fun (t : PA) => LK.lies w t → (∀ a ∈ t.nodes, AH.Part w a) → LA.lies w t) (fun a l ih h hp => ?_) t
  rw [Laid.lies_node] at h ⊢
  refine ⟨(hp a (by rw [Rose.nodes_node]; simp)).own h.1, h.2.1, h.2.2.1, fun x hx => ih x hx (h.2.2.2 x hx) (fun b hb => hp b ?_)⟩
  rw [Rose.nodes_node]
  exact List.mem_cons_of_mem _ (List.mem_flatten.2 ⟨_, List.mem_map_of_mem hx, hb⟩)
/-- all rows of kids lie in blocks from B on, below E -/
def SpanA (B E : Nat) (t : PA) : Prop := ∀ a ∈ t.nodes, ∀ ad, a.kp = some ad → B ≤ ad.block ∧ ad.block < E
theorem SpanA.mono {B E B' E' : Nat} {t : PA} (h : SpanA B E t) (hB : B' ≤ B) (hE : E ≤ E') : SpanA B' E' t := fun a ha ad hp => by have := h a ha ad hp; omega
theorem mem_nodes {P : AH → Prop} {a : AH} {l : List PA} (ha : P a) (hl : ∀ t ∈ l, ∀ x ∈ t.nodes, P x) : ∀ x ∈ (Rose.node a l).nodes, P x := by
  intro x hx
  rw [Rose.nodes_node, List.mem_cons] at hx
  rcases hx with rfl | hx
  · exact ha
  · rw [List.mem_flatten] at hx
    obtain ⟨m, hm, hx⟩ := hx
    obtain ⟨t, ht, rfl⟩ := List.mem_map.1 hm
    exact hl t ht x hx
def OffA (r : Option Nat) (t : PA) : Prop := ∀ a ∈ t.nodes, ∀ ad, a.kp = some ad → r ≠ some ad.block
theorem liesK_grown {w w' : World} {r : Option Nat} (hg : w.grownBy w' r) (t : PA) : OffA r t → LK.lies w t → LK.lies w' t := by
  refine Rose.ind (P := fun (t : PA) => OffA r t → LK.lies w t → LK.lies w' t) (fun a l ih ho h => ?_) t
  rw [Laid.lies_node] at h ⊢
  refine ⟨h.1, h.2.1, rowE_grown hg (fun ad hp => ho a (by rw [Rose.nodes_node]; simp) ad hp) h.2.2.1, fun t ht => ih t ht (fun x hx => ho x ?_) (h.2.2.2 t ht)⟩
  rw [Rose.nodes_node, List.mem_cons, List.mem_flatten]
  exact .inr ⟨t.nodes, List.mem_map_of_mem ht, hx⟩
theorem LAone : ∀ t : PA, ∀ u ∈ LA.encT t, u.oneCell' = true := fun t => encAH_one t.head
/-- what placed answers: a tree of new rows -/
def PlOut (w0 : World) (x : PA) (W : World) (e : Ending) (w' : World) : Prop := (∃ y : PA, e = .returned (aggT y.head) ∧ LK.lies w' y ∧ SpanA W.heap.size w'.heap.size y ∧ (∀ a ∈ y.nodes, AH.Part w0 a) ∧ Rose.map AH.kh y = keyT x) ∧ Below W.heap.size W w'
def PlAt (w0 : World) (x : PA) (W : World) : Prop := Calls Tryz.prog 13 #[aggT x.head] W (PlOut w0 x W)
/-- out.Kids = append(out.Kids, ..), k times so far -/
structure PlI (w0 : World) (B : Nat) (w wx : World) (a : AH) (p : Option Addr) (k c : Nat) (ys : List PA) : Prop where
  own : OwnE LA.encT 19 wx (B + 3) 31 (.slice p k c) k ys
  b0 : BoxA wx B a
  b1 : wx.heap[B + 1]? = some zAO
  b2 : BoxA wx (B + 2) (putK a p k c)
  size : B + 3 ≤ wx.heap.size
  below : Below B w wx
  ys : ∀ y ∈ ys, LK.lies wx y ∧ OffA (Value.slice p k c).ownBlock y ∧ SpanA (B + 3) wx.heap.size y ∧ ∀ a ∈ y.nodes, AH.Part w0 a
section
variable {w0 w wx w' w3 : World} {B : Nat} {a : AH} {p : Option Addr} {k c : Nat} {ys : List PA}
theorem PlI.drop (h : PlI w0 B w wx a p k c ys) (hb : Below wx.heap.size wx w') : PlI w0 B w w' a p k c ys :=
  ⟨h.own.below hb, h.b0.below hb, by rw [hb.block _ (by have := h.size; omega)]; exact h.b1, h.b2.below hb, Nat.le_trans h.size hb.size, h.below.trans (hb.mono (by have := h.size; omega)), fun y hy => ⟨LK.lies_below hb y (h.ys y hy).1, (h.ys y hy).2.1, (h.ys y hy).2.2.1.mono (Nat.le_refl _) hb.size, (h.ys y hy).2.2.2⟩⟩
theorem boxA_kids {g : Nat} (h : BoxA w g (putK a p k c)) (p3 : Option Addr) (k3 c3 : Nat) : BoxA (w.setCell ⟨g, 18, none⟩ (.slice p3 k3 c3)) g (putK a p3 k3 c3) := ⟨heap_setCell1 (o := 18) (.slice p3 k3 c3) h.blk⟩
theorem PlI.add (h : PlI w0 B w wx a p k c ys) {y : PA} (hl : LK.lies wx y) (ho : OffA (Value.slice p k c).ownBlock y) (hs : SpanA (B + 3) wx.heap.size y) (hp : ∀ a ∈ y.nodes, AH.Part w0 a) {p3 : Option Addr} {c3 : Nat}
    (hown3 : OwnE LA.encT 19 w3 (B + 3) 31 (.slice p3 (k + 1) c3) (k + 1) (ys ++ [y])) (hg3 : wx.grownBy w3 (Value.slice p k c).ownBlock) (hf3 : ∀ b, b < wx.heap.size → (Value.slice p3 (k + 1) c3).ownBlock = some b → (Value.slice p k c).ownBlock = some b) :
    PlI w0 B w (w3.setCell ⟨B + 2, 18, none⟩ (.slice p3 (k + 1) c3)) a p3 (k + 1) c3 (ys ++ [y]) := by
  have hgs : w3.grownBy (w3.setCell ⟨B + 2, 18, none⟩ (.slice p3 (k + 1) c3)) (some (B + 2)) := grown_setCell1 _ _ _ _
  have hfr : ∀ b, (Value.slice p k c).ownBlock = some b → B + 3 ≤ b := fun b hb => OwnE.from h.own b hb
  have hfr3 : ∀ b, (Value.slice p3 (k + 1) c3).ownBlock = some b → B + 3 ≤ b := fun b hb => OwnE.from hown3 b hb
  have hsz := h.size
  have hgz := hg3.size
  have hblk : ∀ g, g < B + 2 → (w3.setCell ⟨B + 2, 18, none⟩ (.slice p3 (k + 1) c3)).heap[g]? = wx.heap[g]? := fun g hg => by
    rw [hgs.block g (by omega) (fun e => by injection e with e; omega), hg3.block g (by omega) (fun e => by have := hfr _ e.symm; omega)]
  refine ⟨hown3.other hgs (fun b hb e => by have := hfr3 b hb; injection e with e; omega), ⟨by rw [hblk B (by omega)]; exact h.b0.blk⟩, by rw [hblk (B + 1) (by omega)]; exact h.b1, boxA_kids ⟨by rw [hg3.block (B + 2) (by omega) (fun e => by have := hfr _ e.symm; omega)]; exact h.b2.blk⟩ _ _ _, by have := hgs.size; omega, (h.below.grown hg3 (by omega) (fun b hb => by have := hfr b hb; omega)).grown hgs (by omega) (fun b hb => by injection hb with hb; omega), fun y' hy' => ?_⟩
  obtain ⟨h1, h2, h3, h4⟩ : LK.lies wx y' ∧ OffA (Value.slice p k c).ownBlock y' ∧ SpanA (B + 3) wx.heap.size y' ∧ ∀ a ∈ y'.nodes, AH.Part w0 a := by
    rcases List.mem_append.1 hy' with hy' | hy'
    · exact h.ys y' hy'
    · rw [List.mem_singleton] at hy'; subst hy'; exact ⟨hl, ho, hs, hp⟩
  refine ⟨liesK_grown hgs y' (fun a' ha ad hp e => by have := h3 a' ha ad hp; injection e with e; omega) (liesK_grown hg3 y' h2 h1), fun a' ha ad hp e => ?_, h3.mono (Nat.le_refl _) (Nat.le_trans hg3.size hgs.size), h4⟩
  exact h2 a' ha ad hp (hf3 _ (h3 a' ha ad hp).2 e)
theorem placed_end {l : List PA} {W : World} (hI : PlI w0 w.heap.size w wx a p k c ys) (hk : k = l.length) (hm : k ≤ 1000) (ha : AH.Own w0 a) (her : ys.map (Rose.map AH.kh) = (l.take k).map keyT) (hg : wx.grownBy W (some (w.heap.size + 1))) :
    PlOut w0 (.node a l) w (.returned (aggT (putK a p k c))) W := by
  obtain ⟨q, c', hq, hrow⟩ := hI.own.isRow LAlen (by omega)
  cases hq
  have hsp : ∀ ad, p = some ad → w.heap.size + 3 ≤ ad.block ∧ ad.block < wx.heap.size := fun ad hp => by
    subst hp
    exact World.ownsRow.lt hI.own ad.block rfl
  have hB := hI.size
  have hgz := hg.size
  refine ⟨⟨.node (putK a p k c) ys, rfl, ?_, mem_nodes (fun ad hp => by have := hsp ad hp; omega) (fun y hy => (hI.ys y hy).2.2.1.mono (by omega) hg.size), mem_nodes (ha.put _ _ _) (fun y hy => (hI.ys y hy).2.2.2), ?_⟩, hI.below.grown hg (by omega) (fun b hb => by injection hb with hb; omega)⟩
  · rw [Laid.lies_node]
    exact ⟨⟨by show k ≤ _; omega, hrow.le, hrow.nil⟩, hrow.len, rowE_grown hg (fun ad hp e => by have := hsp ad hp; injection e with e; omega) hrow.row, fun y hy => liesK_grown hg y (fun a' ha' ad hp e => by have := (hI.ys y hy).2.2.1 a' ha' ad hp; injection e with e; omega) (hI.ys y hy).1⟩
  · rw [Rose.map_node, keyT_node, her, hk, List.take_length]; rfl
end
set_option maxHeartbeats 4000000 in
theorem placed_of {w0 w : World} {a : AH} {l : List PA} (hN0 : NodeA w0 a l) (hb0 : Below w0.heap.size w0 w) (hln : a.kn ≤ 1000) (hf : ∀ x ∈ l, ∀ W, Below w0.heap.size w0 W → PlAt w0 x W) : PlAt w0 (.node a l) w := by
  have HN := Lib.hid (hN0.below hb0)
  have HN0 := Lib.hid hN0
  have HB00 := Lib.hid hb0
  have HF := Lib.hid hf
  have hkm := hN0.own.kmax
  have HBX := Lib.hid (boxA_new w a)
  have HB0 := Lib.hid ((Below.refl w.heap.size w).alloc (Nat.le_refl _) (boxA a))
  have hs0 : (w.alloc (boxA a)).heap.size = w.heap.size + 1 := by simp
  clear hN0 hb0 hf
  show Calls _ _ #[aggT a] w _
  go_enter Tryz.func13, Tryz.ntmps13
  go_upto_region 1 with fail
  generalize w.alloc (boxA a) = W0 at *
  have HZ1 : Hid ((W0.alloc zAO).heap[w.heap.size + 1]? = some zAO) := by
    have h := heap_alloc_new W0 zAO
    rw [hs0] at h
    exact h
  have HBX1 := Lib.hid (HBX.out.below ((Below.refl W0.heap.size W0).alloc (Nat.le_refl _) zAO))
  have HB1 := Lib.hid (HB0.out.alloc HB0.out.size zAO)
  have hs1 : (W0.alloc zAO).heap.size = w.heap.size + 2 := by simp [hs0]
  clear hs0
  generalize W0.alloc zAO = W1 at *
  have HAL : Hid ((W1.alloc zAO).heap[w.heap.size + 2]? = some zAO) := by
    have h := heap_alloc_new W1 zAO
    rw [hs1] at h
    exact h
  have HSR : Hid ((W1.alloc zAO).setRow (w.heap.size + 2) #[.int .u8 a.kind, .int .u8 a.op, .int .i64 a.at_, .int .i64 a.n, .string a.name, .string a.arg, .string a.exn, .int .i64 a.rho, .slice a.rp a.rn a.rc, .slice a.ep a.en a.ec, .int .u8 a.ty.head.kind, .int .i64 a.ty.head.rho, .slice a.ty.head.ep a.ty.head.en a.ty.head.ec, .slice a.ty.head.kp a.ty.head.kn a.ty.head.kc, .int .u8 a.res.head.kind, .int .i64 a.res.head.rho, .slice a.res.head.ep a.res.head.en a.res.head.ec, .slice a.res.head.kp a.res.head.kn a.res.head.kc, .slice a.kp a.kn a.kc] = W1.alloc (boxA a)) := by
    show _ = _
    rw [← hs1]
    exact World.setRow_alloc_new _ _ _ _
  have HBX2 := Lib.hid (HBX1.out.below ((Below.refl W1.heap.size W1).alloc (Nat.le_refl _) (boxA a)))
  have HB2 := Lib.hid (HB1.out.alloc HB1.out.size (boxA a))
  have HZ2 : Hid ((W1.alloc (boxA a)).heap[w.heap.size + 1]? = some zAO) := by
    show (W1.alloc (boxA a)).heap[w.heap.size + 1]? = some zAO
    rw [((Below.refl W1.heap.size W1).alloc (Nat.le_refl _) (boxA a)).block _ (by omega)]
    exact HZ1.out
  have HO2 : Hid (BoxA (W1.alloc (boxA a)) (w.heap.size + 2) a) := by
    have h := boxA_new W1 a
    rw [hs1] at h
    exact h
  have hs2 : (W1.alloc (boxA a)).heap.size = w.heap.size + 3 := by simp [hs1]
  go_upto_region 2 with (first
    | (refine wpList_load_row rfl 31 _ rfl w.heap.size rfl 31 _ (0, 0) _ HBX1.out.blk Tryz.underlying31 rfl (by kernel_rfl) ?_)
    | (refine wpList_store_row rfl 31 _ _ rfl (w.heap.size + 2) #[.int .u8 a.kind, .int .u8 a.op, .int .i64 a.at_, .int .i64 a.n, .string a.name, .string a.arg, .string a.exn, .int .i64 a.rho, .slice a.rp a.rn a.rc, .slice a.ep a.en a.ec, .int .u8 a.ty.head.kind, .int .i64 a.ty.head.rho, .slice a.ty.head.ep a.ty.head.en a.ty.head.ec, .slice a.ty.head.kp a.ty.head.kn a.ty.head.kc, .int .u8 a.res.head.kind, .int .i64 a.res.head.rho, .slice a.res.head.ep a.res.head.en a.res.head.ec, .slice a.res.head.kp a.res.head.kn a.res.head.kc, .slice a.kp a.kn a.kc] rfl rfl 31 _ HAL.out (by kernel_rfl) rfl (by simp [Value.oneCell']) ?_; rw [HSR.out]))
  generalize W1.alloc (boxA a) = W2 at *
  clear HAL HSR hs1
  have hfz : ∀ (W : World) (g i : Nat) (b : AH), BoxA W g b → W.frozen? ⟨g, i, none⟩ = false := fun W g i b h => by simp [World.frozen?, h.blk]
  have HFZ := Lib.hid hfz
  clear hfz
  have x2 : W2.cell? ⟨w.heap.size + 2, 2, none⟩ = some (.int .i64 a.at_) := HO2.out.c 2 _ rfl
  have f2 : W2.frozen? ⟨w.heap.size + 2, 2, none⟩ = false := HFZ.out _ _ _ _ HO2.out
  go_upto_region 3 with fail
  clear x2 f2
  have hg3 : W2.grownBy (W2.setCell ⟨w.heap.size + 2, 2, none⟩ (.int .i64 0)) (some (w.heap.size + 2)) := grown_setCell1 _ _ _ _
  have HO3 : Hid (BoxA (W2.setCell ⟨w.heap.size + 2, 2, none⟩ (.int .i64 0)) (w.heap.size + 2) (putK a a.kp a.kn a.kc)) := ⟨heap_setCell1 (o := 2) (.int .i64 0) HO2.out.blk⟩
  have HBX3 : Hid (BoxA (W2.setCell ⟨w.heap.size + 2, 2, none⟩ (.int .i64 0)) w.heap.size a) := ⟨by rw [hg3.block _ (by omega) (fun e => by injection e with e; omega)]; exact HBX2.out.blk⟩
  have HZ3 : Hid ((W2.setCell ⟨w.heap.size + 2, 2, none⟩ (.int .i64 0)).heap[w.heap.size + 1]? = some zAO) := by
    show (W2.setCell ⟨w.heap.size + 2, 2, none⟩ (.int .i64 0)).heap[w.heap.size + 1]? = some zAO
    rw [hg3.block _ (by omega) (fun e => by injection e with e; omega)]
    exact HZ2.out
  have HB3 := Lib.hid (HB2.out.grown hg3 (by omega) (fun b hb => by injection hb with hb; omega))
  have hs3 : (W2.setCell ⟨w.heap.size + 2, 2, none⟩ (.int .i64 0)).heap.size = w.heap.size + 3 := by simp [World.setCell, hs2]
  clear hg3 hs2
  generalize W2.setCell ⟨w.heap.size + 2, 2, none⟩ (.int .i64 0) = W3 at *
  have x18 : W3.cell? ⟨w.heap.size + 2, 18, none⟩ = some (.slice a.kp a.kn a.kc) := HO3.out.c 18 _ rfl
  have f18 : W3.frozen? ⟨w.heap.size + 2, 18, none⟩ = false := HFZ.out _ _ _ _ HO3.out
  go_upto_region 4 with fail
  clear x18 f18
  have hg5 : W3.grownBy (W3.setCell ⟨w.heap.size + 2, 18, none⟩ (.slice (some ⟨w.heap.size + 3, 0, none⟩) 0 0)) (some (w.heap.size + 2)) := grown_setCell1 _ _ _ _
  have HO4 : Hid (BoxA (W3.setCell ⟨w.heap.size + 2, 18, none⟩ (.slice (some ⟨w.heap.size + 3, 0, none⟩) 0 0)) (w.heap.size + 2) (putK a (some ⟨w.heap.size + 3, 0, none⟩) 0 0)) := boxA_kids HO3.out _ _ _
  have HBX4 : Hid (BoxA (W3.setCell ⟨w.heap.size + 2, 18, none⟩ (.slice (some ⟨w.heap.size + 3, 0, none⟩) 0 0)) w.heap.size a) := ⟨by rw [hg5.block _ (by omega) (fun e => by injection e with e; omega)]; exact HBX3.out.blk⟩
  have HZ4 : Hid ((W3.setCell ⟨w.heap.size + 2, 18, none⟩ (.slice (some ⟨w.heap.size + 3, 0, none⟩) 0 0)).heap[w.heap.size + 1]? = some zAO) := by
    show (W3.setCell ⟨w.heap.size + 2, 18, none⟩ (.slice (some ⟨w.heap.size + 3, 0, none⟩) 0 0)).heap[w.heap.size + 1]? = some zAO
    rw [hg5.block _ (by omega) (fun e => by injection e with e; omega)]
    exact HZ3.out
  have HB4 := Lib.hid (HB3.out.grown hg5 (by omega) (fun b hb => by injection hb with hb; omega))
  have hs4 : (W3.setCell ⟨w.heap.size + 2, 18, none⟩ (.slice (some ⟨w.heap.size + 3, 0, none⟩) 0 0)).heap.size = w.heap.size + 3 := by simp [World.setCell, hs3]
  clear hg5 hs3
  generalize W3.setCell ⟨w.heap.size + 2, 18, none⟩ (.slice (some ⟨w.heap.size + 3, 0, none⟩) 0 0) = W4 at *
  have hb5 : Below W4.heap.size W4 (W4.alloc (.cells #[] 31)) := (Below.refl W4.heap.size W4).alloc (Nat.le_refl _) _
  have HI0 : Hid (PlI w0 w.heap.size w (W4.alloc (.cells #[] 31)) a (some ⟨w.heap.size + 3, 0, none⟩) 0 0 []) := by
    have ho := own_made LAlen W4 (w.heap.size + 3) 31 [] 0 #[] (by simp) rfl (by unfold maxLen; omega) (by omega)
    rw [hs4] at ho
    exact ⟨ho, HBX4.out.below hb5, by rw [hb5.block _ (by omega)]; exact HZ4.out, HO4.out.below hb5, by have := hb5.size; omega, HB4.out.trans (hb5.mono HB4.out.size), fun y hy => by cases hy⟩
  clear hb5 hs4
  generalize W4.alloc (.cells #[] 31) = W5 at *
  clear HBX HBX1 HBX2 HBX3 HBX4 HO2 HO3 HO4 HZ1 HZ2 HZ3 HZ4 HB0 HB1 HB2 HB3 HB4
  go_wp2_with fail
  go_loopw [4] (fun i wr => ∃ (k : Nat) (p : Option Addr) (c : Nat) (ys : List PA), k ≤ a.kn ∧ i = .int .i64 k ∧ PlI w0 w.heap.size w wr a p k c ys ∧ ys.map (Rose.map AH.kh) = (l.take k).map keyT) (fun i _ => a.kn - (intOf i).toNat)
  case atStart => exact ⟨0, _, 0, [], by omega, rfl, HI0.out, by simp⟩
  case round =>
    obtain ⟨k, p, c, ys, hk, rfl, hI, her⟩ := hrel
    have HI := Lib.hid hI
    have HER := Lib.hid her
    have hsz := hI.size
    have hlt2 : w.heap.size + 2 < wr.heap.size := by omega
    have q18 : wr.cell? ⟨w.heap.size, 18, none⟩ = some (.slice a.kp a.kn a.kc) := HI.out.b0.c 18 _ rfl
    have x18 : wr.cell? ⟨w.heap.size + 2, 18, none⟩ = some (.slice p k c) := HI.out.b2.c 18 _ rfl
    clear hI her
    by_cases hlt : k < a.kn
    · obtain ⟨x, hx⟩ := HN.out.rowT.at (j := k) hlt
      have HE := Lib.hid hx
      obtain ⟨b, o, hbo, hbl, hcs⟩ := (HN.out.rowT.below HI.out.below).kid hx
      have hbw : b < w.heap.size := by
        obtain ⟨b', o', hbo', hbl', _⟩ := HN.out.rowT.kid hx
        rw [hbo] at hbo'
        cases hbo'
        exact hbl'
      have HSS : Hid (∀ W' : World, (∀ g, g < w.heap.size + 1 → W'.heap[g]? = wr.heap[g]?) → W'.cell? ⟨w.heap.size, 18, none⟩ = some (.slice (some ⟨b, o, none⟩) a.kn a.kc) ∧ W'.rangeAt b (o + k * 19) [.int .u8 x.head.kind, .int .u8 x.head.op, .int .i64 x.head.at_, .int .i64 x.head.n, .string x.head.name, .string x.head.arg, .string x.head.exn, .int .i64 x.head.rho, .slice x.head.rp x.head.rn x.head.rc, .slice x.head.ep x.head.en x.head.ec, .int .u8 x.head.ty.head.kind, .int .i64 x.head.ty.head.rho, .slice x.head.ty.head.ep x.head.ty.head.en x.head.ty.head.ec, .slice x.head.ty.head.kp x.head.ty.head.kn x.head.ty.head.kc, .int .u8 x.head.res.head.kind, .int .i64 x.head.res.head.rho, .slice x.head.res.head.ep x.head.res.head.en x.head.res.head.ec, .slice x.head.res.head.kp x.head.res.head.kn x.head.res.head.kc, .slice x.head.kp x.head.kn x.head.kc]) := fun W' h => by
        constructor
        · have h1 : W'.cell? ⟨w.heap.size, 18, none⟩ = wr.cell? ⟨w.heap.size, 18, none⟩ := by unfold World.cell?; rw [h _ (by simp)]
          rw [h1, q18, hbo]
        · intro j v hj
          have h1 : W'.cell? ⟨b, o + k * 19 + j, none⟩ = wr.cell? ⟨b, o + k * 19 + j, none⟩ := by unfold World.cell?; rw [h _ (by show b < _; omega)]
          rw [h1]
          exact hcs.c j v hj
      have HFA : Hid (∀ W, Below wr.heap.size wr W → PlAt w0 x W) := fun W h => HF.out x (List.mem_of_getElem? hx) W (HB00.out.trans ((HI.out.below.trans (h.mono HI.out.below.size)).mono HB00.out.size))
      rw [hbo] at q18
      have i0 : (0 : Int) ≤ (k : Int) := by omega
      have i1 : (k : Int) < (a.kn : Int) := by omega
      clear hx hbo hbl hcs
      go_upto_region 7 with fail
      clear q18
      -- REGION7
      refine wp_region_noPanic ?_
      refine wp_region_held_drew (S := fun W' => W'.cell? ⟨w.heap.size, 18, none⟩ = some (.slice (some ⟨b, o, none⟩) a.kn a.kc) ∧ W'.rangeAt b (o + k * 19) [.int .u8 x.head.kind, .int .u8 x.head.op, .int .i64 x.head.at_, .int .i64 x.head.n, .string x.head.name, .string x.head.arg, .string x.head.exn, .int .i64 x.head.rho, .slice x.head.rp x.head.rn x.head.rc, .slice x.head.ep x.head.en x.head.ec, .int .u8 x.head.ty.head.kind, .int .i64 x.head.ty.head.rho, .slice x.head.ty.head.ep x.head.ty.head.en x.head.ty.head.ec, .slice x.head.ty.head.kp x.head.ty.head.kn x.head.ty.head.kc, .int .u8 x.head.res.head.kind, .int .i64 x.head.res.head.rho, .slice x.head.res.head.ep x.head.res.head.en x.head.res.head.ec, .slice x.head.res.head.kp x.head.res.head.kn x.head.res.head.kc, .slice x.head.kp x.head.kn x.head.kc]) (by kernel_rfl) ?_ (fun hHeld => ?_)
      · (try dsimp only); first | exact HSS.out _ (fun _ _ => rfl) | exact HSS.out _ HK2.out | exact HSS.out _ HK2A.out | exact HSS.out _ HK3.out | exact HSS.out _ HK4.out
      refine wpAnyH_take (i := 0) (oi := _) (v := ?_) rfl (by kernel_rfl) (by kernel_rfl) (by kernel_rfl) (fun _ _ _ h => h) (Or.inl ⟨by rfl, ?_⟩) (by assumption) ?_
      rotate_left
      · intro w hSw; (try dsimp only at hSw); obtain ⟨hSc, hSr⟩ := hSw; clear hSr; go_simp; try with_reducible rfl
      try simp only [Act.put, List.setIfInBounds_toArray, List.set_cons_zero, List.set_cons_succ]
      refine wpAnyH_take (i := 2) (oi := _) (v := ?_) rfl (by kernel_rfl) (by kernel_rfl) (by kernel_rfl) (fun _ _ _ h => h) (Or.inl ⟨by rfl, ?_⟩) (by assumption) ?_
      rotate_left
      · intro w hSw; (try dsimp only at hSw); obtain ⟨hSc, hSr⟩ := hSw; clear hSr; go_simp; try with_reducible rfl
      try simp only [Act.put, List.setIfInBounds_toArray, List.set_cons_zero, List.set_cons_succ]
      refine wpAnyH_take (i := 3) (oi := _) (v := ?_) rfl (by kernel_rfl) (by kernel_rfl) (by kernel_rfl) (fun _ _ _ h => h) (Or.inl ⟨by rfl, ?_⟩) (by assumption) ?_
      rotate_left
      · intro w hSw; (try dsimp only at hSw); obtain ⟨hSc, hSr⟩ := hSw; clear hSr; go_simp; try with_reducible rfl
      try simp only [Act.put, List.setIfInBounds_toArray, List.set_cons_zero, List.set_cons_succ]
      refine wpAnyH_take (i := 4) (oi := _) (v := ?_) rfl (by kernel_rfl) (by kernel_rfl) (by kernel_rfl) (fun _ _ _ h => h) (Or.inl ⟨by rfl, ?_⟩) (by assumption) ?_
      rotate_left
      · intro w hSw; (try dsimp only at hSw); obtain ⟨hSc, hSr⟩ := hSw; clear hSr; go_simp; try with_reducible rfl
      try simp only [Act.put, List.setIfInBounds_toArray, List.set_cons_zero, List.set_cons_succ]
      refine wpAnyH_take (i := 5) (oi := _) (v := ?_) rfl (by kernel_rfl) (by kernel_rfl) (by kernel_rfl) (fun _ _ _ h => h) (Or.inl ⟨by rfl, ?_⟩) (by assumption) ?_
      rotate_left
      · intro w hSw; (try dsimp only at hSw); obtain ⟨hSc, hSr⟩ := hSw; clear hSr; go_simp; try with_reducible rfl
      try simp only [Act.put, List.setIfInBounds_toArray, List.set_cons_zero, List.set_cons_succ]
      refine wpAnyH_take (i := 6) (oi := _) (v := .agg ([.int .u8 x.head.kind, .int .u8 x.head.op, .int .i64 x.head.at_, .int .i64 x.head.n, .string x.head.name, .string x.head.arg, .string x.head.exn, .int .i64 x.head.rho, .slice x.head.rp x.head.rn x.head.rc, .slice x.head.ep x.head.en x.head.ec, .int .u8 x.head.ty.head.kind, .int .i64 x.head.ty.head.rho, .slice x.head.ty.head.ep x.head.ty.head.en x.head.ty.head.ec, .slice x.head.ty.head.kp x.head.ty.head.kn x.head.ty.head.kc, .int .u8 x.head.res.head.kind, .int .i64 x.head.res.head.rho, .slice x.head.res.head.ep x.head.res.head.en x.head.res.head.ec, .slice x.head.res.head.kp x.head.res.head.kn x.head.res.head.kc, .slice x.head.kp x.head.kn x.head.kc] : List Value).toArray) rfl (by kernel_rfl) (by kernel_rfl) (by kernel_rfl) (fun _ _ _ h => h) (yieldsIf_load_mid (by rfl) 31 _ rfl b (o + k * 19) rfl _ _ (fun W' h => h.2) Tryz.underlying31 rfl (by kernel_rfl)) (by assumption) ?_
      try simp only [Act.put, List.setIfInBounds_toArray, List.set_cons_zero, List.set_cons_succ]
      refine wpAnyH_ready (rs := [1, 7]) (by kernel_rfl) (by simp) ?_
      refine AllReadyH.cons (o := _) rfl (fun K hK => ?_) ?_
      · go_simp
        refine hK.out _ _ ?_ (fun hNew => ?_)
        · (try dsimp only); first | exact HSS.out _ (fun _ _ => rfl) | exact HSS.out _ HK2.out | exact HSS.out _ HK2A.out | exact HSS.out _ HK3.out | exact HSS.out _ HK4.out
        clear hHeld hK K
        have hHeld := hNew
        clear hNew
        try simp only [Act.put, List.setIfInBounds_toArray, List.set_cons_zero, List.set_cons_succ]
        refine wpAnyH_ready (rs := [7]) (by kernel_rfl) (by simp) ?_
        refine AllReadyH.cons (o := _) rfl (fun K hK => ?_) AllReadyH.nil
        go_simp
        go_at_call 13
        refine Calls.mono (HFA.out _ ⟨rfl, rfl, rfl, Nat.le_refl _, fun _ _ => rfl⟩) ?_
        rintro e w2 ⟨⟨y, rfl, hly, hsy, hpy, hey⟩, hb2⟩
        have hb2' : Below wr.heap.size wr w2 := bel_step (bel_drew wr) hb2
        have HI2 := Lib.hid (HI.out.drop hb2')
        have hba : Below w2.heap.size w2 (w2.alloc (.cells #[.int .u8 y.head.kind, .int .u8 y.head.op, .int .i64 y.head.at_, .int .i64 y.head.n, .string y.head.name, .string y.head.arg, .string y.head.exn, .int .i64 y.head.rho, .slice y.head.rp y.head.rn y.head.rc, .slice y.head.ep y.head.en y.head.ec, .int .u8 y.head.ty.head.kind, .int .i64 y.head.ty.head.rho, .slice y.head.ty.head.ep y.head.ty.head.en y.head.ty.head.ec, .slice y.head.ty.head.kp y.head.ty.head.kn y.head.ty.head.kc, .int .u8 y.head.res.head.kind, .int .i64 y.head.res.head.rho, .slice y.head.res.head.ep y.head.res.head.en y.head.res.head.ec, .slice y.head.res.head.kp y.head.res.head.kn y.head.res.head.kc, .slice y.head.kp y.head.kn y.head.kc] 31)) := (Below.refl _ _).alloc (Nat.le_refl _) _
        have HI2A := Lib.hid (HI2.out.drop hba)
        have HRY := Lib.hid (row_made LAlen (by omega) w2 31 [y] 1 #[.int .u8 y.head.kind, .int .u8 y.head.op, .int .i64 y.head.at_, .int .i64 y.head.n, .string y.head.name, .string y.head.arg, .string y.head.exn, .int .i64 y.head.rho, .slice y.head.rp y.head.rn y.head.rc, .slice y.head.ep y.head.en y.head.ec, .int .u8 y.head.ty.head.kind, .int .i64 y.head.ty.head.rho, .slice y.head.ty.head.ep y.head.ty.head.en y.head.ty.head.ec, .slice y.head.ty.head.kp y.head.ty.head.kn y.head.ty.head.kc, .int .u8 y.head.res.head.kind, .int .i64 y.head.res.head.rho, .slice y.head.res.head.ep y.head.res.head.en y.head.res.head.ec, .slice y.head.res.head.kp y.head.res.head.kn y.head.res.head.kc, .slice y.head.kp y.head.kn y.head.kc] rfl rfl (by decide))
        have hsz2 := HI2.out.size
        have HK2 : Hid (∀ g, g < w.heap.size + 1 → w2.heap[g]? = wr.heap[g]?) := fun g hg => hb2'.block g (by omega)
        have HK2A : Hid (∀ g, g < w.heap.size + 1 → (w2.alloc (.cells #[.int .u8 y.head.kind, .int .u8 y.head.op, .int .i64 y.head.at_, .int .i64 y.head.n, .string y.head.name, .string y.head.arg, .string y.head.exn, .int .i64 y.head.rho, .slice y.head.rp y.head.rn y.head.rc, .slice y.head.ep y.head.en y.head.ec, .int .u8 y.head.ty.head.kind, .int .i64 y.head.ty.head.rho, .slice y.head.ty.head.ep y.head.ty.head.en y.head.ty.head.ec, .slice y.head.ty.head.kp y.head.ty.head.kn y.head.ty.head.kc, .int .u8 y.head.res.head.kind, .int .i64 y.head.res.head.rho, .slice y.head.res.head.ep y.head.res.head.en y.head.res.head.ec, .slice y.head.res.head.kp y.head.res.head.kn y.head.res.head.kc, .slice y.head.kp y.head.kn y.head.kc] 31)).heap[g]? = wr.heap[g]?) := fun g hg => (hba.block g (by omega)).trans (HK2.out g hg)
        have HLY := Lib.hid (LK.lies_below hba y hly)
        have HSY : Hid (SpanA (w.heap.size + 3) (w2.alloc (.cells #[.int .u8 y.head.kind, .int .u8 y.head.op, .int .i64 y.head.at_, .int .i64 y.head.n, .string y.head.name, .string y.head.arg, .string y.head.exn, .int .i64 y.head.rho, .slice y.head.rp y.head.rn y.head.rc, .slice y.head.ep y.head.en y.head.ec, .int .u8 y.head.ty.head.kind, .int .i64 y.head.ty.head.rho, .slice y.head.ty.head.ep y.head.ty.head.en y.head.ty.head.ec, .slice y.head.ty.head.kp y.head.ty.head.kn y.head.ty.head.kc, .int .u8 y.head.res.head.kind, .int .i64 y.head.res.head.rho, .slice y.head.res.head.ep y.head.res.head.en y.head.res.head.ec, .slice y.head.res.head.kp y.head.res.head.kn y.head.res.head.kc, .slice y.head.kp y.head.kn y.head.kc] 31)).heap.size y) := hsy.mono (by have : wr.heap.size = wr.drew.heap.size := rfl; omega) hba.size
        have HPY := Lib.hid hpy
        have HEY := Lib.hid hey
        have HFY : Hid (OffA (Value.slice p k c).ownBlock y) := fun a' ha' ad hp e => by have h4 := (hsy a' ha' ad hp).1; have h5 := OwnE.under HI.out.own _ e; have h6 : wr.drew.heap.size = wr.heap.size := rfl; omega
        have hlt4 : w.heap.size + 2 < w2.heap.size := by omega
        have x18 := HI2.out.b2.c 18 _ rfl
        clear hb2 hb2' hba hly hsy hpy hey
        try go_wp2_with fail
        refine hK.out _ _ ?_ (fun hNew => ?_)
        · (try dsimp only); first | exact HSS.out _ (fun _ _ => rfl) | exact HSS.out _ HK2.out | exact HSS.out _ HK2A.out | exact HSS.out _ HK3.out | exact HSS.out _ HK4.out
        clear hHeld hK K
        have hHeld := hNew
        clear hNew
        try simp only [Act.put, List.setIfInBounds_toArray, List.set_cons_zero, List.set_cons_succ]
        refine wpAnyH_ready (rs := [8]) (by kernel_rfl) (by simp) ?_
        refine AllReadyH.cons (o := _) rfl (fun K hK => ?_) AllReadyH.nil
        go_simp
        refine hK.out _ _ ?_ (fun hNew => ?_)
        · (try dsimp only); first | exact HSS.out _ (fun _ _ => rfl) | exact HSS.out _ HK2.out | exact HSS.out _ HK2A.out | exact HSS.out _ HK3.out | exact HSS.out _ HK4.out
        clear hHeld hK K
        have hHeld := hNew
        clear hNew
        try simp only [Act.put, List.setIfInBounds_toArray, List.set_cons_zero, List.set_cons_succ]
        refine wpAnyH_ready (rs := [9]) (by kernel_rfl) (by simp) ?_
        refine AllReadyH.cons (o := _) rfl (fun K hK => ?_) AllReadyH.nil
        refine step_appendR (by rfl) _ _ 29 (by rfl) (w.heap.size + 3) 31 zAT 19 280 Tryz.underlying29 infoAT rfl (by decide) LA.encT LAlen LAone [y] ys k (.slice p k c) HI2A.out.own _ 1 _ (by rfl) (by rfl) rfl (by intro h; cases h) HRY.out.row (by omega) (by omega) (HI2A.out.size) ?_
        intro v3 w3 hown3 hg3 hf3
        obtain ⟨p3, c3, rfl, hrow3⟩ := OwnE.isRow LAlen (by omega) hown3
        have HNE : Hid (∀ g, g < w.heap.size + 3 → some g ≠ (Value.slice p k c).ownBlock) := fun g hg e => by have := OwnE.from HI.out.own _ e.symm; omega
        have hsz2A := HI2A.out.size
        have HB3 : Hid (BoxA w3 (w.heap.size + 2) (putK a p k c)) := ⟨by rw [hg3.block (w.heap.size + 2) (by omega) (HNE.out _ (by omega))]; exact HI2A.out.b2.blk⟩
        have hsz3 : w.heap.size + 3 ≤ w3.heap.size := Nat.le_trans hsz2A hg3.size
        have HK3 : Hid (∀ g, g < w.heap.size + 1 → w3.heap[g]? = wr.heap[g]?) := fun g hg => (hg3.block g (by omega) (HNE.out _ (by omega))).trans (HK2A.out g hg)
        have hgs : w3.grownBy (w3.setCell ⟨w.heap.size + 2, 18, none⟩ (.slice p3 (k + 1) c3)) (some (w.heap.size + 2)) := grown_setCell1 _ _ _ _
        have HK4 : Hid (∀ g, g < w.heap.size + 1 → (w3.setCell ⟨w.heap.size + 2, 18, none⟩ (.slice p3 (k + 1) c3)).heap[g]? = wr.heap[g]?) := fun g hg => (hgs.block g (by omega) (fun e => by injection e with e; omega)).trans (HK3.out g hg)
        have HADD := Lib.hid (HI2A.out.add HLY.out HFY.out HSY.out HPY.out hown3 hg3 hf3)
        clear x18
        have x18 := HB3.out.c 18 _ rfl
        have f18 := HFZ.out _ _ 18 _ HB3.out
        have hlt3 : w.heap.size + 2 < w3.heap.size := by omega
        clear hown3 hg3 hf3 hrow3 hgs
        refine hK.out _ _ ?_ (fun hNew => ?_)
        · (try dsimp only); first | exact HSS.out _ (fun _ _ => rfl) | exact HSS.out _ HK2.out | exact HSS.out _ HK2A.out | exact HSS.out _ HK3.out | exact HSS.out _ HK4.out
        clear hHeld hK K
        have hHeld := hNew
        clear hNew
        try simp only [Act.put, List.setIfInBounds_toArray, List.set_cons_zero, List.set_cons_succ]
        refine wpAnyH_ready (rs := [10]) (by kernel_rfl) (by simp) ?_
        refine AllReadyH.cons (o := _) rfl (fun K hK => ?_) AllReadyH.nil
        go_simp
        refine hK.out _ _ ?_ (fun hNew => ?_)
        · (try dsimp only); first | exact HSS.out _ (fun _ _ => rfl) | exact HSS.out _ HK2.out | exact HSS.out _ HK2A.out | exact HSS.out _ HK3.out | exact HSS.out _ HK4.out
        clear hHeld hK K
        have hHeld := hNew
        clear hNew
        try simp only [Act.put, List.setIfInBounds_toArray, List.set_cons_zero, List.set_cons_succ]
        refine wpAnyH_ready (rs := [11]) (by kernel_rfl) (by simp) ?_
        refine AllReadyH.cons (o := _) rfl (fun K hK => ?_) AllReadyH.nil
        go_simp
        refine hK.out _ _ ?_ (fun hNew => ?_)
        · (try dsimp only); first | exact HSS.out _ (fun _ _ => rfl) | exact HSS.out _ HK2.out | exact HSS.out _ HK2A.out | exact HSS.out _ HK3.out | exact HSS.out _ HK4.out
        clear hHeld hK K
        have hHeld := hNew
        clear hNew
        try simp only [Act.put, List.setIfInBounds_toArray, List.set_cons_zero, List.set_cons_succ]
        refine wpAnyH_done (by kernel_rfl) ?_ _
        refine NoPanic.normal ?_
        clear hHeld x18 f18
        go_wp2_with fail
        go_roundw
        case rel => exact ⟨k + 1, _, _, ys ++ [y], by omega, by go_num, HADD.out, by rw [take_succ_get HE.out, List.map_append, List.map_append, HER.out]; simp [HEY.out]⟩
        case measure => simp [intOf]; omega
      refine AllReadyH.cons (o := _) rfl (fun K hK => ?_) AllReadyH.nil
      go_simp
      go_at_call 13
      refine Calls.mono (HFA.out _ ⟨rfl, rfl, rfl, Nat.le_refl _, fun _ _ => rfl⟩) ?_
      rintro e w2 ⟨⟨y, rfl, hly, hsy, hpy, hey⟩, hb2⟩
      have hb2' : Below wr.heap.size wr w2 := bel_step (bel_drew wr) hb2
      have HI2 := Lib.hid (HI.out.drop hb2')
      have hba : Below w2.heap.size w2 (w2.alloc (.cells #[.int .u8 y.head.kind, .int .u8 y.head.op, .int .i64 y.head.at_, .int .i64 y.head.n, .string y.head.name, .string y.head.arg, .string y.head.exn, .int .i64 y.head.rho, .slice y.head.rp y.head.rn y.head.rc, .slice y.head.ep y.head.en y.head.ec, .int .u8 y.head.ty.head.kind, .int .i64 y.head.ty.head.rho, .slice y.head.ty.head.ep y.head.ty.head.en y.head.ty.head.ec, .slice y.head.ty.head.kp y.head.ty.head.kn y.head.ty.head.kc, .int .u8 y.head.res.head.kind, .int .i64 y.head.res.head.rho, .slice y.head.res.head.ep y.head.res.head.en y.head.res.head.ec, .slice y.head.res.head.kp y.head.res.head.kn y.head.res.head.kc, .slice y.head.kp y.head.kn y.head.kc] 31)) := (Below.refl _ _).alloc (Nat.le_refl _) _
      have HI2A := Lib.hid (HI2.out.drop hba)
      have HRY := Lib.hid (row_made LAlen (by omega) w2 31 [y] 1 #[.int .u8 y.head.kind, .int .u8 y.head.op, .int .i64 y.head.at_, .int .i64 y.head.n, .string y.head.name, .string y.head.arg, .string y.head.exn, .int .i64 y.head.rho, .slice y.head.rp y.head.rn y.head.rc, .slice y.head.ep y.head.en y.head.ec, .int .u8 y.head.ty.head.kind, .int .i64 y.head.ty.head.rho, .slice y.head.ty.head.ep y.head.ty.head.en y.head.ty.head.ec, .slice y.head.ty.head.kp y.head.ty.head.kn y.head.ty.head.kc, .int .u8 y.head.res.head.kind, .int .i64 y.head.res.head.rho, .slice y.head.res.head.ep y.head.res.head.en y.head.res.head.ec, .slice y.head.res.head.kp y.head.res.head.kn y.head.res.head.kc, .slice y.head.kp y.head.kn y.head.kc] rfl rfl (by decide))
      have hsz2 := HI2.out.size
      have HK2 : Hid (∀ g, g < w.heap.size + 1 → w2.heap[g]? = wr.heap[g]?) := fun g hg => hb2'.block g (by omega)
      have HK2A : Hid (∀ g, g < w.heap.size + 1 → (w2.alloc (.cells #[.int .u8 y.head.kind, .int .u8 y.head.op, .int .i64 y.head.at_, .int .i64 y.head.n, .string y.head.name, .string y.head.arg, .string y.head.exn, .int .i64 y.head.rho, .slice y.head.rp y.head.rn y.head.rc, .slice y.head.ep y.head.en y.head.ec, .int .u8 y.head.ty.head.kind, .int .i64 y.head.ty.head.rho, .slice y.head.ty.head.ep y.head.ty.head.en y.head.ty.head.ec, .slice y.head.ty.head.kp y.head.ty.head.kn y.head.ty.head.kc, .int .u8 y.head.res.head.kind, .int .i64 y.head.res.head.rho, .slice y.head.res.head.ep y.head.res.head.en y.head.res.head.ec, .slice y.head.res.head.kp y.head.res.head.kn y.head.res.head.kc, .slice y.head.kp y.head.kn y.head.kc] 31)).heap[g]? = wr.heap[g]?) := fun g hg => (hba.block g (by omega)).trans (HK2.out g hg)
      have HLY := Lib.hid (LK.lies_below hba y hly)
      have HSY : Hid (SpanA (w.heap.size + 3) (w2.alloc (.cells #[.int .u8 y.head.kind, .int .u8 y.head.op, .int .i64 y.head.at_, .int .i64 y.head.n, .string y.head.name, .string y.head.arg, .string y.head.exn, .int .i64 y.head.rho, .slice y.head.rp y.head.rn y.head.rc, .slice y.head.ep y.head.en y.head.ec, .int .u8 y.head.ty.head.kind, .int .i64 y.head.ty.head.rho, .slice y.head.ty.head.ep y.head.ty.head.en y.head.ty.head.ec, .slice y.head.ty.head.kp y.head.ty.head.kn y.head.ty.head.kc, .int .u8 y.head.res.head.kind, .int .i64 y.head.res.head.rho, .slice y.head.res.head.ep y.head.res.head.en y.head.res.head.ec, .slice y.head.res.head.kp y.head.res.head.kn y.head.res.head.kc, .slice y.head.kp y.head.kn y.head.kc] 31)).heap.size y) := hsy.mono (by have : wr.heap.size = wr.drew.heap.size := rfl; omega) hba.size
      have HPY := Lib.hid hpy
      have HEY := Lib.hid hey
      have HFY : Hid (OffA (Value.slice p k c).ownBlock y) := fun a' ha' ad hp e => by have h4 := (hsy a' ha' ad hp).1; have h5 := OwnE.under HI.out.own _ e; have h6 : wr.drew.heap.size = wr.heap.size := rfl; omega
      have hlt4 : w.heap.size + 2 < w2.heap.size := by omega
      have x18 := HI2.out.b2.c 18 _ rfl
      clear hb2 hb2' hba hly hsy hpy hey
      try go_wp2_with fail
      refine hK.out _ _ ?_ (fun hNew => ?_)
      · (try dsimp only); first | exact HSS.out _ (fun _ _ => rfl) | exact HSS.out _ HK2.out | exact HSS.out _ HK2A.out | exact HSS.out _ HK3.out | exact HSS.out _ HK4.out
      clear hHeld hK K
      have hHeld := hNew
      clear hNew
      try simp only [Act.put, List.setIfInBounds_toArray, List.set_cons_zero, List.set_cons_succ]
      refine wpAnyH_ready (rs := [1, 8]) (by kernel_rfl) (by simp) ?_
      refine AllReadyH.cons (o := _) rfl (fun K hK => ?_) ?_
      · go_simp
        refine hK.out _ _ ?_ (fun hNew => ?_)
        · (try dsimp only); first | exact HSS.out _ (fun _ _ => rfl) | exact HSS.out _ HK2.out | exact HSS.out _ HK2A.out | exact HSS.out _ HK3.out | exact HSS.out _ HK4.out
        clear hHeld hK K
        have hHeld := hNew
        clear hNew
        try simp only [Act.put, List.setIfInBounds_toArray, List.set_cons_zero, List.set_cons_succ]
        refine wpAnyH_ready (rs := [8]) (by kernel_rfl) (by simp) ?_
        refine AllReadyH.cons (o := _) rfl (fun K hK => ?_) AllReadyH.nil
        go_simp
        refine hK.out _ _ ?_ (fun hNew => ?_)
        · (try dsimp only); first | exact HSS.out _ (fun _ _ => rfl) | exact HSS.out _ HK2.out | exact HSS.out _ HK2A.out | exact HSS.out _ HK3.out | exact HSS.out _ HK4.out
        clear hHeld hK K
        have hHeld := hNew
        clear hNew
        try simp only [Act.put, List.setIfInBounds_toArray, List.set_cons_zero, List.set_cons_succ]
        refine wpAnyH_ready (rs := [9]) (by kernel_rfl) (by simp) ?_
        refine AllReadyH.cons (o := _) rfl (fun K hK => ?_) AllReadyH.nil
        refine step_appendR (by rfl) _ _ 29 (by rfl) (w.heap.size + 3) 31 zAT 19 280 Tryz.underlying29 infoAT rfl (by decide) LA.encT LAlen LAone [y] ys k (.slice p k c) HI2A.out.own _ 1 _ (by rfl) (by rfl) rfl (by intro h; cases h) HRY.out.row (by omega) (by omega) (HI2A.out.size) ?_
        intro v3 w3 hown3 hg3 hf3
        obtain ⟨p3, c3, rfl, hrow3⟩ := OwnE.isRow LAlen (by omega) hown3
        have HNE : Hid (∀ g, g < w.heap.size + 3 → some g ≠ (Value.slice p k c).ownBlock) := fun g hg e => by have := OwnE.from HI.out.own _ e.symm; omega
        have hsz2A := HI2A.out.size
        have HB3 : Hid (BoxA w3 (w.heap.size + 2) (putK a p k c)) := ⟨by rw [hg3.block (w.heap.size + 2) (by omega) (HNE.out _ (by omega))]; exact HI2A.out.b2.blk⟩
        have hsz3 : w.heap.size + 3 ≤ w3.heap.size := Nat.le_trans hsz2A hg3.size
        have HK3 : Hid (∀ g, g < w.heap.size + 1 → w3.heap[g]? = wr.heap[g]?) := fun g hg => (hg3.block g (by omega) (HNE.out _ (by omega))).trans (HK2A.out g hg)
        have hgs : w3.grownBy (w3.setCell ⟨w.heap.size + 2, 18, none⟩ (.slice p3 (k + 1) c3)) (some (w.heap.size + 2)) := grown_setCell1 _ _ _ _
        have HK4 : Hid (∀ g, g < w.heap.size + 1 → (w3.setCell ⟨w.heap.size + 2, 18, none⟩ (.slice p3 (k + 1) c3)).heap[g]? = wr.heap[g]?) := fun g hg => (hgs.block g (by omega) (fun e => by injection e with e; omega)).trans (HK3.out g hg)
        have HADD := Lib.hid (HI2A.out.add HLY.out HFY.out HSY.out HPY.out hown3 hg3 hf3)
        clear x18
        have x18 := HB3.out.c 18 _ rfl
        have f18 := HFZ.out _ _ 18 _ HB3.out
        have hlt3 : w.heap.size + 2 < w3.heap.size := by omega
        clear hown3 hg3 hf3 hrow3 hgs
        refine hK.out _ _ ?_ (fun hNew => ?_)
        · (try dsimp only); first | exact HSS.out _ (fun _ _ => rfl) | exact HSS.out _ HK2.out | exact HSS.out _ HK2A.out | exact HSS.out _ HK3.out | exact HSS.out _ HK4.out
        clear hHeld hK K
        have hHeld := hNew
        clear hNew
        try simp only [Act.put, List.setIfInBounds_toArray, List.set_cons_zero, List.set_cons_succ]
        refine wpAnyH_ready (rs := [10]) (by kernel_rfl) (by simp) ?_
        refine AllReadyH.cons (o := _) rfl (fun K hK => ?_) AllReadyH.nil
        go_simp
        refine hK.out _ _ ?_ (fun hNew => ?_)
        · (try dsimp only); first | exact HSS.out _ (fun _ _ => rfl) | exact HSS.out _ HK2.out | exact HSS.out _ HK2A.out | exact HSS.out _ HK3.out | exact HSS.out _ HK4.out
        clear hHeld hK K
        have hHeld := hNew
        clear hNew
        try simp only [Act.put, List.setIfInBounds_toArray, List.set_cons_zero, List.set_cons_succ]
        refine wpAnyH_ready (rs := [11]) (by kernel_rfl) (by simp) ?_
        refine AllReadyH.cons (o := _) rfl (fun K hK => ?_) AllReadyH.nil
        go_simp
        refine hK.out _ _ ?_ (fun hNew => ?_)
        · (try dsimp only); first | exact HSS.out _ (fun _ _ => rfl) | exact HSS.out _ HK2.out | exact HSS.out _ HK2A.out | exact HSS.out _ HK3.out | exact HSS.out _ HK4.out
        clear hHeld hK K
        have hHeld := hNew
        clear hNew
        try simp only [Act.put, List.setIfInBounds_toArray, List.set_cons_zero, List.set_cons_succ]
        refine wpAnyH_done (by kernel_rfl) ?_ _
        refine NoPanic.normal ?_
        clear hHeld x18 f18
        go_wp2_with fail
        go_roundw
        case rel => exact ⟨k + 1, _, _, ys ++ [y], by omega, by go_num, HADD.out, by rw [take_succ_get HE.out, List.map_append, List.map_append, HER.out]; simp [HEY.out]⟩
        case measure => simp [intOf]; omega
      refine AllReadyH.cons (o := _) rfl (fun K hK => ?_) AllReadyH.nil
      go_simp
      refine hK.out _ _ ?_ (fun hNew => ?_)
      · (try dsimp only); first | exact HSS.out _ (fun _ _ => rfl) | exact HSS.out _ HK2.out | exact HSS.out _ HK2A.out | exact HSS.out _ HK3.out | exact HSS.out _ HK4.out
      clear hHeld hK K
      have hHeld := hNew
      clear hNew
      try simp only [Act.put, List.setIfInBounds_toArray, List.set_cons_zero, List.set_cons_succ]
      refine wpAnyH_ready (rs := [1]) (by kernel_rfl) (by simp) ?_
      refine AllReadyH.cons (o := _) rfl (fun K hK => ?_) AllReadyH.nil
      go_simp
      refine hK.out _ _ ?_ (fun hNew => ?_)
      · (try dsimp only); first | exact HSS.out _ (fun _ _ => rfl) | exact HSS.out _ HK2.out | exact HSS.out _ HK2A.out | exact HSS.out _ HK3.out | exact HSS.out _ HK4.out
      clear hHeld hK K
      have hHeld := hNew
      clear hNew
      try simp only [Act.put, List.setIfInBounds_toArray, List.set_cons_zero, List.set_cons_succ]
      refine wpAnyH_ready (rs := [9]) (by kernel_rfl) (by simp) ?_
      refine AllReadyH.cons (o := _) rfl (fun K hK => ?_) AllReadyH.nil
      refine step_appendR (by rfl) _ _ 29 (by rfl) (w.heap.size + 3) 31 zAT 19 280 Tryz.underlying29 infoAT rfl (by decide) LA.encT LAlen LAone [y] ys k (.slice p k c) HI2A.out.own _ 1 _ (by rfl) (by rfl) rfl (by intro h; cases h) HRY.out.row (by omega) (by omega) (HI2A.out.size) ?_
      intro v3 w3 hown3 hg3 hf3
      obtain ⟨p3, c3, rfl, hrow3⟩ := OwnE.isRow LAlen (by omega) hown3
      have HNE : Hid (∀ g, g < w.heap.size + 3 → some g ≠ (Value.slice p k c).ownBlock) := fun g hg e => by have := OwnE.from HI.out.own _ e.symm; omega
      have hsz2A := HI2A.out.size
      have HB3 : Hid (BoxA w3 (w.heap.size + 2) (putK a p k c)) := ⟨by rw [hg3.block (w.heap.size + 2) (by omega) (HNE.out _ (by omega))]; exact HI2A.out.b2.blk⟩
      have hsz3 : w.heap.size + 3 ≤ w3.heap.size := Nat.le_trans hsz2A hg3.size
      have HK3 : Hid (∀ g, g < w.heap.size + 1 → w3.heap[g]? = wr.heap[g]?) := fun g hg => (hg3.block g (by omega) (HNE.out _ (by omega))).trans (HK2A.out g hg)
      have hgs : w3.grownBy (w3.setCell ⟨w.heap.size + 2, 18, none⟩ (.slice p3 (k + 1) c3)) (some (w.heap.size + 2)) := grown_setCell1 _ _ _ _
      have HK4 : Hid (∀ g, g < w.heap.size + 1 → (w3.setCell ⟨w.heap.size + 2, 18, none⟩ (.slice p3 (k + 1) c3)).heap[g]? = wr.heap[g]?) := fun g hg => (hgs.block g (by omega) (fun e => by injection e with e; omega)).trans (HK3.out g hg)
      have HADD := Lib.hid (HI2A.out.add HLY.out HFY.out HSY.out HPY.out hown3 hg3 hf3)
      clear x18
      have x18 := HB3.out.c 18 _ rfl
      have f18 := HFZ.out _ _ 18 _ HB3.out
      have hlt3 : w.heap.size + 2 < w3.heap.size := by omega
      clear hown3 hg3 hf3 hrow3 hgs
      refine hK.out _ _ ?_ (fun hNew => ?_)
      · (try dsimp only); first | exact HSS.out _ (fun _ _ => rfl) | exact HSS.out _ HK2.out | exact HSS.out _ HK2A.out | exact HSS.out _ HK3.out | exact HSS.out _ HK4.out
      clear hHeld hK K
      have hHeld := hNew
      clear hNew
      try simp only [Act.put, List.setIfInBounds_toArray, List.set_cons_zero, List.set_cons_succ]
      refine wpAnyH_ready (rs := [10]) (by kernel_rfl) (by simp) ?_
      refine AllReadyH.cons (o := _) rfl (fun K hK => ?_) AllReadyH.nil
      go_simp
      refine hK.out _ _ ?_ (fun hNew => ?_)
      · (try dsimp only); first | exact HSS.out _ (fun _ _ => rfl) | exact HSS.out _ HK2.out | exact HSS.out _ HK2A.out | exact HSS.out _ HK3.out | exact HSS.out _ HK4.out
      clear hHeld hK K
      have hHeld := hNew
      clear hNew
      try simp only [Act.put, List.setIfInBounds_toArray, List.set_cons_zero, List.set_cons_succ]
      refine wpAnyH_ready (rs := [11]) (by kernel_rfl) (by simp) ?_
      refine AllReadyH.cons (o := _) rfl (fun K hK => ?_) AllReadyH.nil
      go_simp
      refine hK.out _ _ ?_ (fun hNew => ?_)
      · (try dsimp only); first | exact HSS.out _ (fun _ _ => rfl) | exact HSS.out _ HK2.out | exact HSS.out _ HK2A.out | exact HSS.out _ HK3.out | exact HSS.out _ HK4.out
      clear hHeld hK K
      have hHeld := hNew
      clear hNew
      try simp only [Act.put, List.setIfInBounds_toArray, List.set_cons_zero, List.set_cons_succ]
      refine wpAnyH_done (by kernel_rfl) ?_ _
      refine NoPanic.normal ?_
      clear hHeld x18 f18
      go_wp2_with fail
      go_roundw
      case rel => exact ⟨k + 1, _, _, ys ++ [y], by omega, by go_num, HADD.out, by rw [take_succ_get HE.out, List.map_append, List.map_append, HER.out]; simp [HEY.out]⟩
      case measure => simp [intOf]; omega
    · obtain rfl : k = a.kn := by omega
      clear hlt hk
      have hf1 : Hid (Below w.heap.size w wr) := HI.out.below
      go_wp2_with (first
        | (refine wpList_load_row rfl 31 _ rfl (w.heap.size + 2) rfl 31 _ (0, 0) _ HI.out.b2.blk Tryz.underlying31 rfl (by kernel_rfl) ?_)
        | (refine wpList_store_row rfl 31 _ _ rfl (w.heap.size + 1) #[.int .u8 (putK a p a.kn c).kind, .int .u8 (putK a p a.kn c).op, .int .i64 (putK a p a.kn c).at_, .int .i64 (putK a p a.kn c).n, .string (putK a p a.kn c).name, .string (putK a p a.kn c).arg, .string (putK a p a.kn c).exn, .int .i64 (putK a p a.kn c).rho, .slice (putK a p a.kn c).rp (putK a p a.kn c).rn (putK a p a.kn c).rc, .slice (putK a p a.kn c).ep (putK a p a.kn c).en (putK a p a.kn c).ec, .int .u8 (putK a p a.kn c).ty.head.kind, .int .i64 (putK a p a.kn c).ty.head.rho, .slice (putK a p a.kn c).ty.head.ep (putK a p a.kn c).ty.head.en (putK a p a.kn c).ty.head.ec, .slice (putK a p a.kn c).ty.head.kp (putK a p a.kn c).ty.head.kn (putK a p a.kn c).ty.head.kc, .int .u8 (putK a p a.kn c).res.head.kind, .int .i64 (putK a p a.kn c).res.head.rho, .slice (putK a p a.kn c).res.head.ep (putK a p a.kn c).res.head.en (putK a p a.kn c).res.head.ec, .slice (putK a p a.kn c).res.head.kp (putK a p a.kn c).res.head.kn (putK a p a.kn c).res.head.kc, .slice (putK a p a.kn c).kp (putK a p a.kn c).kn (putK a p a.kn c).kc] rfl rfl 31 _ HI.out.b1 (by kernel_rfl) rfl (by simp [Value.oneCell']) ?_))
      have hres := setRow_heap wr (w.heap.size + 1) _ #[.int .u8 (putK a p a.kn c).kind, .int .u8 (putK a p a.kn c).op, .int .i64 (putK a p a.kn c).at_, .int .i64 (putK a p a.kn c).n, .string (putK a p a.kn c).name, .string (putK a p a.kn c).arg, .string (putK a p a.kn c).exn, .int .i64 (putK a p a.kn c).rho, .slice (putK a p a.kn c).rp (putK a p a.kn c).rn (putK a p a.kn c).rc, .slice (putK a p a.kn c).ep (putK a p a.kn c).en (putK a p a.kn c).ec, .int .u8 (putK a p a.kn c).ty.head.kind, .int .i64 (putK a p a.kn c).ty.head.rho, .slice (putK a p a.kn c).ty.head.ep (putK a p a.kn c).ty.head.en (putK a p a.kn c).ty.head.ec, .slice (putK a p a.kn c).ty.head.kp (putK a p a.kn c).ty.head.kn (putK a p a.kn c).ty.head.kc, .int .u8 (putK a p a.kn c).res.head.kind, .int .i64 (putK a p a.kn c).res.head.rho, .slice (putK a p a.kn c).res.head.ep (putK a p a.kn c).res.head.en (putK a p a.kn c).res.head.ec, .slice (putK a p a.kn c).res.head.kp (putK a p a.kn c).res.head.kn (putK a p a.kn c).res.head.kc, .slice (putK a p a.kn c).kp (putK a p a.kn c).kn (putK a p a.kn c).kc] _ _ HI.out.b1
      have hlt3 : w.heap.size + 1 < wr.heap.size := by omega
      (try simp only [Exit.inBlock, Exit.then])
      refine bodyPost_ret (results_cell_row rfl _ _ _ _ _ _ _ rfl hres Tryz.underlying31 rfl (by kernel_rfl)) rfl ?_
      have hg : wr.grownBy (wr.setRow (w.heap.size + 1) #[.int .u8 (putK a p a.kn c).kind, .int .u8 (putK a p a.kn c).op, .int .i64 (putK a p a.kn c).at_, .int .i64 (putK a p a.kn c).n, .string (putK a p a.kn c).name, .string (putK a p a.kn c).arg, .string (putK a p a.kn c).exn, .int .i64 (putK a p a.kn c).rho, .slice (putK a p a.kn c).rp (putK a p a.kn c).rn (putK a p a.kn c).rc, .slice (putK a p a.kn c).ep (putK a p a.kn c).en (putK a p a.kn c).ec, .int .u8 (putK a p a.kn c).ty.head.kind, .int .i64 (putK a p a.kn c).ty.head.rho, .slice (putK a p a.kn c).ty.head.ep (putK a p a.kn c).ty.head.en (putK a p a.kn c).ty.head.ec, .slice (putK a p a.kn c).ty.head.kp (putK a p a.kn c).ty.head.kn (putK a p a.kn c).ty.head.kc, .int .u8 (putK a p a.kn c).res.head.kind, .int .i64 (putK a p a.kn c).res.head.rho, .slice (putK a p a.kn c).res.head.ep (putK a p a.kn c).res.head.en (putK a p a.kn c).res.head.ec, .slice (putK a p a.kn c).res.head.kp (putK a p a.kn c).res.head.kn (putK a p a.kn c).res.head.kc, .slice (putK a p a.kn c).kp (putK a p a.kn c).kn (putK a p a.kn c).kc]) (some (w.heap.size + 1)) :=
        ⟨rfl, rfl, rfl, by simp, fun i hi hne => setRow_other _ _ _ _ (fun e => hne (by rw [e]))⟩
      exact placed_end HI.out HN0.out.kids.len.symm hln HN0.out.own HER.out hg
theorem placed_any {w0 : World} (t : PA) : LA.lies w0 t → t.size ≤ 1000 → ∀ W, Below w0.heap.size w0 W → PlAt w0 t W := by
  refine Rose.ind (P := fun (t : PA) => LA.lies w0 t → t.size ≤ 1000 → ∀ W, Below w0.heap.size w0 W → PlAt w0 t W) (fun a l ih hl hs W hW => ?_) t
  have hN := nodeA hl
  rw [Rose.size_node] at hs
  refine placed_of hN hW ?_ (fun x hx W' hW' => ih x hx (hN.each x hx) ?_ W' hW')
  · have h1 := kidsA_le l
    have h2 := hN.kids.len
    omega
  · have h2 : x.size ≤ (l.map Rose.size).sum := le_sum_of_mem (List.mem_map_of_mem hx)
    omega
end Go.Proofs.YtdlbjngpohkglaaGreatDoor
end
