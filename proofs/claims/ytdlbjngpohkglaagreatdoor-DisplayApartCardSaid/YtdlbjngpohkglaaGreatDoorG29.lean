/- Part 29 of the texts: Wx, RtP, RtB, Eff19. -/
import Derived.Test.YtdlbjngpohkglaaGreatDoorG26
import Derived.Test.YtdlbjngpohkglaaGreatDoorG14
import Derived.Deep.RegionLaw
import Derived.Test.YtdlbjngpohkglaaGreatDoorG13
import Derived.Test.YtdlbjngpohkglaaGreatDoorG07
import Derived.Test.YtdlbjngpohkglaaGreatDoorG23
section
set_option linter.unusedVariables false
set_option maxRecDepth 100000
set_option linter.unusedSimpArgs false
namespace Go.Proofs.YtdlbjngpohkglaaGreatDoor
open Go.RowKit

set_option maxHeartbeats 2000000 in
theorem inner_bd {w0 : World} {g : Nat} {a : AH} {l : List PA} (D : DN w0 g a l) (h3 : a.kind ≠ 3) (h4 : a.kind ≠ 4) (h5 : a.kind ≠ 5) (h7 : a.kind ≠ 7) (h6 : a.kind ≠ 6) (h8 : a.kind ≠ 8) (h9 : a.kind ≠ 9) (h10 : a.kind ≠ 10) (h14 : a.kind ≠ 14) {ws : List ByteArray} (hB : PutsAt w0 g 79 #[.pointer (some ⟨g, 0, none⟩), aggT a] ws) : PutsAt w0 g 59 #[.pointer (some ⟨g, 0, none⟩), aggT a] (ws) := by
  intro W v L hb hw hM
  have HE := Lib.hid D.env
  have HG := Lib.hid D.env.hg
  have HG1 := Lib.hid hw.lt
  have HM := Lib.hid hM
  have HD := Lib.hid (DSt.init hb hw a)
  have HS1 := Lib.hid D.name
  have HS2 := Lib.hid D.arg
  have HS3 := Lib.hid D.exn
  have HBI := Lib.hid hB
  clear hB
  clear D hb hw hM
  show Calls _ _ _ _ _
  have e3 : (a.kind == 3) = false := by simpa using h3
  have e4 : (a.kind == 4) = false := by simpa using h4
  have e5 : (a.kind == 5) = false := by simpa using h5
  have e7 : (a.kind == 7) = false := by simpa using h7
  have e6 : (a.kind == 6) = false := by simpa using h6
  have e8 : (a.kind == 8) = false := by simpa using h8
  have e9 : (a.kind == 9) = false := by simpa using h9
  have e10 : (a.kind == 10) = false := by simpa using h10
  have e14 : (a.kind == 14) = false := by simpa using h14
  clear h3 h4 h5 h7 h6 h8 h9 h10 h14
  go_enter Tryz.func59, Tryz.ntmps59
  go_upto_region 1 with fail
  generalize hW0 : W.alloc (boxA a) = W0 at *
  clear hW0
  obtain ⟨c0, c1, c2, c3, c4, c5, c6, c7, c8, c9, c10, c11, c12, c13, c14, c15, c16, c17, c18⟩ := HD.out.box.all
  go_wp2_with (first
    | (refine wpList_load_row rfl 31 _ rfl W.heap.size rfl 31 _ (0, 0) _ HD.out.box.blk Tryz.underlying31 rfl (by kernel_rfl) ?_)
    | (go_at_call 79; refine (HBI.out _ _ _ HD.out.below HD.out.wr (by first | exact HM.out | (have := HM.out; simp only [strsOf, strOf, List.map_cons, List.map_nil, List.length_append] at this ⊢; omega))).mono ?_; rintro e w8 ⟨rfl, v8, hw8, ht8⟩; have HD := Lib.hid (HD.out.step HG.out HG1.out hw8 ht8); clear hw8 ht8 c0 c1 c2 c3 c4 c5 c6 c7 c8 c9 c10 c11 c12 c13 c14 c15 c16 c17 c18; obtain ⟨c0, c1, c2, c3, c4, c5, c6, c7, c8, c9, c10, c11, c12, c13, c14, c15, c16, c17, c18⟩ := HD.out.box.all))
  go_end0
  refine ⟨rfl, _, ?_, HD.out.wrote⟩
  have := HD.out.wr
  first
    | exact this
    | (simp only [strsOf, strOf, List.map_cons, List.map_nil, List.append_assoc] at this ⊢
       exact this)

set_option maxHeartbeats 2000000 in
theorem term_in {w0 : World} {g : Nat} {a : AH} {l : List PA} (D : DN w0 g a l) (h1 : a.kind ≠ 1) (h2 : a.kind ≠ 2) {ws : List ByteArray} (hB : PutsAt w0 g 59 #[.pointer (some ⟨g, 0, none⟩), aggT a] ws) : PutsAt w0 g 42 #[.pointer (some ⟨g, 0, none⟩), aggT a] (wordsP [⟨#[40]⟩] ++ (ws ++ (wordsP [⟨#[41]⟩]))) := by
  intro W v L hb hw hM
  have HE := Lib.hid D.env
  have HG := Lib.hid D.env.hg
  have HG1 := Lib.hid hw.lt
  have HM := Lib.hid hM
  have HD := Lib.hid (DSt.init hb hw a)
  have HS1 := Lib.hid D.name
  have HS2 := Lib.hid D.arg
  have HS3 := Lib.hid D.exn
  have HIN := Lib.hid hB
  clear hB
  clear D hb hw hM
  show Calls _ _ _ _ _
  have e1 : (a.kind == 1) = false := by simpa using h1
  have e2 : (a.kind == 2) = false := by simpa using h2
  clear h1 h2
  go_enter Tryz.func42, Tryz.ntmps42
  go_upto_region 1 with fail
  generalize hW0 : W.alloc (boxA a) = W0 at *
  clear hW0
  obtain ⟨c0, c1, c2, c3, c4, c5, c6, c7, c8, c9, c10, c11, c12, c13, c14, c15, c16, c17, c18⟩ := HD.out.box.all
  go_wp2_with (first
    | (refine wpList_load_row rfl 31 _ rfl W.heap.size rfl 31 _ (0, 0) _ HD.out.box.blk Tryz.underlying31 rfl (by kernel_rfl) ?_)
    | (go_at_call 57; refine (put_cs HE.out HD.out.below HD.out.wr _ (by omega) _ (by simp [strsOf, strOf, encS]) (by rfl) _ _ (by simp) (by simp [strsOf, strOf, HS1.out, HS2.out, HS3.out] <;> decide) (by first | exact HM.out | (have := HM.out; simp only [strsOf, strOf, List.map_cons, List.map_nil, List.length_append] at this ⊢; omega))).mono ?_; rintro e w8 ⟨rfl, v8, hw8, ht8⟩; have HD := Lib.hid (HD.out.step HG.out HG1.out hw8 ht8); clear hw8 ht8 c0 c1 c2 c3 c4 c5 c6 c7 c8 c9 c10 c11 c12 c13 c14 c15 c16 c17 c18; obtain ⟨c0, c1, c2, c3, c4, c5, c6, c7, c8, c9, c10, c11, c12, c13, c14, c15, c16, c17, c18⟩ := HD.out.box.all)
    | (go_at_call 59; refine (HIN.out _ _ _ HD.out.below HD.out.wr (by first | exact HM.out | (have := HM.out; simp only [strsOf, strOf, List.map_cons, List.map_nil, List.length_append] at this ⊢; omega))).mono ?_; rintro e w8 ⟨rfl, v8, hw8, ht8⟩; have HD := Lib.hid (HD.out.step HG.out HG1.out hw8 ht8); clear hw8 ht8 c0 c1 c2 c3 c4 c5 c6 c7 c8 c9 c10 c11 c12 c13 c14 c15 c16 c17 c18; obtain ⟨c0, c1, c2, c3, c4, c5, c6, c7, c8, c9, c10, c11, c12, c13, c14, c15, c16, c17, c18⟩ := HD.out.box.all))
  go_end0
  refine ⟨rfl, _, ?_, HD.out.wrote⟩
  have := HD.out.wr
  first
    | exact this
    | (simp only [strsOf, strOf, List.map_cons, List.map_nil, List.append_assoc] at this ⊢
       exact this)

set_option maxHeartbeats 2000000 in
theorem term_1 {w0 : World} {g : Nat} {a : AH} {l : List PA} (D : DN w0 g a l) (hk : a.kind = 1) : PutsAt w0 g 42 #[.pointer (some ⟨g, 0, none⟩), aggT a] (wordsP [decB a.n]) := by
  intro W v L hb hw hM
  have HE := Lib.hid D.env
  have HG := Lib.hid D.env.hg
  have HG1 := Lib.hid hw.lt
  have HM := Lib.hid hM
  have HD := Lib.hid (DSt.init hb hw a)
  have HS1 := Lib.hid D.name
  have HS2 := Lib.hid D.arg
  have HS3 := Lib.hid D.exn
  have HDG : Hid (∀ W, Below w0.heap.size w0 W → Calls Tryz.prog 58 #[.int .i64 a.n] W fun e w' => e = .returned (.string (decB a.n)) ∧ Below W.heap.size W w') := Lib.hid (fun W hb => digits_any a.n D.node.own.n.1 D.node.own.n.2 W (D.env.tab.below hb))
  have HDZ : Hid ((decB a.n).size < 4294967281) := Lib.hid (by have := decB_size a.n D.node.own.n.1 D.node.own.n.2; omega)
  clear D hb hw hM
  show Calls _ _ _ _ _
  have e1 : (a.kind == 1) = true := by simp [hk]
  have HKD := Lib.hid hk
  clear hk
  go_enter Tryz.func42, Tryz.ntmps42
  go_upto_region 1 with fail
  generalize hW0 : W.alloc (boxA a) = W0 at *
  clear hW0
  obtain ⟨c0, c1, c2, c3, c4, c5, c6, c7, c8, c9, c10, c11, c12, c13, c14, c15, c16, c17, c18⟩ := HD.out.box.all
  go_wp2_with (first
    | (refine wpList_load_row rfl 31 _ rfl W.heap.size rfl 31 _ (0, 0) _ HD.out.box.blk Tryz.underlying31 rfl (by kernel_rfl) ?_)
    | (go_at_call 58; refine (HDG.out _ HD.out.below).mono ?_; rintro e w2 ⟨rfl, hb⟩; have HD := Lib.hid (HD.out.below' hb); clear hb)
    | (go_at_call 57; refine (put_cs HE.out HD.out.below HD.out.wr _ (by omega) _ (by simp [strsOf, strOf, encS]) (by rfl) _ _ (by simp) (by intro s hs; rcases List.mem_cons.1 hs with rfl | hs; exact HDZ.out; cases hs) (by first | exact HM.out | (have := HM.out; simp only [strsOf, strOf, List.map_cons, List.map_nil, List.length_append] at this ⊢; omega))).mono ?_; rintro e w8 ⟨rfl, v8, hw8, ht8⟩; have HD := Lib.hid (HD.out.step HG.out HG1.out hw8 ht8); clear hw8 ht8 c0 c1 c2 c3 c4 c5 c6 c7 c8 c9 c10 c11 c12 c13 c14 c15 c16 c17 c18; obtain ⟨c0, c1, c2, c3, c4, c5, c6, c7, c8, c9, c10, c11, c12, c13, c14, c15, c16, c17, c18⟩ := HD.out.box.all))
  go_end0
  refine ⟨rfl, _, ?_, HD.out.wrote⟩
  have := HD.out.wr
  first
    | exact this
    | (simp only [strsOf, strOf, List.map_cons, List.map_nil, List.append_assoc] at this ⊢
       exact this)

set_option maxHeartbeats 2000000 in
theorem term_2 {w0 : World} {g : Nat} {a : AH} {l : List PA} (D : DN w0 g a l) (hk : a.kind = 2) : PutsAt w0 g 42 #[.pointer (some ⟨g, 0, none⟩), aggT a] (wordsP [a.name]) := by
  intro W v L hb hw hM
  have HE := Lib.hid D.env
  have HG := Lib.hid D.env.hg
  have HG1 := Lib.hid hw.lt
  have HM := Lib.hid hM
  have HD := Lib.hid (DSt.init hb hw a)
  have HS1 := Lib.hid D.name
  have HS2 := Lib.hid D.arg
  have HS3 := Lib.hid D.exn

  clear D hb hw hM
  show Calls _ _ _ _ _
  have e1 : (a.kind == 1) = false := by simp [hk]
  have e2 : (a.kind == 2) = true := by simp [hk]
  have HKD := Lib.hid hk
  clear hk
  go_enter Tryz.func42, Tryz.ntmps42
  go_upto_region 1 with fail
  generalize hW0 : W.alloc (boxA a) = W0 at *
  clear hW0
  obtain ⟨c0, c1, c2, c3, c4, c5, c6, c7, c8, c9, c10, c11, c12, c13, c14, c15, c16, c17, c18⟩ := HD.out.box.all
  go_wp2_with (first
    | (refine wpList_load_row rfl 31 _ rfl W.heap.size rfl 31 _ (0, 0) _ HD.out.box.blk Tryz.underlying31 rfl (by kernel_rfl) ?_)
    | (go_at_call 57; refine (put_cs HE.out HD.out.below HD.out.wr _ (by omega) _ (by simp [strsOf, strOf, encS]) (by rfl) _ _ (by simp) (by simp [strsOf, strOf, HS1.out, HS2.out, HS3.out] <;> decide) (by first | exact HM.out | (have := HM.out; simp only [strsOf, strOf, List.map_cons, List.map_nil, List.length_append] at this ⊢; omega))).mono ?_; rintro e w8 ⟨rfl, v8, hw8, ht8⟩; have HD := Lib.hid (HD.out.step HG.out HG1.out hw8 ht8); clear hw8 ht8 c0 c1 c2 c3 c4 c5 c6 c7 c8 c9 c10 c11 c12 c13 c14 c15 c16 c17 c18; obtain ⟨c0, c1, c2, c3, c4, c5, c6, c7, c8, c9, c10, c11, c12, c13, c14, c15, c16, c17, c18⟩ := HD.out.box.all))
  go_end0
  refine ⟨rfl, _, ?_, HD.out.wrote⟩
  have := HD.out.wr
  first
    | exact this
    | (simp only [strsOf, strOf, List.map_cons, List.map_nil, List.append_assoc] at this ⊢
       exact this)
end Go.Proofs.YtdlbjngpohkglaaGreatDoor
end
section
set_option linter.unusedVariables false
set_option maxRecDepth 100000
set_option linter.unusedSimpArgs false
namespace Go.Proofs.YtdlbjngpohkglaaGreatDoor
open Go.RowKit Go.Sort Go.Lib

theorem ref_May12_is {t : PT} {w : World} {r : Bool} (hr : mayT t.er = r) (hl : LR.lies w t) : Calls Tryz.prog 39 #[aggR t.head] w fun e w' => e = .returned (.bool r) ∧ Below w.heap.size w w' := by
  subst hr; exact ref_May12_any t w hl
theorem boxT {w : World} {t : PT} : Below w.heap.size w (w.alloc (.cells #[.int .u8 t.head.kind, .int .i64 t.head.rho, .slice t.head.ep t.head.en t.head.ec, .slice t.head.kp t.head.kn t.head.kc] 28)) := (Below.refl w.heap.size w).alloc (Nat.le_refl _) _
/-- the box's cells, later -/
theorem boxT_cells {w w1 : World} {t : PT} (hb : Below (w.heap.size + 1) (w.alloc (.cells #[.int .u8 t.head.kind, .int .i64 t.head.rho, .slice t.head.ep t.head.en t.head.ec, .slice t.head.kp t.head.kn t.head.kc] 28)) w1) :
    w1.cell? ⟨w.heap.size, 0, none⟩ = some (.int .u8 t.head.kind) ∧ w1.cell? ⟨w.heap.size, 1, none⟩ = some (.int .i64 t.head.rho) ∧ w1.cell? ⟨w.heap.size, 2, none⟩ = some (.slice t.head.ep t.head.en t.head.ec) ∧ w1.cell? ⟨w.heap.size, 3, none⟩ = some (.slice t.head.kp t.head.kn t.head.kc) := by
  refine ⟨?_, ?_, ?_, ?_⟩ <;> (rw [hb.cell (by simp), cell_new]; rfl)

theorem eqInts_true {p : Option Addr} {n cap : Nat} {l : List Int} {q : Option Addr} {m mc : Nat} {w : World} (hr : IsRow encN 1 w p n cap l) (hr' : IsRow encN 1 w q m mc l) :
    Calls Tryz.prog 25 #[.slice p n cap, .slice q m mc] w fun e w' => e = .returned (.bool true) ∧ Below w.heap.size w w' := by
  refine (ref_EqualInts_any hr hr').mono ?_
  rintro e w' ⟨rfl, j, rfl⟩
  exact ⟨by rw [eqN_refl], below_drewN (Below.refl _ _) _⟩
end Go.Proofs.YtdlbjngpohkglaaGreatDoor
end
section
set_option linter.unusedVariables false
set_option maxRecDepth 100000
set_option linter.unusedSimpArgs false
namespace Go.Proofs.YtdlbjngpohkglaaGreatDoor
open Go.RowKit Go.Sort Go.Lib

structure LBH where
  kind : Int
  var : Int
structure BH where
  kind : Int
  var : Int
  kp : Option Addr
  kn : Nat
  kc : Nat
abbrev PB := Rose BH
abbrev BT := Rose LBH
def BH.plain (a : BH) : LBH := ⟨a.kind, a.var⟩
def PB.er (t : PB) : BT := Rose.map BH.plain t
theorem PB.er_node (a : BH) (l : List PB) : PB.er (.node a l) = .node a.plain (l.map PB.er) := Rose.map_node _ a l
def encBH (a : BH) : List Value := [.int .u8 a.kind, .int .i64 a.var, .slice a.kp a.kn a.kc]
structure BH.Own (a : BH) : Prop where
  kmax : a.kn ≤ 9223372036854775807
  kle : a.kn ≤ a.kc
  knil : a.kp = none → a.kc = 0
def LB : Laid BH where
  enc := encBH
  k := 3
  own := fun _ => BH.Own
  kp := BH.kp
  kn := BH.kn
  len := fun _ => rfl
  below := fun h _ => h
theorem LBlen : ∀ t : PB, (LB.encT t).length = 3 := fun _ => rfl
theorem LBone : ∀ t : PB, ∀ u ∈ LB.encT t, u.oneCell' = true := by
  intro t u hu
  have : u ∈ encBH t.head := hu
  simp [encBH] at this
  rcases this with rfl | rfl | rfl <;> rfl
abbrev aggB (a : BH) : Value := .agg #[.int .u8 a.kind, .int .i64 a.var, .slice a.kp a.kn a.kc]
/-- all rows of t lie in blocks from B on, below E -/
def Span (B E : Nat) (t : PB) : Prop := ∀ a ∈ t.nodes, ∀ ad, a.kp = some ad → B ≤ ad.block ∧ ad.block < E
theorem Span.mono {B E B' E' : Nat} {t : PB} (h : Span B E t) (hB : B' ≤ B) (hE : E ≤ E') : Span B' E' t := fun a ha ad hp => by have := h a ha ad hp; omega
theorem Span.node {B E : Nat} {a : BH} {l : List PB} (ha : ∀ ad, a.kp = some ad → B ≤ ad.block ∧ ad.block < E) (hl : ∀ t ∈ l, Span B E t) : Span B E (.node a l) := by
  intro x hx
  rw [Rose.nodes_node, List.mem_cons] at hx
  rcases hx with rfl | hx
  · exact ha
  · rw [List.mem_flatten] at hx
    obtain ⟨m, hm, hx⟩ := hx
    obtain ⟨t, ht, rfl⟩ := List.mem_map.1 hm
    exact hl t ht x hx
/-- no row of t lies in block r -/
def Off (r : Option Nat) (t : PB) : Prop := ∀ a ∈ t.nodes, ∀ ad, a.kp = some ad → r ≠ some ad.block
theorem rowE_grown {α : Type} {enc : α → List Value} {k : Nat} {w w' : World} {r : Option Nat} {p : Option Addr} {l : List α} (hg : w.grownBy w' r) (hne : ∀ ad, p = some ad → r ≠ some ad.block) (h : RowE enc k w p l) : RowE enc k w' p l := by
  rcases h with h | ⟨b, o, rfl, hb, hc⟩
  · exact .inl h
  · refine .inr ⟨b, o, rfl, Nat.lt_of_lt_of_le hb hg.size, fun j x hx i u hi => held_cell hg (by exact hne ⟨b, o, none⟩ rfl) (hc j x hx i u hi)⟩
theorem liesB_grown {w w' : World} {r : Option Nat} (hg : w.grownBy w' r) (t : PB) : Off r t → LB.lies w t → LB.lies w' t := by
  refine Rose.ind (P := fun (t : PB) => Off r t → LB.lies w t → LB.lies w' t) (fun a l ih ho h => ?_) t
  rw [Laid.lies_node] at h ⊢
  refine ⟨h.1, h.2.1, rowE_grown hg (fun ad hp => ho a (by rw [Rose.nodes_node]; simp) ad hp) h.2.2.1, fun t ht => ih t ht (fun x hx => ho x ?_) (h.2.2.2 t ht)⟩
  rw [Rose.nodes_node, List.mem_cons, List.mem_flatten]
  exact .inr ⟨t.nodes, List.mem_map_of_mem ht, hx⟩
/-- without regions -/
def bareT : RT → BT := Rose.map (fun a => ⟨a.kind, 0⟩)
theorem bareT_er (a : RH) (l : List PT) : bareT (PT.er (.node a l)) = .node ⟨a.kind, 0⟩ (l.map (fun t => bareT (PT.er t))) := by
  rw [PT.er_node]
  unfold bareT
  rw [Rose.map_node, List.map_map]; rfl
/-- what Bare answers: a tree of new blocks -/
def BareOut (x : PT) (W : World) (e : Ending) (w' : World) : Prop := (∃ y : PB, e = .returned (aggB y.head) ∧ LB.lies w' y ∧ Span W.heap.size w'.heap.size y ∧ PB.er y = bareT (PT.er x)) ∧ Below W.heap.size W w'
def BareAt (f : FuncId) (x : PT) (W : World) : Prop := Calls Tryz.prog f #[aggR x.head] W (BareOut x W)
end Go.Proofs.YtdlbjngpohkglaaGreatDoor
end
section
set_option linter.unusedVariables false
set_option maxRecDepth 100000
set_option linter.unusedSimpArgs false
namespace Go.Proofs.YtdlbjngpohkglaaGreatDoor
open Go.RowKit Go.Sort Go.Lib

/-- texts of atoms, with " , " between them -/
def joinE (S : List Atom) : ByteArray := ⟨(Lib.join ((S.map textOne).map (·.data.toList)) [32, 44, 32]).toArray⟩
theorem textA_join {S : List Atom} (h : S ≠ []) : textA S = joinE S := by unfold textA joinE; rw [if_neg h]
theorem joinE_nil : joinE [] = ⟨#[]⟩ := rfl
theorem join_snoc (sep : List UInt8) : ∀ (xs : List (List UInt8)) (y : List UInt8), Lib.join (xs ++ [y]) sep = if xs = [] then y else Lib.join xs sep ++ sep ++ y
  | [], y => by simp [Lib.join_one]
  | x :: xs, y => by
    rw [List.cons_append, Lib.join_cons, Lib.join_cons, if_neg (by simp)]
    simp [Lib.joinTail, List.append_assoc]
theorem joinE_snoc {S : List Atom} {k : Nat} {x : Atom} (hx : S[k]? = some x) : joinE (S.take (k + 1)) = if k = 0 then textOne x else joinE (S.take k) ++ ⟨#[32, 44, 32]⟩ ++ textOne x := by
  have hk := get_lt hx
  unfold joinE
  rw [take_succ_get hx, List.map_append, List.map_append, List.map_singleton, List.map_singleton, join_snoc]
  by_cases h0 : k = 0
  · subst h0; simp
  · have hne : ¬ (S.take k).map textOne = [] := by
      intro h
      simp at h
      rcases h with h | h
      · exact h0 h
      · subst h; simp at hk
    have hne' : ¬ ((S.take k).map textOne).map (·.data.toList) = [] := by simpa using hne
    rw [if_neg h0, if_neg hne']
    apply ByteArray.ext
    simp
theorem bget_eq (o d : ByteArray) : o ++ ⟨#[103, 101, 116, 32]⟩ ++ d = o ++ (bGet ++ bSp ++ d) := by
  apply ByteArray.ext; simp [bGet, bSp]
theorem bput_eq (o d : ByteArray) : o ++ ⟨#[112, 117, 116, 32]⟩ ++ d = o ++ (bPut ++ bSp ++ d) := by
  apply ByteArray.ext; simp [bPut, bSp]
theorem bexn_eq (o d : ByteArray) : o ++ ⟨#[101, 120, 110, 32]⟩ ++ d = o ++ (bExn ++ bSp ++ d) := by
  apply ByteArray.ext; simp [bExn, bSp]
theorem empty_app (d : ByteArray) : (⟨#[]⟩ : ByteArray) ++ d = d := by apply ByteArray.ext; simp

set_option maxHeartbeats 1000000 in
theorem ref_Text_any {p : Option Addr} {n cap : Nat} {l : List Atom} {w : World} (hr : IsRow encA 3 w p n cap l) (hm : n ≤ 1000000) (hrng : ∀ a ∈ l, a.rho ≤ 9223372036854775807) (hlen : ∀ a ∈ l, atomB a = true → (textOne a).size ≤ 1000000) :
    Calls Tryz.prog 30 #[.slice p n cap] w fun e w' => e = .returned (.string (textA (sortA (l.filter atomB)))) ∧ Below w.heap.size w w' := by
  have HR := Lib.hid hr
  have HRNG := Lib.hid hrng
  have HLEN := Lib.hid hlen
  clear hr hrng hlen
  go_enter Tryz.func30, Tryz.ntmps30
  go_wp2_with fail
  refine (ref_Of_any p n cap l w HR.out.len hm HR.out.row).mono ?_
  rintro e w1 ⟨v, rfl, ⟨q, m, mc, rfl, hl, hmc, hrow⟩, hb⟩
  rw [refOf_eq] at hl hrow
  have hmn : m ≤ 1000000 := by
    have h1 := refOf_length l
    rw [refOf_eq] at h1
    have := HR.out.len; omega
  generalize hS : sortA (l.filter atomB) = S at hl hrow
  have HAT : Hid (∀ x ∈ S, x ∈ l ∧ atomB x = true) := fun x hx => by rw [← hS, mem_sortA, List.mem_filter] at hx; exact hx
  have HS := Lib.hid hS
  have HL := Lib.hid hl
  have HROW := Lib.hid hrow
  have HB1 := Lib.hid hb
  clear hl hrow hb
  clear hS
  go_wp2_with fail
  go_loopw [4, 5, 10] (fun o _ i wr => ∃ (k : Nat) (s : ByteArray), k ≤ m ∧ i = .int .i64 k ∧ o = .string s ∧ s = joinE (S.take k) ∧ s.size ≤ 1000003 * k ∧ Below w1.heap.size w1 wr) (fun _ _ i _ => m - (intOf i).toNat)
  case atStart => exact ⟨0, _, by omega, rfl, rfl, rfl, by decide, Below.refl _ _⟩
  case round =>
    obtain ⟨k, s, hk, rfl, rfl, hs, hsz, hb⟩ := hrel
    have HSS := Lib.hid hs
    have HB := Lib.hid hb
    clear hs hb
    by_cases hlt : k < m
    · obtain ⟨x, hx⟩ := get_of_lt (l := S) (j := k) (by rw [HL.out]; exact hlt)
      have HE := Lib.hid hx
      obtain ⟨b, o, rfl, hbl, d0, d1, d2⟩ := RowA.atom (HROW.out.below HB.out) hx
      obtain ⟨hxl, hxa⟩ := HAT.out x (List.mem_of_getElem? hx)
      have HJ := Lib.hid (joinE_snoc hx)
      have hxs := HLEN.out x hxl hxa
      have hxr := HRNG.out x hxl
      have HK := Lib.hid (atomB_kind hxa)
      have HBL := Lib.hid hbl
      clear hx hbl
      obtain ⟨kd, rr, ss⟩ := x
      simp only at d0 d1 d2 hxr
      rcases (by omega : k ≤ 0 ∨ 0 < k) with hkz | hkz
      · have HJ2 : Hid (joinE (S.take (k + 1)) = s ++ textOne ⟨kd, rr, ss⟩) := by
          show _ = _
          have hk0 : k = 0 := by omega
          rw [HJ.out, if_pos hk0, HSS.out, hk0]
          exact (empty_app _).symm
        rcases HK.out with hk1 | hk1 | hk1
        · simp only at hk1
          subst hk1
          have hr0 : 0 ≤ rr := by
            have := hxa
            unfold atomB at this
            simp at this
            exact this.1
          have hds := decB_size rr (by omega) hxr
          have HD := Lib.hid (fun W => ref_Digits_pos hr0 hxr W)
          clear hxa hxs
          go_wp2_with fail
          refine (HD.out _).mono ?_
          rintro e w2 ⟨rfl, hb⟩
          have HB2 := Lib.hid (HB.out.trans (hb.mono HB.out.size))
          have f0 : w2.cell? ⟨b, o + k * 3, none⟩ = some (.int .u8 1) := by rw [hb.cell HBL.out]; exact d0
          clear hb d0 d1 d2
          go_wp2_with fail
          go_roundw
          case rel => exact ⟨k + 1, _, by omega, by go_num, rfl, by rw [HJ2.out]; exact bget_eq _ _, by simp only [ByteArray.size_append]; have : (⟨#[32, 44, 32]⟩ : ByteArray).size = 3 := rfl; have : (⟨#[103, 101, 116, 32]⟩ : ByteArray).size = 4 := rfl; omega, HB2.out⟩
          case measure => simp [intOf]; omega
        · simp only at hk1
          subst hk1
          have hr0 : 0 ≤ rr := by
            have := hxa
            unfold atomB at this
            simp at this
            exact this.1
          have hds := decB_size rr (by omega) hxr
          have HD := Lib.hid (fun W => ref_Digits_pos hr0 hxr W)
          clear hxa hxs
          go_wp2_with fail
          refine (HD.out _).mono ?_
          rintro e w2 ⟨rfl, hb⟩
          have HB2 := Lib.hid (HB.out.trans (hb.mono HB.out.size))
          have f0 : w2.cell? ⟨b, o + k * 3, none⟩ = some (.int .u8 2) := by rw [hb.cell HBL.out]; exact d0
          clear hb d0 d1 d2
          go_wp2_with fail
          go_roundw
          case rel => exact ⟨k + 1, _, by omega, by go_num, rfl, by rw [HJ2.out]; exact bput_eq _ _, by simp only [ByteArray.size_append]; have : (⟨#[32, 44, 32]⟩ : ByteArray).size = 3 := rfl; have : (⟨#[112, 117, 116, 32]⟩ : ByteArray).size = 4 := rfl; omega, HB2.out⟩
          case measure => simp [intOf]; omega
        · simp only at hk1
          subst hk1
          have hss : 4 + ss.size ≤ 1000000 := by
            have e : (bExn ++ bSp ++ ss).size = 4 + ss.size := by rw [ByteArray.size_append, ByteArray.size_append]; rfl
            rw [← e]; exact hxs
          clear hxa hxs
          go_wp2_with fail
          go_roundw
          case rel => exact ⟨k + 1, _, by omega, by go_num, rfl, by rw [HJ2.out]; exact bexn_eq _ _, by simp only [ByteArray.size_append]; have : (⟨#[32, 44, 32]⟩ : ByteArray).size = 3 := rfl; have : (⟨#[101, 120, 110, 32]⟩ : ByteArray).size = 4 := rfl; omega, HB.out⟩
          case measure => simp [intOf]; omega
      · have HJ2 : Hid (joinE (S.take (k + 1)) = s ++ ⟨#[32, 44, 32]⟩ ++ textOne ⟨kd, rr, ss⟩) := by show _ = _; rw [HJ.out, if_neg (by omega), HSS.out]
        rcases HK.out with hk1 | hk1 | hk1
        · simp only at hk1
          subst hk1
          have hr0 : 0 ≤ rr := by
            have := hxa
            unfold atomB at this
            simp at this
            exact this.1
          have hds := decB_size rr (by omega) hxr
          have HD := Lib.hid (fun W => ref_Digits_pos hr0 hxr W)
          clear hxa hxs
          go_wp2_with fail
          refine (HD.out _).mono ?_
          rintro e w2 ⟨rfl, hb⟩
          have HB2 := Lib.hid (HB.out.trans (hb.mono HB.out.size))
          have f0 : w2.cell? ⟨b, o + k * 3, none⟩ = some (.int .u8 1) := by rw [hb.cell HBL.out]; exact d0
          clear hb d0 d1 d2
          go_wp2_with fail
          go_roundw
          case rel => exact ⟨k + 1, _, by omega, by go_num, rfl, by rw [HJ2.out]; exact bget_eq _ _, by simp only [ByteArray.size_append]; have : (⟨#[32, 44, 32]⟩ : ByteArray).size = 3 := rfl; have : (⟨#[103, 101, 116, 32]⟩ : ByteArray).size = 4 := rfl; omega, HB2.out⟩
          case measure => simp [intOf]; omega
        · simp only at hk1
          subst hk1
          have hr0 : 0 ≤ rr := by
            have := hxa
            unfold atomB at this
            simp at this
            exact this.1
          have hds := decB_size rr (by omega) hxr
          have HD := Lib.hid (fun W => ref_Digits_pos hr0 hxr W)
          clear hxa hxs
          go_wp2_with fail
          refine (HD.out _).mono ?_
          rintro e w2 ⟨rfl, hb⟩
          have HB2 := Lib.hid (HB.out.trans (hb.mono HB.out.size))
          have f0 : w2.cell? ⟨b, o + k * 3, none⟩ = some (.int .u8 2) := by rw [hb.cell HBL.out]; exact d0
          clear hb d0 d1 d2
          go_wp2_with fail
          go_roundw
          case rel => exact ⟨k + 1, _, by omega, by go_num, rfl, by rw [HJ2.out]; exact bput_eq _ _, by simp only [ByteArray.size_append]; have : (⟨#[32, 44, 32]⟩ : ByteArray).size = 3 := rfl; have : (⟨#[112, 117, 116, 32]⟩ : ByteArray).size = 4 := rfl; omega, HB2.out⟩
          case measure => simp [intOf]; omega
        · simp only at hk1
          subst hk1
          have hss : 4 + ss.size ≤ 1000000 := by
            have e : (bExn ++ bSp ++ ss).size = 4 + ss.size := by rw [ByteArray.size_append, ByteArray.size_append]; rfl
            rw [← e]; exact hxs
          clear hxa hxs
          go_wp2_with fail
          go_roundw
          case rel => exact ⟨k + 1, _, by omega, by go_num, rfl, by rw [HJ2.out]; exact bexn_eq _ _, by simp only [ByteArray.size_append]; have : (⟨#[32, 44, 32]⟩ : ByteArray).size = 3 := rfl; have : (⟨#[101, 120, 110, 32]⟩ : ByteArray).size = 4 := rfl; omega, HB.out⟩
          case measure => simp [intOf]; omega
    · have hkm : k = m := by omega
      subst hkm
      have HSK : Hid (s = joinE S) := by have h := HSS.out; rw [take_full (by rw [HL.out]; omega)] at h; exact h
      by_cases h0 : k = 0
      · have hS0 : S = [] := List.length_eq_zero_iff.1 (by rw [HL.out]; exact h0)
        have HT : Hid (textA S = ⟨#[110, 111, 110, 101]⟩) := by show _ = _; rw [hS0]; rfl
        have hkb : ((k : Int) == 0) = true := by simp; exact h0
        subst h0
        clear hS0 hkb
        go_wp2_with fail
        go_ret
        exact ⟨ret_str (by rw [HS.out, HT.out]), HB1.out.trans (HB.out.mono HB1.out.size)⟩
      · have HT : Hid (textA S = joinE S) := textA_join (fun h => h0 (by have := HL.out; rw [h] at this; simpa using this.symm))
        have hkb : ((k : Int) == 0) = false := by rw [beq_eq_false_iff_ne]; omega
        clear h0
        go_wp2_with fail
        go_ret
        exact ⟨ret_str (by rw [HS.out, HT.out, HSK.out]), HB1.out.trans (HB.out.mono HB1.out.size)⟩
end Go.Proofs.YtdlbjngpohkglaaGreatDoor
end
