/- Part 22 of the texts: All, Ea, Tn. -/
import Derived.Test.YtdlbjngpohkglaaGreatDoorG20
import Derived.Test.YtdlbjngpohkglaaGreatDoorG05
import Derived.Deep.MidRow
import Derived.Deep.WholeRow
import Derived.Test.YtdlbjngpohkglaaGreatDoorG02
import Derived.Lib.ConvBytes
section
set_option linter.unusedVariables false
set_option maxRecDepth 100000
set_option linter.unusedSimpArgs false
namespace Go.Proofs.YtdlbjngpohkglaaGreatDoor
open Go.RowKit

theorem encAH_len (a : AH) : (encAH a).length = 19 := rfl
theorem encAH_one : ∀ a : AH, ∀ u ∈ encAH a, u.oneCell' = true := by
  intro a u hu
  simp [encAH] at hu
  rcases hu with rfl | rfl | rfl | rfl | rfl | rfl | rfl | rfl | rfl | rfl | rfl | rfl | rfl | rfl | rfl | rfl | rfl | rfl | rfl <;> rfl
abbrev zAT : Value := .agg #[.int .u8 0, .int .u8 0, .int .i64 0, .int .i64 0, .string .empty, .string .empty, .string .empty, .int .i64 0, .slice none 0 0, .slice none 0 0, .int .u8 0, .int .i64 0, .slice none 0 0, .slice none 0 0, .int .u8 0, .int .i64 0, .slice none 0 0, .slice none 0 0, .slice none 0 0]
theorem infoAT : (Tryz.prog.info? 31).map (fun i => (i.zero, i.size, i.bytes)) = some (some zAT, 19, 280) := by kernel_rfl
theorem nodes_length (t : PA) : (Rose.nodes t).length = t.size := by
  refine Rose.ind (P := fun (t : PA) => (Rose.nodes t).length = t.size) (fun a l ih => ?_) t
  rw [Rose.nodes_node, Rose.size_node, List.length_cons, List.length_flatten, List.map_map]
  have : l.map (List.length ∘ Rose.nodes) = l.map Rose.size := List.map_congr_left ih
  rw [this]; omega
/-- the nodes of the first k kids -/
def nodesTo (l : List PA) (k : Nat) : List AH := ((l.take k).map Rose.nodes).flatten
theorem nodesTo_step {l : List PA} {k : Nat} {x : PA} (h : l[k]? = some x) : nodesTo l (k + 1) = nodesTo l k ++ Rose.nodes x := by
  unfold nodesTo; rw [take_succ_get h, List.map_append, List.flatten_append]; simp
theorem sizesA_take {l : List PA} {k : Nat} : ((l.take k).map Rose.size).sum ≤ (l.map Rose.size).sum := by
  induction k generalizing l with
  | zero => simp
  | succ k ih => cases l with
    | nil => simp
    | cons y l => have := ih (l := l); simp only [List.take_succ_cons, List.map_cons, List.sum_cons] at this ⊢; omega
theorem nodesTo_length (l : List PA) (k : Nat) : (nodesTo l k).length = ((l.take k).map Rose.size).sum := by
  unfold nodesTo
  rw [List.length_flatten, List.map_map]
  congr 1
  exact List.map_congr_left (fun t _ => nodes_length t)
theorem nodes_app {a : AH} {l : List PA} {k : Nat} {x : PA} (h : l[k]? = some x) : a :: (nodesTo l k ++ Rose.nodes x) = a :: nodesTo l (k + 1) := by rw [nodesTo_step h]
def AllAt (t : PA) (w : World) : Prop := Calls Tryz.prog 14 #[aggT t.head] w fun e w' => (∃ p c, e = .returned (.slice p t.size c) ∧ OwnE encAH 19 w' w.heap.size 31 (.slice p t.size c) t.size (Rose.nodes t)) ∧ Below w.heap.size w w'
set_option maxHeartbeats 4000000 in
theorem ref13_All_of {a : AH} {l : List PA} {w : World} (hN : NodeA w a l) (hs : (Rose.node a l).size ≤ 1000) (hf : ∀ x ∈ l, ∀ W, Below w.heap.size w W → AllAt x W) : AllAt (.node a l) w := by
  have HN := Lib.hid hN
  have HF := Lib.hid hf
  have HS := Lib.hid hs
  have hkm := hN.own.kmax
  have HA := Lib.hid (boxA_new w a)
  have HBX := Lib.hid ((Below.refl w.heap.size w).alloc (Nat.le_refl _) (boxA a))
  have HO0 := Lib.hid (own_made encAH_len (w.alloc (boxA a)) (w.heap.size + 1) 31 [a] 1 #[.int .u8 a.kind, .int .u8 a.op, .int .i64 a.at_, .int .i64 a.n, .string a.name, .string a.arg, .string a.exn, .int .i64 a.rho, .slice a.rp a.rn a.rc, .slice a.ep a.en a.ec, .int .u8 a.ty.head.kind, .int .i64 a.ty.head.rho, .slice a.ty.head.ep a.ty.head.en a.ty.head.ec, .slice a.ty.head.kp a.ty.head.kn a.ty.head.kc, .int .u8 a.res.head.kind, .int .i64 a.res.head.rho, .slice a.res.head.ep a.res.head.en a.res.head.ec, .slice a.res.head.kp a.res.head.kn a.res.head.kc, .slice a.kp a.kn a.kc] rfl rfl (by decide) (by simp))
  show Calls _ _ #[aggT a] w _
  clear hN hf hs
  go_enter Tryz.func14, Tryz.ntmps14
  go_wp2_with (refine wpList_load_row rfl 31 _ rfl w.heap.size rfl 31 _ (0, 0) _ (HA.out.blk) Tryz.underlying31 rfl (by kernel_rfl) ?_)
  have HA2 := Lib.hid (HA.out.below ((Below.refl (w.alloc (boxA a)).heap.size (w.alloc (boxA a))).alloc (Nat.le_refl _) (.cells #[.int .u8 a.kind, .int .u8 a.op, .int .i64 a.at_, .int .i64 a.n, .string a.name, .string a.arg, .string a.exn, .int .i64 a.rho, .slice a.rp a.rn a.rc, .slice a.ep a.en a.ec, .int .u8 a.ty.head.kind, .int .i64 a.ty.head.rho, .slice a.ty.head.ep a.ty.head.en a.ty.head.ec, .slice a.ty.head.kp a.ty.head.kn a.ty.head.kc, .int .u8 a.res.head.kind, .int .i64 a.res.head.rho, .slice a.res.head.ep a.res.head.en a.res.head.ec, .slice a.res.head.kp a.res.head.kn a.res.head.kc, .slice a.kp a.kn a.kc] 31)))
  have HB2 := Lib.hid (HBX.out.alloc HBX.out.size (.cells #[.int .u8 a.kind, .int .u8 a.op, .int .i64 a.at_, .int .i64 a.n, .string a.name, .string a.arg, .string a.exn, .int .i64 a.rho, .slice a.rp a.rn a.rc, .slice a.ep a.en a.ec, .int .u8 a.ty.head.kind, .int .i64 a.ty.head.rho, .slice a.ty.head.ep a.ty.head.en a.ty.head.ec, .slice a.ty.head.kp a.ty.head.kn a.ty.head.kc, .int .u8 a.res.head.kind, .int .i64 a.res.head.rho, .slice a.res.head.ep a.res.head.en a.res.head.ec, .slice a.res.head.kp a.res.head.kn a.res.head.kc, .slice a.kp a.kn a.kc] 31))
  have hsz : ((w.alloc (boxA a)).alloc (.cells #[.int .u8 a.kind, .int .u8 a.op, .int .i64 a.at_, .int .i64 a.n, .string a.name, .string a.arg, .string a.exn, .int .i64 a.rho, .slice a.rp a.rn a.rc, .slice a.ep a.en a.ec, .int .u8 a.ty.head.kind, .int .i64 a.ty.head.rho, .slice a.ty.head.ep a.ty.head.en a.ty.head.ec, .slice a.ty.head.kp a.ty.head.kn a.ty.head.kc, .int .u8 a.res.head.kind, .int .i64 a.res.head.rho, .slice a.res.head.ep a.res.head.en a.res.head.ec, .slice a.res.head.kp a.res.head.kn a.res.head.kc, .slice a.kp a.kn a.kc] 31)).heap.size = w.heap.size + 2 := by simp
  have hs1 : (w.alloc (boxA a)).heap.size = w.heap.size + 1 := by simp
  rw [hs1] at HO0
  generalize (w.alloc (.cells #[.int .u8 a.kind, .int .u8 a.op, .int .i64 a.at_, .int .i64 a.n, .string a.name, .string a.arg, .string a.exn, .int .i64 a.rho, .slice a.rp a.rn a.rc, .slice a.ep a.en a.ec, .int .u8 a.ty.head.kind, .int .i64 a.ty.head.rho, .slice a.ty.head.ep a.ty.head.en a.ty.head.ec, .slice a.ty.head.kp a.ty.head.kn a.ty.head.kc, .int .u8 a.res.head.kind, .int .i64 a.res.head.rho, .slice a.res.head.ep a.res.head.en a.res.head.ec, .slice a.res.head.kp a.res.head.kn a.res.head.kc, .slice a.kp a.kn a.kc] 31)).alloc (.cells #[.int .u8 a.kind, .int .u8 a.op, .int .i64 a.at_, .int .i64 a.n, .string a.name, .string a.arg, .string a.exn, .int .i64 a.rho, .slice a.rp a.rn a.rc, .slice a.ep a.en a.ec, .int .u8 a.ty.head.kind, .int .i64 a.ty.head.rho, .slice a.ty.head.ep a.ty.head.en a.ty.head.ec, .slice a.ty.head.kp a.ty.head.kn a.ty.head.kc, .int .u8 a.res.head.kind, .int .i64 a.res.head.rho, .slice a.res.head.ep a.res.head.en a.res.head.ec, .slice a.res.head.kp a.res.head.kn a.res.head.kc, .slice a.kp a.kn a.kc] 31) = W2 at *
  clear hs1
  go_loopw [3, 10] (fun u i wr => ∃ (k : Nat) (p : Option Addr) (c : Nat), k ≤ a.kn ∧ i = .int .i64 k ∧ u = .slice p (1 + (nodesTo l k).length) c ∧ OwnE encAH 19 wr (w.heap.size + 1) 31 u (1 + (nodesTo l k).length) (a :: nodesTo l k) ∧ BoxA wr w.heap.size a ∧ Below w.heap.size w wr) (fun _ i _ => a.kn - (intOf i).toNat)
  case atStart => exact ⟨0, some ⟨w.heap.size + 1, 0, none⟩, 1, by omega, rfl, rfl, HO0.out, HA2.out, HB2.out⟩
  case round =>
    obtain ⟨k, p, c, hk, rfl, rfl, hown, hbox, hb⟩ := hrel
    have HOWN := Lib.hid hown
    have HBO := Lib.hid hbox
    have HB := Lib.hid hb
    clear hown hbox hb
    have q18 : wr.cell? ⟨w.heap.size, 18, none⟩ = some (.slice a.kp a.kn a.kc) := HBO.out.c 18 _ rfl
    by_cases hlt : k < a.kn
    · obtain ⟨x, hx⟩ := (HN.out.rowT).at (j := k) hlt
      have HE := Lib.hid hx
      obtain ⟨b, o, hbo, hbl, hcs⟩ := (HN.out.rowT.below HB.out).kid hx
      have HCS := Lib.hid hcs
      rw [hbo] at q18
      clear hx hbl hbo hcs
      have HLN := Lib.hid (show 1 + (nodesTo l k).length + x.size ≤ 1000 by
        have h1 := congrArg List.length (nodesTo_step HE.out)
        rw [List.length_append, nodes_length, nodesTo_length l (k + 1)] at h1
        have h2 := sizesA_take (l := l) (k := k + 1)
        have h3 := HS.out
        rw [Rose.size_node] at h3
        omega)
      go_wp2_with (refine wpList_load_mid rfl 31 _ rfl b (o + k * 19) rfl (encAH x.head) _ HCS.out.c Tryz.underlying31 rfl (by kernel_rfl) ?_)
      refine Calls.mono (HF.out x (List.mem_of_getElem? HE.out) wr HB.out) ?_
      rintro e w2 ⟨⟨p2, c2, rfl, hown2⟩, hb⟩
      have HO1 := Lib.hid (HOWN.out.below hb)
      have HB1 := Lib.hid (HB.out.trans (hb.mono HB.out.size))
      have HBO1 := Lib.hid (HBO.out.below hb)
      obtain ⟨q, cc, hv, hrow⟩ := hown2.isRow encAH_len (by omega)
      cases hv
      have HR2 := Lib.hid hrow
      have hlw : w.heap.size + 1 ≤ w2.heap.size := by have := (Array.getElem?_eq_some_iff.1 HBO1.out.blk).1; omega
      have HLW := Lib.hid hlw
      clear hown2 hrow hb hlw q18
      go_wp2_with (at_builtin; refine wpList_appendR rfl _ _ 29 rfl (w.heap.size + 1) 31 zAT 19 280 Tryz.underlying29 infoAT rfl (by decide) encAH encAH_len encAH_one (Rose.nodes x) (a :: nodesTo l k) (1 + (nodesTo l k).length) _ HO1.out _ x.size _ rfl rfl HR2.out.len HR2.out.nil HR2.out.row ?c1 ?c2 ?c3 ?_)
      case c1 => have := HLN.out; omega
      case c2 => have := HLN.out; omega
      case c3 => exact HLW.out
      · intro v3 w3 hown3 hg3
        obtain ⟨p3, c3, rfl, hrow3⟩ := OwnE.isRow encAH_len (by omega) hown3
        have hfr : ∀ g, (Value.slice p (1 + (nodesTo l k).length) c).ownBlock = some g → w.heap.size + 1 ≤ g := fun g hg => (World.ownsRow.lt HO1.out g hg).1
        have HB3 := Lib.hid (HB1.out.grown hg3 HB1.out.size (fun g hg => by have := hfr g hg; omega))
        have HBO3 : Hid (BoxA w3 w.heap.size a) := ⟨by rw [hg3.block w.heap.size (Array.getElem?_eq_some_iff.1 HBO1.out.blk).1 (fun e => by have := hfr _ e.symm; omega)]; exact HBO1.out.blk⟩
        have HEQ : Hid (1 + (nodesTo l k).length + x.size = 1 + (nodesTo l (k + 1)).length) := by show _ = _; rw [nodesTo_step HE.out, List.length_append, nodes_length]; omega
        rw [nodes_app HE.out, HEQ.out] at hown3
        have HO3 := Lib.hid hown3
        clear hown3 hg3 hfr hrow3
        go_wp2_with fail
        go_roundw
        case rel => exact ⟨k + 1, p3, c3, by omega, by go_num, by rw [HEQ.out], by rw [HEQ.out]; exact HO3.out, HBO3.out, HB3.out⟩
        case measure => simp [intOf]; omega
    · have hkn : k = a.kn := by omega
      have hfull : l.take k = l := take_full (by rw [hkn, HN.out.kids.len]; exact Nat.le_refl _)
      have HSZ : Hid (1 + (nodesTo l k).length = (Rose.node a l).size) := by show _ = _; rw [nodesTo_length, hfull, Rose.size_node]
      have HND : Hid (a :: nodesTo l k = Rose.nodes (Rose.node a l)) := by show _ = _; rw [Rose.nodes_node]; unfold nodesTo; rw [hfull]
      clear hkn hfull
      go_wp2_with fail
      go_ret
      refine ⟨⟨p, c, by rw [← HSZ.out]; rfl, ?_⟩, HB.out⟩
      have h := HOWN.out
      rw [HND.out, HSZ.out] at h
      exact h.lower (Nat.le_succ _)
theorem kidsA_le (l : List PA) : l.length ≤ (l.map Rose.size).sum := by
  induction l with
  | nil => simp
  | cons x l ih => have := Rose.size_pos x; simp only [List.length_cons, List.map_cons, List.sum_cons]; omega
theorem allAt_any (t : PA) : ∀ w, LA.lies w t → t.size ≤ 1000 → AllAt t w := by
  refine Rose.ind (P := fun (t : PA) => ∀ w, LA.lies w t → t.size ≤ 1000 → AllAt t w) (fun a l ih => ?_) t
  intro w hl hs
  have HN := nodeA hl
  refine ref13_All_of HN hs (fun x hx W hW => ih x hx W (LA.lies_below hW x (HN.each x hx)) ?_)
  have h1 := hs
  rw [Rose.size_node] at h1
  have h2 : x.size ≤ (l.map Rose.size).sum := le_sum_of_mem (List.mem_map_of_mem hx)
  omega
end Go.Proofs.YtdlbjngpohkglaaGreatDoor
end
section
set_option linter.unusedVariables false
set_option maxRecDepth 100000
set_option linter.unusedSimpArgs false
namespace Go.Proofs.YtdlbjngpohkglaaGreatDoor
open Go.RowKit

/-- one step after the other, as long as they say yes -/
def stepAll {α σ : Type} (st : α → σ → Bool × σ) : List α → σ → Bool × σ
  | [], s => (true, s)
  | a :: l, s => if (st a s).1 then stepAll st l (st a s).2 else (false, (st a s).2)
theorem stepAll_app {α σ : Type} (st : α → σ → Bool × σ) : ∀ (l m : List α) (s : σ), stepAll st (l ++ m) s = if (stepAll st l s).1 then stepAll st m (stepAll st l s).2 else stepAll st l s
  | [], m, s => by simp [stepAll]
  | a :: l, m, s => by
    have e : ∀ n, stepAll st (a :: n) s = if (st a s).1 then stepAll st n (st a s).2 else (false, (st a s).2) := fun _ => rfl
    rw [List.cons_append, e, e]
    by_cases h : (st a s).1 = true
    · simp only [h, if_true]; exact stepAll_app st l m _
    · simp [h]
/-- the nodes of a row of terms -/
def nodesL (l : List PA) : List AH := (l.map Rose.nodes).flatten
theorem nodesL_split (l : List PA) (k : Nat) : nodesL l = nodesTo l k ++ nodesL (l.drop k) := by
  unfold nodesL nodesTo
  rw [← List.flatten_append, ← List.map_append, List.take_append_drop]
theorem nodes_kids (x : PA) : Rose.nodes x = x.head :: nodesL x.kids := by
  cases x; rw [Rose.nodes_node]; rfl
theorem sa_step {σ : Type} (st : AH → σ → Bool × σ) (s : σ) {l : List PA} {k : Nat} {x : PA} (h : l[k]? = some x) (hb : (stepAll st (nodesTo l k) s).1 = true) :
    stepAll st (nodesTo l (k + 1)) s = if (st x.head (stepAll st (nodesTo l k) s).2).1 then stepAll st (nodesL x.kids) (st x.head (stepAll st (nodesTo l k) s).2).2 else (false, (st x.head (stepAll st (nodesTo l k) s).2).2) := by
  rw [nodesTo_step h, stepAll_app, if_pos hb, nodes_kids]
  rfl
theorem sa_stop {σ : Type} (st : AH → σ → Bool × σ) (s : σ) (l : List PA) (k : Nat) (hb : (stepAll st (nodesTo l k) s).1 = false) : stepAll st (nodesL l) s = stepAll st (nodesTo l k) s := by
  rw [nodesL_split l k, stepAll_app, if_neg (by rw [hb]; exact Bool.false_ne_true)]
theorem sa_end (l : List PA) (k : Nat) (h : l.length ≤ k) : nodesTo l k = nodesL l := by
  unfold nodesTo nodesL; rw [List.take_of_length_le h]
/-- a function value over nodes, whose state lies in one block at most -/
structure FvA (w0 : World) (row : Option Nat) (g : Nat) (lb : Array Value) {σ : Type} (Inv : σ → World → Prop) (ok : AH → Prop) (st : AH → σ → Bool × σ) : Prop where
  eg : ∀ args w, (callFunc g args).run Tryz.prog w = .ok (.enter g args) w
  hb : ∀ b, row = some b → w0.heap.size ≤ b
  lt : ∀ b, row = some b → ∀ s W, Inv s W → b < W.heap.size
  inv : ∀ s W W', Inv s W → Below W.heap.size W W' → Inv s W'
  call : ∀ a s W, ok a → Below w0.heap.size w0 W → Inv s W → Calls Tryz.prog g (#[aggT a] ++ lb) W fun e w' => e = .returned (.bool (st a s).1) ∧ Inv (st a s).2 w' ∧ W.grownBy w' row
def EachAt (w0 : World) (row : Option Nat) (g : Nat) (lb : Array Value) {σ : Type} (Inv : σ → World → Prop) (ok : AH → Prop) (st : AH → σ → Bool × σ) (l : List PA) : Prop :=
  ∀ p n c, RowTA w0 p n c l → (∀ a ∈ nodesL l, ok a) → ∀ s W, Below w0.heap.size w0 W → Inv s W → Calls Tryz.prog 55 #[.func (.func g) #[] lb, .slice p n c] W fun e w' => e = .returned (.bool (stepAll st (nodesL l) s).1) ∧ Inv (stepAll st (nodesL l) s).2 w' ∧ W.grownBy w' row
theorem mem_nodesL {l : List PA} {x : PA} (hx : x ∈ l) {a : AH} (ha : a ∈ Rose.nodes x) : a ∈ nodesL l := List.mem_flatten.2 ⟨_, List.mem_map_of_mem hx, ha⟩
theorem LA_kids {w : World} {x : PA} (h : LA.lies w x) : RowTA w x.head.kp x.head.kn x.head.kc x.kids := by
  cases x; exact (nodeA h).rowT
set_option maxHeartbeats 4000000 in
theorem aterm_each_of {w0 : World} {row : Option Nat} {g : Nat} {lb : Array Value} {σ : Type} {Inv : σ → World → Prop} {ok : AH → Prop} {st : AH → σ → Bool × σ} (F : FvA w0 row g lb Inv ok st) (l : List PA)
    (ih : ∀ x ∈ l, EachAt w0 row g lb Inv ok st x.kids) : EachAt w0 row g lb Inv ok st l := by
  intro p n c hR hok s W hbW hinv
  have eg := F.eg
  have HF := Lib.hid F
  have HI := Lib.hid ih
  have HR := Lib.hid hR
  have HOK := Lib.hid hok
  have HBW := Lib.hid hbW
  have HV := Lib.hid hinv
  have hnm : n ≤ 9223372036854775807 := hR.row.max
  clear F ih hR hok hbW hinv
  go_enter Tryz.func55, Tryz.ntmps55
  go_wp2_with fail
  go_loopw [9] (fun i wr => ∃ (k : Nat) (S : Bool × σ), k ≤ n ∧ i = .int .i64 k ∧ Hid (stepAll st (nodesTo l k) s = S) ∧ S.1 = true ∧ Inv S.2 wr ∧ W.grownBy wr row) (fun i _ => n - (intOf i).toNat)
  case atStart => exact ⟨0, (true, s), by omega, rfl, Lib.hid rfl, rfl, HV.out, World.grownBy.refl _ _⟩
  case round =>
    obtain ⟨k, S, hk, rfl, HS, hs, hiv, hg⟩ := hrel
    have HIV := Lib.hid hiv
    have HG := Lib.hid hg
    have HST := Lib.hid hs
    have HB := Lib.hid (HBW.out.grown hg HBW.out.size HF.out.hb)
    clear hiv hg hs
    by_cases hlt : k < n
    · obtain ⟨x, hx⟩ := HR.out.at (j := k) hlt
      obtain ⟨b, o, hbo, hbl, hcs⟩ := (HR.out.below HB.out).kid hx
      obtain ⟨a, m, hxe⟩ : ∃ a m, x = Rose.node a m := ⟨x.head, x.kids, Rose.eta x⟩
      subst hxe
      have HCS := Lib.hid (show CellsA wr b (o + k * 19) a from hcs)
      subst hbo
      have hE := List.mem_of_getElem? hx
      have HXK := Lib.hid (show EachAt w0 row g lb Inv ok st m from HI.out _ hE)
      have HKR := Lib.hid (show RowTA w0 a.kp a.kn a.kc m from LA_kids (HR.out.lies hx))
      have HKO := Lib.hid (show ∀ a' ∈ nodesL m, ok a' from fun a' ha => HOK.out a' (mem_nodesL hE (by rw [nodes_kids]; exact List.mem_cons_of_mem _ ha)))
      have hoka : ok a := HOK.out a (mem_nodesL hE (by rw [nodes_kids]; exact List.mem_cons_self))
      have HSS := Lib.hid (show stepAll st (nodesTo l (k + 1)) s = if (st a S.2).1 then stepAll st (nodesL m) (st a S.2).2 else (false, (st a S.2).2) by
        have h := sa_step st s hx (by rw [HS.out]; exact HST.out)
        rw [HS.out] at h
        exact h)
      clear hx hbl hcs hE
      have HBX := Lib.hid (boxA_new wr a)
      have hb1 : Below wr.heap.size wr (wr.alloc (boxA a)) := (Below.refl _ _).alloc (Nat.le_refl _) _
      have HB1 := Lib.hid (HB.out.trans (hb1.mono HB.out.size))
      have HIV1 := Lib.hid (HF.out.inv _ _ _ HIV.out hb1)
      have HCALL := Lib.hid (HF.out.call a S.2 _ hoka HB1.out HIV1.out)
      have HG1 := Lib.hid (HG.out.trans ((World.grownBy_alloc wr (boxA a) row)))
      clear hb1 hoka
      have hal : (wr.alloc (.cells #[.int .u8 0, .int .u8 0, .int .i64 0, .int .i64 0, .string ⟨#[]⟩, .string ⟨#[]⟩, .string ⟨#[]⟩, .int .i64 0, .slice none 0 0, .slice none 0 0, .int .u8 0, .int .i64 0, .slice none 0 0, .slice none 0 0, .int .u8 0, .int .i64 0, .slice none 0 0, .slice none 0 0, .slice none 0 0] 31)).heap[wr.heap.size]? = some (.cells #[.int .u8 0, .int .u8 0, .int .i64 0, .int .i64 0, .string ⟨#[]⟩, .string ⟨#[]⟩, .string ⟨#[]⟩, .int .i64 0, .slice none 0 0, .slice none 0 0, .int .u8 0, .int .i64 0, .slice none 0 0, .slice none 0 0, .int .u8 0, .int .i64 0, .slice none 0 0, .slice none 0 0, .slice none 0 0] 31 (0, 0)) := heap_alloc_new wr _
      have HAL := Lib.hid hal
      clear hal
      cases hq : (st a S.2).1 with
      | false =>
        rw [hq] at HCALL HSS
        have HQ := Lib.hid hq
        clear hq
        go_wp2_with (first
          | (refine wpList_load_mid rfl 31 _ rfl b (o + k * 19) rfl (encAH a) _ HCS.out.c Tryz.underlying31 rfl (by kernel_rfl) ?_)
          | (refine wpList_store_row rfl 31 _ _ rfl wr.heap.size (encAH a).toArray rfl rfl 31 _ HAL.out (by kernel_rfl) rfl (all_oneCell_toArray (encAH_one a)) ?_; rw [World.setRow_alloc_new])
          | (refine wpList_load_row rfl 31 _ rfl wr.heap.size rfl 31 _ (0, 0) _ HBX.out.blk Tryz.underlying31 rfl (by kernel_rfl) ?_)
          | (go_at_fn g; refine HCALL.out.mono ?_; rintro e w2 ⟨rfl, hi2, hg2⟩; have HI2 := Lib.hid hi2; have HG2 := Lib.hid (HG1.out.trans hg2); clear hi2 hg2))
        go_ret
        have hstop : stepAll st (nodesL l) s = (false, (st a S.2).2) := by
          rw [sa_stop st s l (k + 1) (by rw [HSS.out]; rfl), HSS.out]; rfl
        exact ⟨ret_bool (by rw [hstop]), by rw [hstop]; exact HI2.out, HG2.out⟩
      | true =>
        rw [hq] at HCALL HSS
        have HQ := Lib.hid hq
        clear hq
        have HM := Lib.hid (HF.out.hb)
        have q18 : ∀ w2, (wr.alloc (boxA a)).grownBy w2 row → Inv (st a S.2).2 w2 → w2.cell? ⟨wr.heap.size, 18, none⟩ = some (.slice a.kp a.kn a.kc) ∧ Below w0.heap.size w0 w2 := fun w2 hg2 hi2 => ⟨hg2.cell (a := ⟨wr.heap.size, 18, none⟩) (HBX.out.c 18 _ rfl) (fun e => by have := HF.out.lt _ e.symm _ _ HIV.out; exact Nat.lt_irrefl _ this), HB1.out.grown hg2 HB1.out.size HM.out⟩
        have HQ18 := Lib.hid q18
        clear q18
        cases hq2 : (stepAll st (nodesL m) (st a S.2).2).1 with
        | false =>
          have HQ2 := Lib.hid hq2
          clear hq2
          go_wp2_with (first
            | (refine wpList_load_mid rfl 31 _ rfl b (o + k * 19) rfl (encAH a) _ HCS.out.c Tryz.underlying31 rfl (by kernel_rfl) ?_)
            | (refine wpList_store_row rfl 31 _ _ rfl wr.heap.size (encAH a).toArray rfl rfl 31 _ HAL.out (by kernel_rfl) rfl (all_oneCell_toArray (encAH_one a)) ?_; rw [World.setRow_alloc_new])
            | (refine wpList_load_row rfl 31 _ rfl wr.heap.size rfl 31 _ (0, 0) _ HBX.out.blk Tryz.underlying31 rfl (by kernel_rfl) ?_)
            | (first | (go_at_fn g; refine HCALL.out.mono ?_; rintro e w2 ⟨rfl, hi2, hg2⟩; obtain ⟨c18, hb2⟩ := HQ18.out _ hg2 hi2; have HI2 := Lib.hid hi2; have HG2 := Lib.hid (HG1.out.trans hg2); have HB2 := Lib.hid hb2; clear hi2 hg2 hb2) | (go_at_call 55; refine (HXK.out _ _ _ HKR.out HKO.out _ _ HB2.out HI2.out).mono ?_; rw [HQ2.out]; rintro e w3 ⟨rfl, hi3, hg3⟩; have HI3 := Lib.hid hi3; have HG3 := Lib.hid (HG2.out.trans hg3); clear hi3 hg3)))
          go_ret
          have hstop : stepAll st (nodesL l) s = stepAll st (nodesL m) (st a S.2).2 := by
            rw [sa_stop st s l (k + 1) (by rw [HSS.out]; exact HQ2.out), HSS.out]; rfl
          exact ⟨ret_bool (by rw [hstop, HQ2.out]), by rw [hstop]; exact HI3.out, HG3.out⟩
        | true =>
          have HQ2 := Lib.hid hq2
          clear hq2
          go_wp2_with (first
            | (refine wpList_load_mid rfl 31 _ rfl b (o + k * 19) rfl (encAH a) _ HCS.out.c Tryz.underlying31 rfl (by kernel_rfl) ?_)
            | (refine wpList_store_row rfl 31 _ _ rfl wr.heap.size (encAH a).toArray rfl rfl 31 _ HAL.out (by kernel_rfl) rfl (all_oneCell_toArray (encAH_one a)) ?_; rw [World.setRow_alloc_new])
            | (refine wpList_load_row rfl 31 _ rfl wr.heap.size rfl 31 _ (0, 0) _ HBX.out.blk Tryz.underlying31 rfl (by kernel_rfl) ?_)
            | (first | (go_at_fn g; refine HCALL.out.mono ?_; rintro e w2 ⟨rfl, hi2, hg2⟩; obtain ⟨c18, hb2⟩ := HQ18.out _ hg2 hi2; have HI2 := Lib.hid hi2; have HG2 := Lib.hid (HG1.out.trans hg2); have HB2 := Lib.hid hb2; clear hi2 hg2 hb2) | (go_at_call 55; refine (HXK.out _ _ _ HKR.out HKO.out _ _ HB2.out HI2.out).mono ?_; rw [HQ2.out]; rintro e w3 ⟨rfl, hi3, hg3⟩; have HI3 := Lib.hid hi3; have HG3 := Lib.hid (HG2.out.trans hg3); clear hi3 hg3)))
          go_roundw
          case rel => exact ⟨k + 1, _, by omega, by go_num, HSS, by show (stepAll st (nodesL m) (st a S.2).2).1 = true; exact HQ2.out, HI3.out, HG3.out⟩
          case measure => simp [intOf]; omega
    · have hkn : k = n := by omega
      have hfull : nodesTo l k = nodesL l := sa_end l k (by rw [HR.out.row.len, hkn]; exact Nat.le_refl _)
      rw [hfull] at HS
      go_wp2_with fail
      go_ret
      exact ⟨ret_bool (by rw [HS.out, HST.out]), by rw [HS.out]; exact HIV.out, HG.out⟩
theorem aterm_each_any {w0 : World} {row : Option Nat} {g : Nat} {lb : Array Value} {σ : Type} {Inv : σ → World → Prop} {ok : AH → Prop} {st : AH → σ → Bool × σ} (F : FvA w0 row g lb Inv ok st) (l : List PA) : EachAt w0 row g lb Inv ok st l :=
  aterm_each_of F l (fun x _ => Rose.ind (P := fun (x : PA) => EachAt w0 row g lb Inv ok st x.kids) (fun a m ih => aterm_each_of F m ih) x)
end Go.Proofs.YtdlbjngpohkglaaGreatDoor
end
section
set_option linter.unusedVariables false
set_option maxRecDepth 100000
set_option linter.unusedSimpArgs false
namespace Go.Proofs.YtdlbjngpohkglaaGreatDoor
open Go.RowKit

set_option maxHeartbeats 1000000 in
theorem b_index_any {p : Option Addr} {n cap : Nat} {l : List Int} {w : World} (hn : l.length = n) (hm : n ≤ 1000000) (hr : RowE encU 1 w p l) (x : Int) :
    Calls Tryz.prog 177 #[.slice p n cap, .int .u8 x] w fun e w' => (∃ r : Int, e = .returned (.int .i64 r) ∧ decide (r ≥ 0) = inB l x) ∧ w = w' := by
  have HR := Lib.hid hr
  have HN := Lib.hid hn
  clear hr hn
  go_enter Tryz.func177, Tryz.ntmps177
  go_wp2_with fail
  go_loop [5, 8] (fun _ i => ∃ j : Nat, j ≤ n ∧ i = .int .i64 j ∧ (l.take j).any (· == x) = false) (fun _ i => n - (intOf i).toNat)
  case atStart => exact ⟨0, by omega, rfl, by simp⟩
  case round =>
    obtain ⟨j, hj, rfl, hno⟩ := hrel
    have HNO := Lib.hid hno
    clear hno
    by_cases hlt : j < n
    · obtain ⟨y, hy⟩ := get_of_lt (l := l) (j := j) (by rw [HN.out]; exact hlt)
      have HE := Lib.hid hy
      obtain ⟨b, o, rfl, d0⟩ := HR.out.u8 hy
      clear hy
      cases hq : (x == y)
      · have HQ := Lib.hid hq
        go_wp2_with fail
        go_round
        case rel => exact ⟨j + 1, by omega, by go_num, by rw [any_take_get HE.out, HNO.out, BEq.comm, HQ.out]; rfl⟩
        case measure => simp [intOf]; omega
      · have HQ := Lib.hid hq
        go_wp2_with fail
        go_ret
        exact ⟨⟨j, rfl, by rw [show inB l x = true from any_get HE.out (by rw [BEq.comm]; exact HQ.out)]; simp⟩, rfl⟩
    · go_wp2_with fail
      go_ret
      have h := HNO.out
      rw [take_full (by rw [HN.out]; omega)] at h
      exact ⟨⟨-1, rfl, by rw [show inB l x = false from h]; decide⟩, rfl⟩
theorem b_contains_any {p : Option Addr} {n cap : Nat} {l : List Int} {w : World} (hn : l.length = n) (hm : n ≤ 1000000) (hr : RowE encU 1 w p l) (x : Int) :
    Calls Tryz.prog 151 #[.slice p n cap, .int .u8 x] w fun e w' => e = .returned (.bool (inB l x)) ∧ w = w' := by
  have HC := Lib.hid (b_index_any (cap := cap) hn hm hr x)
  clear hr hn
  go_enter Tryz.func151, Tryz.ntmps151
  go_wp2_with fail
  refine HC.out.mono ?_
  rintro e w1 ⟨⟨r, rfl, hr⟩, rfl⟩
  have HR := Lib.hid hr
  clear hr
  go_wp2_with fail
  all_goals (try go_ret)
  all_goals exact ⟨ret_bool (by rw [← HR.out]), rfl⟩
/-- the bytes of a text, as numbers -/
def bytesU (s : ByteArray) : List Int := s.data.toList.map (fun b => (b.toNat : Int))
def hasB (s : ByteArray) (x : Int) : Bool := inB (bytesU s) x
theorem bytes_row (w : World) (e : TypeId) (s : ByteArray) : RowE encU 1 (Lib.bytesWorld w e s) (some ⟨w.heap.size, 0, none⟩) (bytesU s) := by
  refine .inr ⟨_, 0, rfl, by rw [Lib.bytesWorld_size]; exact Nat.lt_succ_self _, fun j x hx i v hv => ?_⟩
  have hj : j < s.size := by
    have := (List.getElem?_eq_some_iff.1 hx).1
    simpa [bytesU] using this
  have hi : i = 0 := by
    cases i with
    | zero => rfl
    | succ i => simp [encU] at hv
  subst hi
  have hv' : v = .int .u8 x := by simpa [encU] using hv.symm
  have := Lib.bytesWorld_cell w e s j hj
  rw [hv']
  simp only [Nat.zero_add, Nat.mul_one, Nat.add_zero]
  rw [this]
  have hx' : ((s.data.toList.getD j 0).toNat : Int) = x := by
    have h2 : (bytesU s)[j]? = some ((s.data.toList.getD j 0).toNat : Int) := by
      unfold bytesU
      rw [List.getElem?_map, List.getD, List.getElem?_eq_getElem (by simpa using hj)]
      simp
    rw [h2] at hx
    exact Option.some.inj hx
  rw [hx']
theorem below_bytes (w : World) (e : TypeId) (s : ByteArray) : Below w.heap.size w (Lib.bytesWorld w e s) :=
  ⟨rfl, rfl, rfl, by rw [Lib.bytesWorld_size]; omega, fun j hj => Lib.bytesWorld_at_old w e s j hj⟩
set_option maxHeartbeats 1000000 in
theorem shape_has_any (k : Int) (s : ByteArray) (x : Int) (hs : s.size ≤ 1000) (w : World) :
    Calls Tryz.prog 127 #[.agg #[.int .i64 k, .string s], .int .u8 x] w fun e w' => e = .returned (.bool (hasB s x)) ∧ Below w.heap.size w w' := by
  have HB := Lib.hid (((Below.refl w.heap.size w).alloc (Nat.le_refl _) (.cells #[.int .i64 k, .string s] 145)))
  have hl : (bytesU s).length = s.size := by simp [bytesU]
  go_enter Tryz.func127, Tryz.ntmps127
  have hcv := Lib.run_convert_string_bytes (P := Tryz.prog) (w.alloc (.cells #[.int .i64 k, .string s] 145)) 9 55 5 s Tryz.underlying9 Tryz.underlying55 Tryz.underlying5
  have HR := Lib.hid (bytes_row (w.alloc (.cells #[.int .i64 k, .string s] 145)) 5 s)
  have HB2 := Lib.hid (HB.out.trans ((below_bytes (w.alloc (.cells #[.int .i64 k, .string s] 145)) 5 s).mono HB.out.size))
  generalize Lib.bytesWorld (w.alloc (.cells #[.int .i64 k, .string s] 145)) 5 s = w2 at *
  generalize grownCap (w.alloc (.cells #[.int .i64 k, .string s] 145)) s.size 0 5 = cp at *
  simp only [World.size_alloc] at hcv HR
  go_wp2_with fail
  refine (b_contains_any hl (by omega) HR.out x).mono ?_
  rintro e w3 ⟨rfl, rfl⟩
  go_wp2_with fail
  go_ret
  exact ⟨rfl, HB2.out⟩
/-- what a function value says of one text -/
def Says (fid : FuncId) (q : ByteArray → Bool) (w : World) : Prop := ∀ (s : ByteArray) (W : World) (g : Nat), Below w.heap.size w W → RowE encS 1 W (some ⟨g, 0, none⟩) [s] → Calls Tryz.prog fid #[.slice (some ⟨g, 0, none⟩) 1 1] W fun e w' => e = .returned (.bool (q s)) ∧ Below W.heap.size W w'
theorem Says.below {fid : FuncId} {q : ByteArray → Bool} {w W : World} (h : Says fid q w) (hb : Below w.heap.size w W) : Says fid q W := fun s W' g hb' hr => h s W' g (hb.trans (hb'.mono hb.size)) hr
theorem says_Name {w : World} (hv : Vr w) : Says 129 nameB w := fun s W g hb hr => by
  have := words_Name_any (hv.below hb) (some ⟨g, 0, none⟩) 1 1 [s] rfl (by decide) hr
  simpa using this
theorem says_Exn (w : World) : Says 108 exnB w := fun s W g hb hr => by
  have := words_Exn_any (some ⟨g, 0, none⟩) 1 1 [s] W rfl (by decide) hr
  simpa using this
def fieldB (has : Bool) (q : ByteArray → Bool) (t : ByteArray) : Bool := if has then q t else t.toList.isEmpty
set_option maxHeartbeats 2000000 in
theorem shape_field_any {fid : FuncId} {q : ByteArray → Bool} (eg : ∀ args w, (callFunc fid args).run Tryz.prog w = .ok (.enter fid args) w) (k : Int) (s : ByteArray) (x : Int) (t : ByteArray) (hs : s.size ≤ 1000) {w : World} (hq : Says fid q w) :
    Calls Tryz.prog 128 #[.agg #[.int .i64 k, .string s], .int .u8 x, .string t, .func (.func fid) #[] #[]] w fun e w' => e = .returned (.bool (fieldB (hasB s x) q t)) ∧ Below w.heap.size w w' := by
  have HB := Lib.hid (((Below.refl w.heap.size w).alloc (Nat.le_refl _) (.cells #[.int .i64 k, .string s] 145)))
  have HQ := Lib.hid (hq.below HB.out)
  clear hq
  go_enter Tryz.func128, Tryz.ntmps128
  cases hh : hasB s x
  · have HH := Lib.hid hh
    have HC := Lib.hid (shape_has_any k s x hs (w.alloc (.cells #[.int .i64 k, .string s] 145)))
    rw [hh] at HC
    clear hh
    go_wp2_with (go_at_call 127; refine HC.out.mono ?_; rintro e w2 ⟨rfl, hb⟩; have HB2 := Lib.hid (HB.out.trans (hb.mono HB.out.size)); clear hb)
    go_ret
    exact ⟨ret_bool rfl, HB2.out⟩
  · have HC := Lib.hid (shape_has_any k s x hs (w.alloc (.cells #[.int .i64 k, .string s] 145)))
    rw [hh] at HC
    clear hh
    go_wp2_with (first
      | (go_at_call 127; refine HC.out.mono ?_; rintro e w2 ⟨rfl, hb⟩; have HB2 := Lib.hid (HB.out.trans (hb.mono HB.out.size)); have HQ2 := Lib.hid (HQ.out.below hb); clear hb)
      | (go_at_fn fid; refine (HQ2.out t _ _ ((Below.refl _ _).alloc (Nat.le_refl _) _) (RowE.newAt encS_len _ [t] _ (by simp [encS]) _ _ _ rfl)).mono ?_; rintro e w3 ⟨rfl, hb⟩; have HB3 := Lib.hid (HB2.out.trans ((((Below.refl _ w2).alloc (Nat.le_refl _) _).trans (hb.mono (by simp))).mono HB2.out.size)); clear hb))
    go_ret
    exact ⟨ret_bool rfl, HB3.out⟩
end Go.Proofs.YtdlbjngpohkglaaGreatDoor
end
