/- Part 15 of the texts: All, Ea, St. -/
import Derived.Test.YtkdjnegfnhldpaaGreatDoorG14
import Derived.Test.YtkdjnegfnhldpaaGreatDoorG03
import Derived.Deep.MidRow
import Derived.Deep.WholeRow
import Derived.Test.YtkdjnegfnhldpaaGreatDoorG11
set_option linter.unusedVariables false
set_option maxRecDepth 100000
set_option linter.unusedSimpArgs false
section
namespace Go.Proofs.YtkdjnegfnhldpaaGreatDoor
open Go.RowKit
theorem encAH_len (a : AH) : (encAH a).length = 19 := rfl
theorem encAH_one : ∀ a : AH, ∀ u ∈ encAH a, u.oneCell' = true := by
  intro a u hu
  simp [encAH] at hu
  rcases hu with rfl | rfl | rfl | rfl | rfl | rfl | rfl | rfl | rfl | rfl | rfl | rfl | rfl | rfl | rfl | rfl | rfl | rfl | rfl <;> rfl
abbrev zAT : Value := .agg #[.int .u8 0, .int .u8 0, .int .i64 0, .int .i64 0, .string .empty, .string .empty, .string .empty, .int .i64 0, .slice none 0 0, .slice none 0 0, .int .u8 0, .int .i64 0, .slice none 0 0, .slice none 0 0, .int .u8 0, .int .i64 0, .slice none 0 0, .slice none 0 0, .slice none 0 0]
theorem infoAT : (Tryz.prog.info? 31).map (fun i => (i.zero, i.size, i.bytes)) = some (some zAT, 19, 280) := by kernel_rfl
theorem nodes_length (t : PA) : (Rose.nodes t).length = t.size := by
  refine Rose.ind (P := fun (t : PA) => (Rose.nodes t).length = t.size) (fun a l ih => ?_) t
  rw [Rose.nodes_node, Rose.size_node, List.length_cons, List.length_flatten, List.map_map]
  have : l.map (List.length ∘ Rose.nodes) = l.map Rose.size := List.map_congr_left ih
  rw [this]; omega
def nodesTo (l : List PA) (k : Nat) : List AH := ((l.take k).map Rose.nodes).flatten
theorem nodesTo_step {l : List PA} {k : Nat} {x : PA} (h : l[k]? = some x) : nodesTo l (k + 1) = nodesTo l k ++ Rose.nodes x := by
  unfold nodesTo; rw [take_succ_get h, List.map_append, List.flatten_append]; simp
theorem sizesA_take {l : List PA} {k : Nat} : ((l.take k).map Rose.size).sum ≤ (l.map Rose.size).sum := by
  induction k generalizing l with
  | zero => simp
  | succ k ih => cases l with
    | nil => simp
    | cons y l => have := ih (l := l); simp only [List.take_succ_cons, List.map_cons, List.sum_cons] at this ⊢; omega
theorem nodesTo_length (l : List PA) (k : Nat) : (nodesTo l k).length = ((l.take k).map Rose.size).sum := by
  unfold nodesTo
  rw [List.length_flatten, List.map_map]
  congr 1
  exact List.map_congr_left (fun t _ => nodes_length t)
theorem nodes_app {a : AH} {l : List PA} {k : Nat} {x : PA} (h : l[k]? = some x) : a :: (nodesTo l k ++ Rose.nodes x) = a :: nodesTo l (k + 1) := by rw [nodesTo_step h]
def AllAt (t : PA) (w : World) : Prop := Calls Tryz.prog 26 #[aggT t.head] w fun e w' => (∃ p c, e = .returned (.slice p t.size c) ∧ OwnE encAH 19 w' w.heap.size 31 (.slice p t.size c) t.size (Rose.nodes t)) ∧ Below w.heap.size w w'
set_option maxHeartbeats 4000000 in
theorem ref13_All_of {a : AH} {l : List PA} {w : World} (hN : NodeA w a l) (hs : (Rose.node a l).size ≤ 1000) (hf : ∀ x ∈ l, ∀ W, Below w.heap.size w W → AllAt x W) : AllAt (.node a l) w := by
  have HN := Lib.hid hN
  have HF := Lib.hid hf
  have HS := Lib.hid hs
  have hkm := hN.own.kmax
  have HA := Lib.hid (boxA_new w a)
  have HBX := Lib.hid ((Below.refl w.heap.size w).alloc (Nat.le_refl _) (boxA a))
  have HO0 := Lib.hid (own_made encAH_len (w.alloc (boxA a)) (w.heap.size + 1) 31 [a] 1 #[.int .u8 a.kind, .int .u8 a.op, .int .i64 a.at_, .int .i64 a.n, .string a.name, .string a.arg, .string a.exn, .int .i64 a.rho, .slice a.rp a.rn a.rc, .slice a.ep a.en a.ec, .int .u8 a.ty.head.kind, .int .i64 a.ty.head.rho, .slice a.ty.head.ep a.ty.head.en a.ty.head.ec, .slice a.ty.head.kp a.ty.head.kn a.ty.head.kc, .int .u8 a.res.head.kind, .int .i64 a.res.head.rho, .slice a.res.head.ep a.res.head.en a.res.head.ec, .slice a.res.head.kp a.res.head.kn a.res.head.kc, .slice a.kp a.kn a.kc] rfl rfl (by decide) (by simp))
  show Calls _ _ #[aggT a] w _
  clear hN hf hs
  go_enter Tryz.func26, Tryz.ntmps26
  go_wp2_with (refine wpList_load_row rfl 31 _ rfl w.heap.size rfl 31 _ (0, 0) _ (HA.out.blk) Tryz.underlying31 rfl (by kernel_rfl) ?_)
  have HA2 := Lib.hid (HA.out.below ((Below.refl (w.alloc (boxA a)).heap.size (w.alloc (boxA a))).alloc (Nat.le_refl _) (.cells #[.int .u8 a.kind, .int .u8 a.op, .int .i64 a.at_, .int .i64 a.n, .string a.name, .string a.arg, .string a.exn, .int .i64 a.rho, .slice a.rp a.rn a.rc, .slice a.ep a.en a.ec, .int .u8 a.ty.head.kind, .int .i64 a.ty.head.rho, .slice a.ty.head.ep a.ty.head.en a.ty.head.ec, .slice a.ty.head.kp a.ty.head.kn a.ty.head.kc, .int .u8 a.res.head.kind, .int .i64 a.res.head.rho, .slice a.res.head.ep a.res.head.en a.res.head.ec, .slice a.res.head.kp a.res.head.kn a.res.head.kc, .slice a.kp a.kn a.kc] 31)))
  have HB2 := Lib.hid (HBX.out.alloc HBX.out.size (.cells #[.int .u8 a.kind, .int .u8 a.op, .int .i64 a.at_, .int .i64 a.n, .string a.name, .string a.arg, .string a.exn, .int .i64 a.rho, .slice a.rp a.rn a.rc, .slice a.ep a.en a.ec, .int .u8 a.ty.head.kind, .int .i64 a.ty.head.rho, .slice a.ty.head.ep a.ty.head.en a.ty.head.ec, .slice a.ty.head.kp a.ty.head.kn a.ty.head.kc, .int .u8 a.res.head.kind, .int .i64 a.res.head.rho, .slice a.res.head.ep a.res.head.en a.res.head.ec, .slice a.res.head.kp a.res.head.kn a.res.head.kc, .slice a.kp a.kn a.kc] 31))
  have hsz : ((w.alloc (boxA a)).alloc (.cells #[.int .u8 a.kind, .int .u8 a.op, .int .i64 a.at_, .int .i64 a.n, .string a.name, .string a.arg, .string a.exn, .int .i64 a.rho, .slice a.rp a.rn a.rc, .slice a.ep a.en a.ec, .int .u8 a.ty.head.kind, .int .i64 a.ty.head.rho, .slice a.ty.head.ep a.ty.head.en a.ty.head.ec, .slice a.ty.head.kp a.ty.head.kn a.ty.head.kc, .int .u8 a.res.head.kind, .int .i64 a.res.head.rho, .slice a.res.head.ep a.res.head.en a.res.head.ec, .slice a.res.head.kp a.res.head.kn a.res.head.kc, .slice a.kp a.kn a.kc] 31)).heap.size = w.heap.size + 2 := by simp
  have hs1 : (w.alloc (boxA a)).heap.size = w.heap.size + 1 := by simp
  rw [hs1] at HO0
  generalize (w.alloc (.cells #[.int .u8 a.kind, .int .u8 a.op, .int .i64 a.at_, .int .i64 a.n, .string a.name, .string a.arg, .string a.exn, .int .i64 a.rho, .slice a.rp a.rn a.rc, .slice a.ep a.en a.ec, .int .u8 a.ty.head.kind, .int .i64 a.ty.head.rho, .slice a.ty.head.ep a.ty.head.en a.ty.head.ec, .slice a.ty.head.kp a.ty.head.kn a.ty.head.kc, .int .u8 a.res.head.kind, .int .i64 a.res.head.rho, .slice a.res.head.ep a.res.head.en a.res.head.ec, .slice a.res.head.kp a.res.head.kn a.res.head.kc, .slice a.kp a.kn a.kc] 31)).alloc (.cells #[.int .u8 a.kind, .int .u8 a.op, .int .i64 a.at_, .int .i64 a.n, .string a.name, .string a.arg, .string a.exn, .int .i64 a.rho, .slice a.rp a.rn a.rc, .slice a.ep a.en a.ec, .int .u8 a.ty.head.kind, .int .i64 a.ty.head.rho, .slice a.ty.head.ep a.ty.head.en a.ty.head.ec, .slice a.ty.head.kp a.ty.head.kn a.ty.head.kc, .int .u8 a.res.head.kind, .int .i64 a.res.head.rho, .slice a.res.head.ep a.res.head.en a.res.head.ec, .slice a.res.head.kp a.res.head.kn a.res.head.kc, .slice a.kp a.kn a.kc] 31) = W2 at *
  clear hs1
  go_loopw [3, 10] (fun u i wr => ∃ (k : Nat) (p : Option Addr) (c : Nat), k ≤ a.kn ∧ i = .int .i64 k ∧ u = .slice p (1 + (nodesTo l k).length) c ∧ OwnE encAH 19 wr (w.heap.size + 1) 31 u (1 + (nodesTo l k).length) (a :: nodesTo l k) ∧ BoxA wr w.heap.size a ∧ Below w.heap.size w wr) (fun _ i _ => a.kn - (intOf i).toNat)
  case atStart => exact ⟨0, some ⟨w.heap.size + 1, 0, none⟩, 1, by omega, rfl, rfl, HO0.out, HA2.out, HB2.out⟩
  case round =>
    obtain ⟨k, p, c, hk, rfl, rfl, hown, hbox, hb⟩ := hrel
    have HOWN := Lib.hid hown
    have HBO := Lib.hid hbox
    have HB := Lib.hid hb
    clear hown hbox hb
    have q18 : wr.cell? ⟨w.heap.size, 18, none⟩ = some (.slice a.kp a.kn a.kc) := HBO.out.c 18 _ rfl
    by_cases hlt : k < a.kn
    · obtain ⟨x, hx⟩ := (HN.out.rowT).at (j := k) hlt
      have HE := Lib.hid hx
      obtain ⟨b, o, hbo, hbl, hcs⟩ := (HN.out.rowT.below HB.out).kid hx
      have HCS := Lib.hid hcs
      rw [hbo] at q18
      clear hx hbl hbo hcs
      have HLN := Lib.hid (show 1 + (nodesTo l k).length + x.size ≤ 1000 by
        have h1 := congrArg List.length (nodesTo_step HE.out)
        rw [List.length_append, nodes_length, nodesTo_length l (k + 1)] at h1
        have h2 := sizesA_take (l := l) (k := k + 1)
        have h3 := HS.out
        rw [Rose.size_node] at h3
        omega)
      go_wp2_with (refine wpList_load_mid rfl 31 _ rfl b (o + k * 19) rfl (encAH x.head) _ HCS.out.c Tryz.underlying31 rfl (by kernel_rfl) ?_)
      refine Calls.mono (HF.out x (List.mem_of_getElem? HE.out) wr HB.out) ?_
      rintro e w2 ⟨⟨p2, c2, rfl, hown2⟩, hb⟩
      have HO1 := Lib.hid (HOWN.out.below hb)
      have HB1 := Lib.hid (HB.out.trans (hb.mono HB.out.size))
      have HBO1 := Lib.hid (HBO.out.below hb)
      obtain ⟨q, cc, hv, hrow⟩ := hown2.isRow encAH_len (by omega)
      cases hv
      have HR2 := Lib.hid hrow
      have hlw : w.heap.size + 1 ≤ w2.heap.size := by have := (Array.getElem?_eq_some_iff.1 HBO1.out.blk).1; omega
      have HLW := Lib.hid hlw
      clear hown2 hrow hb hlw q18
      go_wp2_with (at_builtin; refine wpList_appendR rfl _ _ 29 rfl (w.heap.size + 1) 31 zAT 19 280 Tryz.underlying29 infoAT rfl (by decide) encAH encAH_len encAH_one (Rose.nodes x) (a :: nodesTo l k) (1 + (nodesTo l k).length) _ HO1.out _ x.size _ rfl rfl HR2.out.len HR2.out.nil HR2.out.row ?c1 ?c2 ?c3 ?_)
      case c1 => have := HLN.out; omega
      case c2 => have := HLN.out; omega
      case c3 => exact HLW.out
      · intro v3 w3 hown3 hg3
        obtain ⟨p3, c3, rfl, hrow3⟩ := OwnE.isRow encAH_len (by omega) hown3
        have hfr : ∀ g, (Value.slice p (1 + (nodesTo l k).length) c).ownBlock = some g → w.heap.size + 1 ≤ g := fun g hg => (World.ownsRow.lt HO1.out g hg).1
        have HB3 := Lib.hid (HB1.out.grown hg3 HB1.out.size (fun g hg => by have := hfr g hg; omega))
        have HBO3 : Hid (BoxA w3 w.heap.size a) := ⟨by rw [hg3.block w.heap.size (Array.getElem?_eq_some_iff.1 HBO1.out.blk).1 (fun e => by have := hfr _ e.symm; omega)]; exact HBO1.out.blk⟩
        have HEQ : Hid (1 + (nodesTo l k).length + x.size = 1 + (nodesTo l (k + 1)).length) := by show _ = _; rw [nodesTo_step HE.out, List.length_append, nodes_length]; omega
        rw [nodes_app HE.out, HEQ.out] at hown3
        have HO3 := Lib.hid hown3
        clear hown3 hg3 hfr hrow3
        go_wp2_with fail
        go_roundw
        case rel => exact ⟨k + 1, p3, c3, by omega, by go_num, by rw [HEQ.out], by rw [HEQ.out]; exact HO3.out, HBO3.out, HB3.out⟩
        case measure => simp [intOf]; omega
    · have hkn : k = a.kn := by omega
      have hfull : l.take k = l := take_full (by rw [hkn, HN.out.kids.len]; exact Nat.le_refl _)
      have HSZ : Hid (1 + (nodesTo l k).length = (Rose.node a l).size) := by show _ = _; rw [nodesTo_length, hfull, Rose.size_node]
      have HND : Hid (a :: nodesTo l k = Rose.nodes (Rose.node a l)) := by show _ = _; rw [Rose.nodes_node]; unfold nodesTo; rw [hfull]
      clear hkn hfull
      go_wp2_with fail
      go_ret
      refine ⟨⟨p, c, by rw [← HSZ.out]; rfl, ?_⟩, HB.out⟩
      have h := HOWN.out
      rw [HND.out, HSZ.out] at h
      exact h.lower (Nat.le_succ _)
theorem kidsA_le (l : List PA) : l.length ≤ (l.map Rose.size).sum := by
  induction l with
  | nil => simp
  | cons x l ih => have := Rose.size_pos x; simp only [List.length_cons, List.map_cons, List.sum_cons]; omega
theorem allAt_any (t : PA) : ∀ w, LA.lies w t → t.size ≤ 1000 → AllAt t w := by
  refine Rose.ind (P := fun (t : PA) => ∀ w, LA.lies w t → t.size ≤ 1000 → AllAt t w) (fun a l ih => ?_) t
  intro w hl hs
  have HN := nodeA hl
  refine ref13_All_of HN hs (fun x hx W hW => ih x hx W (LA.lies_below hW x (HN.each x hx)) ?_)
  have h1 := hs
  rw [Rose.size_node] at h1
  have h2 : x.size ≤ (l.map Rose.size).sum := le_sum_of_mem (List.mem_map_of_mem hx)
  omega
end Go.Proofs.YtkdjnegfnhldpaaGreatDoor
end
section
namespace Go.Proofs.YtkdjnegfnhldpaaGreatDoor
open Go.RowKit
def stepAll {α σ : Type} (st : α → σ → Bool × σ) : List α → σ → Bool × σ
  | [], s => (true, s)
  | a :: l, s => if (st a s).1 then stepAll st l (st a s).2 else (false, (st a s).2)
theorem stepAll_app {α σ : Type} (st : α → σ → Bool × σ) : ∀ (l m : List α) (s : σ), stepAll st (l ++ m) s = if (stepAll st l s).1 then stepAll st m (stepAll st l s).2 else stepAll st l s
  | [], m, s => by simp [stepAll]
  | a :: l, m, s => by
    have e : ∀ n, stepAll st (a :: n) s = if (st a s).1 then stepAll st n (st a s).2 else (false, (st a s).2) := fun _ => rfl
    rw [List.cons_append, e, e]
    by_cases h : (st a s).1 = true
    · simp only [h, if_true]; exact stepAll_app st l m _
    · simp [h]
def nodesL (l : List PA) : List AH := (l.map Rose.nodes).flatten
theorem nodesL_split (l : List PA) (k : Nat) : nodesL l = nodesTo l k ++ nodesL (l.drop k) := by
  unfold nodesL nodesTo
  rw [← List.flatten_append, ← List.map_append, List.take_append_drop]
theorem nodes_kids (x : PA) : Rose.nodes x = x.head :: nodesL x.kids := by
  cases x; rw [Rose.nodes_node]; rfl
theorem sa_step {σ : Type} (st : AH → σ → Bool × σ) (s : σ) {l : List PA} {k : Nat} {x : PA} (h : l[k]? = some x) (hb : (stepAll st (nodesTo l k) s).1 = true) :
    stepAll st (nodesTo l (k + 1)) s = if (st x.head (stepAll st (nodesTo l k) s).2).1 then stepAll st (nodesL x.kids) (st x.head (stepAll st (nodesTo l k) s).2).2 else (false, (st x.head (stepAll st (nodesTo l k) s).2).2) := by
  rw [nodesTo_step h, stepAll_app, if_pos hb, nodes_kids]
  rfl
theorem sa_stop {σ : Type} (st : AH → σ → Bool × σ) (s : σ) (l : List PA) (k : Nat) (hb : (stepAll st (nodesTo l k) s).1 = false) : stepAll st (nodesL l) s = stepAll st (nodesTo l k) s := by
  rw [nodesL_split l k, stepAll_app, if_neg (by rw [hb]; exact Bool.false_ne_true)]
theorem sa_end (l : List PA) (k : Nat) (h : l.length ≤ k) : nodesTo l k = nodesL l := by
  unfold nodesTo nodesL; rw [List.take_of_length_le h]
structure FvA (w0 : World) (row : Option Nat) (g : Nat) (lb : Array Value) {σ : Type} (Inv : σ → World → Prop) (ok : AH → Prop) (st : AH → σ → Bool × σ) : Prop where
  eg : ∀ args w, (callFunc g args).run Tryz.prog w = .ok (.enter g args) w
  hb : ∀ b, row = some b → w0.heap.size ≤ b
  lt : ∀ b, row = some b → ∀ s W, Inv s W → b < W.heap.size
  inv : ∀ s W W', Inv s W → Below W.heap.size W W' → Inv s W'
  call : ∀ a s W, ok a → Below w0.heap.size w0 W → Inv s W → Calls Tryz.prog g (#[aggT a] ++ lb) W fun e w' => e = .returned (.bool (st a s).1) ∧ Inv (st a s).2 w' ∧ W.grownBy w' row
def EachAt (w0 : World) (row : Option Nat) (g : Nat) (lb : Array Value) {σ : Type} (Inv : σ → World → Prop) (ok : AH → Prop) (st : AH → σ → Bool × σ) (l : List PA) : Prop :=
  ∀ p n c, RowTA w0 p n c l → (∀ a ∈ nodesL l, ok a) → ∀ s W, Below w0.heap.size w0 W → Inv s W → Calls Tryz.prog 59 #[.func (.func g) #[] lb, .slice p n c] W fun e w' => e = .returned (.bool (stepAll st (nodesL l) s).1) ∧ Inv (stepAll st (nodesL l) s).2 w' ∧ W.grownBy w' row
theorem mem_nodesL {l : List PA} {x : PA} (hx : x ∈ l) {a : AH} (ha : a ∈ Rose.nodes x) : a ∈ nodesL l := List.mem_flatten.2 ⟨_, List.mem_map_of_mem hx, ha⟩
theorem LA_kids {w : World} {x : PA} (h : LA.lies w x) : RowTA w x.head.kp x.head.kn x.head.kc x.kids := by
  cases x; exact (nodeA h).rowT
set_option maxHeartbeats 4000000 in
theorem aterm_each_of {w0 : World} {row : Option Nat} {g : Nat} {lb : Array Value} {σ : Type} {Inv : σ → World → Prop} {ok : AH → Prop} {st : AH → σ → Bool × σ} (F : FvA w0 row g lb Inv ok st) (l : List PA)
    (ih : ∀ x ∈ l, EachAt w0 row g lb Inv ok st x.kids) : EachAt w0 row g lb Inv ok st l := by
  intro p n c hR hok s W hbW hinv
  have eg := F.eg
  have HF := Lib.hid F
  have HI := Lib.hid ih
  have HR := Lib.hid hR
  have HOK := Lib.hid hok
  have HBW := Lib.hid hbW
  have HV := Lib.hid hinv
  have hnm : n ≤ 9223372036854775807 := hR.row.max
  clear F ih hR hok hbW hinv
  go_enter Tryz.func59, Tryz.ntmps59
  go_wp2_with fail
  go_loopw [9] (fun i wr => ∃ (k : Nat) (S : Bool × σ), k ≤ n ∧ i = .int .i64 k ∧ Hid (stepAll st (nodesTo l k) s = S) ∧ S.1 = true ∧ Inv S.2 wr ∧ W.grownBy wr row) (fun i _ => n - (intOf i).toNat)
  case atStart => exact ⟨0, (true, s), by omega, rfl, Lib.hid rfl, rfl, HV.out, World.grownBy.refl _ _⟩
  case round =>
    obtain ⟨k, S, hk, rfl, HS, hs, hiv, hg⟩ := hrel
    have HIV := Lib.hid hiv
    have HG := Lib.hid hg
    have HST := Lib.hid hs
    have HB := Lib.hid (HBW.out.grown hg HBW.out.size HF.out.hb)
    clear hiv hg hs
    by_cases hlt : k < n
    · obtain ⟨x, hx⟩ := HR.out.at (j := k) hlt
      obtain ⟨b, o, hbo, hbl, hcs⟩ := (HR.out.below HB.out).kid hx
      obtain ⟨a, m, hxe⟩ : ∃ a m, x = Rose.node a m := ⟨x.head, x.kids, Rose.eta x⟩
      subst hxe
      have HCS := Lib.hid (show CellsA wr b (o + k * 19) a from hcs)
      subst hbo
      have hE := List.mem_of_getElem? hx
      have HXK := Lib.hid (show EachAt w0 row g lb Inv ok st m from HI.out _ hE)
      have HKR := Lib.hid (show RowTA w0 a.kp a.kn a.kc m from LA_kids (HR.out.lies hx))
      have HKO := Lib.hid (show ∀ a' ∈ nodesL m, ok a' from fun a' ha => HOK.out a' (mem_nodesL hE (by rw [nodes_kids]; exact List.mem_cons_of_mem _ ha)))
      have hoka : ok a := HOK.out a (mem_nodesL hE (by rw [nodes_kids]; exact List.mem_cons_self))
      have HSS := Lib.hid (show stepAll st (nodesTo l (k + 1)) s = if (st a S.2).1 then stepAll st (nodesL m) (st a S.2).2 else (false, (st a S.2).2) by
        have h := sa_step st s hx (by rw [HS.out]; exact HST.out)
        rw [HS.out] at h
        exact h)
      clear hx hbl hcs hE
      have HBX := Lib.hid (boxA_new wr a)
      have hb1 : Below wr.heap.size wr (wr.alloc (boxA a)) := (Below.refl _ _).alloc (Nat.le_refl _) _
      have HB1 := Lib.hid (HB.out.trans (hb1.mono HB.out.size))
      have HIV1 := Lib.hid (HF.out.inv _ _ _ HIV.out hb1)
      have HCALL := Lib.hid (HF.out.call a S.2 _ hoka HB1.out HIV1.out)
      have HG1 := Lib.hid (HG.out.trans ((World.grownBy_alloc wr (boxA a) row)))
      clear hb1 hoka
      have hal : (wr.alloc (.cells #[.int .u8 0, .int .u8 0, .int .i64 0, .int .i64 0, .string ⟨#[]⟩, .string ⟨#[]⟩, .string ⟨#[]⟩, .int .i64 0, .slice none 0 0, .slice none 0 0, .int .u8 0, .int .i64 0, .slice none 0 0, .slice none 0 0, .int .u8 0, .int .i64 0, .slice none 0 0, .slice none 0 0, .slice none 0 0] 31)).heap[wr.heap.size]? = some (.cells #[.int .u8 0, .int .u8 0, .int .i64 0, .int .i64 0, .string ⟨#[]⟩, .string ⟨#[]⟩, .string ⟨#[]⟩, .int .i64 0, .slice none 0 0, .slice none 0 0, .int .u8 0, .int .i64 0, .slice none 0 0, .slice none 0 0, .int .u8 0, .int .i64 0, .slice none 0 0, .slice none 0 0, .slice none 0 0] 31 (0, 0)) := heap_alloc_new wr _
      have HAL := Lib.hid hal
      clear hal
      cases hq : (st a S.2).1 with
      | false =>
        rw [hq] at HCALL HSS
        have HQ := Lib.hid hq
        clear hq
        go_wp2_with (first
          | (refine wpList_load_mid rfl 31 _ rfl b (o + k * 19) rfl (encAH a) _ HCS.out.c Tryz.underlying31 rfl (by kernel_rfl) ?_)
          | (refine wpList_store_row rfl 31 _ _ rfl wr.heap.size (encAH a).toArray rfl rfl 31 _ HAL.out (by kernel_rfl) rfl (all_oneCell_toArray (encAH_one a)) ?_; rw [World.setRow_alloc_new])
          | (refine wpList_load_row rfl 31 _ rfl wr.heap.size rfl 31 _ (0, 0) _ HBX.out.blk Tryz.underlying31 rfl (by kernel_rfl) ?_)
          | (go_at_fn g; refine HCALL.out.mono ?_; rintro e w2 ⟨rfl, hi2, hg2⟩; have HI2 := Lib.hid hi2; have HG2 := Lib.hid (HG1.out.trans hg2); clear hi2 hg2))
        go_ret
        have hstop : stepAll st (nodesL l) s = (false, (st a S.2).2) := by
          rw [sa_stop st s l (k + 1) (by rw [HSS.out]; rfl), HSS.out]; rfl
        exact ⟨ret_bool (by rw [hstop]), by rw [hstop]; exact HI2.out, HG2.out⟩
      | true =>
        rw [hq] at HCALL HSS
        have HQ := Lib.hid hq
        clear hq
        have HM := Lib.hid (HF.out.hb)
        have q18 : ∀ w2, (wr.alloc (boxA a)).grownBy w2 row → Inv (st a S.2).2 w2 → w2.cell? ⟨wr.heap.size, 18, none⟩ = some (.slice a.kp a.kn a.kc) ∧ Below w0.heap.size w0 w2 := fun w2 hg2 hi2 => ⟨hg2.cell (a := ⟨wr.heap.size, 18, none⟩) (HBX.out.c 18 _ rfl) (fun e => by have := HF.out.lt _ e.symm _ _ HIV.out; exact Nat.lt_irrefl _ this), HB1.out.grown hg2 HB1.out.size HM.out⟩
        have HQ18 := Lib.hid q18
        clear q18
        cases hq2 : (stepAll st (nodesL m) (st a S.2).2).1 with
        | false =>
          have HQ2 := Lib.hid hq2
          clear hq2
          go_wp2_with (first
            | (refine wpList_load_mid rfl 31 _ rfl b (o + k * 19) rfl (encAH a) _ HCS.out.c Tryz.underlying31 rfl (by kernel_rfl) ?_)
            | (refine wpList_store_row rfl 31 _ _ rfl wr.heap.size (encAH a).toArray rfl rfl 31 _ HAL.out (by kernel_rfl) rfl (all_oneCell_toArray (encAH_one a)) ?_; rw [World.setRow_alloc_new])
            | (refine wpList_load_row rfl 31 _ rfl wr.heap.size rfl 31 _ (0, 0) _ HBX.out.blk Tryz.underlying31 rfl (by kernel_rfl) ?_)
            | (first | (go_at_fn g; refine HCALL.out.mono ?_; rintro e w2 ⟨rfl, hi2, hg2⟩; obtain ⟨c18, hb2⟩ := HQ18.out _ hg2 hi2; have HI2 := Lib.hid hi2; have HG2 := Lib.hid (HG1.out.trans hg2); have HB2 := Lib.hid hb2; clear hi2 hg2 hb2) | (go_at_call 59; refine (HXK.out _ _ _ HKR.out HKO.out _ _ HB2.out HI2.out).mono ?_; rw [HQ2.out]; rintro e w3 ⟨rfl, hi3, hg3⟩; have HI3 := Lib.hid hi3; have HG3 := Lib.hid (HG2.out.trans hg3); clear hi3 hg3)))
          go_ret
          have hstop : stepAll st (nodesL l) s = stepAll st (nodesL m) (st a S.2).2 := by
            rw [sa_stop st s l (k + 1) (by rw [HSS.out]; exact HQ2.out), HSS.out]; rfl
          exact ⟨ret_bool (by rw [hstop, HQ2.out]), by rw [hstop]; exact HI3.out, HG3.out⟩
        | true =>
          have HQ2 := Lib.hid hq2
          clear hq2
          go_wp2_with (first
            | (refine wpList_load_mid rfl 31 _ rfl b (o + k * 19) rfl (encAH a) _ HCS.out.c Tryz.underlying31 rfl (by kernel_rfl) ?_)
            | (refine wpList_store_row rfl 31 _ _ rfl wr.heap.size (encAH a).toArray rfl rfl 31 _ HAL.out (by kernel_rfl) rfl (all_oneCell_toArray (encAH_one a)) ?_; rw [World.setRow_alloc_new])
            | (refine wpList_load_row rfl 31 _ rfl wr.heap.size rfl 31 _ (0, 0) _ HBX.out.blk Tryz.underlying31 rfl (by kernel_rfl) ?_)
            | (first | (go_at_fn g; refine HCALL.out.mono ?_; rintro e w2 ⟨rfl, hi2, hg2⟩; obtain ⟨c18, hb2⟩ := HQ18.out _ hg2 hi2; have HI2 := Lib.hid hi2; have HG2 := Lib.hid (HG1.out.trans hg2); have HB2 := Lib.hid hb2; clear hi2 hg2 hb2) | (go_at_call 59; refine (HXK.out _ _ _ HKR.out HKO.out _ _ HB2.out HI2.out).mono ?_; rw [HQ2.out]; rintro e w3 ⟨rfl, hi3, hg3⟩; have HI3 := Lib.hid hi3; have HG3 := Lib.hid (HG2.out.trans hg3); clear hi3 hg3)))
          go_roundw
          case rel => exact ⟨k + 1, _, by omega, by go_num, HSS, by show (stepAll st (nodesL m) (st a S.2).2).1 = true; exact HQ2.out, HI3.out, HG3.out⟩
          case measure => simp [intOf]; omega
    · have hkn : k = n := by omega
      have hfull : nodesTo l k = nodesL l := sa_end l k (by rw [HR.out.row.len, hkn]; exact Nat.le_refl _)
      rw [hfull] at HS
      go_wp2_with fail
      go_ret
      exact ⟨ret_bool (by rw [HS.out, HST.out]), by rw [HS.out]; exact HIV.out, HG.out⟩
theorem aterm_each_any {w0 : World} {row : Option Nat} {g : Nat} {lb : Array Value} {σ : Type} {Inv : σ → World → Prop} {ok : AH → Prop} {st : AH → σ → Bool × σ} (F : FvA w0 row g lb Inv ok st) (l : List PA) : EachAt w0 row g lb Inv ok st l :=
  aterm_each_of F l (fun x _ => Rose.ind (P := fun (x : PA) => EachAt w0 row g lb Inv ok st x.kids) (fun a m ih => aterm_each_of F m ih) x)
end Go.Proofs.YtkdjnegfnhldpaaGreatDoor
end
section
namespace Go.Proofs.YtkdjnegfnhldpaaGreatDoor
open Go.RowKit
def encO (_ : Unit) : List Value := [.int .u8 1, .int .u8 0, .int .i64 0, .int .i64 0, .string ⟨#[]⟩, .string ⟨#[]⟩, .string ⟨#[]⟩, .slice none 0 0]
theorem encO_len : ∀ x, (encO x).length = 8 := fun _ => rfl
theorem encO_one : ∀ y, ∀ u ∈ encO y, u.oneCell' = true := by
  intro y u hu
  simp [encO] at hu
  rcases hu with rfl | rfl | rfl | rfl | rfl | rfl <;> rfl
abbrev zTmO : Obj := .cells #[.int .u8 0, .int .u8 0, .int .i64 0, .int .i64 0, .string ⟨#[]⟩, .string ⟨#[]⟩, .string ⟨#[]⟩, .slice none 0 0] 53
structure SInv (w wr : World) (h : HeadV) (a : AH) (v : Value) (k : Nat) : Prop where
  own : OwnE encO 8 wr (w.heap.size + 3) 53 v k (List.replicate k ())
  box : Box8 wr (w.heap.size + 2) h v
  res : wr.heap[w.heap.size + 1]? = some zTmO
  size : w.heap.size + 3 ≤ wr.heap.size
  below : Below w.heap.size w wr
theorem SInv.add {w wr w3 : World} {h : HeadV} {a : AH} {v v3 : Value} {k : Nat} (hi : SInv w wr h a v k) (hown : OwnE encO 8 w3 (w.heap.size + 3) 53 v3 (k + 1) (List.replicate k () ++ [()])) (hgw : wr.grownBy w3 v.ownBlock) :
    SInv w (w3.setCell ⟨w.heap.size + 2, 7, none⟩ v3) h a v3 (k + 1) := by
  have hfr : ∀ b, v.ownBlock = some b → w.heap.size + 3 ≤ b := fun b hb => (World.ownsRow.lt hi.own b hb).1
  have hfr3 : ∀ b, v3.ownBlock = some b → w.heap.size + 3 ≤ b := fun b hb => (World.ownsRow.lt hown b hb).1
  have hgs : w3.grownBy (w3.setCell ⟨w.heap.size + 2, 7, none⟩ v3) (some (w.heap.size + 2)) := grown_setCell1 _ _ _ _
  have hlt := hi.size
  refine ⟨?_, (hi.box.grown hgw (fun e => by have := hfr _ e; omega)).set v3, ?_, Nat.le_trans hi.size (Nat.le_trans hgw.size hgs.size), ?_⟩
  · refine ⟨by rw [List.replicate_succ']; exact hown.1, ?_⟩
    rw [List.replicate_succ']
    rcases hown.2 with h0 | ⟨g, cap, cur, rfl, h1, h2, rest⟩
    · exact .inl h0
    · refine .inr ⟨g, cap, cur, rfl, h1, ?_, rest⟩
      rw [hgs.block g (Array.getElem?_eq_some_iff.1 h2).1 (fun e => by injection e with e; omega)]; exact h2
  · have h1 := hi.res
    rw [hgs.block _ (by have := hgw.size; omega) (fun e => by injection e with e; omega), hgw.block _ (by omega) (fun e => by have := hfr _ e.symm; omega)]
    exact h1
  · exact (hi.below.grown hgw (by omega) (fun b hb => by have := hfr b hb; omega)).grown hgs (by have := hgw.size; omega) (fun b hb => by injection hb with hb; omega)
set_option maxHeartbeats 4000000 in
theorem aterm_stub_any (a : AH) (hk : a.kn ≤ 1000) (w : World) :
    Calls Tryz.prog 121 #[aggT a] w fun e w' => (∃ p c, e = .returned (aggTm a.hd p a.kn c) ∧ IsRow encO 8 w' p a.kn c (List.replicate a.kn ())) ∧ Below w.heap.size w w' := by
  have HA := Lib.hid (boxA_new w a)
  have HB := Lib.hid (((Below.refl w.heap.size w).alloc (Nat.le_refl _) (boxA a)))
  have hz : SInv w (((w.alloc (boxA a)).alloc zTmO).alloc (.cells #[.int .u8 a.kind, .int .u8 a.op, .int .i64 a.at_, .int .i64 a.n, .string a.name, .string a.arg, .string a.exn, .slice none 0 0] 53)) a.hd a (.slice none 0 0) 0 := by
    have h1 := box8_new ((w.alloc (boxA a)).alloc zTmO) a.hd (.slice none 0 0)
    refine ⟨OwnE.nil _ _ _ _ _, ?_, ?_, by simp, (HB.out.alloc (by simp) _).alloc (by simp; omega) _⟩
    · rw [show ((w.alloc (boxA a)).alloc zTmO).heap.size = w.heap.size + 2 by simp] at h1; exact h1
    · rw [((Below.refl _ _).alloc (Nat.le_refl _) _).block _ (by simp)]
      have := heap_alloc_new (w.alloc (boxA a)) zTmO
      simpa using this
  have hq : ((w.alloc (boxA a)).alloc zTmO).cell? ⟨w.heap.size, 18, none⟩ = some (.slice a.kp a.kn a.kc) ∧ (((w.alloc (boxA a)).alloc zTmO).alloc (.cells #[.int .u8 a.kind, .int .u8 a.op, .int .i64 a.at_, .int .i64 a.n, .string a.name, .string a.arg, .string a.exn, .slice none 0 0] 53)).cell? ⟨w.heap.size, 18, none⟩ = some (.slice a.kp a.kn a.kc) := by
    have h0 := HA.out.c 18 _ rfl
    have hb1 : Below (w.alloc (boxA a)).heap.size (w.alloc (boxA a)) ((w.alloc (boxA a)).alloc zTmO) := (Below.refl _ _).alloc (Nat.le_refl _) _
    constructor
    · rw [hb1.cell (by simp)]; exact h0
    · rw [(hb1.alloc hb1.size _).cell (by simp)]; exact h0
  obtain ⟨hq1, hq2⟩ := hq
  have HZ := Lib.hid hz
  have HQ2 := Lib.hid hq2
  clear hz hq1 hq2
  go_enter Tryz.func121, Tryz.ntmps121
  go_upto_region 2 with fail
  rw [show w.heap.size + 1 + 1 = w.heap.size + 2 from rfl]
  generalize (((w.alloc (boxA a)).alloc zTmO).alloc (.cells #[.int .u8 a.kind, .int .u8 a.op, .int .i64 a.at_, .int .i64 a.n, .string a.name, .string a.arg, .string a.exn, .slice none 0 0] 53)) = W3 at *
  have q18 := HQ2.out
  go_wp2_with fail
  clear q18
  go_loopw [10] (fun i wr => ∃ (k : Nat) (v : Value), k ≤ a.kn ∧ i = .int .i64 k ∧ SInv w wr a.hd a v k) (fun i _ => a.kn - (intOf i).toNat)
  case atStart => exact ⟨0, _, by omega, rfl, HZ.out⟩
  case round =>
    obtain ⟨k, v, hk1, rfl, hz⟩ := hrel
    have HZI := Lib.hid hz
    have HSZ := Lib.hid hz.size
    obtain ⟨x0, x1, x2, x3, x4, x5, x6, x7, x8⟩ := hz.box.cells
    have hlt2 := hz.box.lt
    clear hz
    by_cases hlt : k < a.kn
    · go_wp2_with (at_builtin; refine wpList_append1 rfl _ _ 51 rfl (w.heap.size + 3) 53 _ 8 96 Tryz.underlying51 infoTm rfl (by decide) encO encO_len encO_one () _ _ _ HZI.out.own rfl rfl ?c1 ?c2 ?c3 ?_)
      case c1 => omega
      case c2 => omega
      case c3 => have := HSZ.out; omega
      · intro v3 w3 hown3 hg3
        obtain ⟨p3, c3, rfl, hrow3⟩ := OwnE.isRow encO_len (by omega) hown3
        clear hrow3
        have HA3 := Lib.hid (HZI.out.add hown3 hg3)
        have HB8 := Lib.hid (HZI.out.box.grown hg3 (fun e => by have := (World.ownsRow.lt HZI.out.own _ e).1; omega))
        clear x0 x1 x2 x3 x4 x5 x6 x7 x8 hown3 hg3
        obtain ⟨x0, x1, x2, x3, x4, x5, x6, x7, x8⟩ := HB8.out.cells
        go_wp2_with fail
        go_roundw
        case rel => exact ⟨k + 1, _, by omega, by go_num, HA3.out⟩
        case measure => simp [intOf]; omega
    · obtain rfl : k = a.kn := by omega
      clear hlt hk1
      obtain ⟨p', c', rfl, hrow⟩ := HZI.out.own.isRow encO_len (by omega)
      have HROW := Lib.hid hrow
      clear hrow
      go_wp2_with (first
        | (refine wpList_load_row rfl 53 _ rfl (w.heap.size + 2) rfl 53 _ (0, 0) _ HZI.out.box.blk Tryz.underlying53 rfl (by kernel_rfl) ?_)
        | (refine wpList_store_row rfl 53 _ _ rfl (w.heap.size + 1) #[.int .u8 a.hd.kind, .int .u8 a.hd.op, .int .i64 a.hd.at_, .int .i64 a.hd.n, .string a.hd.name, .string a.hd.arg, .string a.hd.exn, .slice p' a.kn c'] rfl rfl 53 _ HZI.out.res (by kernel_rfl) rfl (by simp [Value.oneCell']) ?_))
      have hres := setRow_heap wr (w.heap.size + 1) _ #[.int .u8 a.hd.kind, .int .u8 a.hd.op, .int .i64 a.hd.at_, .int .i64 a.hd.n, .string a.hd.name, .string a.hd.arg, .string a.hd.exn, .slice p' a.kn c'] _ _ HZI.out.res
      have hlt3 : w.heap.size + 1 < wr.heap.size := by have := HSZ.out; omega
      (try simp only [Exit.inBlock, Exit.then])
      refine bodyPost_ret (results_cell_row rfl _ _ _ _ _ _ _ rfl hres Tryz.underlying53 rfl (by kernel_rfl)) rfl ?_
      have hg : wr.grownBy (wr.setRow (w.heap.size + 1) #[.int .u8 a.hd.kind, .int .u8 a.hd.op, .int .i64 a.hd.at_, .int .i64 a.hd.n, .string a.hd.name, .string a.hd.arg, .string a.hd.exn, .slice p' a.kn c']) (some (w.heap.size + 1)) :=
        ⟨rfl, rfl, rfl, by simp, fun i hi hne => setRow_other _ _ _ _ (fun e => hne (by rw [e]))⟩
      obtain ⟨p2, c2, hv2, hrow2⟩ := (HZI.out.own.other hg (fun b hb e => by have := (World.ownsRow.lt HZI.out.own b hb).1; injection e with e; omega)).isRow encO_len (by omega)
      cases hv2
      refine ⟨⟨p', c', rfl, hrow2⟩, HZI.out.below.grown hg (by omega) (fun b hb => by injection hb with hb; omega)⟩
end Go.Proofs.YtkdjnegfnhldpaaGreatDoor
end
