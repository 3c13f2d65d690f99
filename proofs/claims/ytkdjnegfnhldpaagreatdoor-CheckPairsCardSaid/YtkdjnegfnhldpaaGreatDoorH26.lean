/- Part 26: Ko, Kp, Ic, Id, Ie. -/
import Derived.Test.YtkdjnegfnhldpaaGreatDoorH24
import Derived.Test.YtkdjnegfnhldpaaGreatDoorH25
import Derived.Test.YtkdjnegfnhldpaaGreatDoorH17
import Derived.Test.YtkdjnegfnhldpaaGreatDoorH18
import Derived.Recover
import Derived.Laws.Entries
import Derived.Tactics
import Derived.Test.YtkdjnegfnhldpaaGreatDoorH22
import Derived.Test.YtkdjnegfnhldpaaGreatDoorH20
import Derived.Test.YtkdjnegfnhldpaaGreatDoorH01
set_option linter.unusedVariables false
set_option maxRecDepth 100000
set_option linter.unusedSimpArgs false
namespace Go.Proofs.YtkdjnegfnhldpaaGreatDoor
open Go.Lib (hid)
section
open Go.RowKit
theorem bareB_at (h : HeadV) (n : Nat) (hb : headB h n = true) : 0 ≤ h.at_ := by
  unfold headB at hb
  split at hb
  · simp only [Bool.and_eq_true, decide_eq_true_eq] at hb; exact hb.1.2
  · split at hb
    · simp only [Bool.and_eq_true, decide_eq_true_eq] at hb; exact hb.1.2
    · unfold node4B at hb
      simp only [Bool.and_eq_true, Bool.not_eq_true', Bool.or_eq_false_iff, decide_eq_false_iff_not] at hb
      have := hb.1.1.1.2
      omega
theorem node13_at {a : AH} (h : node13 a = true) : 0 ≤ a.at_ := by
  unfold node13 at h
  simp only [Bool.and_eq_true, Bool.not_eq_true', Bool.or_eq_false_iff, Bool.not_eq_false'] at h
  exact bareB_at a.hd a.kn h.1.1.1.1.1.1.1.1
theorem good_of_may {w : World} (t : PA) : LA.lies w t → SmallNs t → mayA t = true → GoodT (PA.er t) := by
  refine Rose.ind (P := fun (t : PA) => LA.lies w t → SmallNs t → mayA t = true → GoodT (PA.er t)) (fun a l ih hl hs hm => ?_) t
  have hn := nodeA hl
  unfold mayA at hm
  rw [List.all_eq_true] at hm
  have hin : ∀ x ∈ Rose.nodes (Rose.node a l), x = a ∨ ∃ t ∈ l, x ∈ Rose.nodes t := fun x hx => by
    rw [Rose.nodes_node, List.mem_cons, List.mem_flatten] at hx
    rcases hx with h | ⟨m, hm, hx⟩
    · exact .inl h
    · obtain ⟨u, hu, rfl⟩ := List.mem_map.1 hm
      exact .inr ⟨u, hu, hx⟩
  have hof : ∀ t ∈ l, ∀ x ∈ Rose.nodes t, x ∈ Rose.nodes (Rose.node a l) := fun t ht x hx => by
    rw [Rose.nodes_node, List.mem_cons, List.mem_flatten]
    exact .inr ⟨_, List.mem_map_of_mem ht, hx⟩
  have ha : a ∈ Rose.nodes (Rose.node a l) := by rw [Rose.nodes_node]; exact List.mem_cons_self
  have h0 := hm a ha
  have hk := node_ok h0 hn.own.rhos.len
  have hsa := hs a ha
  rw [PA.er_node]
  refine .node _ _ ⟨hk.k1, hk.k18, ?_, hk.rho, hk.rhos, hk.eff, hsa.eff, hk.ty, hk.res, hsa.ty, hsa.res, hsa.exn, node13_at h0⟩ (fun t ht => ?_)
  · rw [List.length_map, hn.kids.len]; exact hk.kids
  · obtain ⟨u, hu, rfl⟩ := List.mem_map.1 ht
    exact ih u hu (hn.each u hu) (fun x hx => hs x (hof u hu x hx)) (by unfold mayA; rw [List.all_eq_true]; exact fun x hx => hm x (hof u hu x hx))
structure ChS (w : World) (a : AH) (W : World) : Prop where
  box : BoxA W w.heap.size a
  o : ∃ cs : Array Value, cs.size = 4 ∧ W.heap[w.heap.size + 1]? = some (.cells cs 28 (0, 0))
  m : ∃ v, W.heap[w.heap.size + 1 + 1]? = some (.cells #[v] 25 (0, 0))
  at_ : ∃ v, W.heap[w.heap.size + 1 + 1 + 1]? = some (.cells #[v] 3 (0, 0))
  e : ∃ v, W.heap[w.heap.size + 1 + 1 + 1 + 1]? = some (.cells #[v] 34 (0, 0))
  below : Below w.heap.size w W
  size : w.heap.size + 5 ≤ W.heap.size
theorem ChS.step {w W W' : World} {a : AH} (h : ChS w a W) (hb : Below W.heap.size W W') : ChS w a W' := by
  obtain ⟨cs, h1, h2⟩ := h.o
  obtain ⟨v2, h3⟩ := h.m
  obtain ⟨v3, h4⟩ := h.at_
  obtain ⟨v4, h5⟩ := h.e
  exact ⟨h.box.below hb, ⟨cs, h1, (hb.block _ (lt_heap h2)).trans h2⟩, ⟨v2, (hb.block _ (lt_heap h3)).trans h3⟩, ⟨v3, (hb.block _ (lt_heap h4)).trans h4⟩, ⟨v4, (hb.block _ (lt_heap h5)).trans h5⟩, h.below.trans (hb.mono h.below.size), Nat.le_trans h.size hb.size⟩
structure ChR (w : World) (a : AH) (cs : Array Value) (v2 v3 v4 : Value) (W : World) : Prop where
  o : W.heap[w.heap.size + 1]? = some (.cells cs 28 (0, 0))
  m : W.heap[w.heap.size + 1 + 1]? = some (.cells #[v2] 25 (0, 0))
  at_ : W.heap[w.heap.size + 1 + 1 + 1]? = some (.cells #[v3] 3 (0, 0))
  e : W.heap[w.heap.size + 1 + 1 + 1 + 1]? = some (.cells #[v4] 34 (0, 0))
  below : Below w.heap.size w W
theorem ChS.w1 {w W : World} {a : AH} (h : ChS w a W) {cs : Array Value} (hc : cs.size = 4) : ChS w a (W.setRow (w.heap.size + 1) cs) := by
  obtain ⟨cs', h1, h2⟩ := h.o
  obtain ⟨v2, h3⟩ := h.m
  obtain ⟨v3, h4⟩ := h.at_
  obtain ⟨v4, h5⟩ := h.e
  exact ⟨⟨(setRow_other _ _ _ _ (by omega)).trans h.box.blk⟩, ⟨cs, hc, setRow_heap _ _ _ _ _ _ h2⟩, ⟨v2, (setRow_other _ _ _ _ (by omega)).trans h3⟩, ⟨v3, (setRow_other _ _ _ _ (by omega)).trans h4⟩, ⟨v4, (setRow_other _ _ _ _ (by omega)).trans h5⟩, h.below.grown row_set h.below.size (fun k e => by cases e; omega), by have := h.size; simpa using this⟩
theorem ChS.wset {w W : World} {a : AH} (h : ChS w a W) {b : Nat} (hb : b = w.heap.size + 1 + 1 ∨ b = w.heap.size + 1 + 1 + 1 ∨ b = w.heap.size + 1 + 1 + 1 + 1) (v : Value) : ChS w a (W.setCell ⟨b, 0, none⟩ v) := by
  obtain ⟨cs, h1, h2⟩ := h.o
  obtain ⟨v2, h3⟩ := h.m
  obtain ⟨v3, h4⟩ := h.at_
  obtain ⟨v4, h5⟩ := h.e
  have hg := grown_setCell1 W b 0 v
  have hsz := h.size
  have ot : ∀ {k : Nat} {o : Obj}, W.heap[k]? = some o → k ≠ b → (W.setCell ⟨b, 0, none⟩ v).heap[k]? = some o := fun {k o} hk hne => (hg.block k (lt_heap hk) (fun e => hne (by injection e))).trans hk
  refine ⟨⟨ot h.box.blk (by omega)⟩, ⟨cs, h1, ot h2 (by omega)⟩, ?_, ?_, ?_, h.below.grown hg h.below.size (fun k e => by cases e; omega), Nat.le_trans h.size hg.size⟩
  · by_cases e : b = w.heap.size + 1 + 1
    · subst e; exact ⟨v, heap_setCell1 v h3⟩
    · exact ⟨v2, ot h3 (fun h => e h.symm)⟩
  · by_cases e : b = w.heap.size + 1 + 1 + 1
    · subst e; exact ⟨v, heap_setCell1 v h4⟩
    · exact ⟨v3, ot h4 (fun h => e h.symm)⟩
  · by_cases e : b = w.heap.size + 1 + 1 + 1 + 1
    · subst e; exact ⟨v, heap_setCell1 v h5⟩
    · exact ⟨v4, ot h5 (fun h => e h.symm)⟩
theorem ChS.fill {w W : World} {a : AH} (h : ChS w a W) {cs : Array Value} (hc : cs.size = 4) (v2 v3 v4 : Value) :
    ChR w a cs v2 v3 v4 ((((W.setRow (w.heap.size + 1) cs).setCell ⟨w.heap.size + 1 + 1, 0, none⟩ v2).setCell ⟨w.heap.size + 1 + 1 + 1, 0, none⟩ v3).setCell ⟨w.heap.size + 1 + 1 + 1 + 1, 0, none⟩ v4) := by
  have hw1 := h.w1 hc
  obtain ⟨cs', h1, h2⟩ := h.o
  have e1 : (W.setRow (w.heap.size + 1) cs).heap[w.heap.size + 1]? = some (.cells cs 28 (0, 0)) := setRow_heap _ _ _ _ _ _ h2
  have ot : ∀ {W : World} {b k : Nat} {v : Value} {o : Obj}, W.heap[k]? = some o → k ≠ b → (W.setCell ⟨b, 0, none⟩ v).heap[k]? = some o := fun {W b k v o} hk hne => ((grown_setCell1 W b 0 v).block k (lt_heap hk) (fun e => hne (by injection e))).trans hk
  obtain ⟨u2, f2⟩ := hw1.m
  have hw2 := hw1.wset (b := w.heap.size + 1 + 1) (.inl rfl) v2
  have e2 := heap_setCell1 (o := 0) v2 f2
  obtain ⟨u3, f3⟩ := hw2.at_
  have hw3 := hw2.wset (b := w.heap.size + 1 + 1 + 1) (.inr (.inl rfl)) v3
  have e3 := heap_setCell1 (o := 0) v3 f3
  obtain ⟨u4, f4⟩ := hw3.e
  have hw4 := hw3.wset (b := w.heap.size + 1 + 1 + 1 + 1) (.inr (.inr rfl)) v4
  have e4 := heap_setCell1 (o := 0) v4 f4
  exact ⟨ot (ot (ot e1 (by omega)) (by omega)) (by omega), ot (ot e2 (by omega)) (by omega), ot e3 (by omega), e4, hw4.below⟩
theorem step_store4g {P : Program} {ops : Array Oper} {o : Oper} {act : Act} {K : Act → World → Prop} {Q : Exit → Act → World → Prop} {E : Prop} (hgd : o.guard = none) (ty : TypeId) (x y : Operand) (ho : o.op = .store ty x y)
    {W : World} {g : Nat} (h : ∃ cs : Array Value, cs.size = 4 ∧ W.heap[g]? = some (.cells cs 28 (0, 0))) (cells : Array Value) (hx : act.eval x = .pointer (some ⟨g, 0, none⟩)) (hy : act.eval y = .agg cells) (h4 : cells.size = 4) (h1 : cells.all (·.oneCell') = true) (hi : (P.info? ty).map (·.size) = some 4)
    (hK : K (act.put o.dst undef) (W.setRow g cells)) : if Region.wanted o (yielded ops act.tmps) = true then Oper.wp P o act W K Q else E := by
  obtain ⟨cs, e1, e2⟩ := h
  rw [if_pos (by simp [Region.wanted, hgd])]
  exact wp_store_row ty x y ho g cells hx hy 28 cs e2 (by rw [hi, h4]) (by omega) h1 hK
theorem cell1 {W : World} {g : Nat} {v : Value} {t : TypeId} (h : W.heap[g]? = some (.cells #[v] t (0, 0))) : W.cell? ⟨g, 0, none⟩ = some v ∧ W.frozen? ⟨g, 0, none⟩ = false := ⟨by rw [Lib.cell_of_heap h]; rfl, by simp only [World.frozen?, h]; rfl⟩
end
section
open Go.RowKit
structure ChT (w : World) (a : AH) (g : Nat) (z no : Int) (W : World) : Prop where
  ch : ChS w a W
  t : W.heap[g]? = some (.cells #[.int .i64 z, .int .i64 no] 79 (0, 0))
  g5 : w.heap.size + 5 ≤ g
theorem ChT.drew {w W : World} {a : AH} {g : Nat} {z no : Int} (h : ChT w a g z no W) : ChT w a g z no W.drew := ⟨h.ch.step (bel_drew W), h.t, h.g5⟩
theorem ChT.w1 {w W : World} {a : AH} {g : Nat} {z no : Int} (h : ChT w a g z no W) {cs : Array Value} (hc : cs.size = 4) : ChT w a g z no (W.setRow (w.heap.size + 1) cs) := ⟨h.ch.w1 hc, (setRow_other _ _ _ _ (by have := h.g5; omega)).trans h.t, h.g5⟩
theorem ChT.set {w W : World} {a : AH} {g : Nat} {z no : Int} (h : ChT w a g z no W) {b : Nat} (hb : b = w.heap.size + 1 + 1 ∨ b = w.heap.size + 1 + 1 + 1 ∨ b = w.heap.size + 1 + 1 + 1 + 1) (v : Value) : ChT w a g z no (W.setCell ⟨b, 0, none⟩ v) :=
  ⟨h.ch.wset hb v, ((grown_setCell1 W b 0 v).block _ (lt_heap h.t) (fun e => by have := h.g5; injection e with e; omega)).trans h.t, h.g5⟩
theorem assert_wrong (z no : Int) (W : World) : Sem.run Tryz.prog (Instr.typeAssert (wrongV z no) 20 79 true) W = .ok (.tuple #[.agg #[.int .i64 z, .int .i64 no], .bool true]) W := by
  simp [Instr.typeAssert, run_underlying Tryz.underlying79, typeInfo]
set_option maxHeartbeats 4000000 in
theorem check1_catch {w : World} {a : AH} {z no : Int} (older : List PanicEntry) {W : World} (h : ChS w a W) :
    CallsD Tryz.prog 37 #[.pointer (some ⟨w.heap.size + 1, 0, none⟩), .pointer (some ⟨w.heap.size + 1 + 1, 0, none⟩), .pointer (some ⟨w.heap.size + 1 + 1 + 1, 0, none⟩), .pointer (some ⟨w.heap.size + 1 + 1 + 1 + 1, 0, none⟩)] (.panicking ({ v := wrongV z no, recovered := false } :: older)) W fun e u' w' =>
      e = .returned (.tuple #[]) ∧ u' = .panicking ({ v := wrongV z no, recovered := true } :: older) ∧ ChR w a #[.int .u8 0, .int .i64 0, .slice none 0 0, .slice none 0 0] (.slice none 0 0) (.int .i64 z) (.int .i64 no) w' := by
  have hta := assert_wrong z no
  have HH := hid h
  have HAL := hid (heap_alloc_new W (.cells #[.int .i64 0, .int .i64 0] 79))
  have HT : Hid (ChT w a W.heap.size z no (W.alloc (.cells #[.int .i64 z, .int .i64 no] 79))) := ⟨h.step ((Below.refl _ _).alloc (Nat.le_refl _) _), heap_alloc_new W _, h.size⟩
  clear h
  refine callsD_of_wpS Tryz.func37 rfl fun c₀ cs hu => ?_
  apply wpS_seq
  apply wpS_region
  simp [wpOpsS, go_sem, recoverD, hu, Tryz.ntmps37, Exit.thenS]
  refine wpS_of_wp ?_
  simp only [List.size_toArray, List.length_cons, List.length_nil, Nat.reduceAdd, Nat.reduceSub, Array.replicate_succ, Array.replicate_zero, List.push_toArray, List.append_toArray, List.nil_append, List.cons_append, zA, zB, zC]
  go_upto_region 7 with fail
  obtain ⟨g, hg⟩ : ∃ g, W.heap.size = g := ⟨_, rfl⟩
  rw [hg] at HT ⊢
  generalize (W.alloc (.cells #[.int .i64 z, .int .i64 no] 79)) = W2 at *
  clear hg HAL HH
  refine wp_region_held_drew (S := fun W' => ChT w a g z no W') (by kernel_rfl) ?_ (fun hHeld => ?_)
  · exact HT.out.drew
  refine tk (i := 0) (oi := ⟨some 13, _, _, _, _, none⟩) (v := ?_) rfl (Or.inl ⟨by rfl, ?_⟩) ?_
  rotate_left; · intro w h; go_simp; try with_reducible rfl
  try simp only [Act.put, zA, zB, zC]
  refine tk (i := 1) (oi := ⟨some 14, _, _, _, _, none⟩) (v := ?_) rfl (Or.inl ⟨by rfl, ?_⟩) ?_
  rotate_left; · intro w h; go_simp; try with_reducible rfl
  try simp only [Act.put, zA, zB, zC]
  refine tk (i := 2) (oi := ⟨some 15, _, _, _, _, none⟩) (v := ?_) rfl (Or.inl ⟨by rfl, ?_⟩) ?_
  rotate_left
  · intro w hSw; (try dsimp only at hSw); have q0 : w.cell? ⟨g, 0, none⟩ = some (.int .i64 z) := (by rw [Lib.cell_of_heap hSw.t]; rfl); go_simp; try with_reducible rfl
  try simp only [Act.put, zA, zB, zC]
  refine tk (i := 3) (oi := ⟨some 16, _, _, _, _, none⟩) (v := ?_) rfl (Or.inl ⟨by rfl, ?_⟩) ?_
  rotate_left; · intro w h; go_simp; try with_reducible rfl
  try simp only [Act.put, zA, zB, zC]
  refine tk (i := 4) (oi := ⟨some 17, _, _, _, _, none⟩) (v := ?_) rfl (Or.inl ⟨by rfl, ?_⟩) ?_
  rotate_left
  · intro w hSw; (try dsimp only at hSw); have q1 : w.cell? ⟨g, 1, none⟩ = some (.int .i64 no) := (by rw [Lib.cell_of_heap hSw.t]; rfl); go_simp; try with_reducible rfl
  try simp only [Act.put, zA, zB, zC]
  refine wpAnyH_ready (rs := [5]) (by kernel_rfl) (by simp) ?_
  refine AllReadyH.cons (o := ⟨none, _, _, _, _, none⟩) rfl (fun K hK => ?_) AllReadyH.nil
  refine step_store4g (by rfl) _ _ _ (by rfl) hHeld.ch.o #[.int .u8 0, .int .i64 0, .slice none 0 0, .slice none 0 0] (by rfl) (by rfl) rfl (by simp [Value.oneCell']) (by kernel_rfl) ?_
  refine hK.out _ _ ?_ (fun hNew => ?_)
  · (try dsimp only); exact hHeld.w1 rfl
  clear hHeld hK K; have hHeld := hNew; clear hNew
  try simp only [Act.put, zA, zB, zC]
  refine wpAnyH_ready (rs := [6]) (by kernel_rfl) (by simp) ?_
  refine AllReadyH.cons (o := ⟨none, _, _, _, _, none⟩) rfl (fun K hK => ?_) AllReadyH.nil
  obtain ⟨v2, hv2⟩ := hHeld.ch.m
  obtain ⟨q2, f2⟩ := cell1 hv2
  clear hv2
  go_simp
  clear q2 f2
  refine hK.out _ _ ?_ (fun hNew => ?_)
  · (try dsimp only); exact hHeld.set (.inl rfl) _
  clear hHeld hK K; have hHeld := hNew; clear hNew
  try simp only [Act.put, zA, zB, zC]
  refine wpAnyH_ready (rs := [7]) (by kernel_rfl) (by simp) ?_
  refine AllReadyH.cons (o := ⟨none, _, _, _, _, none⟩) rfl (fun K hK => ?_) AllReadyH.nil
  obtain ⟨v3, hv3⟩ := hHeld.ch.at_
  obtain ⟨q3, f3⟩ := cell1 hv3
  clear hv3
  go_simp
  clear q3 f3
  refine hK.out _ _ ?_ (fun hNew => ?_)
  · (try dsimp only); exact hHeld.set (.inr (.inl rfl)) _
  clear hHeld hK K; have hHeld := hNew; clear hNew
  try simp only [Act.put, zA, zB, zC]
  refine wpAnyH_ready (rs := [8]) (by kernel_rfl) (by simp) ?_
  refine AllReadyH.cons (o := ⟨none, _, _, _, _, none⟩) rfl (fun K hK => ?_) AllReadyH.nil
  obtain ⟨v4, hv4⟩ := hHeld.ch.e
  obtain ⟨q4, f4⟩ := cell1 hv4
  clear hv4
  go_simp
  clear q4 f4
  refine hK.out _ _ ?_ (fun hNew => ?_)
  · (try dsimp only); exact hHeld.set (.inr (.inr rfl)) _
  clear hHeld hK K; have hHeld := hNew; clear hNew
  try simp only [Act.put, zA, zB, zC]
  refine wpAnyH_done (by kernel_rfl) ?_ _
  clear hHeld
  simp only [Exit.inBlock]
  refine (show bodyPostS Tryz.prog Tryz.f37 c₀ _ _ Exit.normal _ _ _ from ?_)
  cases c₀
  simp [bodyPostS, results, Tryz.results37]
  exact HT.out.drew.ch.fill rfl _ _ _
set_option maxHeartbeats 4000000 in
theorem check1_idle (args : Array Value) (h4 : ∃ a b c d, args = #[a, b, c, d]) (W : World) :
    CallsD Tryz.prog 37 args .returning W fun e u' w' => e = .returned (.tuple #[]) ∧ u' = .returning ∧ w' = W := by
  obtain ⟨x1, x2, x3, x4, rfl⟩ := h4
  refine callsD_of_wpS Tryz.func37 rfl fun c₀ cs hu => ?_
  apply wpS_seq
  apply wpS_region
  simp [wpOpsS, go_sem, recoverD, hu, Tryz.ntmps37, Exit.thenS]
  refine wpS_of_wp ?_
  simp only [List.size_toArray, List.length_cons, List.length_nil, Nat.reduceAdd, Nat.reduceSub, Array.replicate_succ, Array.replicate_zero, List.push_toArray, List.append_toArray, List.nil_append, List.cons_append, zA, zB, zC]
  go_wp2_with fail
  cases c₀
  simp_all [bodyPostS, results, Tryz.results37]
end
section
open Go.RowKit
set_option maxHeartbeats 4000000 in
theorem inner_fn {w0 w : World} {S : Nat → Prop} {a : AH} {p q r : Option Addr} {n c m mc rn rc : Nat} {env : List BV} {rhos : List Int} {acc : List RV} {i : Int} (hE : EnvAt w0 w S p n c env) (hq : IsRow encN 1 w q m mc rhos) (ha : AH.Own w a) (ha0 : AH.Own w0 a) (hS : ∀ b, w.heap.size ≤ b → S b) (hty : ∀ b ∈ usesR a.ty, S b) (hn : n ≤ 900000) (hm : m ≤ 900000) (hk : a.kind = 11) :
    Calls Tryz.prog 98 #[.agg #[.slice p n c, .slice q m mc], aggT a, .int .i64 i, .slice r rn rc] w (OutI w0 w S n m (innerE (erE env) a.plain i.toNat (erL acc)) (innerR rhos a.plain i.toNat)) := by
  have HX := hid (ins_new w a (.slice p n c) (.slice q m mc))
  have HE := hid hE
  have HQ := hid hq
  have HA := hid ha
  have HA0 := hid ha0
  have HS := hid hS
  have HT := hid hty
  have hc0 := HX.out.b.b1.c 0 _ rfl
  have e11 : (a.kind == 11) = true := by simp [hk]
  have HRE : Hid (innerE (erE env) a.plain i.toNat (erL acc) = erE env ++ [⟨a.arg, a.ty.er, none⟩]) := by
    show _ = _
    unfold innerE
    simp [show a.plain.kind = 11 from hk]
    try first | rfl | exact ⟨rfl, rfl⟩
  have HRR : Hid (innerR rhos a.plain i.toNat = rhos) := by
    show _ = _
    unfold innerR
    simp [show a.plain.kind = 11 from hk]
  rw [HRE.out, HRR.out]
  clear hE hq ha ha0 hS hty hk
  have hc5 := HX.out.b.b1.c 5 _ rfl
  go_enter Tryz.func98, Tryz.ntmps98
  go_upto_region 2 with fail
  generalize (((w.alloc (.cells #[.slice p n c, .slice q m mc] 84)).alloc (boxA a)).alloc (.cells #[.slice none 0 0, .slice none 0 0] 84)) = W1 at *
  go_wp2_with (first
    | (refine wpList_load_row rfl 84 _ rfl w.heap.size rfl 84 _ (0, 0) _ HX.out.b.b0 Tryz.underlying84 rfl (by kernel_rfl) ?_)
    | (refine wpList_load_mid rfl 28 _ rfl (w.heap.size + 1) 10 rfl [.int .u8 a.ty.head.kind, .int .i64 a.ty.head.rho, .slice a.ty.head.ep a.ty.head.en a.ty.head.ec, .slice a.ty.head.kp a.ty.head.kn a.ty.head.kc] _ (range_part' HX.out.b.b1 10 4 rfl) Tryz.underlying28 rfl (by kernel_rfl) ?_))
  refine (scope_with_any (HE.out.row.below (bel_alloc HX.out.below _)) q m mc (row_made encBV_len (by omega) W1 145 [⟨a.arg, a.ty, none⟩] 1 _ rfl rfl (by decide)) (by omega)).mono ?_
  rintro e w2 ⟨p', c', rfl, hrow, hb, hwh⟩
  have HX2 := hid (HX.out.step (bel_step (bel_alloc (Below.refl _ _) _) hb))
  have HR2 := hid hrow
  have HF2 := hid hwh
  clear hrow hwh
  go_wp2_with (refine wpList_store_row rfl 84 _ _ rfl (w.heap.size + 2) #[.slice p' (n + 1) c', .slice q m mc] rfl rfl 84 _ HX2.out.res.choose_spec.2 (by kernel_rfl) (by rw [HX2.out.res.choose_spec.1]; rfl) (by simp [Value.oneCell']) ?_)
  refine bodyPost_ret (results_cell_row rfl _ _ _ _ _ _ _ rfl (HX2.out.heap _) Tryz.underlying84 rfl (by kernel_rfl)) rfl ?_
  refine in_out HX2.out HS.out HR2.out (fun _ ad hp => ?_) (fun z hz => ?_) (by simp [erE, BV.er]) (HQ.out.below HX2.out.below) (fun hl ad hp => ?_) (by omega) (by omega)
  · rcases HF2.out with ⟨h1, _⟩ | h1
    · cases h1
    · have h2 := h1 ad hp
      have h3 := HX.out.size
      simp at h2
      omega
  · rcases List.mem_append.1 hz with hz | hz
    · have ho := (HE.out.each z hz)
      refine ⟨(ho.below HX2.out.below).weak (fun x hx => .inl ⟨lies_uses _ ho.ty x hx, ho.uses x hx⟩), fun a' g e => ?_⟩
      have := (ho.fn a' g e).2.2
      omega
    · rw [List.mem_singleton] at hz
      subst hz
      exact ⟨⟨LR.lies_below HX2.out.below _ HA.out.ty, fun x hx => .inl ⟨lies_uses _ HA.out.ty x hx, HT.out x hx⟩, fun a' g e => (nomatch e), HA.out.arg⟩, fun a' g e => (nomatch e)⟩
  · have := rowE_lt HQ.out.row hl hp
    omega
set_option maxHeartbeats 4000000 in
theorem inner_handle {w0 w : World} {S : Nat → Prop} {a : AH} {p q r : Option Addr} {n c m mc rn rc : Nat} {env : List BV} {rhos : List Int} {acc : List RV} {i : Int} (hE : EnvAt w0 w S p n c env) (hq : IsRow encN 1 w q m mc rhos) (ha : AH.Own w a) (ha0 : AH.Own w0 a) (hS : ∀ b, w.heap.size ≤ b → S b) (hty : ∀ b ∈ usesR a.ty, S b) (hn : n ≤ 900000) (hm : m ≤ 900000) (hk : a.kind = 16) (hi : i = 1) :
    Calls Tryz.prog 98 #[.agg #[.slice p n c, .slice q m mc], aggT a, .int .i64 i, .slice r rn rc] w (OutI w0 w S n m (innerE (erE env) a.plain i.toNat (erL acc)) (innerR rhos a.plain i.toNat)) := by
  have HX := hid (ins_new w a (.slice p n c) (.slice q m mc))
  have HE := hid hE
  have HQ := hid hq
  have HA := hid ha
  have HA0 := hid ha0
  have HS := hid hS
  have HT := hid hty
  have hc0 := HX.out.b.b1.c 0 _ rfl
  have e11 : (a.kind == 11) = false := by simp [hk]
  have e12 : (a.kind == 12) = false := by simp [hk]
  have e13 : (a.kind == 13) = false := by simp [hk]
  have e16 : (a.kind == 16) = true := by simp [hk]
  have HRE : Hid (innerE (erE env) a.plain i.toNat (erL acc) = erE env ++ [⟨a.arg, tInt, none⟩]) := by
    show _ = _
    unfold innerE
    simp [show a.plain.kind = 16 from hk, hi]
    try first | rfl | exact ⟨rfl, rfl⟩
  have HRR : Hid (innerR rhos a.plain i.toNat = rhos) := by
    show _ = _
    unfold innerR
    simp [show a.plain.kind = 16 from hk, hi]
  rw [HRE.out, HRR.out]
  clear hE hq ha ha0 hS hty hk
  subst hi
  have hc5 := HX.out.b.b1.c 5 _ rfl
  go_enter Tryz.func98, Tryz.ntmps98
  go_upto_region 10 with fail
  generalize (((w.alloc (.cells #[.slice p n c, .slice q m mc] 84)).alloc (boxA a)).alloc (.cells #[.slice none 0 0, .slice none 0 0] 84)) = W1 at *
  go_wp2_with (first
    | (refine wpList_load_row rfl 84 _ rfl w.heap.size rfl 84 _ (0, 0) _ HX.out.b.b0 Tryz.underlying84 rfl (by kernel_rfl) ?_)
    | (refine wpList_load_mid rfl 28 _ rfl (w.heap.size + 1) 10 rfl [.int .u8 a.ty.head.kind, .int .i64 a.ty.head.rho, .slice a.ty.head.ep a.ty.head.en a.ty.head.ec, .slice a.ty.head.kp a.ty.head.kn a.ty.head.kc] _ (range_part' HX.out.b.b1 10 4 rfl) Tryz.underlying28 rfl (by kernel_rfl) ?_))
  refine (scope_with_any (HE.out.row.below (bel_alloc HX.out.below _)) q m mc (row_made encBV_len (by omega) W1 145 [⟨a.arg, (.node ⟨1, 0, none, 0, 0, [], none, 0, 0⟩ []), none⟩] 1 _ rfl rfl (by decide)) (by omega)).mono ?_
  rintro e w2 ⟨p', c', rfl, hrow, hb, hwh⟩
  have HX2 := hid (HX.out.step (bel_step (bel_alloc (Below.refl _ _) _) hb))
  have HR2 := hid hrow
  have HF2 := hid hwh
  clear hrow hwh
  go_wp2_with (refine wpList_store_row rfl 84 _ _ rfl (w.heap.size + 2) #[.slice p' (n + 1) c', .slice q m mc] rfl rfl 84 _ HX2.out.res.choose_spec.2 (by kernel_rfl) (by rw [HX2.out.res.choose_spec.1]; rfl) (by simp [Value.oneCell']) ?_)
  refine bodyPost_ret (results_cell_row rfl _ _ _ _ _ _ _ rfl (HX2.out.heap _) Tryz.underlying84 rfl (by kernel_rfl)) rfl ?_
  refine in_out HX2.out HS.out HR2.out (fun _ ad hp => ?_) (fun z hz => ?_) (by simp [erE, BV.er]; rfl) (HQ.out.below HX2.out.below) (fun hl ad hp => ?_) (by omega) (by omega)
  · rcases HF2.out with ⟨h1, _⟩ | h1
    · cases h1
    · have h2 := h1 ad hp
      have h3 := HX.out.size
      simp at h2
      omega
  · rcases List.mem_append.1 hz with hz | hz
    · have ho := (HE.out.each z hz)
      refine ⟨(ho.below HX2.out.below).weak (fun x hx => .inl ⟨lies_uses _ ho.ty x hx, ho.uses x hx⟩), fun a' g e => ?_⟩
      have := (ho.fn a' g e).2.2
      omega
    · rw [List.mem_singleton] at hz
      subst hz
      exact ⟨⟨(bv_tint w2 (Si w S)).1, (bv_tint w2 (Si w S)).2, fun a' g e => (nomatch e), HA.out.arg⟩, fun a' g e => (nomatch e)⟩
  · have := rowE_lt HQ.out.row hl hp
    omega
set_option maxHeartbeats 4000000 in
theorem inner_letrec {w0 w : World} {S : Nat → Prop} {a : AH} {p q r : Option Addr} {n c m mc rn rc : Nat} {env : List BV} {rhos : List Int} {acc : List RV} {i : Int} (hE : EnvAt w0 w S p n c env) (hq : IsRow encN 1 w q m mc rhos) (ha : AH.Own w a) (ha0 : AH.Own w0 a) (hS : ∀ b, w.heap.size ≤ b → S b) (hty : ∀ b ∈ usesR a.ty, S b) (hn : n ≤ 900000) (hm : m ≤ 900000) (hk : a.kind = 13) (hi0 : 0 ≤ i) (hi : i ≠ 0) :
    Calls Tryz.prog 98 #[.agg #[.slice p n c, .slice q m mc], aggT a, .int .i64 i, .slice r rn rc] w (OutI w0 w S n m (innerE (erE env) a.plain i.toNat (erL acc)) (innerR rhos a.plain i.toNat)) := by
  have HX := hid (ins_new w a (.slice p n c) (.slice q m mc))
  have HE := hid hE
  have HQ := hid hq
  have HA := hid ha
  have HA0 := hid ha0
  have HS := hid hS
  have HT := hid hty
  have hc0 := HX.out.b.b1.c 0 _ rfl
  have e11 : (a.kind == 11) = false := by simp [hk]
  have e12 : (a.kind == 12) = false := by simp [hk]
  have e13 : (a.kind == 13) = true := by simp [hk]
  have ei0 : (i == 0) = false := by simp [hi]
  have hin : ¬ i.toNat = 0 := by omega
  have HRE : Hid (innerE (erE env) a.plain i.toNat (erL acc) = erE env ++ [⟨a.name, tZero, some a.plain⟩]) := by
    show _ = _
    unfold innerE
    simp [show a.plain.kind = 13 from hk, hin]
    try first | rfl | exact ⟨rfl, rfl⟩
  have HRR : Hid (innerR rhos a.plain i.toNat = rhos) := by
    show _ = _
    unfold innerR
    simp [show a.plain.kind = 13 from hk, hin]
  rw [HRE.out, HRR.out]
  clear hE hq ha ha0 hS hty hk
  have hc5 := HX.out.b.b1.c 4 _ rfl
  go_enter Tryz.func98, Tryz.ntmps98
  go_upto_region 8 with fail
  generalize (((w.alloc (.cells #[.slice p n c, .slice q m mc] 84)).alloc (boxA a)).alloc (.cells #[.slice none 0 0, .slice none 0 0] 84)) = W1 at *
  go_wp2_with (first
    | (refine wpList_load_row rfl 84 _ rfl w.heap.size rfl 84 _ (0, 0) _ HX.out.b.b0 Tryz.underlying84 rfl (by kernel_rfl) ?_)
    | (refine wpList_load_mid rfl 28 _ rfl (w.heap.size + 1) 10 rfl [.int .u8 a.ty.head.kind, .int .i64 a.ty.head.rho, .slice a.ty.head.ep a.ty.head.en a.ty.head.ec, .slice a.ty.head.kp a.ty.head.kn a.ty.head.kc] _ (range_part' HX.out.b.b1 10 4 rfl) Tryz.underlying28 rfl (by kernel_rfl) ?_))
  refine (scope_with_any (HE.out.row.below (bel_alloc HX.out.below _)) q m mc (row_made encBV_len (by omega) W1 145 [⟨a.name, (.node ⟨0, 0, none, 0, 0, [], none, 0, 0⟩ []), some (a, w.heap.size + 1)⟩] 1 _ rfl rfl (by decide)) (by omega)).mono ?_
  rintro e w2 ⟨p', c', rfl, hrow, hb, hwh⟩
  have HX2 := hid (HX.out.step (bel_step (bel_alloc (Below.refl _ _) _) hb))
  have HR2 := hid hrow
  have HF2 := hid hwh
  clear hrow hwh
  go_wp2_with (refine wpList_store_row rfl 84 _ _ rfl (w.heap.size + 2) #[.slice p' (n + 1) c', .slice q m mc] rfl rfl 84 _ HX2.out.res.choose_spec.2 (by kernel_rfl) (by rw [HX2.out.res.choose_spec.1]; rfl) (by simp [Value.oneCell']) ?_)
  refine bodyPost_ret (results_cell_row rfl _ _ _ _ _ _ _ rfl (HX2.out.heap _) Tryz.underlying84 rfl (by kernel_rfl)) rfl ?_
  refine in_out HX2.out HS.out HR2.out (fun _ ad hp => ?_) (fun z hz => ?_) (by simp [erE, BV.er]; rfl) (HQ.out.below HX2.out.below) (fun hl ad hp => ?_) (by omega) (by omega)
  · rcases HF2.out with ⟨h1, _⟩ | h1
    · cases h1
    · have h2 := h1 ad hp
      have h3 := HX.out.size
      simp at h2
      omega
  · rcases List.mem_append.1 hz with hz | hz
    · have ho := (HE.out.each z hz)
      refine ⟨(ho.below HX2.out.below).weak (fun x hx => .inl ⟨lies_uses _ ho.ty x hx, ho.uses x hx⟩), fun a' g e => ?_⟩
      have := (ho.fn a' g e).2.2
      omega
    · rw [List.mem_singleton] at hz
      subst hz
      exact ⟨⟨(bv_tzero w2 (Si w S)).1, (bv_tzero w2 (Si w S)).2, fun a' g e => (by cases e; exact ⟨⟨fun i v hv => HX2.out.b.b1.c (0 + i) v (by simpa using hv)⟩, HA0.out, by have := HX2.out.size; omega⟩), HA.out.name⟩, fun a' g e => (by cases e; omega)⟩
  · have := rowE_lt HQ.out.row hl hp
    omega
end
section
open Go.RowKit
set_option maxHeartbeats 4000000 in
theorem inner_region {w0 w : World} {S : Nat → Prop} {a : AH} {p q r : Option Addr} {n c m mc rn rc : Nat} {env : List BV} {rhos : List Int} {acc : List RV} {i : Int} (hE : EnvAt w0 w S p n c env) (hq : IsRow encN 1 w q m mc rhos) (ha : AH.Own w a) (ha0 : AH.Own w0 a) (hS : ∀ b, w.heap.size ≤ b → S b) (hty : ∀ b ∈ usesR a.ty, S b) (hn : n ≤ 900000) (hm : m ≤ 900000) (hk : a.kind = 17) :
    Calls Tryz.prog 98 #[.agg #[.slice p n c, .slice q m mc], aggT a, .int .i64 i, .slice r rn rc] w (OutI w0 w S n m (innerE (erE env) a.plain i.toNat (erL acc)) (innerR rhos a.plain i.toNat)) := by
  have HX := hid (ins_new w a (.slice p n c) (.slice q m mc))
  have HE := hid hE
  have HQ := hid hq
  have HA := hid ha
  have HA0 := hid ha0
  have HS := hid hS
  have HT := hid hty
  have hc0 := HX.out.b.b1.c 0 _ rfl
  have e11 : (a.kind == 11) = false := by simp [hk]
  have e12 : (a.kind == 12) = false := by simp [hk]
  have e13 : (a.kind == 13) = false := by simp [hk]
  have e16 : (a.kind == 16) = false := by simp [hk]
  have e17 : (a.kind == 17) = true := by simp [hk]
  have HRE : Hid (innerE (erE env) a.plain i.toNat (erL acc) = erE env) := by
    show _ = _
    unfold innerE
    simp [show a.plain.kind = 17 from hk]
  have HRR : Hid (innerR rhos a.plain i.toNat = rhos ++ [a.rho]) := by
    show _ = _
    unfold innerR
    simp [show a.plain.kind = 17 from hk]
    try rfl
  rw [HRE.out, HRR.out]
  clear hE hq ha ha0 hS hty hk
  have hc7 := HX.out.b.b1.c 7 _ rfl
  go_enter Tryz.func98, Tryz.ntmps98
  go_upto_region 12 with fail
  generalize (((w.alloc (.cells #[.slice p n c, .slice q m mc] 84)).alloc (boxA a)).alloc (.cells #[.slice none 0 0, .slice none 0 0] 84)) = W1 at *
  go_wp2_with (refine wpList_load_row rfl 84 _ rfl w.heap.size rfl 84 _ (0, 0) _ HX.out.b.b0 Tryz.underlying84 rfl (by kernel_rfl) ?_)
  refine (scope_open_any (HQ.out.below (bel_alloc HX.out.below _)) p n c (row_made encN_len (by omega) W1 3 [a.rho] 1 _ rfl rfl (by decide)) (by omega)).mono ?_
  rintro e w2 ⟨p', c', rfl, hrow, hb, hwh⟩
  have HX2 := hid (HX.out.step (bel_step (bel_alloc (Below.refl _ _) _) hb))
  have HR2 := hid hrow
  have HF2 := hid hwh
  clear hrow hwh
  go_wp2_with (refine wpList_store_row rfl 84 _ _ rfl (w.heap.size + 2) #[.slice p n c, .slice p' (m + 1) c'] rfl rfl 84 _ HX2.out.res.choose_spec.2 (by kernel_rfl) (by rw [HX2.out.res.choose_spec.1]; rfl) (by simp [Value.oneCell']) ?_)
  refine bodyPost_ret (results_cell_row rfl _ _ _ _ _ _ _ rfl (HX2.out.heap _) Tryz.underlying84 rfl (by kernel_rfl)) rfl ?_
  refine in_out HX2.out HS.out (HE.out.row.below HX2.out.below) (fun hl ad hp => ?_) (fun z hz => ?_) rfl HR2.out (fun _ ad hp => ?_) (by omega) (by omega)
  · have := rowE_lt HE.out.row.row hl hp
    omega
  · have ho := (HE.out.each z hz)
    refine ⟨(ho.below HX2.out.below).weak (fun x hx => .inl ⟨lies_uses _ ho.ty x hx, ho.uses x hx⟩), fun a' g e => ?_⟩
    have := (ho.fn a' g e).2.2
    omega
  · rcases HF2.out with ⟨h1, _⟩ | h1
    · cases h1
    · have h2 := h1 ad hp
      have h3 := HX.out.size
      simp at h2
      omega
end
section
open Go.RowKit
set_option maxHeartbeats 4000000 in
theorem inner_let0 {w0 w : World} {S : Nat → Prop} {a : AH} {p q r : Option Addr} {n c m mc rn rc : Nat} {env : List BV} {rhos : List Int} {acc : List RV} {i : Int} (hE : EnvAt w0 w S p n c env) (hq : IsRow encN 1 w q m mc rhos) (ha : AH.Own w a) (ha0 : AH.Own w0 a) (hS : ∀ b, w.heap.size ≤ b → S b) (hty : ∀ b ∈ usesR a.ty, S b) (hn : n ≤ 900000) (hm : m ≤ 900000) (hk : a.kind = 12) (hi0 : 0 ≤ i) (hi : i ≠ 1) :
    Calls Tryz.prog 98 #[.agg #[.slice p n c, .slice q m mc], aggT a, .int .i64 i, .slice r rn rc] w (OutI w0 w S n m (innerE (erE env) a.plain i.toNat (erL acc)) (innerR rhos a.plain i.toNat)) := by
  have HX := hid (ins_new w a (.slice p n c) (.slice q m mc))
  have HE := hid hE
  have HQ := hid hq
  have HA := hid ha
  have HA0 := hid ha0
  have HS := hid hS
  have HT := hid hty
  have hc0 := HX.out.b.b1.c 0 _ rfl
  have e11 : (a.kind == 11) = false := by simp [hk]
  have e12 : (a.kind == 12) = true := by simp [hk]
  have e13 : (a.kind == 13) = false := by simp [hk]
  have e16 : (a.kind == 16) = false := by simp [hk]
  have e17 : (a.kind == 17) = false := by simp [hk]
  have ei1 : (i == 1) = false := by simp [hi]
  have hin : ¬ i.toNat = 1 := by omega
  have HRE : Hid (innerE (erE env) a.plain i.toNat (erL acc) = erE env) := by
    show _ = _
    unfold innerE
    simp [show a.plain.kind = a.kind from rfl, hk, hin]
  have HRR : Hid (innerR rhos a.plain i.toNat = rhos) := by
    show _ = _
    unfold innerR
    simp [show a.plain.kind = a.kind from rfl, hk, hin]
  rw [HRE.out, HRR.out]
  clear hE hq ha ha0 hS hty hk hin
  go_enter Tryz.func98, Tryz.ntmps98
  go_upto_region 13 with fail
  generalize (((w.alloc (.cells #[.slice p n c, .slice q m mc] 84)).alloc (boxA a)).alloc (.cells #[.slice none 0 0, .slice none 0 0] 84)) = W1 at *
  go_wp2_with (first
    | (refine wpList_load_row rfl 84 _ rfl w.heap.size rfl 84 _ (0, 0) _ HX.out.b.b0 Tryz.underlying84 rfl (by kernel_rfl) ?_)
    | (refine wpList_store_row rfl 84 _ _ rfl (w.heap.size + 2) #[.slice p n c, .slice q m mc] rfl rfl 84 _ HX.out.res.choose_spec.2 (by kernel_rfl) (by rw [HX.out.res.choose_spec.1]; rfl) (by simp [Value.oneCell']) ?_))
  refine bodyPost_ret (results_cell_row rfl _ _ _ _ _ _ _ rfl (HX.out.heap _) Tryz.underlying84 rfl (by kernel_rfl)) rfl ?_
  refine in_out HX.out HS.out (HE.out.row.below HX.out.below) (fun hl ad hp => ?_) (fun z hz => ?_) rfl (HQ.out.below HX.out.below) (fun hl ad hp => ?_) (by omega) (by omega)
  · have := rowE_lt HE.out.row.row hl hp
    omega
  · have ho := (HE.out.each z hz)
    refine ⟨(ho.below HX.out.below).weak (fun x hx => .inl ⟨lies_uses _ ho.ty x hx, ho.uses x hx⟩), fun a' g e => ?_⟩
    have := (ho.fn a' g e).2.2
    omega
  · have := rowE_lt HQ.out.row hl hp
    omega
set_option maxHeartbeats 4000000 in
theorem inner_handle0 {w0 w : World} {S : Nat → Prop} {a : AH} {p q r : Option Addr} {n c m mc rn rc : Nat} {env : List BV} {rhos : List Int} {acc : List RV} {i : Int} (hE : EnvAt w0 w S p n c env) (hq : IsRow encN 1 w q m mc rhos) (ha : AH.Own w a) (ha0 : AH.Own w0 a) (hS : ∀ b, w.heap.size ≤ b → S b) (hty : ∀ b ∈ usesR a.ty, S b) (hn : n ≤ 900000) (hm : m ≤ 900000) (hk : a.kind = 16) (hi0 : 0 ≤ i) (hi : i ≠ 1) :
    Calls Tryz.prog 98 #[.agg #[.slice p n c, .slice q m mc], aggT a, .int .i64 i, .slice r rn rc] w (OutI w0 w S n m (innerE (erE env) a.plain i.toNat (erL acc)) (innerR rhos a.plain i.toNat)) := by
  have HX := hid (ins_new w a (.slice p n c) (.slice q m mc))
  have HE := hid hE
  have HQ := hid hq
  have HA := hid ha
  have HA0 := hid ha0
  have HS := hid hS
  have HT := hid hty
  have hc0 := HX.out.b.b1.c 0 _ rfl
  have e11 : (a.kind == 11) = false := by simp [hk]
  have e12 : (a.kind == 12) = false := by simp [hk]
  have e13 : (a.kind == 13) = false := by simp [hk]
  have e16 : (a.kind == 16) = true := by simp [hk]
  have e17 : (a.kind == 17) = false := by simp [hk]
  have ei1 : (i == 1) = false := by simp [hi]
  have hin : ¬ i.toNat = 1 := by omega
  have HRE : Hid (innerE (erE env) a.plain i.toNat (erL acc) = erE env) := by
    show _ = _
    unfold innerE
    simp [show a.plain.kind = a.kind from rfl, hk, hin]
  have HRR : Hid (innerR rhos a.plain i.toNat = rhos) := by
    show _ = _
    unfold innerR
    simp [show a.plain.kind = a.kind from rfl, hk, hin]
  rw [HRE.out, HRR.out]
  clear hE hq ha ha0 hS hty hk hin
  go_enter Tryz.func98, Tryz.ntmps98
  go_upto_region 13 with fail
  generalize (((w.alloc (.cells #[.slice p n c, .slice q m mc] 84)).alloc (boxA a)).alloc (.cells #[.slice none 0 0, .slice none 0 0] 84)) = W1 at *
  go_wp2_with (first
    | (refine wpList_load_row rfl 84 _ rfl w.heap.size rfl 84 _ (0, 0) _ HX.out.b.b0 Tryz.underlying84 rfl (by kernel_rfl) ?_)
    | (refine wpList_store_row rfl 84 _ _ rfl (w.heap.size + 2) #[.slice p n c, .slice q m mc] rfl rfl 84 _ HX.out.res.choose_spec.2 (by kernel_rfl) (by rw [HX.out.res.choose_spec.1]; rfl) (by simp [Value.oneCell']) ?_))
  refine bodyPost_ret (results_cell_row rfl _ _ _ _ _ _ _ rfl (HX.out.heap _) Tryz.underlying84 rfl (by kernel_rfl)) rfl ?_
  refine in_out HX.out HS.out (HE.out.row.below HX.out.below) (fun hl ad hp => ?_) (fun z hz => ?_) rfl (HQ.out.below HX.out.below) (fun hl ad hp => ?_) (by omega) (by omega)
  · have := rowE_lt HE.out.row.row hl hp
    omega
  · have ho := (HE.out.each z hz)
    refine ⟨(ho.below HX.out.below).weak (fun x hx => .inl ⟨lies_uses _ ho.ty x hx, ho.uses x hx⟩), fun a' g e => ?_⟩
    have := (ho.fn a' g e).2.2
    omega
  · have := rowE_lt HQ.out.row hl hp
    omega
set_option maxHeartbeats 4000000 in
theorem inner_plain {w0 w : World} {S : Nat → Prop} {a : AH} {p q r : Option Addr} {n c m mc rn rc : Nat} {env : List BV} {rhos : List Int} {acc : List RV} {i : Int} (hE : EnvAt w0 w S p n c env) (hq : IsRow encN 1 w q m mc rhos) (ha : AH.Own w a) (ha0 : AH.Own w0 a) (hS : ∀ b, w.heap.size ≤ b → S b) (hty : ∀ b ∈ usesR a.ty, S b) (hn : n ≤ 900000) (hm : m ≤ 900000) (h11 : a.kind ≠ 11) (h12 : a.kind ≠ 12) (h13 : a.kind ≠ 13) (h16 : a.kind ≠ 16) (h17 : a.kind ≠ 17) :
    Calls Tryz.prog 98 #[.agg #[.slice p n c, .slice q m mc], aggT a, .int .i64 i, .slice r rn rc] w (OutI w0 w S n m (innerE (erE env) a.plain i.toNat (erL acc)) (innerR rhos a.plain i.toNat)) := by
  have HX := hid (ins_new w a (.slice p n c) (.slice q m mc))
  have HE := hid hE
  have HQ := hid hq
  have HA := hid ha
  have HA0 := hid ha0
  have HS := hid hS
  have HT := hid hty
  have hc0 := HX.out.b.b1.c 0 _ rfl
  have e11 : (a.kind == 11) = false := by simp [h11]
  have e12 : (a.kind == 12) = false := by simp [h12]
  have e13 : (a.kind == 13) = false := by simp [h13]
  have e16 : (a.kind == 16) = false := by simp [h16]
  have e17 : (a.kind == 17) = false := by simp [h17]
  have HRE : Hid (innerE (erE env) a.plain i.toNat (erL acc) = erE env) := by
    show _ = _
    unfold innerE
    simp [show a.plain.kind = a.kind from rfl, h11, h12, h13, h16, h17]
  have HRR : Hid (innerR rhos a.plain i.toNat = rhos) := by
    show _ = _
    unfold innerR
    simp [show a.plain.kind = a.kind from rfl, h11, h12, h13, h16, h17]
  rw [HRE.out, HRR.out]
  clear hE hq ha ha0 hS hty h11 h12 h13 h16 h17
  go_enter Tryz.func98, Tryz.ntmps98
  go_upto_region 13 with fail
  generalize (((w.alloc (.cells #[.slice p n c, .slice q m mc] 84)).alloc (boxA a)).alloc (.cells #[.slice none 0 0, .slice none 0 0] 84)) = W1 at *
  go_wp2_with (first
    | (refine wpList_load_row rfl 84 _ rfl w.heap.size rfl 84 _ (0, 0) _ HX.out.b.b0 Tryz.underlying84 rfl (by kernel_rfl) ?_)
    | (refine wpList_store_row rfl 84 _ _ rfl (w.heap.size + 2) #[.slice p n c, .slice q m mc] rfl rfl 84 _ HX.out.res.choose_spec.2 (by kernel_rfl) (by rw [HX.out.res.choose_spec.1]; rfl) (by simp [Value.oneCell']) ?_))
  refine bodyPost_ret (results_cell_row rfl _ _ _ _ _ _ _ rfl (HX.out.heap _) Tryz.underlying84 rfl (by kernel_rfl)) rfl ?_
  refine in_out HX.out HS.out (HE.out.row.below HX.out.below) (fun hl ad hp => ?_) (fun z hz => ?_) rfl (HQ.out.below HX.out.below) (fun hl ad hp => ?_) (by omega) (by omega)
  · have := rowE_lt HE.out.row.row hl hp
    omega
  · have ho := (HE.out.each z hz)
    refine ⟨(ho.below HX.out.below).weak (fun x hx => .inl ⟨lies_uses _ ho.ty x hx, ho.uses x hx⟩), fun a' g e => ?_⟩
    have := (ho.fn a' g e).2.2
    omega
  · have := rowE_lt HQ.out.row hl hp
    omega
end
end Go.Proofs.YtkdjnegfnhldpaaGreatDoor
