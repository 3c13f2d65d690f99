/- Part 25: Eas, Kd, Ke, Kl. -/
import Derived.Test.YtkdjnegfnhldpaaGreatDoorH15
import Derived.Deep.WholeRow
import Derived.Test.YtkdjnegfnhldpaaGreatDoorH19
import Derived.Test.YtkdjnegfnhldpaaGreatDoorH17
import Derived.Maps.OwnSet
import Derived.Test.YtkdjnegfnhldpaaGreatDoorH06
import Derived.Test.YtkdjnegfnhldpaaGreatDoorH21
set_option linter.unusedVariables false
set_option maxRecDepth 100000
set_option linter.unusedSimpArgs false
namespace Go.Proofs.YtkdjnegfnhldpaaGreatDoor
open Go.Lib (hid)
section
open Go.RowKit
structure GrownS (w w' : World) (R : Nat → Prop) : Prop where
  os : w'.os = w.os
  tape : w'.tape = w.tape
  output : w'.output = w.output
  size : w.heap.size ≤ w'.heap.size
  block : ∀ k, k < w.heap.size → ¬ R k → w'.heap[k]? = w.heap[k]?
theorem GrownS.refl (w : World) (R : Nat → Prop) : GrownS w w R := ⟨rfl, rfl, rfl, Nat.le_refl _, fun _ _ _ => rfl⟩
theorem GrownS.trans {a b c : World} {R : Nat → Prop} (h : GrownS a b R) (k : GrownS b c R) : GrownS a c R :=
  ⟨k.os.trans h.os, k.tape.trans h.tape, k.output.trans h.output, Nat.le_trans h.size k.size, fun i hi hne => (k.block i (Nat.lt_of_lt_of_le hi h.size) hne).trans (h.block i hi hne)⟩
theorem GrownS.of_below {w w' : World} (h : Below w.heap.size w w') (R : Nat → Prop) : GrownS w w' R := ⟨h.os, h.tape, h.output, h.size, fun k hk _ => h.block k hk⟩
theorem GrownS.alloc (w : World) (o : Obj) (R : Nat → Prop) : GrownS w (w.alloc o) R := .of_below ((Below.refl _ _).alloc (Nat.le_refl _) _) R
theorem GrownS.of_grown {w w' : World} {r : Option Nat} {R : Nat → Prop} (h : w.grownBy w' r) (hr : ∀ b, r = some b → R b) : GrownS w w' R := ⟨h.os, h.tape, h.output, h.size, fun k hk hn => h.block k hk (fun e => hn (hr k e.symm))⟩
theorem GrownS.cell {w w' : World} {R : Nat → Prop} (hg : GrownS w w' R) {a : Addr} {v : Value} (h : w.cell? a = some v) (hne : ¬ R a.block) : w'.cell? a = some v :=
  (World.cell?_of_block (hg.block a.block (World.block_lt_of_cell? w a h) hne)).trans h
theorem below_grownS {B : Nat} {a w w' : World} {R : Nat → Prop} (h : Below B a w) (hg : GrownS w w' R) (hB : B ≤ w.heap.size) (hr : ∀ k, R k → B ≤ k) : Below B a w' :=
  h.trans ⟨hg.os, hg.tape, hg.output, hg.size, fun k hk => hg.block k (by omega) (fun e => by have := hr k e; omega)⟩
structure FvS (w0 : World) (row : Nat → Prop) (g : Nat) (lb : Array Value) {σ : Type} (Inv : Nat → σ → World → Prop) (ok : AH → Prop) (st : AH → σ → Bool × σ) : Prop where
  eg : ∀ args w, (callFunc g args).run Tryz.prog w = .ok (.enter g args) w
  hb : ∀ b, row b → w0.heap.size ≤ b
  lt : ∀ b, row b → ∀ k s W, Inv k s W → b < W.heap.size
  inv : ∀ k s W W', Inv k s W → Below W.heap.size W W' → Inv k s W'
  less : ∀ k s W, Inv (k + 1) s W → Inv k s W
  call : ∀ k a s W, ok a → Below w0.heap.size w0 W → Inv (k + 1) s W → Calls Tryz.prog g (#[aggT a] ++ lb) W fun e w' => e = .returned (.bool (st a s).1) ∧ Inv k (st a s).2 w' ∧ GrownS W w' row
structure RowS (w0 W : World) (row : Nat → Prop) (p : Option Addr) (n c : Nat) (l : List PA) : Prop where
  arow : IsRow LA.encT 19 W p n c l
  free : l ≠ [] → ∀ ad, p = some ad → ¬ row ad.block
  each : ∀ t ∈ l, LA.lies w0 t
theorem RowTA.rowS {w0 W : World} {row : Nat → Prop} {p : Option Addr} {n c : Nat} {l : List PA} (h : RowTA w0 p n c l) (hb : Below w0.heap.size w0 W) (hr : ∀ b, row b → w0.heap.size ≤ b) : RowS w0 W row p n c l :=
  ⟨h.row.below hb, fun hl ad hp e => by
    have h1 := hr _ e
    rcases h.row.row with h0 | ⟨b, o, hp', hlt, _⟩
    · exact hl h0
    · rw [hp'] at hp; cases hp; exact absurd hlt (Nat.not_lt.2 h1), h.each⟩
def EachS (w0 : World) (row : Nat → Prop) (g : Nat) (lb : Array Value) {σ : Type} (Inv : Nat → σ → World → Prop) (ok : AH → Prop) (st : AH → σ → Bool × σ) (l : List PA) : Prop :=
  ∀ K p n c W, RowS w0 W row p n c l → (∀ a ∈ nodesL l, ok a) → ∀ s, Below w0.heap.size w0 W → Inv (K + (nodesL l).length) s W → Calls Tryz.prog 59 #[.func (.func g) #[] lb, .slice p n c] W fun e w' => e = .returned (.bool (stepAll st (nodesL l) s).1) ∧ Inv K (stepAll st (nodesL l) s).2 w' ∧ GrownS W w' row
theorem inv_less {σ : Type} {Inv : Nat → σ → World → Prop} (h : ∀ k s W, Inv (k + 1) s W → Inv k s W) {j k : Nat} {s : σ} {W : World} (hj : j ≤ k) : Inv k s W → Inv j s W := by
  obtain ⟨d, rfl⟩ := Nat.le.dest hj
  clear hj
  induction d with
  | zero => exact id
  | succ d ih => exact fun hi => ih (h _ _ _ hi)
theorem nodesL_drop {l : List PA} {k : Nat} {a : AH} {m : List PA} (hx : l[k]? = some (.node a m)) : (nodesL (l.drop k)).length = (nodesL (l.drop (k + 1))).length + (nodesL m).length + 1 := by
  have hlt := get_lt hx
  have hd : l.drop k = .node a m :: l.drop (k + 1) := by rw [List.drop_eq_getElem_cons hlt]; congr 1; rw [List.getElem?_eq_getElem hlt] at hx; exact Option.some.inj hx
  rw [hd]
  simp only [nodesL, List.map_cons, List.flatten_cons, List.flatMap_cons, List.length_append]
  rw [Rose.nodes_node]
  simp only [nodesL, List.length_cons]
  omega
set_option maxHeartbeats 4000000 in
theorem aterm_eachS_of {w0 : World} {row : Nat → Prop} {g : Nat} {lb : Array Value} {σ : Type} {Inv : Nat → σ → World → Prop} {ok : AH → Prop} {st : AH → σ → Bool × σ} (F : FvS w0 row g lb Inv ok st) (l : List PA)
    (ih : ∀ x ∈ l, EachS w0 row g lb Inv ok st x.kids) : EachS w0 row g lb Inv ok st l := by
  intro K p n c W hR hok s hbW hinv
  have eg := F.eg
  have HF := hid F
  have HI := hid ih
  have HR := hid hR
  have HOK := hid hok
  have HBW := hid hbW
  have HV := hid hinv
  have hnm : n ≤ 9223372036854775807 := hR.arow.max
  clear F ih hR hok hbW hinv
  go_enter Tryz.func59, Tryz.ntmps59
  go_wp2_with fail
  go_loopw [9] (fun i wr => ∃ (k : Nat) (S : Bool × σ), k ≤ n ∧ i = .int .i64 k ∧ Hid (stepAll st (nodesTo l k) s = S) ∧ S.1 = true ∧ Inv (K + (nodesL (l.drop k)).length) S.2 wr ∧ GrownS W wr row) (fun i _ => n - (intOf i).toNat)
  case atStart => exact ⟨0, (true, s), by omega, rfl, hid rfl, rfl, HV.out, GrownS.refl _ _⟩
  case round =>
    obtain ⟨k, S, hk, rfl, HS, hs, hiv, hg⟩ := hrel
    have HIV := hid hiv
    have HG := hid hg
    have HST := hid hs
    have HB := hid (below_grownS HBW.out hg HBW.out.size HF.out.hb)
    clear hiv hg hs
    by_cases hlt : k < n
    · obtain ⟨x, hx⟩ : ∃ x, l[k]? = some x := get_of_lt (by rw [HR.out.arow.len]; exact hlt)
      obtain ⟨b, o, hbo, hbl, hcs0⟩ := HR.out.arow.row.elem hx
      have hfree := HR.out.free (by intro e; rw [e] at hx; simp at hx) _ hbo
      have hcs : ∀ i u, (LA.encT x)[i]? = some u → wr.cell? ⟨b, o + k * 19 + i, none⟩ = some u := fun i u hu => HG.out.cell (hcs0 i u hu) hfree
      clear hcs0 hfree
      obtain ⟨a, m, hxe⟩ : ∃ a m, x = Rose.node a m := ⟨x.head, x.kids, Rose.eta x⟩
      subst hxe
      have HCS := hid (show CellsA wr b (o + k * 19) a from ⟨fun i u hu => hcs i u hu⟩)
      subst hbo
      have hE := List.mem_of_getElem? hx
      have HXK := hid (show EachS w0 row g lb Inv ok st m from HI.out _ hE)
      have HKR := hid (show RowTA w0 a.kp a.kn a.kc m from LA_kids (HR.out.each _ (List.mem_of_getElem? hx)))
      have HKO := hid (show ∀ a' ∈ nodesL m, ok a' from fun a' ha => HOK.out a' (mem_nodesL hE (by rw [nodes_kids]; exact List.mem_cons_of_mem _ ha)))
      have hoka : ok a := HOK.out a (mem_nodesL hE (by rw [nodes_kids]; exact List.mem_cons_self))
      have HSS := hid (show stepAll st (nodesTo l (k + 1)) s = if (st a S.2).1 then stepAll st (nodesL m) (st a S.2).2 else (false, (st a S.2).2) by
        have h := sa_step st s hx (by rw [HS.out]; exact HST.out)
        rw [HS.out] at h
        exact h)
      have hrem : K + (nodesL (l.drop k)).length = (K + (nodesL (l.drop (k + 1))).length + (nodesL m).length) + 1 := by rw [nodesL_drop hx]; omega
      rw [hrem] at HIV
      clear hx hbl hcs hE hrem
      have HBX := hid (boxA_new wr a)
      have hb1 : Below wr.heap.size wr (wr.alloc (boxA a)) := (Below.refl _ _).alloc (Nat.le_refl _) _
      have HB1 := hid (HB.out.trans (hb1.mono HB.out.size))
      have HIV1 := hid (HF.out.inv _ _ _ _ HIV.out hb1)
      have HCALL := hid (HF.out.call _ a S.2 _ hoka HB1.out HIV1.out)
      have HG1 := hid (HG.out.trans ((GrownS.alloc wr (boxA a) row)))
      clear hb1 hoka
      have hal : (wr.alloc (.cells #[.int .u8 0, .int .u8 0, .int .i64 0, .int .i64 0, .string ⟨#[]⟩, .string ⟨#[]⟩, .string ⟨#[]⟩, .int .i64 0, .slice none 0 0, .slice none 0 0, .int .u8 0, .int .i64 0, .slice none 0 0, .slice none 0 0, .int .u8 0, .int .i64 0, .slice none 0 0, .slice none 0 0, .slice none 0 0] 31)).heap[wr.heap.size]? = some (.cells #[.int .u8 0, .int .u8 0, .int .i64 0, .int .i64 0, .string ⟨#[]⟩, .string ⟨#[]⟩, .string ⟨#[]⟩, .int .i64 0, .slice none 0 0, .slice none 0 0, .int .u8 0, .int .i64 0, .slice none 0 0, .slice none 0 0, .int .u8 0, .int .i64 0, .slice none 0 0, .slice none 0 0, .slice none 0 0] 31 (0, 0)) := heap_alloc_new wr _
      have HAL := hid hal
      clear hal
      cases hq : (st a S.2).1 with
      | false =>
        rw [hq] at HCALL HSS
        have HQ := hid hq
        clear hq
        go_wp2_with (first
          | (refine wpList_load_mid rfl 31 _ rfl b (o + k * 19) rfl (encAH a) _ HCS.out.c Tryz.underlying31 rfl (by kernel_rfl) ?_)
          | (refine wpList_store_row rfl 31 _ _ rfl wr.heap.size (encAH a).toArray rfl rfl 31 _ HAL.out (by kernel_rfl) rfl (all_oneCell_toArray (encAH_one a)) ?_; rw [World.setRow_alloc_new])
          | (refine wpList_load_row rfl 31 _ rfl wr.heap.size rfl 31 _ (0, 0) _ HBX.out.blk Tryz.underlying31 rfl (by kernel_rfl) ?_)
          | (go_at_fn g; refine HCALL.out.mono ?_; rintro e w2 ⟨rfl, hi2, hg2⟩; have HI2 := hid hi2; have HG2 := hid (HG1.out.trans hg2); clear hi2 hg2))
        go_ret
        have hstop : stepAll st (nodesL l) s = (false, (st a S.2).2) := by
          rw [sa_stop st s l (k + 1) (by rw [HSS.out]; rfl), HSS.out]; rfl
        exact ⟨ret_bool (by rw [hstop]), by rw [hstop]; exact inv_less HF.out.less (by omega) HI2.out, HG2.out⟩
      | true =>
        rw [hq] at HCALL HSS
        have HQ := hid hq
        clear hq
        have HM := hid (HF.out.hb)
        have q18 : ∀ w2, GrownS (wr.alloc (boxA a)) w2 row → Inv (K + (nodesL (l.drop (k + 1))).length + (nodesL m).length) (st a S.2).2 w2 → w2.cell? ⟨wr.heap.size, 18, none⟩ = some (.slice a.kp a.kn a.kc) ∧ Below w0.heap.size w0 w2 := fun w2 hg2 hi2 => ⟨hg2.cell (a := ⟨wr.heap.size, 18, none⟩) (HBX.out.c 18 _ rfl) (fun e => by have := HF.out.lt _ e _ _ _ HIV.out; exact Nat.lt_irrefl _ this), below_grownS HB1.out hg2 HB1.out.size HM.out⟩
        have HQ18 := hid q18
        clear q18
        cases hq2 : (stepAll st (nodesL m) (st a S.2).2).1 with
        | false =>
          have HQ2 := hid hq2
          clear hq2
          go_wp2_with (first
            | (refine wpList_load_mid rfl 31 _ rfl b (o + k * 19) rfl (encAH a) _ HCS.out.c Tryz.underlying31 rfl (by kernel_rfl) ?_)
            | (refine wpList_store_row rfl 31 _ _ rfl wr.heap.size (encAH a).toArray rfl rfl 31 _ HAL.out (by kernel_rfl) rfl (all_oneCell_toArray (encAH_one a)) ?_; rw [World.setRow_alloc_new])
            | (refine wpList_load_row rfl 31 _ rfl wr.heap.size rfl 31 _ (0, 0) _ HBX.out.blk Tryz.underlying31 rfl (by kernel_rfl) ?_)
            | (first | (go_at_fn g; refine HCALL.out.mono ?_; rintro e w2 ⟨rfl, hi2, hg2⟩; obtain ⟨c18, hb2⟩ := HQ18.out _ hg2 hi2; have HI2 := hid hi2; have HG2 := hid (HG1.out.trans hg2); have HB2 := hid hb2; clear hi2 hg2 hb2) | (go_at_call 59; refine (HXK.out (K + (nodesL (l.drop (k + 1))).length) _ _ _ _ (HKR.out.rowS HB2.out HM.out) HKO.out _ HB2.out HI2.out).mono ?_; rw [HQ2.out]; rintro e w3 ⟨rfl, hi3, hg3⟩; have HI3 := hid hi3; have HG3 := hid (HG2.out.trans hg3); clear hi3 hg3)))
          go_ret
          have hstop : stepAll st (nodesL l) s = stepAll st (nodesL m) (st a S.2).2 := by
            rw [sa_stop st s l (k + 1) (by rw [HSS.out]; exact HQ2.out), HSS.out]; rfl
          exact ⟨ret_bool (by rw [hstop, HQ2.out]), by rw [hstop]; exact inv_less HF.out.less (by omega) HI3.out, HG3.out⟩
        | true =>
          have HQ2 := hid hq2
          clear hq2
          go_wp2_with (first
            | (refine wpList_load_mid rfl 31 _ rfl b (o + k * 19) rfl (encAH a) _ HCS.out.c Tryz.underlying31 rfl (by kernel_rfl) ?_)
            | (refine wpList_store_row rfl 31 _ _ rfl wr.heap.size (encAH a).toArray rfl rfl 31 _ HAL.out (by kernel_rfl) rfl (all_oneCell_toArray (encAH_one a)) ?_; rw [World.setRow_alloc_new])
            | (refine wpList_load_row rfl 31 _ rfl wr.heap.size rfl 31 _ (0, 0) _ HBX.out.blk Tryz.underlying31 rfl (by kernel_rfl) ?_)
            | (first | (go_at_fn g; refine HCALL.out.mono ?_; rintro e w2 ⟨rfl, hi2, hg2⟩; obtain ⟨c18, hb2⟩ := HQ18.out _ hg2 hi2; have HI2 := hid hi2; have HG2 := hid (HG1.out.trans hg2); have HB2 := hid hb2; clear hi2 hg2 hb2) | (go_at_call 59; refine (HXK.out (K + (nodesL (l.drop (k + 1))).length) _ _ _ _ (HKR.out.rowS HB2.out HM.out) HKO.out _ HB2.out HI2.out).mono ?_; rw [HQ2.out]; rintro e w3 ⟨rfl, hi3, hg3⟩; have HI3 := hid hi3; have HG3 := hid (HG2.out.trans hg3); clear hi3 hg3)))
          go_roundw
          case rel => exact ⟨k + 1, _, by omega, by go_num, HSS, by show (stepAll st (nodesL m) (st a S.2).2).1 = true; exact HQ2.out, HI3.out, HG3.out⟩
          case measure => simp [intOf]; omega
    · have hkn : k = n := by omega
      have hfull : nodesTo l k = nodesL l := sa_end l k (by rw [HR.out.arow.len, hkn]; exact Nat.le_refl _)
      rw [hfull] at HS
      go_wp2_with fail
      go_ret
      exact ⟨ret_bool (by rw [HS.out, HST.out]), by rw [HS.out]; exact inv_less HF.out.less (by omega) HIV.out, HG.out⟩
theorem aterm_eachS_any {w0 : World} {row : Nat → Prop} {g : Nat} {lb : Array Value} {σ : Type} {Inv : Nat → σ → World → Prop} {ok : AH → Prop} {st : AH → σ → Bool × σ} (F : FvS w0 row g lb Inv ok st) (l : List PA) : EachS w0 row g lb Inv ok st l :=
  aterm_eachS_of F l (fun x _ => Rose.ind (P := fun (x : PA) => EachS w0 row g lb Inv ok st x.kids) (fun a m ih => aterm_eachS_of F m ih) x)
end
section
open Go.RowKit
set_option maxHeartbeats 4000000 in
theorem aterm_binds_any (a : AH) {w : World} (hr : IsRow encN 1 w a.rp a.rn a.rc a.rhos) :
    Calls Tryz.prog 62 #[aggT a] w fun e w' => ∃ p n c, e = .returned (.slice p n c) ∧ IsRow encN 1 w' p n c (bindsR a.plain) ∧ (p = a.rp ∧ bindsR a.plain = a.rhos ∨ ∀ ad, p = some ad → w.heap.size ≤ ad.block) ∧ Below w.heap.size w w' := by
  have HR := hid hr
  have HB := hid (boxA_new w a)
  have HB1 : Hid (Below w.heap.size w (w.alloc (boxA a))) := (Below.refl _ _).alloc (Nat.le_refl _) _
  have c0 := HB.out.c 0 _ rfl
  have c7 := HB.out.c 7 _ rfl
  have c8 := HB.out.c 8 _ rfl
  clear hr
  by_cases h17 : a.kind = 17
  · have e17 : (a.kind == 17) = true := by simp [h17]
    have HQ : Hid (bindsR a.plain = [a.rho]) := by
      show _ = _
      unfold bindsR
      rw [if_pos (show a.plain.kind = 17 from h17)]; rfl
    clear h17
    go_enter Tryz.func62, Tryz.ntmps62
    go_wp2_with fail
    go_ret
    exact ⟨_, _, _, rfl, by rw [HQ.out]; have h := row_made encN_len (by omega) (w.alloc (boxA a)) 3 [a.rho] 1 _ rfl rfl (by decide); rw [World.size_alloc] at h; exact h, .inr (fun ad hp => by cases hp; simp), bel_alloc HB1.out _⟩
  · have e17 : (a.kind == 17) = false := by simp [h17]
    by_cases h13 : a.kind = 13
    · have e13 : (a.kind == 13) = true := by simp [h13]
      have HQ : Hid (bindsR a.plain = a.rhos) := by
        show _ = _
        unfold bindsR
        rw [if_neg (show ¬ a.plain.kind = 17 from h17), if_pos (show a.plain.kind = 13 from h13)]; rfl
      clear h17 h13
      go_enter Tryz.func62, Tryz.ntmps62
      go_wp2_with fail
      go_ret
      exact ⟨_, _, _, rfl, by rw [HQ.out]; exact HR.out.below HB1.out, .inl ⟨rfl, HQ.out⟩, HB1.out⟩
    · have e13 : (a.kind == 13) = false := by simp [h13]
      have HQ : Hid (bindsR a.plain = []) := by
        show _ = _
        unfold bindsR
        rw [if_neg (show ¬ a.plain.kind = 17 from h17), if_neg (show ¬ a.plain.kind = 13 from h13)]
      clear h17 h13
      go_enter Tryz.func62, Tryz.ntmps62
      go_wp2_with fail
      go_ret
      exact ⟨_, _, _, rfl, by rw [HQ.out]; exact IsRow.none _ _ _, .inr (fun ad hp => (nomatch hp)), HB1.out⟩
def metC (met : List Int) : List Int → List Int
  | [] => met
  | r :: l => if inN met r then met else metC (met ++ [r]) l
theorem clash_app : ∀ (l m met : List Int), clashP met (l ++ m) = (clashP met l || clashP (met ++ l) m)
  | [], m, met => by simp [clashP]
  | r :: l, m, met => by
    simp only [List.cons_append, clashP, clash_app l m (met ++ [r]), List.append_assoc, List.cons_append, List.nil_append, Bool.or_assoc]
theorem metC_app : ∀ (l m met : List Int), clashP met l = false → metC met (l ++ m) = metC (met ++ l) m
  | [], m, met, _ => by simp [metC]
  | r :: l, m, met, h => by
    simp only [clashP, Bool.or_eq_false_iff] at h
    simp only [List.cons_append, metC, h.1, Bool.false_eq_true, if_false, metC_app l m (met ++ [r]) h.2, List.append_assoc, List.cons_append, List.nil_append]
theorem metC_none (l met : List Int) (h : clashP met l = false) : metC met l = met ++ l := by
  have := metC_app l [] met h
  simpa [metC] using this
theorem clash_yes {l met : List Int} {k : Nat} {r : Int} (h : clashP met (l.take k) = false) (hr : l[k]? = some r) (hi : inN (met ++ l.take k) r = true) : clashP met l = true ∧ metC met l = met ++ l.take k := by
  have hlt := get_lt hr
  have hd : l = l.take k ++ r :: l.drop (k + 1) := by
    conv => lhs; rw [← List.take_append_drop k l, List.drop_eq_getElem_cons hlt]
    congr 2
    rw [List.getElem?_eq_getElem hlt] at hr; exact Option.some.inj hr
  constructor
  · rw [hd, clash_app, h]
    simp only [clashP, hi, Bool.true_or, Bool.or_true]
  · conv => lhs; rw [hd]
    rw [metC_app _ _ _ h]
    simp only [metC, hi, if_true]
theorem clash_no {l met : List Int} {k : Nat} {r : Int} (h : clashP met (l.take k) = false) (hr : l[k]? = some r) (hi : inN (met ++ l.take k) r = false) : clashP met (l.take (k + 1)) = false := by
  rw [take_succ_get hr, clash_app, h]
  simp [clashP, hi]
def stApart (a : AH) (s : List Int × Int) : Bool × (List Int × Int) := (!clashP s.1 (bindsR a.plain), (metC s.1 (bindsR a.plain), if clashP s.1 (bindsR a.plain) then a.at_ else s.2))
theorem stApart_all : ∀ (l : List AH) (met : List Int) (z : Int), apartG (l.map AH.plain) met = (match stepAll stApart l (met, z) with | (true, _) => none | (false, s) => some s.2) ∧ ((stepAll stApart l (met, z)).1 = true → (stepAll stApart l (met, z)).2.2 = z)
  | [], met, z => ⟨rfl, fun _ => rfl⟩
  | a :: l, met, z => by
    have e : stepAll stApart (a :: l) (met, z) = if (stApart a (met, z)).1 then stepAll stApart l (stApart a (met, z)).2 else (false, (stApart a (met, z)).2) := rfl
    rw [e, List.map_cons]
    unfold apartG
    cases h : clashP met (bindsR a.plain) with
    | true =>
      have e1 : (stApart a (met, z)).1 = false := by simp [stApart, h]
      have e2 : (stApart a (met, z)).2.2 = a.at_ := by simp [stApart, h]
      rw [e1, if_neg Bool.false_ne_true]
      refine ⟨?_, fun h => (nomatch h)⟩
      show some a.at_ = some (stApart a (met, z)).2.2
      rw [e2]
    | false =>
      have e1 : (stApart a (met, z)).1 = true := by simp [stApart, h]
      have e2 : (stApart a (met, z)).2 = (met ++ bindsR a.plain, z) := by simp [stApart, h, metC_none _ _ h]
      rw [e1, if_pos rfl, e2]
      simp only [Bool.false_eq_true, if_false]
      exact stApart_all l (met ++ bindsR a.plain) z
def SetOf (D : DataW Unit) (met : List Int) : Prop := ∀ r : Int, Maps.has D (.int .i64 r) = inN met r
theorem setOf_nil : SetOf (.map []) [] := fun r => rfl
theorem setOf_put {D : DataW Unit} {met : List Int} (h : SetOf D met) (hD : Maps.IsMap D) (r : Int) : SetOf (D.put (.int .i64 r) (.agg [])) (met ++ [r]) := fun z => by
  have e : inN (met ++ [r]) z = (inN met z || decide (z = r)) := by
    rw [Bool.eq_iff_iff, Bool.or_eq_true, inN_mem', inN_mem', List.mem_append, List.mem_singleton, decide_eq_true_eq]
  by_cases hz : z = r
  · subst hz
    rw [Maps.has_put_same hD (show WideAt.IsKeyLit (.int .i64 z) from trivial), e]; simp
  · rw [Maps.has_put_other (by intro hh; injection hh with _ hh; exact hz hh), h z, e]; simp [hz]
structure ApI (b4 b5 bm : Nat) (k : Nat) (s : List Int × Int) (W : World) : Prop where
  c4 : W.heap[b4]? = some (.cells #[.map (some bm)] 113 (0, 0))
  c5 : W.heap[b5]? = some (.cells #[.int .i64 s.2] 3 (0, 0))
  m : ∃ D : DataW Unit, W.ownsMap Tryz.prog 3 unitElem bm s.1.length D ∧ SetOf D s.1
  len : s.1.length + 50 * k ≤ 1000000
  n45 : b4 ≠ b5
  n4m : b4 ≠ bm
  n5m : b5 ≠ bm
def ApRow (b5 bm : Nat) (b : Nat) : Prop := b = b5 ∨ b = bm
theorem keyed_int : Maps.Keyed Tryz.prog 3 := Maps.int_keyed Tryz.underlying3
theorem ApI.lt {b4 b5 bm k : Nat} {s : List Int × Int} {W : World} (h : ApI b4 b5 bm k s W) : b4 < W.heap.size ∧ b5 < W.heap.size ∧ bm < W.heap.size := by
  obtain ⟨D, ⟨es, clock, hb, _⟩, _⟩ := h.m
  exact ⟨(Array.getElem?_eq_some_iff.1 h.c4).1, (Array.getElem?_eq_some_iff.1 h.c5).1, (Array.getElem?_eq_some_iff.1 hb).1⟩
theorem ApI.below {b4 b5 bm k : Nat} {s : List Int × Int} {W W' : World} (h : ApI b4 b5 bm k s W) (hb : Below W.heap.size W W') : ApI b4 b5 bm k s W' := by
  obtain ⟨l4, l5, lm⟩ := h.lt
  obtain ⟨D, ⟨es, clock, hm, r⟩, hs⟩ := h.m
  exact ⟨(hb.block _ l4).trans h.c4, (hb.block _ l5).trans h.c5, ⟨D, ⟨es, clock, (hb.block _ lm).trans hm, r⟩, hs⟩, h.len, h.n45, h.n4m, h.n5m⟩
theorem ApI.less {b4 b5 bm k : Nat} {s : List Int × Int} {W : World} (h : ApI b4 b5 bm (k + 1) s W) : ApI b4 b5 bm k s W := ⟨h.c4, h.c5, h.m, by have := h.len; omega, h.n45, h.n4m, h.n5m⟩
theorem bindsR_len {a : AH} {n : Nat} (h : a.rhos.length ≤ n) (hn : 1 ≤ n) : (bindsR a.plain).length ≤ n := by
  unfold bindsR
  split
  · simpa using hn
  · split
    · exact h
    · simp
theorem bindsR_ok {w : World} {a : AH} (h : AH.Own w a) : ∀ z ∈ bindsR a.plain, inI z := fun z hz => by
  unfold bindsR at hz
  split at hz
  · rw [List.mem_singleton] at hz; subst hz; exact h.rho
  · split at hz
    · exact h.rok z hz
    · cases hz
theorem key_int {r : Int} (h : inI r) : keyOf Tryz.prog 3 (.int .i64 r) = some (.int .i64 r) := by
  have hw : (Lit.int .i64 r).wf = true := by
    have h1 := h.1
    have h2 := h.2
    have e1 : IntKind.min .i64 = -9223372036854775808 := by decide
    have e2 : IntKind.max .i64 = 9223372036854775807 := by decide
    simp only [Lit.wf, e1, e2, Bool.and_eq_true, decide_eq_true_eq]
    exact ⟨h1, h2⟩
  simp [keyOf, mapKey, Tryz.underlying3, hw]
end
section
open Go.RowKit
structure ApJ (b4 b5 bm g : Nat) (a : AH) (p : Option Addr) (n c : Nat) (l met : List Int) (z : Int) (W : World) (j : Nat) (wr : World) : Prop where
  i : ApI b4 b5 bm 0 (met ++ l.take j, z) wr
  box : BoxA wr g a
  row : IsRow encN 1 wr p n c l
  far : l ≠ [] → ∀ ad, p = some ad → ¬ ApRow b5 bm ad.block
  grown : GrownS W wr (ApRow b5 bm)
  clash : clashP met (l.take j) = false
theorem row_grownS {α : Type} {enc : α → List Value} {k : Nat} {w w' : World} {R : Nat → Prop} {p : Option Addr} {n c : Nat} {l : List α} (h : IsRow enc k w p n c l) (hg : GrownS w w' R) (hr : l ≠ [] → ∀ ad, p = some ad → ¬ R ad.block) : IsRow enc k w' p n c l := by
  refine ⟨h.len, h.max, h.le, h.nil, ?_⟩
  rcases h.row with h0 | ⟨b, o, hp, hlt, hc⟩
  · exact .inl h0
  · by_cases hl : l = []
    · exact .inl hl
    · exact .inr ⟨b, o, hp, Nat.lt_of_lt_of_le hlt hg.size, fun j x hx i u hu => hg.cell (hc j x hx i u hu) (show ¬ R b from hr hl ⟨b, o, none⟩ hp)⟩
theorem ApJ.add {b4 b5 bm g : Nat} {a : AH} {p : Option Addr} {n c : Nat} {l met : List Int} {z : Int} {W wr w5 : World} {j : Nat} (h : ApJ b4 b5 bm g a p n c l met z W j wr) {o : Obj} {r : Int} (hr : l[j]? = some r) (hi : inN (met ++ l.take j) r = false)
    (hbd : met.length + l.length ≤ 1000000) {D : DataW Unit} (hm : w5.ownsMap Tryz.prog 3 unitElem bm ((met ++ l.take j).length + 1) (D.put (.int .i64 r) (.agg []))) (hs : SetOf D (met ++ l.take j)) (hD : Maps.IsMap D) (hg : (wr.alloc o).grownBy w5 (some bm)) (hgb : g ≠ bm) (hgl : g < wr.heap.size) : ApJ b4 b5 bm g a p n c l met z W (j + 1) w5 := by
  obtain ⟨l4, l5, lm⟩ := h.i.lt
  have hg1 : wr.grownBy w5 (some bm) := grown_alloc hg
  have htk : met ++ l.take (j + 1) = (met ++ l.take j) ++ [r] := by rw [take_succ_get hr, List.append_assoc]
  have hlt := get_lt hr
  have hgs : GrownS wr w5 (ApRow b5 bm) := .of_grown hg1 (fun b e => by cases e; exact .inr rfl)
  refine ⟨⟨(hg1.block _ l4 (fun e => h.i.n4m (by injection e))).trans h.i.c4, (hg1.block _ l5 (fun e => h.i.n5m (by injection e))).trans h.i.c5, ⟨D.put (.int .i64 r) (.agg []), ?_, ?_⟩, ?_, h.i.n45, h.i.n4m, h.i.n5m⟩, ⟨(hg1.block g hgl (fun e => hgb (by injection e))).trans h.box.blk⟩, row_grownS h.row hgs h.far, h.far, h.grown.trans hgs, clash_no h.clash hr hi⟩
  · show w5.ownsMap _ _ _ bm (met ++ l.take (j + 1)).length _
    rw [htk, List.length_append]; exact hm
  · show SetOf _ (met ++ l.take (j + 1))
    rw [htk]; exact setOf_put hs hD r
  · show (met ++ l.take (j + 1)).length + 50 * 0 ≤ 1000000
    rw [List.length_append, List.length_take]; omega
theorem ApI.hit {b4 b5 bm : Nat} {met : List Int} {z : Int} {wr : World} (h : ApI b4 b5 bm 0 (met, z) wr) (o : Obj) (v : Int) (k : Nat) (hl : met.length + 50 * k ≤ 1000000) : ApI b4 b5 bm k (met, v) ((wr.alloc o).setCell ⟨b5, 0, none⟩ (.int .i64 v)) := by
  have h1 := h.below ((Below.refl wr.heap.size wr).alloc (Nat.le_refl _) o)
  have hg := grown_setCell1 (wr.alloc o) b5 0 (.int .i64 v)
  obtain ⟨D, hm, hs⟩ := h1.m
  exact ⟨(hg.block _ h1.lt.1 (fun e => h1.n45 (by injection e))).trans h1.c4, heap_setCell1 _ h1.c5, ⟨D, hm.setCell (fun e => h1.n5m e.symm) _, hs⟩, hl, h1.n45, h1.n4m, h1.n5m⟩
set_option maxHeartbeats 8000000 in
theorem apart1_any {w0 : World} {b4 b5 bm : Nat} {a : AH} {k : Nat} {s : List Int × Int} {W : World} (ho : AH.Own w0 a) (hs : SmallN a) (hW : Below w0.heap.size w0 W) (h5 : w0.heap.size ≤ b5) (hm : w0.heap.size ≤ bm) (h : ApI b4 b5 bm (k + 1) s W) :
    Calls Tryz.prog 61 #[aggT a, .pointer (some ⟨b4, 0, none⟩), .pointer (some ⟨b5, 0, none⟩)] W fun e w' => e = .returned (.bool (stApart a s).1) ∧ ApI b4 b5 bm k (stApart a s).2 w' ∧ GrownS W w' (ApRow b5 bm) := by
  obtain ⟨met, z⟩ := s
  have HO := hid ho
  have HH := hid h
  have HW := hid hW
  obtain ⟨l4, l5, lm⟩ := h.lt
  have HBX := hid (boxA_new W a)
  have hb1 : Below W.heap.size W (W.alloc (boxA a)) := (Below.refl _ _).alloc (Nat.le_refl _) _
  have HB1 := hid hb1
  have HRH := hid ((ho.rhos.below hW).below hb1)
  obtain ⟨l, hl⟩ : ∃ l, bindsR a.plain = l := ⟨_, rfl⟩
  have hll : l.length ≤ 50 := by rw [← hl]; exact bindsR_len (by have h1 := ho.rhos.len; have h2 := hs.rhos; omega) (by decide)
  have hok : ∀ z ∈ l, inI z := by rw [← hl]; exact bindsR_ok ho
  have hlen0 : met.length + 50 * (k + 1) ≤ 1000000 := h.len
  have HL := hid hl
  have HOK := hid hok
  have HST : Hid (stApart a (met, z) = (!clashP met l, (metC met l, if clashP met l then a.at_ else z))) := by
    show _ = _
    unfold stApart
    rw [hl]
  obtain ⟨u, ⟨mt, zt⟩, hst⟩ : ∃ u m, stApart a (met, z) = (u, m) := ⟨_, _, rfl⟩
  rw [hst]
  have HU : Hid (u = !clashP met l ∧ mt = metC met l ∧ zt = if clashP met l then a.at_ else z) := by
    have e := HST.out
    rw [hst] at e
    injection e with e1 e2
    injection e2 with e2 e3
    exact ⟨e1, e2, e3⟩
  clear ho hs hW h hb1 hl hok HST hst
  go_enter Tryz.func61, Tryz.ntmps61
  go_upto_region 1 with fail
  go_wp2_with (first
    | (refine wpList_load_row rfl 31 _ rfl W.heap.size rfl 31 _ (0, 0) _ HBX.out.blk Tryz.underlying31 rfl (by kernel_rfl) ?_)
    | (go_at_call 62; refine (aterm_binds_any a HRH.out).mono ?_; rintro e w2 ⟨p, n, c, rfl, hrow, hfar, hb⟩; rw [HL.out] at hrow; have hnl := hrow.len; have HB2 := hid (HB1.out.trans (hb.mono HB1.out.size)); have HBX2 := hid (HBX.out.below hb); have HROW := hid hrow; have HFAR := hid hfar; clear hrow hfar hb))
  have HJ0 : Hid (ApJ b4 b5 bm W.heap.size a p n c l met z W 0 w2) := by
    refine ⟨?_, HBX2.out, HROW.out, fun hne ad hp hr => ?_, GrownS.of_below HB2.out _, rfl⟩
    · have h1 := HH.out.below HB2.out
      exact ⟨h1.c4, h1.c5, by simpa using h1.m, by have := h1.len; simp at this ⊢; omega, h1.n45, h1.n4m, h1.n5m⟩
    · rcases HFAR.out with ⟨e1, e2⟩ | e1
      · have hlt := rowE_lt HO.out.rhos.row (by rw [← e2, HL.out]; exact hne) (e1 ▸ hp)
        rcases hr with hr | hr <;> omega
      · have h1 := e1 ad hp
        simp only [World.size_alloc] at h1
        rcases hr with hr | hr <;> omega
  have hgb : W.heap.size ≠ bm := by omega
  have hg5 : W.heap.size ≠ b5 := by omega
  clear HBX HB1 HRH HB2 HBX2 HROW HFAR
  go_loopw [6, 7, 8, 12] (fun _ _ _ i wr => ∃ j : Nat, j ≤ n ∧ i = .int .i64 j ∧ ApJ b4 b5 bm W.heap.size a p n c l met z W j wr) (fun _ _ _ i _ => n - (intOf i).toNat)
  case atStart => exact ⟨0, Nat.zero_le _, rfl, HJ0.out⟩
  case round =>
    obtain ⟨j, hj, rfl, hjj⟩ := hrel
    have HJ := hid hjj
    clear hjj HJ0
    by_cases hlt : j < n
    · obtain ⟨r, hr⟩ : ∃ r, l[j]? = some r := get_of_lt (by rw [hnl]; exact hlt)
      obtain ⟨b, o, hbo, hbl, hcs⟩ := HJ.out.row.row.elem hr
      have hfr := HJ.out.far (by intro e; rw [e] at hr; simp at hr) _ hbo
      subst hbo
      have hc : wr.cell? ⟨b, o + j, none⟩ = some (.int .i64 r) := by have := hcs 0 _ rfl; simpa using this
      have HR := hid hr
      obtain ⟨D, hown, hset⟩ := HJ.out.i.m
      have HOWN := hid hown
      have HSET := hid hset
      have HKEY := hid (key_int (HOK.out r (List.mem_of_getElem? hr)))
      have c4 : wr.cell? ⟨b4, 0, none⟩ = some (.map (some bm)) := by rw [Lib.cell_of_heap HJ.out.i.c4]; rfl
      have cb4 := HJ.out.i.c4
      have c5 : wr.cell? ⟨b5, 0, none⟩ = some (.int .i64 z) := by rw [Lib.cell_of_heap HJ.out.i.c5]; rfl
      have f5 : wr.frozen? ⟨b5, 0, none⟩ = false := by simp only [World.frozen?, HJ.out.i.c5]; rfl
      have c2 := HJ.out.box.c 2 _ rfl
      have hgl := HJ.out.box.lt
      have HC4 : Hid (∀ o, (wr.alloc o).cell? ⟨b4, 0, none⟩ = some (.map (some bm))) := fun o => by rw [World.cell?_alloc_past _ _ _ (World.block_lt_of_cell? _ _ c4)]; exact c4
      have hb4 : Below wr.heap.size wr (wr.alloc (.cells #[] 114)) := (Below.refl _ _).alloc (Nat.le_refl _) _
      have d4 : (wr.alloc (.cells #[] 114)).cell? ⟨b4, 0, none⟩ = some (.map (some bm)) := HC4.out _
      have e5 : (wr.alloc (.cells #[] 114)).heap[b5]? = some (.cells #[.int .i64 z] 3 (0, 0)) := (hb4.block _ HJ.out.i.lt.2.1).trans HJ.out.i.c5
      have d5 : (wr.alloc (.cells #[] 114)).cell? ⟨b5, 0, none⟩ = some (.int .i64 z) := by rw [Lib.cell_of_heap e5]; rfl
      have g5 : (wr.alloc (.cells #[] 114)).frozen? ⟨b5, 0, none⟩ = false := by simp only [World.frozen?, e5]; rfl
      have d2 : (wr.alloc (.cells #[] 114)).cell? ⟨W.heap.size, 2, none⟩ = some (.int .i64 a.at_) := (HJ.out.box.below hb4).c 2 _ rfl
      clear hcs hr hown hset cb4 hb4 e5
      cases hi : inN (met ++ l.take j) r with
      | true =>
        have HHAS : Hid (Maps.has D (.int .i64 r) = true) := (HSET.out r).trans hi
        obtain ⟨hcl, hmc⟩ := clash_yes HJ.out.clash HR.out hi
        have HCL := hid hcl
        have HMC := hid hmc
        clear hi hcl hmc
        go_wp2_with (first
          | (at_lookup; refine wpList_lookup_own_unit _ rfl _ _ 113 rfl 3 114 keyed_int Tryz.underlying113 (Tryz.zeroValue114 _) bm _ D rfl HOWN.out _ _ rfl HKEY.out ?_; rw [HHAS.out]))
        go_ret
        obtain ⟨hu, hmt, hzt⟩ := HU.out
        rw [HCL.out] at hu hzt
        rw [HMC.out] at hmt
        simp only [if_true] at hzt
        have hu' : u = false := hu
        subst hu' hmt hzt
        clear hu
        exact ⟨rfl, HJ.out.i.hit _ _ k (by have h1 := HJ.out.i.len; rw [List.length_append, List.length_take] at *; omega), (HJ.out.grown.trans (GrownS.alloc _ _ _)).trans (.of_grown (grown_setCell1 _ _ _ _) (fun b e => by cases e; exact .inl rfl))⟩
      | false =>
        have HHAS : Hid (Maps.has D (.int .i64 r) = false) := (HSET.out r).trans hi
        have HI := hid hi
        clear hi
        go_wp2_with (first
          | (at_lookup; refine wpList_lookup_own_unit _ rfl _ _ 113 rfl 3 114 keyed_int Tryz.underlying113 (Tryz.zeroValue114 _) bm _ D rfl HOWN.out _ _ rfl HKEY.out ?_; rw [HHAS.out])
          | (at_mapUpdate; refine wpList_mapUpdate_own _ rfl _ _ _ 113 rfl 3 114 keyed_int Tryz.underlying113 unitElem bm _ D rfl (HOWN.out.alloc _) (by unfold maxLen; have := HJ.out.i.len; omega) _ _ _ rfl rfl HKEY.out _ [] unitElem_mk ?_; intro w5 hown5 hg5'; have HOWN5 := hid hown5; have HG5 := hid hg5'; clear hown5 hg5'))
        go_roundw
        case rel => exact ⟨j + 1, by omega, by go_num, HJ.out.add HR.out HI.out (by omega) HOWN5.out HSET.out HOWN.out.isMap HG5.out hgb hgl⟩
        case measure => simp [intOf]; omega
    · have hjn : j = l.length := by omega
      subst hjn
      go_wp2_with fail
      go_ret
      have hcl := HJ.out.clash
      rw [List.take_length] at hcl
      obtain ⟨hu, hmt, hzt⟩ := HU.out
      rw [hcl] at hu hzt
      rw [metC_none _ _ hcl] at hmt
      have hi := HJ.out.i
      rw [List.take_length] at hi
      have hu' : u = true := hu
      have hz' : zt = z := hzt
      subst hu' hmt hz'
      exact ⟨rfl, ⟨hi.c4, hi.c5, hi.m, by show (met ++ l).length + 50 * k ≤ 1000000; rw [List.length_append]; omega, hi.n45, hi.n4m, hi.n5m⟩, HJ.out.grown⟩
theorem fvs_apart {w0 : World} {b4 b5 bm : Nat} (h5 : w0.heap.size ≤ b5) (hm : w0.heap.size ≤ bm) : FvS w0 (ApRow b5 bm) 61 #[.pointer (some ⟨b4, 0, none⟩), .pointer (some ⟨b5, 0, none⟩)] (ApI b4 b5 bm) (fun a => AH.Own w0 a ∧ SmallN a) stApart :=
  ⟨fun args w => Tryz.call61 args w, fun b h => by rcases h with rfl | rfl <;> assumption, fun b h k s W hi => by rcases h with rfl | rfl; exact hi.lt.2.1; exact hi.lt.2.2, fun k s W W' hi hb => hi.below hb, fun k s W hi => hi.less, fun k a s W ho hW hi => apart1_any ho.1 ho.2 hW h5 hm hi⟩
end
section
open Go.RowKit
def ApartOut (r : Option Int) (e : Ending) : Prop :=
  match r with
  | none => e = .returned (.tuple #[.int .i64 0, .bool true])
  | some z => e = .returned (.tuple #[.int .i64 z, .bool false])
theorem apart_start (W : World) (k : Nat) (hk : 50 * k ≤ 1000000) :
    ApI (W.heap.size + 1) (W.heap.size + 2) W.heap.size k ([], 0) (((W.alloc (.map #[] 0)).alloc (.cells #[.map (some W.heap.size)] 113)).alloc (.cells #[.int .i64 0] 3)) := by
  have e0 := World.ownsMap_made (H := Unit) W Tryz.prog 3 unitElem
  have e1 := heap_alloc_new (W.alloc (.map #[] 0)) (.cells #[.map (some W.heap.size)] 113)
  have e2 := heap_alloc_new ((W.alloc (.map #[] 0)).alloc (.cells #[.map (some W.heap.size)] 113)) (.cells #[.int .i64 0] 3)
  simp only [World.size_alloc] at e1 e2
  refine ⟨?_, e2, ⟨.map [], (e0.alloc _).alloc _, setOf_nil⟩, by simpa using hk, by omega, by omega, by omega⟩
  rw [Below.heap_alloc _ _ _ (by simp)]; exact e1
theorem nodes_mapA (t : PA) : Rose.nodes (PA.er t) = (Rose.nodes t).map AH.plain := by
  refine Rose.ind (P := fun (t : PA) => Rose.nodes (PA.er t) = (Rose.nodes t).map AH.plain) (fun a l ih => ?_) t
  rw [PA.er_node, Rose.nodes_node, Rose.nodes_node, List.map_cons, List.map_flatten, List.map_map, List.map_map]
  congr 2
  exact List.map_congr_left (fun t ht => ih t ht)
theorem nodes_ownA {w : World} {t : PA} (h : LA.lies w t) : ∀ x ∈ Rose.nodes t, AH.Own w x := by
  revert h
  refine Rose.ind (P := fun (t : PA) => LA.lies w t → ∀ x ∈ Rose.nodes t, AH.Own w x) (fun a l ih h x hx => ?_) t
  have hn := nodeA h
  rw [Rose.nodes_node, List.mem_cons, List.mem_flatten] at hx
  rcases hx with rfl | ⟨m, hm, hx⟩
  · exact hn.own
  · obtain ⟨u, hu, rfl⟩ := List.mem_map.1 hm
    exact ih u hu (hn.each u hu) x hx
set_option maxHeartbeats 8000000 in
theorem aterm_Apart_any {w : World} {t : PA} (hl : LA.lies w t) (hs : SmallNs t) (hsz : t.size ≤ 1000) :
    Calls Tryz.prog 36 #[aggT t.head] w fun e w' => ApartOut (apartP (PA.er t)) e ∧ Below w.heap.size w w' := by
  obtain ⟨a, l, rfl⟩ : ∃ a l, t = Rose.node a l := ⟨t.head, t.kids, Rose.eta t⟩
  have HL := hid hl
  have HS := hid hs
  have hmm := @run_makeMap Tryz.prog
  have HBX := hid (boxA_new w a)
  obtain ⟨u, ⟨mt, zt⟩, hst⟩ : ∃ u m, stepAll stApart (nodesL [Rose.node a l]) ([], 0) = (u, m) := ⟨_, _, rfl⟩
  have HST := hid hst
  have hN : nodesL [Rose.node a l] = Rose.nodes (Rose.node a l) := by simp [nodesL]
  have HAP : Hid (ApartOut (apartP (PA.er (Rose.node a l))) (.returned (.tuple #[.int .i64 zt, .bool u]))) := by
    have h1 := stApart_all (nodesL [Rose.node a l]) [] 0
    rw [hst] at h1
    have h2 : apartP (PA.er (Rose.node a l)) = apartG ((nodesL [Rose.node a l]).map AH.plain) [] := by
      unfold apartP
      rw [hN]
      congr 1
      exact nodes_mapA _
    show ApartOut _ _
    rw [h2, h1.1]
    cases u with
    | true => have h3 := h1.2 rfl; have h4 : zt = 0 := h3; subst h4; rfl
    | false => rfl
  have hnl : (nodesL [Rose.node a l]).length ≤ 1000 := by rw [hN, nodes_length]; exact hsz
  have HAI := hid (apart_start (w.alloc (boxA a)) (0 + (nodesL [Rose.node a l]).length) (by omega))
  clear hl hs hst hN
  have HAI : Hid (ApI (w.heap.size + 1 + 1) (w.heap.size + 1 + 1 + 1) (w.heap.size + 1) (0 + (nodesL [Rose.node a l]).length) ([], 0) ((((w.alloc (boxA a)).alloc (.map #[] 0)).alloc (.cells #[.map (some (w.heap.size + 1))] 113)).alloc (.cells #[.int .i64 0] 3))) := by
    have h := HAI.out
    simp only [World.size_alloc] at h
    exact h
  have hoz : ∀ x ∈ nodesL [Rose.node a l], AH.Own w x ∧ SmallN x := fun x hx => by
    have hx' : x ∈ Rose.nodes (Rose.node a l) := by simpa [nodesL] using hx
    exact ⟨nodes_ownA HL.out x hx', HS.out x hx'⟩
  have HOZ := hid hoz
  clear hoz
  show Calls Tryz.prog 36 #[aggT a] w _
  go_enter Tryz.func36, Tryz.ntmps36
  go_upto_region 3 with fail
  have HB3 : Hid (Below w.heap.size w ((((w.alloc (boxA a)).alloc (.map #[] 0)).alloc (.cells #[.map (some (w.heap.size + 1))] 113)).alloc (.cells #[.int .i64 0] 3))) := (((((Below.refl w.heap.size w).alloc (Nat.le_refl _) _).alloc (by simp only [World.size_alloc]; omega) _).alloc (by simp only [World.size_alloc]; omega) _).alloc (by simp only [World.size_alloc]; omega) _)
  have HBX3 : Hid (BoxA ((((w.alloc (boxA a)).alloc (.map #[] 0)).alloc (.cells #[.map (some (w.heap.size + 1))] 113)).alloc (.cells #[.int .i64 0] 3)) w.heap.size a) := HBX.out.below ((((Below.refl _ _).alloc (Nat.le_refl _) _).alloc (by simp only [World.size_alloc]; omega) _).alloc (by simp only [World.size_alloc]; omega) _)
  have hs3 : ((((w.alloc (boxA a)).alloc (.map #[] 0)).alloc (.cells #[.map (some (w.heap.size + 1))] 113)).alloc (.cells #[.int .i64 0] 3)).heap.size = w.heap.size + 4 := by simp
  generalize ((((w.alloc (boxA a)).alloc (.map #[] 0)).alloc (.cells #[.map (some (w.heap.size + 1))] 113)).alloc (.cells #[.int .i64 0] 3)) = W3 at *
  have hRS : RowS w (W3.alloc (boxA a)) (ApRow (w.heap.size + 1 + 1 + 1) (w.heap.size + 1)) (some ⟨W3.heap.size, 0, none⟩) 1 1 [Rose.node a l] :=
    ⟨row_made LAlen (by omega) W3 31 [Rose.node a l] 1 _ rfl rfl (by decide), fun _ ad hp hr => by cases hp; rcases hr with hr | hr <;> (dsimp only at hr; omega), fun t ht => by rw [List.mem_singleton] at ht; subst ht; exact HL.out⟩
  have HRS := hid hRS
  clear hRS HBX hs3
  go_wp2_with (first
    | (refine wpList_load_row rfl 31 _ rfl w.heap.size rfl 31 _ (0, 0) _ HBX3.out.blk Tryz.underlying31 rfl (by kernel_rfl) ?_))
  go_at_call 59
  refine (aterm_eachS_any (fvs_apart (b4 := w.heap.size + 1 + 1) (by omega) (by omega)) [Rose.node a l] 0 _ 1 1 _ HRS.out HOZ.out ([], 0) (HB3.out.alloc HB3.out.size _) (HAI.out.below ((Below.refl _ _).alloc (Nat.le_refl _) _))).mono ?_
  rw [HST.out]
  rintro e w5 ⟨rfl, hi5, hg5⟩
  have c5 : w5.cell? ⟨w.heap.size + 1 + 1 + 1, 0, none⟩ = some (.int .i64 zt) := by rw [Lib.cell_of_heap hi5.c5]; rfl
  have HB5 := hid (below_grownS (HB3.out.alloc HB3.out.size (boxA a)) hg5 (HB3.out.alloc HB3.out.size _).size (fun k h => by rcases h with rfl | rfl <;> omega))
  clear hi5 hg5
  go_wp2_with fail
  go_ret2
  exact ⟨HAP.out, HB5.out⟩
end
end Go.Proofs.YtkdjnegfnhldpaaGreatDoor
