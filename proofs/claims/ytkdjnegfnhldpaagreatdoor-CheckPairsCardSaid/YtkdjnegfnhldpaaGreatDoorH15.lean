/- Part 15: Ea, St, Te, Tms. -/
import Derived.Test.YtkdjnegfnhldpaaGreatDoorH14
import Derived.Deep.WholeRow
import Derived.Deep.MidRow
import Derived.Test.YtkdjnegfnhldpaaGreatDoorH11
set_option linter.unusedVariables false
set_option maxRecDepth 100000
set_option linter.unusedSimpArgs false
namespace Go.Proofs.YtkdjnegfnhldpaaGreatDoor
open Go.Lib (hid)
section
open Go.RowKit
def stepAll {α σ : Type} (st : α → σ → Bool × σ) : List α → σ → Bool × σ
  | [], s => (true, s)
  | a :: l, s => if (st a s).1 then stepAll st l (st a s).2 else (false, (st a s).2)
theorem stepAll_app {α σ : Type} (st : α → σ → Bool × σ) : ∀ (l m : List α) (s : σ), stepAll st (l ++ m) s = if (stepAll st l s).1 then stepAll st m (stepAll st l s).2 else stepAll st l s
  | [], m, s => by simp [stepAll]
  | a :: l, m, s => by
    have e : ∀ n, stepAll st (a :: n) s = if (st a s).1 then stepAll st n (st a s).2 else (false, (st a s).2) := fun _ => rfl
    rw [List.cons_append, e, e]
    by_cases h : (st a s).1 = true
    · simp only [h, if_true]; exact stepAll_app st l m _
    · simp [h]
def nodesL (l : List PA) : List AH := (l.map Rose.nodes).flatten
theorem nodesL_split (l : List PA) (k : Nat) : nodesL l = nodesTo l k ++ nodesL (l.drop k) := by
  unfold nodesL nodesTo
  rw [← List.flatten_append, ← List.map_append, List.take_append_drop]
theorem nodes_kids (x : PA) : Rose.nodes x = x.head :: nodesL x.kids := by
  cases x; rw [Rose.nodes_node]; rfl
theorem sa_step {σ : Type} (st : AH → σ → Bool × σ) (s : σ) {l : List PA} {k : Nat} {x : PA} (h : l[k]? = some x) (hb : (stepAll st (nodesTo l k) s).1 = true) :
    stepAll st (nodesTo l (k + 1)) s = if (st x.head (stepAll st (nodesTo l k) s).2).1 then stepAll st (nodesL x.kids) (st x.head (stepAll st (nodesTo l k) s).2).2 else (false, (st x.head (stepAll st (nodesTo l k) s).2).2) := by
  rw [nodesTo_step h, stepAll_app, if_pos hb, nodes_kids]
  rfl
theorem sa_stop {σ : Type} (st : AH → σ → Bool × σ) (s : σ) (l : List PA) (k : Nat) (hb : (stepAll st (nodesTo l k) s).1 = false) : stepAll st (nodesL l) s = stepAll st (nodesTo l k) s := by
  rw [nodesL_split l k, stepAll_app, if_neg (by rw [hb]; exact Bool.false_ne_true)]
theorem sa_end (l : List PA) (k : Nat) (h : l.length ≤ k) : nodesTo l k = nodesL l := by
  unfold nodesTo nodesL; rw [List.take_of_length_le h]
structure FvA (w0 : World) (row : Option Nat) (g : Nat) (lb : Array Value) {σ : Type} (Inv : σ → World → Prop) (ok : AH → Prop) (st : AH → σ → Bool × σ) : Prop where
  eg : ∀ args w, (callFunc g args).run Tryz.prog w = .ok (.enter g args) w
  hb : ∀ b, row = some b → w0.heap.size ≤ b
  lt : ∀ b, row = some b → ∀ s W, Inv s W → b < W.heap.size
  inv : ∀ s W W', Inv s W → Below W.heap.size W W' → Inv s W'
  call : ∀ a s W, ok a → Below w0.heap.size w0 W → Inv s W → Calls Tryz.prog g (#[aggT a] ++ lb) W fun e w' => e = .returned (.bool (st a s).1) ∧ Inv (st a s).2 w' ∧ W.grownBy w' row
def EachAt (w0 : World) (row : Option Nat) (g : Nat) (lb : Array Value) {σ : Type} (Inv : σ → World → Prop) (ok : AH → Prop) (st : AH → σ → Bool × σ) (l : List PA) : Prop :=
  ∀ p n c, RowTA w0 p n c l → (∀ a ∈ nodesL l, ok a) → ∀ s W, Below w0.heap.size w0 W → Inv s W → Calls Tryz.prog 59 #[.func (.func g) #[] lb, .slice p n c] W fun e w' => e = .returned (.bool (stepAll st (nodesL l) s).1) ∧ Inv (stepAll st (nodesL l) s).2 w' ∧ W.grownBy w' row
theorem mem_nodesL {l : List PA} {x : PA} (hx : x ∈ l) {a : AH} (ha : a ∈ Rose.nodes x) : a ∈ nodesL l := List.mem_flatten.2 ⟨_, List.mem_map_of_mem hx, ha⟩
theorem LA_kids {w : World} {x : PA} (h : LA.lies w x) : RowTA w x.head.kp x.head.kn x.head.kc x.kids := by
  cases x; exact (nodeA h).rowT
set_option maxHeartbeats 4000000 in
theorem aterm_each_of {w0 : World} {row : Option Nat} {g : Nat} {lb : Array Value} {σ : Type} {Inv : σ → World → Prop} {ok : AH → Prop} {st : AH → σ → Bool × σ} (F : FvA w0 row g lb Inv ok st) (l : List PA)
    (ih : ∀ x ∈ l, EachAt w0 row g lb Inv ok st x.kids) : EachAt w0 row g lb Inv ok st l := by
  intro p n c hR hok s W hbW hinv
  have eg := F.eg
  have HF := hid F
  have HI := hid ih
  have HR := hid hR
  have HOK := hid hok
  have HBW := hid hbW
  have HV := hid hinv
  have hnm : n ≤ 9223372036854775807 := hR.row.max
  clear F ih hR hok hbW hinv
  go_enter Tryz.func59, Tryz.ntmps59
  go_wp2_with fail
  go_loopw [9] (fun i wr => ∃ (k : Nat) (S : Bool × σ), k ≤ n ∧ i = .int .i64 k ∧ Hid (stepAll st (nodesTo l k) s = S) ∧ S.1 = true ∧ Inv S.2 wr ∧ W.grownBy wr row) (fun i _ => n - (intOf i).toNat)
  case atStart => exact ⟨0, (true, s), by omega, rfl, hid rfl, rfl, HV.out, World.grownBy.refl _ _⟩
  case round =>
    obtain ⟨k, S, hk, rfl, HS, hs, hiv, hg⟩ := hrel
    have HIV := hid hiv
    have HG := hid hg
    have HST := hid hs
    have HB := hid (HBW.out.grown hg HBW.out.size HF.out.hb)
    clear hiv hg hs
    by_cases hlt : k < n
    · obtain ⟨x, hx⟩ := HR.out.at (j := k) hlt
      obtain ⟨b, o, hbo, hbl, hcs⟩ := (HR.out.below HB.out).kid hx
      obtain ⟨a, m, hxe⟩ : ∃ a m, x = Rose.node a m := ⟨x.head, x.kids, Rose.eta x⟩
      subst hxe
      have HCS := hid (show CellsA wr b (o + k * 19) a from hcs)
      subst hbo
      have hE := List.mem_of_getElem? hx
      have HXK := hid (show EachAt w0 row g lb Inv ok st m from HI.out _ hE)
      have HKR := hid (show RowTA w0 a.kp a.kn a.kc m from LA_kids (HR.out.lies hx))
      have HKO := hid (show ∀ a' ∈ nodesL m, ok a' from fun a' ha => HOK.out a' (mem_nodesL hE (by rw [nodes_kids]; exact List.mem_cons_of_mem _ ha)))
      have hoka : ok a := HOK.out a (mem_nodesL hE (by rw [nodes_kids]; exact List.mem_cons_self))
      have HSS := hid (show stepAll st (nodesTo l (k + 1)) s = if (st a S.2).1 then stepAll st (nodesL m) (st a S.2).2 else (false, (st a S.2).2) by
        have h := sa_step st s hx (by rw [HS.out]; exact HST.out)
        rw [HS.out] at h
        exact h)
      clear hx hbl hcs hE
      have HBX := hid (boxA_new wr a)
      have hb1 : Below wr.heap.size wr (wr.alloc (boxA a)) := (Below.refl _ _).alloc (Nat.le_refl _) _
      have HB1 := hid (HB.out.trans (hb1.mono HB.out.size))
      have HIV1 := hid (HF.out.inv _ _ _ HIV.out hb1)
      have HCALL := hid (HF.out.call a S.2 _ hoka HB1.out HIV1.out)
      have HG1 := hid (HG.out.trans ((World.grownBy_alloc wr (boxA a) row)))
      clear hb1 hoka
      have hal : (wr.alloc (.cells #[.int .u8 0, .int .u8 0, .int .i64 0, .int .i64 0, .string ⟨#[]⟩, .string ⟨#[]⟩, .string ⟨#[]⟩, .int .i64 0, .slice none 0 0, .slice none 0 0, .int .u8 0, .int .i64 0, .slice none 0 0, .slice none 0 0, .int .u8 0, .int .i64 0, .slice none 0 0, .slice none 0 0, .slice none 0 0] 31)).heap[wr.heap.size]? = some (.cells #[.int .u8 0, .int .u8 0, .int .i64 0, .int .i64 0, .string ⟨#[]⟩, .string ⟨#[]⟩, .string ⟨#[]⟩, .int .i64 0, .slice none 0 0, .slice none 0 0, .int .u8 0, .int .i64 0, .slice none 0 0, .slice none 0 0, .int .u8 0, .int .i64 0, .slice none 0 0, .slice none 0 0, .slice none 0 0] 31 (0, 0)) := heap_alloc_new wr _
      have HAL := hid hal
      clear hal
      cases hq : (st a S.2).1 with
      | false =>
        rw [hq] at HCALL HSS
        have HQ := hid hq
        clear hq
        go_wp2_with (first
          | (refine wpList_load_mid rfl 31 _ rfl b (o + k * 19) rfl (encAH a) _ HCS.out.c Tryz.underlying31 rfl (by kernel_rfl) ?_)
          | (refine wpList_store_row rfl 31 _ _ rfl wr.heap.size (encAH a).toArray rfl rfl 31 _ HAL.out (by kernel_rfl) rfl (all_oneCell_toArray (encAH_one a)) ?_; rw [World.setRow_alloc_new])
          | (refine wpList_load_row rfl 31 _ rfl wr.heap.size rfl 31 _ (0, 0) _ HBX.out.blk Tryz.underlying31 rfl (by kernel_rfl) ?_)
          | (go_at_fn g; refine HCALL.out.mono ?_; rintro e w2 ⟨rfl, hi2, hg2⟩; have HI2 := hid hi2; have HG2 := hid (HG1.out.trans hg2); clear hi2 hg2))
        go_ret
        have hstop : stepAll st (nodesL l) s = (false, (st a S.2).2) := by
          rw [sa_stop st s l (k + 1) (by rw [HSS.out]; rfl), HSS.out]; rfl
        exact ⟨ret_bool (by rw [hstop]), by rw [hstop]; exact HI2.out, HG2.out⟩
      | true =>
        rw [hq] at HCALL HSS
        have HQ := hid hq
        clear hq
        have HM := hid (HF.out.hb)
        have q18 : ∀ w2, (wr.alloc (boxA a)).grownBy w2 row → Inv (st a S.2).2 w2 → w2.cell? ⟨wr.heap.size, 18, none⟩ = some (.slice a.kp a.kn a.kc) ∧ Below w0.heap.size w0 w2 := fun w2 hg2 hi2 => ⟨hg2.cell (a := ⟨wr.heap.size, 18, none⟩) (HBX.out.c 18 _ rfl) (fun e => by have := HF.out.lt _ e.symm _ _ HIV.out; exact Nat.lt_irrefl _ this), HB1.out.grown hg2 HB1.out.size HM.out⟩
        have HQ18 := hid q18
        clear q18
        cases hq2 : (stepAll st (nodesL m) (st a S.2).2).1 with
        | false =>
          have HQ2 := hid hq2
          clear hq2
          go_wp2_with (first
            | (refine wpList_load_mid rfl 31 _ rfl b (o + k * 19) rfl (encAH a) _ HCS.out.c Tryz.underlying31 rfl (by kernel_rfl) ?_)
            | (refine wpList_store_row rfl 31 _ _ rfl wr.heap.size (encAH a).toArray rfl rfl 31 _ HAL.out (by kernel_rfl) rfl (all_oneCell_toArray (encAH_one a)) ?_; rw [World.setRow_alloc_new])
            | (refine wpList_load_row rfl 31 _ rfl wr.heap.size rfl 31 _ (0, 0) _ HBX.out.blk Tryz.underlying31 rfl (by kernel_rfl) ?_)
            | (first | (go_at_fn g; refine HCALL.out.mono ?_; rintro e w2 ⟨rfl, hi2, hg2⟩; obtain ⟨c18, hb2⟩ := HQ18.out _ hg2 hi2; have HI2 := hid hi2; have HG2 := hid (HG1.out.trans hg2); have HB2 := hid hb2; clear hi2 hg2 hb2) | (go_at_call 59; refine (HXK.out _ _ _ HKR.out HKO.out _ _ HB2.out HI2.out).mono ?_; rw [HQ2.out]; rintro e w3 ⟨rfl, hi3, hg3⟩; have HI3 := hid hi3; have HG3 := hid (HG2.out.trans hg3); clear hi3 hg3)))
          go_ret
          have hstop : stepAll st (nodesL l) s = stepAll st (nodesL m) (st a S.2).2 := by
            rw [sa_stop st s l (k + 1) (by rw [HSS.out]; exact HQ2.out), HSS.out]; rfl
          exact ⟨ret_bool (by rw [hstop, HQ2.out]), by rw [hstop]; exact HI3.out, HG3.out⟩
        | true =>
          have HQ2 := hid hq2
          clear hq2
          go_wp2_with (first
            | (refine wpList_load_mid rfl 31 _ rfl b (o + k * 19) rfl (encAH a) _ HCS.out.c Tryz.underlying31 rfl (by kernel_rfl) ?_)
            | (refine wpList_store_row rfl 31 _ _ rfl wr.heap.size (encAH a).toArray rfl rfl 31 _ HAL.out (by kernel_rfl) rfl (all_oneCell_toArray (encAH_one a)) ?_; rw [World.setRow_alloc_new])
            | (refine wpList_load_row rfl 31 _ rfl wr.heap.size rfl 31 _ (0, 0) _ HBX.out.blk Tryz.underlying31 rfl (by kernel_rfl) ?_)
            | (first | (go_at_fn g; refine HCALL.out.mono ?_; rintro e w2 ⟨rfl, hi2, hg2⟩; obtain ⟨c18, hb2⟩ := HQ18.out _ hg2 hi2; have HI2 := hid hi2; have HG2 := hid (HG1.out.trans hg2); have HB2 := hid hb2; clear hi2 hg2 hb2) | (go_at_call 59; refine (HXK.out _ _ _ HKR.out HKO.out _ _ HB2.out HI2.out).mono ?_; rw [HQ2.out]; rintro e w3 ⟨rfl, hi3, hg3⟩; have HI3 := hid hi3; have HG3 := hid (HG2.out.trans hg3); clear hi3 hg3)))
          go_roundw
          case rel => exact ⟨k + 1, _, by omega, by go_num, HSS, by show (stepAll st (nodesL m) (st a S.2).2).1 = true; exact HQ2.out, HI3.out, HG3.out⟩
          case measure => simp [intOf]; omega
    · have hkn : k = n := by omega
      have hfull : nodesTo l k = nodesL l := sa_end l k (by rw [HR.out.row.len, hkn]; exact Nat.le_refl _)
      rw [hfull] at HS
      go_wp2_with fail
      go_ret
      exact ⟨ret_bool (by rw [HS.out, HST.out]), by rw [HS.out]; exact HIV.out, HG.out⟩
theorem aterm_each_any {w0 : World} {row : Option Nat} {g : Nat} {lb : Array Value} {σ : Type} {Inv : σ → World → Prop} {ok : AH → Prop} {st : AH → σ → Bool × σ} (F : FvA w0 row g lb Inv ok st) (l : List PA) : EachAt w0 row g lb Inv ok st l :=
  aterm_each_of F l (fun x _ => Rose.ind (P := fun (x : PA) => EachAt w0 row g lb Inv ok st x.kids) (fun a m ih => aterm_each_of F m ih) x)
end
section
open Go.RowKit
def encO (_ : Unit) : List Value := [.int .u8 1, .int .u8 0, .int .i64 0, .int .i64 0, .string ⟨#[]⟩, .string ⟨#[]⟩, .string ⟨#[]⟩, .slice none 0 0]
theorem encO_len : ∀ x, (encO x).length = 8 := fun _ => rfl
theorem encO_one : ∀ y, ∀ u ∈ encO y, u.oneCell' = true := by
  intro y u hu
  simp [encO] at hu
  rcases hu with rfl | rfl | rfl | rfl | rfl | rfl <;> rfl
abbrev zTmO : Obj := .cells #[.int .u8 0, .int .u8 0, .int .i64 0, .int .i64 0, .string ⟨#[]⟩, .string ⟨#[]⟩, .string ⟨#[]⟩, .slice none 0 0] 53
structure SInv (w wr : World) (h : HeadV) (a : AH) (v : Value) (k : Nat) : Prop where
  own : OwnE encO 8 wr (w.heap.size + 3) 53 v k (List.replicate k ())
  box : Box8 wr (w.heap.size + 2) h v
  res : wr.heap[w.heap.size + 1]? = some zTmO
  size : w.heap.size + 3 ≤ wr.heap.size
  below : Below w.heap.size w wr
theorem SInv.add {w wr w3 : World} {h : HeadV} {a : AH} {v v3 : Value} {k : Nat} (hi : SInv w wr h a v k) (hown : OwnE encO 8 w3 (w.heap.size + 3) 53 v3 (k + 1) (List.replicate k () ++ [()])) (hgw : wr.grownBy w3 v.ownBlock) :
    SInv w (w3.setCell ⟨w.heap.size + 2, 7, none⟩ v3) h a v3 (k + 1) := by
  have hfr : ∀ b, v.ownBlock = some b → w.heap.size + 3 ≤ b := fun b hb => (World.ownsRow.lt hi.own b hb).1
  have hfr3 : ∀ b, v3.ownBlock = some b → w.heap.size + 3 ≤ b := fun b hb => (World.ownsRow.lt hown b hb).1
  have hgs : w3.grownBy (w3.setCell ⟨w.heap.size + 2, 7, none⟩ v3) (some (w.heap.size + 2)) := grown_setCell1 _ _ _ _
  have hlt := hi.size
  refine ⟨?_, (hi.box.grown hgw (fun e => by have := hfr _ e; omega)).set v3, ?_, Nat.le_trans hi.size (Nat.le_trans hgw.size hgs.size), ?_⟩
  · refine ⟨by rw [List.replicate_succ']; exact hown.1, ?_⟩
    rw [List.replicate_succ']
    rcases hown.2 with h0 | ⟨g, cap, cur, rfl, h1, h2, rest⟩
    · exact .inl h0
    · refine .inr ⟨g, cap, cur, rfl, h1, ?_, rest⟩
      rw [hgs.block g (Array.getElem?_eq_some_iff.1 h2).1 (fun e => by injection e with e; omega)]; exact h2
  · have h1 := hi.res
    rw [hgs.block _ (by have := hgw.size; omega) (fun e => by injection e with e; omega), hgw.block _ (by omega) (fun e => by have := hfr _ e.symm; omega)]
    exact h1
  · exact (hi.below.grown hgw (by omega) (fun b hb => by have := hfr b hb; omega)).grown hgs (by have := hgw.size; omega) (fun b hb => by injection hb with hb; omega)
set_option maxHeartbeats 4000000 in
theorem aterm_stub_any (a : AH) (hk : a.kn ≤ 1000) (w : World) :
    Calls Tryz.prog 121 #[aggT a] w fun e w' => (∃ p c, e = .returned (aggTm a.hd p a.kn c) ∧ IsRow encO 8 w' p a.kn c (List.replicate a.kn ())) ∧ Below w.heap.size w w' := by
  have HA := hid (boxA_new w a)
  have HB := hid (((Below.refl w.heap.size w).alloc (Nat.le_refl _) (boxA a)))
  have hz : SInv w (((w.alloc (boxA a)).alloc zTmO).alloc (.cells #[.int .u8 a.kind, .int .u8 a.op, .int .i64 a.at_, .int .i64 a.n, .string a.name, .string a.arg, .string a.exn, .slice none 0 0] 53)) a.hd a (.slice none 0 0) 0 := by
    have h1 := box8_new ((w.alloc (boxA a)).alloc zTmO) a.hd (.slice none 0 0)
    refine ⟨OwnE.nil _ _ _ _ _, ?_, ?_, by simp, (HB.out.alloc (by simp) _).alloc (by simp; omega) _⟩
    · rw [show ((w.alloc (boxA a)).alloc zTmO).heap.size = w.heap.size + 2 by simp] at h1; exact h1
    · rw [((Below.refl _ _).alloc (Nat.le_refl _) _).block _ (by simp)]
      have := heap_alloc_new (w.alloc (boxA a)) zTmO
      simpa using this
  have hq : ((w.alloc (boxA a)).alloc zTmO).cell? ⟨w.heap.size, 18, none⟩ = some (.slice a.kp a.kn a.kc) ∧ (((w.alloc (boxA a)).alloc zTmO).alloc (.cells #[.int .u8 a.kind, .int .u8 a.op, .int .i64 a.at_, .int .i64 a.n, .string a.name, .string a.arg, .string a.exn, .slice none 0 0] 53)).cell? ⟨w.heap.size, 18, none⟩ = some (.slice a.kp a.kn a.kc) := by
    have h0 := HA.out.c 18 _ rfl
    have hb1 : Below (w.alloc (boxA a)).heap.size (w.alloc (boxA a)) ((w.alloc (boxA a)).alloc zTmO) := (Below.refl _ _).alloc (Nat.le_refl _) _
    constructor
    · rw [hb1.cell (by simp)]; exact h0
    · rw [(hb1.alloc hb1.size _).cell (by simp)]; exact h0
  obtain ⟨hq1, hq2⟩ := hq
  have HZ := hid hz
  have HQ2 := hid hq2
  clear hz hq1 hq2
  go_enter Tryz.func121, Tryz.ntmps121
  go_upto_region 2 with fail
  rw [show w.heap.size + 1 + 1 = w.heap.size + 2 from rfl]
  generalize (((w.alloc (boxA a)).alloc zTmO).alloc (.cells #[.int .u8 a.kind, .int .u8 a.op, .int .i64 a.at_, .int .i64 a.n, .string a.name, .string a.arg, .string a.exn, .slice none 0 0] 53)) = W3 at *
  have q18 := HQ2.out
  go_wp2_with fail
  clear q18
  go_loopw [10] (fun i wr => ∃ (k : Nat) (v : Value), k ≤ a.kn ∧ i = .int .i64 k ∧ SInv w wr a.hd a v k) (fun i _ => a.kn - (intOf i).toNat)
  case atStart => exact ⟨0, _, by omega, rfl, HZ.out⟩
  case round =>
    obtain ⟨k, v, hk1, rfl, hz⟩ := hrel
    have HZI := hid hz
    have HSZ := hid hz.size
    obtain ⟨x0, x1, x2, x3, x4, x5, x6, x7, x8⟩ := hz.box.cells
    have hlt2 := hz.box.lt
    clear hz
    by_cases hlt : k < a.kn
    · go_wp2_with (at_builtin; refine wpList_append1 rfl _ _ 51 rfl (w.heap.size + 3) 53 _ 8 96 Tryz.underlying51 infoTm rfl (by decide) encO encO_len encO_one () _ _ _ HZI.out.own rfl rfl ?c1 ?c2 ?c3 ?_)
      case c1 => omega
      case c2 => omega
      case c3 => have := HSZ.out; omega
      · intro v3 w3 hown3 hg3
        obtain ⟨p3, c3, rfl, hrow3⟩ := OwnE.isRow encO_len (by omega) hown3
        clear hrow3
        have HA3 := hid (HZI.out.add hown3 hg3)
        have HB8 := hid (HZI.out.box.grown hg3 (fun e => by have := (World.ownsRow.lt HZI.out.own _ e).1; omega))
        clear x0 x1 x2 x3 x4 x5 x6 x7 x8 hown3 hg3
        obtain ⟨x0, x1, x2, x3, x4, x5, x6, x7, x8⟩ := HB8.out.cells
        go_wp2_with fail
        go_roundw
        case rel => exact ⟨k + 1, _, by omega, by go_num, HA3.out⟩
        case measure => simp [intOf]; omega
    · obtain rfl : k = a.kn := by omega
      clear hlt hk1
      obtain ⟨p', c', rfl, hrow⟩ := HZI.out.own.isRow encO_len (by omega)
      have HROW := hid hrow
      clear hrow
      go_wp2_with (first
        | (refine wpList_load_row rfl 53 _ rfl (w.heap.size + 2) rfl 53 _ (0, 0) _ HZI.out.box.blk Tryz.underlying53 rfl (by kernel_rfl) ?_)
        | (refine wpList_store_row rfl 53 _ _ rfl (w.heap.size + 1) #[.int .u8 a.hd.kind, .int .u8 a.hd.op, .int .i64 a.hd.at_, .int .i64 a.hd.n, .string a.hd.name, .string a.hd.arg, .string a.hd.exn, .slice p' a.kn c'] rfl rfl 53 _ HZI.out.res (by kernel_rfl) rfl (by simp [Value.oneCell']) ?_))
      have hres := setRow_heap wr (w.heap.size + 1) _ #[.int .u8 a.hd.kind, .int .u8 a.hd.op, .int .i64 a.hd.at_, .int .i64 a.hd.n, .string a.hd.name, .string a.hd.arg, .string a.hd.exn, .slice p' a.kn c'] _ _ HZI.out.res
      have hlt3 : w.heap.size + 1 < wr.heap.size := by have := HSZ.out; omega
      (try simp only [Exit.inBlock, Exit.then])
      refine bodyPost_ret (results_cell_row rfl _ _ _ _ _ _ _ rfl hres Tryz.underlying53 rfl (by kernel_rfl)) rfl ?_
      have hg : wr.grownBy (wr.setRow (w.heap.size + 1) #[.int .u8 a.hd.kind, .int .u8 a.hd.op, .int .i64 a.hd.at_, .int .i64 a.hd.n, .string a.hd.name, .string a.hd.arg, .string a.hd.exn, .slice p' a.kn c']) (some (w.heap.size + 1)) :=
        ⟨rfl, rfl, rfl, by simp, fun i hi hne => setRow_other _ _ _ _ (fun e => hne (by rw [e]))⟩
      obtain ⟨p2, c2, hv2, hrow2⟩ := (HZI.out.own.other hg (fun b hb e => by have := (World.ownsRow.lt HZI.out.own b hb).1; injection e with e; omega)).isRow encO_len (by omega)
      cases hv2
      refine ⟨⟨p', c', rfl, hrow2⟩, HZI.out.below.grown hg (by omega) (fun b hb => by injection hb with hb; omega)⟩
end
section
open Go.RowKit
structure TmV where
  hd : HeadV
  kp : Option Addr
  kn : Nat
  kc : Nat
def encTm (t : TmV) : List Value := [.int .u8 t.hd.kind, .int .u8 t.hd.op, .int .i64 t.hd.at_, .int .i64 t.hd.n, .string t.hd.name, .string t.hd.arg, .string t.hd.exn, .slice t.kp t.kn t.kc]
theorem encTm_len (t : TmV) : (encTm t).length = 8 := rfl
theorem encTm_one : ∀ t : TmV, ∀ u ∈ encTm t, u.oneCell' = true := by
  intro y u hu
  simp [encTm] at hu
  rcases hu with rfl | rfl | rfl | rfl | rfl | rfl | rfl | rfl <;> rfl
abbrev aggV (t : TmV) : Value := aggTm t.hd t.kp t.kn t.kc
def nodesK (kids : TmV → List TmV) (l : List TmV) : List TmV := (l.map (fun t => t :: kids t)).flatten
theorem nodesK_split (kids : TmV → List TmV) (l : List TmV) (k : Nat) : nodesK kids l = nodesK kids (l.take k) ++ nodesK kids (l.drop k) := by
  unfold nodesK
  rw [← List.flatten_append, ← List.map_append, List.take_append_drop]
theorem nodesK_step {kids : TmV → List TmV} {l : List TmV} {k : Nat} {x : TmV} (h : l[k]? = some x) : nodesK kids (l.take (k + 1)) = nodesK kids (l.take k) ++ x :: kids x := by
  unfold nodesK
  rw [List.take_add_one, h]
  simp
theorem saK_step {σ : Type} {kids : TmV → List TmV} (st : TmV → σ → Bool × σ) (s : σ) {l : List TmV} {k : Nat} {x : TmV} (h : l[k]? = some x) (hb : (stepAll st (nodesK kids (l.take k)) s).1 = true) :
    stepAll st (nodesK kids (l.take (k + 1))) s = if (st x (stepAll st (nodesK kids (l.take k)) s).2).1 then stepAll st (kids x) (st x (stepAll st (nodesK kids (l.take k)) s).2).2 else (false, (st x (stepAll st (nodesK kids (l.take k)) s).2).2) := by
  rw [nodesK_step h, stepAll_app, if_pos hb]
  rfl
theorem saK_stop {σ : Type} {kids : TmV → List TmV} (st : TmV → σ → Bool × σ) (s : σ) (l : List TmV) (k : Nat) (hb : (stepAll st (nodesK kids (l.take k)) s).1 = false) : stepAll st (nodesK kids l) s = stepAll st (nodesK kids (l.take k)) s := by
  rw [nodesK_split kids l k, stepAll_app, if_neg (by rw [hb]; exact Bool.false_ne_true)]
structure FvT (w0 : World) (row : Option Nat) (g : Nat) (lb : Array Value) {σ : Type} (Inv : σ → World → Prop) (ok : TmV → Prop) (st : TmV → σ → Bool × σ) : Prop where
  eg : ∀ args w, (callFunc g args).run Tryz.prog w = .ok (.enter g args) w
  hb : ∀ b, row = some b → w0.heap.size ≤ b
  lt : ∀ b, row = some b → ∀ s W, Inv s W → b < W.heap.size
  inv : ∀ s W W', Inv s W → Below W.heap.size W W' → Inv s W'
  call : ∀ a s W, ok a → Below w0.heap.size w0 W → Inv s W → Calls Tryz.prog g (#[aggV a] ++ lb) W fun e w' => e = .returned (.bool (st a s).1) ∧ Inv (st a s).2 w' ∧ W.grownBy w' row
def EachT (w0 : World) (row : Option Nat) (g : Nat) (lb : Array Value) {σ : Type} (Inv : σ → World → Prop) (ok : TmV → Prop) (st : TmV → σ → Bool × σ) (p : Option Addr) (n c : Nat) (L : List TmV) : Prop :=
  (∀ a ∈ L, ok a) → ∀ s W, Below w0.heap.size w0 W → Inv s W → Calls Tryz.prog 168 #[.func (.func g) #[] lb, .slice p n c] W fun e w' => e = .returned (.bool (stepAll st L s).1) ∧ Inv (stepAll st L s).2 w' ∧ W.grownBy w' row
theorem mem_nodesK {kids : TmV → List TmV} {l : List TmV} {x : TmV} (hx : x ∈ l) {a : TmV} (ha : a ∈ x :: kids x) : a ∈ nodesK kids l := List.mem_flatten.2 ⟨_, List.mem_map_of_mem hx, ha⟩
theorem box8T_new (w : World) (t : TmV) : Box8 (w.alloc (boxTm t.hd t.kp t.kn t.kc)) w.heap.size t.hd (.slice t.kp t.kn t.kc) := ⟨heap_alloc_new w _⟩
set_option maxHeartbeats 4000000 in
theorem term_each_of {w0 : World} {row : Option Nat} {g : Nat} {lb : Array Value} {σ : Type} {Inv : σ → World → Prop} {ok : TmV → Prop} {st : TmV → σ → Bool × σ} (F : FvT w0 row g lb Inv ok st) (kids : TmV → List TmV)
    {p : Option Addr} {n c : Nat} {l : List TmV} (hR : IsRow encTm 8 w0 p n c l) (ih : ∀ x ∈ l, EachT w0 row g lb Inv ok st x.kp x.kn x.kc (kids x)) : EachT w0 row g lb Inv ok st p n c (nodesK kids l) := by
  intro hok s W hbW hinv
  have eg := F.eg
  have HF := hid F
  have HI := hid ih
  have HR := hid hR
  have HOK := hid hok
  have HBW := hid hbW
  have HV := hid hinv
  have hnm : n ≤ 9223372036854775807 := hR.max
  clear F ih hR hok hbW hinv
  go_enter Tryz.func168, Tryz.ntmps168
  go_wp2_with fail
  go_loopw [9] (fun i wr => ∃ (k : Nat) (S : Bool × σ), k ≤ n ∧ i = .int .i64 k ∧ Hid (stepAll st (nodesK kids (l.take k)) s = S) ∧ S.1 = true ∧ Inv S.2 wr ∧ W.grownBy wr row) (fun i _ => n - (intOf i).toNat)
  case atStart => exact ⟨0, (true, s), by omega, rfl, hid rfl, rfl, HV.out, World.grownBy.refl _ _⟩
  case round =>
    obtain ⟨k, S, hk, rfl, HS, hs, hiv, hg⟩ := hrel
    have HIV := hid hiv
    have HG := hid hg
    have HST := hid hs
    have HB := hid (HBW.out.grown hg HBW.out.size HF.out.hb)
    clear hiv hg hs
    by_cases hlt : k < n
    · obtain ⟨a, hx⟩ := get_of_lt (l := l) (j := k) (by rw [HR.out.len]; exact hlt)
      obtain ⟨b, o, hbo, hbl, hcs⟩ := (HR.out.below HB.out).row.elem hx
      have HCS := hid hcs
      subst hbo
      have hE := List.mem_of_getElem? hx
      have HXK := hid (show EachT w0 row g lb Inv ok st a.kp a.kn a.kc (kids a) from HI.out _ hE)
      have HKO := hid (show ∀ a' ∈ kids a, ok a' from fun a' ha => HOK.out a' (mem_nodesK hE (List.mem_cons_of_mem _ ha)))
      have hoka : ok a := HOK.out a (mem_nodesK hE List.mem_cons_self)
      have HSS := hid (show stepAll st (nodesK kids (l.take (k + 1))) s = if (st a S.2).1 then stepAll st (kids a) (st a S.2).2 else (false, (st a S.2).2) by
        have h := saK_step (kids := kids) st s hx (by rw [HS.out]; exact HST.out)
        rw [HS.out] at h
        exact h)
      clear hx hbl hcs hE
      have HBX := hid (box8T_new wr a)
      have hb1 : Below wr.heap.size wr (wr.alloc (boxTm a.hd a.kp a.kn a.kc)) := (Below.refl _ _).alloc (Nat.le_refl _) _
      have HB1 := hid (HB.out.trans (hb1.mono HB.out.size))
      have HIV1 := hid (HF.out.inv _ _ _ HIV.out hb1)
      have HCALL := hid (HF.out.call a S.2 _ hoka HB1.out HIV1.out)
      have HG1 := hid (HG.out.trans ((World.grownBy_alloc wr (boxTm a.hd a.kp a.kn a.kc) row)))
      clear hb1 hoka
      have hal : (wr.alloc zTmO).heap[wr.heap.size]? = some (.cells #[.int .u8 0, .int .u8 0, .int .i64 0, .int .i64 0, .string ⟨#[]⟩, .string ⟨#[]⟩, .string ⟨#[]⟩, .slice none 0 0] 53 (0, 0)) := heap_alloc_new wr _
      have HAL := hid hal
      clear hal
      cases hq : (st a S.2).1 with
      | false =>
        rw [hq] at HCALL HSS
        have HQ := hid hq
        clear hq
        go_wp2_with (first
          | (refine wpList_load_mid rfl 53 _ rfl b (o + k * 8) rfl (encTm a) _ HCS.out Tryz.underlying53 rfl (by kernel_rfl) ?_)
          | (refine wpList_store_row rfl 53 _ _ rfl wr.heap.size (encTm a).toArray rfl rfl 53 _ HAL.out (by kernel_rfl) rfl (all_oneCell_toArray (encTm_one a)) ?_; rw [World.setRow_alloc_new])
          | (refine wpList_load_row rfl 53 _ rfl wr.heap.size rfl 53 _ (0, 0) _ HBX.out.blk Tryz.underlying53 rfl (by kernel_rfl) ?_)
          | (go_at_fn g; refine HCALL.out.mono ?_; rintro e w2 ⟨rfl, hi2, hg2⟩; have HI2 := hid hi2; have HG2 := hid (HG1.out.trans hg2); clear hi2 hg2))
        go_ret
        have hstop : stepAll st (nodesK kids l) s = (false, (st a S.2).2) := by
          rw [saK_stop st s l (k + 1) (by rw [HSS.out]; rfl), HSS.out]; rfl
        exact ⟨ret_bool (by rw [hstop]), by rw [hstop]; exact HI2.out, HG2.out⟩
      | true =>
        rw [hq] at HCALL HSS
        have HQ := hid hq
        clear hq
        have HM := hid (HF.out.hb)
        have q18 : ∀ w2, (wr.alloc (boxTm a.hd a.kp a.kn a.kc)).grownBy w2 row → Inv (st a S.2).2 w2 → w2.cell? ⟨wr.heap.size, 7, none⟩ = some (.slice a.kp a.kn a.kc) ∧ Below w0.heap.size w0 w2 := fun w2 hg2 hi2 => ⟨hg2.cell (a := ⟨wr.heap.size, 7, none⟩) (HBX.out.cells.2.2.2.2.2.2.2.1) (fun e => by have := HF.out.lt _ e.symm _ _ HIV.out; exact Nat.lt_irrefl _ this), HB1.out.grown hg2 HB1.out.size HM.out⟩
        have HQ18 := hid q18
        clear q18
        cases hq2 : (stepAll st (kids a) (st a S.2).2).1 with
        | false =>
          have HQ2 := hid hq2
          clear hq2
          go_wp2_with (first
            | (refine wpList_load_mid rfl 53 _ rfl b (o + k * 8) rfl (encTm a) _ HCS.out Tryz.underlying53 rfl (by kernel_rfl) ?_)
            | (refine wpList_store_row rfl 53 _ _ rfl wr.heap.size (encTm a).toArray rfl rfl 53 _ HAL.out (by kernel_rfl) rfl (all_oneCell_toArray (encTm_one a)) ?_; rw [World.setRow_alloc_new])
            | (refine wpList_load_row rfl 53 _ rfl wr.heap.size rfl 53 _ (0, 0) _ HBX.out.blk Tryz.underlying53 rfl (by kernel_rfl) ?_)
            | (first | (go_at_fn g; refine HCALL.out.mono ?_; rintro e w2 ⟨rfl, hi2, hg2⟩; obtain ⟨c18, hb2⟩ := HQ18.out _ hg2 hi2; have HI2 := hid hi2; have HG2 := hid (HG1.out.trans hg2); have HB2 := hid hb2; clear hi2 hg2 hb2) | (go_at_call 168; refine (HXK.out HKO.out _ _ HB2.out HI2.out).mono ?_; rw [HQ2.out]; rintro e w3 ⟨rfl, hi3, hg3⟩; have HI3 := hid hi3; have HG3 := hid (HG2.out.trans hg3); clear hi3 hg3)))
          go_ret
          have hstop : stepAll st (nodesK kids l) s = stepAll st (kids a) (st a S.2).2 := by
            rw [saK_stop st s l (k + 1) (by rw [HSS.out]; exact HQ2.out), HSS.out]; rfl
          exact ⟨ret_bool (by rw [hstop, HQ2.out]), by rw [hstop]; exact HI3.out, HG3.out⟩
        | true =>
          have HQ2 := hid hq2
          clear hq2
          go_wp2_with (first
            | (refine wpList_load_mid rfl 53 _ rfl b (o + k * 8) rfl (encTm a) _ HCS.out Tryz.underlying53 rfl (by kernel_rfl) ?_)
            | (refine wpList_store_row rfl 53 _ _ rfl wr.heap.size (encTm a).toArray rfl rfl 53 _ HAL.out (by kernel_rfl) rfl (all_oneCell_toArray (encTm_one a)) ?_; rw [World.setRow_alloc_new])
            | (refine wpList_load_row rfl 53 _ rfl wr.heap.size rfl 53 _ (0, 0) _ HBX.out.blk Tryz.underlying53 rfl (by kernel_rfl) ?_)
            | (first | (go_at_fn g; refine HCALL.out.mono ?_; rintro e w2 ⟨rfl, hi2, hg2⟩; obtain ⟨c18, hb2⟩ := HQ18.out _ hg2 hi2; have HI2 := hid hi2; have HG2 := hid (HG1.out.trans hg2); have HB2 := hid hb2; clear hi2 hg2 hb2) | (go_at_call 168; refine (HXK.out HKO.out _ _ HB2.out HI2.out).mono ?_; rw [HQ2.out]; rintro e w3 ⟨rfl, hi3, hg3⟩; have HI3 := hid hi3; have HG3 := hid (HG2.out.trans hg3); clear hi3 hg3)))
          go_roundw
          case rel => exact ⟨k + 1, _, by omega, by go_num, HSS, by show (stepAll st (kids a) (st a S.2).2).1 = true; exact HQ2.out, HI3.out, HG3.out⟩
          case measure => simp [intOf]; omega
    · have hkn : k = n := by omega
      have hfull : l.take k = l := take_full (by rw [HR.out.len, hkn]; exact Nat.le_refl _)
      rw [hfull] at HS
      go_wp2_with fail
      go_ret
      exact ⟨ret_bool (by rw [HS.out, HST.out]), by rw [HS.out]; exact HIV.out, HG.out⟩
def leafV : TmV := ⟨⟨1, 0, 0, 0, ⟨#[]⟩, ⟨#[]⟩, ⟨#[]⟩⟩, none, 0, 0⟩
theorem term_each_stub {w0 : World} {row : Option Nat} {g : Nat} {lb : Array Value} {σ : Type} {Inv : σ → World → Prop} {ok : TmV → Prop} {st : TmV → σ → Bool × σ} (F : FvT w0 row g lb Inv ok st) {t : TmV} {p : Option Addr} {c : Nat}
    (hk : IsRow encO 8 w0 t.kp t.kn t.kc (List.replicate t.kn ())) (ht : IsRow encTm 8 w0 p 1 c [t]) : EachT w0 row g lb Inv ok st p 1 c (t :: List.replicate t.kn leafV) := by
  have h0 : EachT w0 row g lb Inv ok st none 0 0 [] := term_each_of F (fun _ => []) (IsRow.none _ _ _) (fun x hx => absurd hx (by simp))
  have h1 : IsRow encTm 8 w0 t.kp t.kn t.kc (List.replicate t.kn leafV) := by
    refine ⟨by simp, hk.max, hk.le, hk.nil, ?_⟩
    rcases hk.row with h | ⟨b, o, hp, hb, hc⟩
    · left
      have h2 : t.kn = 0 := by simpa using h
      simp [h2]
    · refine .inr ⟨b, o, hp, hb, fun j x hx i v hv => ?_⟩
      have hj : j < t.kn := by
        have := (List.getElem?_eq_some_iff.1 hx).1
        simpa using this
      have hx2 : x = leafV := (List.mem_replicate.1 (List.mem_of_getElem? hx)).2
      subst hx2
      exact hc j () (by simp [hj]) i v hv
  have h2 := term_each_of F (fun _ => []) h1 (fun x hx => by
    rw [(List.mem_replicate.1 hx).2]; exact h0)
  have e2 : nodesK (fun _ => []) (List.replicate t.kn leafV) = List.replicate t.kn leafV := by
    unfold nodesK
    generalize t.kn = m
    induction m with
    | zero => rfl
    | succ m ih => rw [List.replicate_succ, List.map_cons, List.flatten_cons, ih]; rfl
  rw [e2] at h2
  have h3 := term_each_of F (fun _ => List.replicate t.kn leafV) ht (fun x hx => by
    rw [List.mem_singleton.1 hx]; exact h2)
  simpa [nodesK] using h3
end
section
open Go.RowKit
theorem wpList_load_midG {P : Program} {ops : Array Oper} {rest : List Oper} {op : Oper} {a : Act} {w : World} {Q : Exit → Act → World → Prop} (hw : Region.wanted op (yielded ops a.tmps) = true) (ty : TypeId) (x : Operand) (ho : op.op = .load ty x)
    (b o : Nat) (hx : a.eval x = .pointer (some ⟨b, o, none⟩)) (cs : List Value) (d : TypeDesc) (hc : w.rangeAt b o cs)
    (hu : P.underlying ty = some d) (hd : d.isRow = true) (hi : (P.info? ty).map (·.size) = some cs.length)
    (h : wpList P ops Q rest (a.put op.dst (.agg cs.toArray)) w) : wpList P ops Q (op :: rest) a w := by
  rw [wpList, if_pos hw]
  exact .inl (wp_load_mid ty x ho b o hx cs d hc hu hd hi h)
theorem Box8.range {w : World} {g : Nat} {h : HeadV} {p : Option Addr} {n c : Nat} (hb : Box8 w g h (.slice p n c)) : w.rangeAt g 0 (encTm ⟨h, p, n, c⟩) := by
  have hb := hb.blk
  intro i u hu
  have : i < 8 := (List.getElem?_eq_some_iff.1 hu).1
  rcases (by omega : i = 0 ∨ i = 1 ∨ i = 2 ∨ i = 3 ∨ i = 4 ∨ i = 5 ∨ i = 6 ∨ i = 7) with rfl | rfl | rfl | rfl | rfl | rfl | rfl | rfl <;> (simp [encTm] at hu; subst hu; simp [World.cell?, hb])
def IntBlk (b : Nat) (z : Int) (W : World) : Prop := W.heap[b]? = some (.cells #[.int .i64 z] 3 (0, 0))
theorem IntBlk.cells {W : World} {b : Nat} {z : Int} (h : IntBlk b z W) : W.cell? ⟨b, 0, none⟩ = some (.int .i64 z) ∧ W.frozen? ⟨b, 0, none⟩ = false := by
  unfold IntBlk at h
  simp [World.cell?, World.frozen?, h]
theorem IntBlk.lt {W : World} {b : Nat} {z : Int} (h : IntBlk b z W) : b < W.heap.size := (Array.getElem?_eq_some_iff.1 h).1
theorem IntBlk.below {W W' : World} {b : Nat} {z : Int} (h : IntBlk b z W) (hb : Below W.heap.size W W') : IntBlk b z W' := by
  unfold IntBlk; rw [hb.block b h.lt]; exact h
theorem IntBlk.set {W : World} {b : Nat} {z : Int} (h : IntBlk b z W) (y : Int) : IntBlk b y (W.setCell ⟨b, 0, none⟩ (.int .i64 y)) := by
  unfold IntBlk at h ⊢
  simpa using heap_setCell1 (o := 0) (.int .i64 y) h
def plus1 {α : Type} (_ : α) (z : Int) : Bool × Int := (true, IntKind.i64.wrap (z + 1))
theorem plus1_all {α : Type} : ∀ (l : List α) (z : Int), 0 ≤ z → z + l.length ≤ 1000000000 → stepAll plus1 l z = (true, z + l.length)
  | [], z, _, _ => by simp [stepAll]
  | a :: l, z, h0, h => by
    have hl : ((a :: l).length : Int) = (l.length : Int) + 1 := by simp
    have e : IntKind.i64.wrap (z + 1) = z + 1 := IntWalk.i64_in _ (by omega)
    show (if true = true then stepAll plus1 l (IntKind.i64.wrap (z + 1)) else _) = _
    rw [if_pos rfl, e, plus1_all l (z + 1) (by omega) (by omega), hl]
    congr 1
    omega
set_option maxHeartbeats 1000000 in
theorem term_Size1_any (t : TmV) (b : Nat) (z : Int) (W : World) (h : IntBlk b z W) :
    Calls Tryz.prog 203 #[aggV t, .pointer (some ⟨b, 0, none⟩)] W fun e w' => e = .returned (.bool (plus1 t z).1) ∧ IntBlk b (plus1 t z).2 w' ∧ W.grownBy w' (some b) := by
  have HA := hid (h.below ((Below.refl _ _).alloc (Nat.le_refl _) (boxTm t.hd t.kp t.kn t.kc)))
  obtain ⟨q0, qf⟩ := HA.out.cells
  obtain ⟨Z, hZ⟩ : ∃ Z, IntKind.i64.wrap (z + 1) = Z := ⟨_, rfl⟩
  have HZ : Hid ((plus1 t z).2 = Z) := hZ
  clear h
  go_enter Tryz.func203, Tryz.ntmps203
  go_wp2_with fail
  go_ret
  refine ⟨rfl, ?_⟩
  rw [HZ.out]
  exact ⟨HA.out.set Z, (World.grownBy_alloc W _ _).trans (grown_setCell1 _ _ _ _)⟩
theorem fvT_Size {w0 : World} {b : Nat} (hb : w0.heap.size ≤ b) : FvT w0 (some b) 203 #[.pointer (some ⟨b, 0, none⟩)] (IntBlk b) (fun _ => True) plus1 where
  eg := fun args w => rfl
  hb := fun b' h => by injection h with h; omega
  lt := fun b' h s W hi => by injection h with h; rw [← h]; exact hi.lt
  inv := fun s W W' hi hbl => hi.below hbl
  call := fun a s W _ _ hi => term_Size1_any a b s W hi
set_option maxHeartbeats 1000000 in
theorem term_Size_stub {w : World} {t : TmV} {p : Option Addr} {c : Nat} (hk : IsRow encO 8 w t.kp t.kn t.kc (List.replicate t.kn ())) (ht : IsRow encTm 8 w p 1 c [t]) (h3 : t.kn ≤ 1000) :
    Calls Tryz.prog 167 #[.slice p 1 c] w fun e w' => e = .returned (.int .i64 (1 + t.kn)) ∧ Below w.heap.size w w' := by
  have HE := hid (term_each_stub (fvT_Size (w0 := w) (b := w.heap.size) (Nat.le_refl _)) hk ht)
  have HP : Hid (stepAll plus1 (t :: List.replicate t.kn leafV) 0 = (true, 1 + (t.kn : Int))) := by
    show _ = _
    rw [plus1_all (t :: List.replicate t.kn leafV) 0 (by omega) (by simp; omega)]
    congr 1
    simp; omega
  have HI : Hid (IntBlk w.heap.size 0 (w.alloc (.cells #[.int .i64 0] 3))) := heap_alloc_new w _
  have HB := hid ((Below.refl w.heap.size w).alloc (Nat.le_refl _) (.cells #[.int .i64 0] 3))
  have HG := hid (World.grownBy_alloc w (.cells #[.int .i64 0] 3) (some w.heap.size))
  clear hk ht
  go_enter Tryz.func167, Tryz.ntmps167
  go_wp2_with (go_at_call 168; refine (HE.out (fun _ _ => trivial) 0 _ HB.out HI.out).mono ?_; rw [HP.out]; rintro e w2 ⟨rfl, hi2, hg2⟩; obtain ⟨q0, qf⟩ := hi2.cells; have HG2 := hid (HG.out.trans hg2); clear hi2 hg2)
  go_ret
  exact ⟨rfl, held_under HG2.out (Nat.le_refl _) (fun b hb => by injection hb with hb; omega)⟩
theorem leaf_node : node4B leafV.hd 0 = true := by decide
def nodeT (t : TmV) (_ : Unit) : Bool × Unit := (node4B t.hd t.kn, ())
theorem fvT_node {w0 : World} (hv : Vr w0) : FvT w0 none 169 #[] (fun (_ : Unit) _ => True) (fun t => 0 ≤ t.hd.kind ∧ t.hd.kind ≤ 255 ∧ t.kn ≤ 1000000) nodeT where
  eg := fun args w => rfl
  hb := fun b' h => by cases h
  lt := fun b' h => by cases h
  inv := fun _ _ _ _ _ => trivial
  call := fun a s W ok hb _ => by
    refine (term_node_any a.hd ok.1 ok.2.1 a.kp a.kn a.kc ok.2.2 W (hv.below hb)).mono ?_
    rintro e w' ⟨rfl, hb'⟩
    exact ⟨rfl, trivial, hb'.os, hb'.tape, hb'.output, hb'.size, fun k hk _ => hb'.block k hk⟩
theorem stepAll_leaf : ∀ n, stepAll nodeT (List.replicate n leafV) () = (true, ())
  | 0 => rfl
  | n + 1 => by
    rw [List.replicate_succ]
    show (if (node4B leafV.hd 0) = true then stepAll nodeT (List.replicate n leafV) () else _) = _
    rw [leaf_node, if_pos rfl, stepAll_leaf n]
theorem stepAll_stub (t : TmV) (n : Nat) : (stepAll nodeT (t :: List.replicate n leafV) ()).1 = node4B t.hd t.kn := by
  show (if (node4B t.hd t.kn) = true then stepAll nodeT (List.replicate n leafV) () else (false, ())).1 = _
  rw [stepAll_leaf]
  cases node4B t.hd t.kn <;> rfl
set_option maxHeartbeats 2000000 in
theorem term_May_stub {w : World} (hv : Vr w) {t : TmV} (hk : IsRow encO 8 w t.kp t.kn t.kc (List.replicate t.kn ())) (h3 : t.kn ≤ 1000) (hk0 : 0 ≤ t.hd.kind) (hk1 : t.hd.kind ≤ 255) :
    Calls Tryz.prog 120 #[aggV t] w fun e w' => e = .returned (.bool (node4B t.hd t.kn)) ∧ Below w.heap.size w w' := by
  have HV := hid hv
  have HK := hid hk
  have HBX := hid (box8T_new w t)
  have HB := hid ((Below.refl w.heap.size w).alloc (Nat.le_refl _) (boxTm t.hd t.kp t.kn t.kc))
  have HS := hid (stepAll_stub t t.kn)
  have hrow : ∀ (W : World) (ty : TypeId) (gs : Nat), W.heap.size = gs → IsRow encTm 8 (W.alloc (.cells #[.int .u8 t.hd.kind, .int .u8 t.hd.op, .int .i64 t.hd.at_, .int .i64 t.hd.n, .string t.hd.name, .string t.hd.arg, .string t.hd.exn, .slice t.kp t.kn t.kc] ty)) (some ⟨gs, 0, none⟩) 1 1 [t] := fun W ty gs hgs =>
    ⟨rfl, by decide, by decide, (by intro h; cases h), RowE.newAt encTm_len W [t] _ (by simp [encTm]) _ _ _ hgs⟩
  have HROW := hid hrow
  clear hv hk hrow
  go_enter Tryz.func120, Tryz.ntmps120
  have hle : decide (1 + (t.kn : Int) ≤ 4000) = true := by simp; omega
  have hle2 : decide ((1 : Int) + t.kn ≤ 4000) = true := hle
  go_wp2_with (first
    | (refine wpList_load_row rfl 53 _ rfl w.heap.size rfl 53 _ (0, 0) _ HBX.out.blk Tryz.underlying53 rfl (by kernel_rfl) ?_)
    | (refine wpList_load_midG (by rfl) 53 _ rfl w.heap.size 0 rfl [.int .u8 t.hd.kind, .int .u8 t.hd.op, .int .i64 t.hd.at_, .int .i64 t.hd.n, .string t.hd.name, .string t.hd.arg, .string t.hd.exn, .slice t.kp t.kn t.kc] _ HBX.out.range Tryz.underlying53 rfl (by kernel_rfl) ?_)
    | (go_at_call 167; refine (term_Size_stub (HK.out.below (HB.out.alloc HB.out.size _)) (HROW.out _ _ _ (by simp)) (by omega)).mono ?_; rintro e w2 ⟨rfl, hb⟩; have HB2 := hid ((HB.out.alloc HB.out.size _).trans (hb.mono (HB.out.alloc HB.out.size _).size)); have HBX := hid ((HBX.out.below ((Below.refl _ _).alloc (Nat.le_refl _) _)).below hb); clear hb)
    | (go_at_call 168; refine (term_each_stub (fvT_node (HV.out.below (HB2.out.alloc HB2.out.size _))) (HK.out.below (HB2.out.alloc HB2.out.size _)) (HROW.out _ _ _ (by simp)) (by intro a ha; rcases List.mem_cons.1 ha with rfl | ha; exact ⟨hk0, hk1, by omega⟩; rw [(List.mem_replicate.1 ha).2]; exact ⟨by decide, by decide, by decide⟩) () _ (Below.refl _ _) trivial).mono ?_; rw [HS.out]; rintro e w3 ⟨rfl, _, hg3⟩; have HB3 := hid (held_under hg3 (Nat.le_refl _) (fun b h => by cases h)); clear hg3))
  go_ret
  exact ⟨rfl, HB2.out.trans (((Below.refl _ w2).alloc (Nat.le_refl _) _ |>.trans (HB3.out.mono (by simp))).mono HB2.out.size)⟩
end
end Go.Proofs.YtkdjnegfnhldpaaGreatDoor
