/- Part 29 of the texts: St, Te. -/
import Derived.Test.YtdlbjngpohkglaaGreatDoorG28
import Derived.Test.YtdlbjngpohkglaaGreatDoorG26
section
set_option linter.unusedVariables false
set_option maxRecDepth 100000
set_option linter.unusedSimpArgs false
namespace Go.Proofs.YtdlbjngpohkglaaGreatDoor
open Go.RowKit

def encO (_ : Unit) : List Value := [.int .u8 1, .int .u8 0, .int .i64 0, .int .i64 0, .string ⟨#[]⟩, .string ⟨#[]⟩, .string ⟨#[]⟩, .slice none 0 0]
theorem encO_len : ∀ x, (encO x).length = 8 := fun _ => rfl
theorem encO_one : ∀ y, ∀ u ∈ encO y, u.oneCell' = true := by
  intro y u hu
  simp [encO] at hu
  rcases hu with rfl | rfl | rfl | rfl | rfl | rfl <;> rfl
abbrev zTmO : Obj := .cells #[.int .u8 0, .int .u8 0, .int .i64 0, .int .i64 0, .string ⟨#[]⟩, .string ⟨#[]⟩, .string ⟨#[]⟩, .slice none 0 0] 86
/-- out.Kids = append(out.Kids, ..), k times so far -/
structure SInv (w wr : World) (h : HeadV) (a : AH) (v : Value) (k : Nat) : Prop where
  own : OwnE encO 8 wr (w.heap.size + 3) 86 v k (List.replicate k ())
  box : Box8 wr (w.heap.size + 2) h v
  res : wr.heap[w.heap.size + 1]? = some zTmO
  size : w.heap.size + 3 ≤ wr.heap.size
  below : Below w.heap.size w wr
theorem SInv.add {w wr w3 : World} {h : HeadV} {a : AH} {v v3 : Value} {k : Nat} (hi : SInv w wr h a v k) (hown : OwnE encO 8 w3 (w.heap.size + 3) 86 v3 (k + 1) (List.replicate k () ++ [()])) (hgw : wr.grownBy w3 v.ownBlock) :
    SInv w (w3.setCell ⟨w.heap.size + 2, 7, none⟩ v3) h a v3 (k + 1) := by
  have hfr : ∀ b, v.ownBlock = some b → w.heap.size + 3 ≤ b := fun b hb => (World.ownsRow.lt hi.own b hb).1
  have hfr3 : ∀ b, v3.ownBlock = some b → w.heap.size + 3 ≤ b := fun b hb => (World.ownsRow.lt hown b hb).1
  have hgs : w3.grownBy (w3.setCell ⟨w.heap.size + 2, 7, none⟩ v3) (some (w.heap.size + 2)) := grown_setCell1 _ _ _ _
  have hlt := hi.size
  refine ⟨?_, (hi.box.grown hgw (fun e => by have := hfr _ e; omega)).set v3, ?_, Nat.le_trans hi.size (Nat.le_trans hgw.size hgs.size), ?_⟩
  · refine ⟨by rw [List.replicate_succ']; exact hown.1, ?_⟩
    rw [List.replicate_succ']
    rcases hown.2 with h0 | ⟨g, cap, cur, rfl, h1, h2, rest⟩
    · exact .inl h0
    · refine .inr ⟨g, cap, cur, rfl, h1, ?_, rest⟩
      rw [hgs.block g (Array.getElem?_eq_some_iff.1 h2).1 (fun e => by injection e with e; omega)]; exact h2
  · have h1 := hi.res
    rw [hgs.block _ (by have := hgw.size; omega) (fun e => by injection e with e; omega), hgw.block _ (by omega) (fun e => by have := hfr _ e.symm; omega)]
    exact h1
  · exact (hi.below.grown hgw (by omega) (fun b hb => by have := hfr b hb; omega)).grown hgs (by have := hgw.size; omega) (fun b hb => by injection hb with hb; omega)
theorem OwnE.other {α : Type} {enc : α → List Value} {k : Nat} {w w' : World} {base e n : Nat} {v : Value} {l : List α} {r : Option Nat} (h : OwnE enc k w base e v n l) (hg : w.grownBy w' r) (hr : ∀ b, v.ownBlock = some b → r ≠ some b) : OwnE enc k w' base e v n l := by
  refine ⟨h.1, ?_⟩
  rcases h.2 with hn | ⟨g, cap, cur, rfl, hb', hgg, rest⟩
  · exact .inl hn
  · refine .inr ⟨g, cap, cur, rfl, hb', ?_, rest⟩
    rw [hg.block g (Array.getElem?_eq_some_iff.1 hgg).1 (hr g rfl).symm]; exact hgg
set_option maxHeartbeats 4000000 in
theorem aterm_stub_any (a : AH) (hk : a.kn ≤ 1000) (w : World) :
    Calls Tryz.prog 85 #[aggT a] w fun e w' => (∃ p c, e = .returned (aggTm a.hd p a.kn c) ∧ IsRow encO 8 w' p a.kn c (List.replicate a.kn ())) ∧ Below w.heap.size w w' := by
  have HA := Lib.hid (boxA_new w a)
  have HB := Lib.hid (((Below.refl w.heap.size w).alloc (Nat.le_refl _) (boxA a)))
  have hz : SInv w (((w.alloc (boxA a)).alloc zTmO).alloc (.cells #[.int .u8 a.kind, .int .u8 a.op, .int .i64 a.at_, .int .i64 a.n, .string a.name, .string a.arg, .string a.exn, .slice none 0 0] 86)) a.hd a (.slice none 0 0) 0 := by
    have h1 := box8_new ((w.alloc (boxA a)).alloc zTmO) a.hd (.slice none 0 0)
    refine ⟨OwnE.nil _ _ _ _ _, ?_, ?_, by simp, (HB.out.alloc (by simp) _).alloc (by simp; omega) _⟩
    · rw [show ((w.alloc (boxA a)).alloc zTmO).heap.size = w.heap.size + 2 by simp] at h1; exact h1
    · rw [((Below.refl _ _).alloc (Nat.le_refl _) _).block _ (by simp)]
      have := heap_alloc_new (w.alloc (boxA a)) zTmO
      simpa using this
  have hq : ((w.alloc (boxA a)).alloc zTmO).cell? ⟨w.heap.size, 18, none⟩ = some (.slice a.kp a.kn a.kc) ∧ (((w.alloc (boxA a)).alloc zTmO).alloc (.cells #[.int .u8 a.kind, .int .u8 a.op, .int .i64 a.at_, .int .i64 a.n, .string a.name, .string a.arg, .string a.exn, .slice none 0 0] 86)).cell? ⟨w.heap.size, 18, none⟩ = some (.slice a.kp a.kn a.kc) := by
    have h0 := HA.out.c 18 _ rfl
    have hb1 : Below (w.alloc (boxA a)).heap.size (w.alloc (boxA a)) ((w.alloc (boxA a)).alloc zTmO) := (Below.refl _ _).alloc (Nat.le_refl _) _
    constructor
    · rw [hb1.cell (by simp)]; exact h0
    · rw [(hb1.alloc hb1.size _).cell (by simp)]; exact h0
  obtain ⟨hq1, hq2⟩ := hq
  have HZ := Lib.hid hz
  have HQ2 := Lib.hid hq2
  clear hz hq1 hq2
  go_enter Tryz.func85, Tryz.ntmps85
  go_upto_region 2 with fail
  rw [show w.heap.size + 1 + 1 = w.heap.size + 2 from rfl]
  generalize (((w.alloc (boxA a)).alloc zTmO).alloc (.cells #[.int .u8 a.kind, .int .u8 a.op, .int .i64 a.at_, .int .i64 a.n, .string a.name, .string a.arg, .string a.exn, .slice none 0 0] 86)) = W3 at *
  have q18 := HQ2.out
  go_wp2_with fail
  clear q18
  go_loopw [10] (fun i wr => ∃ (k : Nat) (v : Value), k ≤ a.kn ∧ i = .int .i64 k ∧ SInv w wr a.hd a v k) (fun i _ => a.kn - (intOf i).toNat)
  case atStart => exact ⟨0, _, by omega, rfl, HZ.out⟩
  case round =>
    obtain ⟨k, v, hk1, rfl, hz⟩ := hrel
    have HZI := Lib.hid hz
    have HSZ := Lib.hid hz.size
    obtain ⟨x0, x1, x2, x3, x4, x5, x6, x7, x8⟩ := hz.box.cells
    have hlt2 := hz.box.lt
    clear hz
    by_cases hlt : k < a.kn
    · go_wp2_with (at_builtin; refine wpList_append1 rfl _ _ 84 rfl (w.heap.size + 3) 86 _ 8 96 Tryz.underlying84 infoTm rfl (by decide) encO encO_len encO_one () _ _ _ HZI.out.own rfl rfl ?c1 ?c2 ?c3 ?_)
      case c1 => omega
      case c2 => omega
      case c3 => have := HSZ.out; omega
      · intro v3 w3 hown3 hg3
        obtain ⟨p3, c3, rfl, hrow3⟩ := OwnE.isRow encO_len (by omega) hown3
        clear hrow3
        have HA3 := Lib.hid (HZI.out.add hown3 hg3)
        have HB8 := Lib.hid (HZI.out.box.grown hg3 (fun e => by have := (World.ownsRow.lt HZI.out.own _ e).1; omega))
        clear x0 x1 x2 x3 x4 x5 x6 x7 x8 hown3 hg3
        obtain ⟨x0, x1, x2, x3, x4, x5, x6, x7, x8⟩ := HB8.out.cells
        go_wp2_with fail
        go_roundw
        case rel => exact ⟨k + 1, _, by omega, by go_num, HA3.out⟩
        case measure => simp [intOf]; omega
    · obtain rfl : k = a.kn := by omega
      clear hlt hk1
      obtain ⟨p', c', rfl, hrow⟩ := HZI.out.own.isRow encO_len (by omega)
      have HROW := Lib.hid hrow
      clear hrow
      go_wp2_with (first
        | (refine wpList_load_row rfl 86 _ rfl (w.heap.size + 2) rfl 86 _ (0, 0) _ HZI.out.box.blk Tryz.underlying86 rfl (by kernel_rfl) ?_)
        | (refine wpList_store_row rfl 86 _ _ rfl (w.heap.size + 1) #[.int .u8 a.hd.kind, .int .u8 a.hd.op, .int .i64 a.hd.at_, .int .i64 a.hd.n, .string a.hd.name, .string a.hd.arg, .string a.hd.exn, .slice p' a.kn c'] rfl rfl 86 _ HZI.out.res (by kernel_rfl) rfl (by simp [Value.oneCell']) ?_))
      have hres := setRow_heap wr (w.heap.size + 1) _ #[.int .u8 a.hd.kind, .int .u8 a.hd.op, .int .i64 a.hd.at_, .int .i64 a.hd.n, .string a.hd.name, .string a.hd.arg, .string a.hd.exn, .slice p' a.kn c'] _ _ HZI.out.res
      have hlt3 : w.heap.size + 1 < wr.heap.size := by have := HSZ.out; omega
      (try simp only [Exit.inBlock, Exit.then])
      refine bodyPost_ret (results_cell_row rfl _ _ _ _ _ _ _ rfl hres Tryz.underlying86 rfl (by kernel_rfl)) rfl ?_
      have hg : wr.grownBy (wr.setRow (w.heap.size + 1) #[.int .u8 a.hd.kind, .int .u8 a.hd.op, .int .i64 a.hd.at_, .int .i64 a.hd.n, .string a.hd.name, .string a.hd.arg, .string a.hd.exn, .slice p' a.kn c']) (some (w.heap.size + 1)) :=
        ⟨rfl, rfl, rfl, by simp, fun i hi hne => setRow_other _ _ _ _ (fun e => hne (by rw [e]))⟩
      obtain ⟨p2, c2, hv2, hrow2⟩ := (HZI.out.own.other hg (fun b hb e => by have := (World.ownsRow.lt HZI.out.own b hb).1; injection e with e; omega)).isRow encO_len (by omega)
      cases hv2
      refine ⟨⟨p', c', rfl, hrow2⟩, HZI.out.below.grown hg (by omega) (fun b hb => by injection hb with hb; omega)⟩
end Go.Proofs.YtdlbjngpohkglaaGreatDoor
end
section
set_option linter.unusedVariables false
set_option maxRecDepth 100000
set_option linter.unusedSimpArgs false
namespace Go.Proofs.YtdlbjngpohkglaaGreatDoor
open Go.RowKit

/-- a term by value -/
structure TmV where
  hd : HeadV
  kp : Option Addr
  kn : Nat
  kc : Nat
def encTm (t : TmV) : List Value := [.int .u8 t.hd.kind, .int .u8 t.hd.op, .int .i64 t.hd.at_, .int .i64 t.hd.n, .string t.hd.name, .string t.hd.arg, .string t.hd.exn, .slice t.kp t.kn t.kc]
theorem encTm_len (t : TmV) : (encTm t).length = 8 := rfl
theorem encTm_one : ∀ t : TmV, ∀ u ∈ encTm t, u.oneCell' = true := by
  intro y u hu
  simp [encTm] at hu
  rcases hu with rfl | rfl | rfl | rfl | rfl | rfl | rfl | rfl <;> rfl
abbrev aggV (t : TmV) : Value := aggTm t.hd t.kp t.kn t.kc
/-- the nodes of a row of terms -/
def nodesK (kids : TmV → List TmV) (l : List TmV) : List TmV := (l.map (fun t => t :: kids t)).flatten
theorem nodesK_split (kids : TmV → List TmV) (l : List TmV) (k : Nat) : nodesK kids l = nodesK kids (l.take k) ++ nodesK kids (l.drop k) := by
  unfold nodesK
  rw [← List.flatten_append, ← List.map_append, List.take_append_drop]
theorem nodesK_step {kids : TmV → List TmV} {l : List TmV} {k : Nat} {x : TmV} (h : l[k]? = some x) : nodesK kids (l.take (k + 1)) = nodesK kids (l.take k) ++ x :: kids x := by
  unfold nodesK
  rw [List.take_add_one, h]
  simp
theorem saK_step {σ : Type} {kids : TmV → List TmV} (st : TmV → σ → Bool × σ) (s : σ) {l : List TmV} {k : Nat} {x : TmV} (h : l[k]? = some x) (hb : (stepAll st (nodesK kids (l.take k)) s).1 = true) :
    stepAll st (nodesK kids (l.take (k + 1))) s = if (st x (stepAll st (nodesK kids (l.take k)) s).2).1 then stepAll st (kids x) (st x (stepAll st (nodesK kids (l.take k)) s).2).2 else (false, (st x (stepAll st (nodesK kids (l.take k)) s).2).2) := by
  rw [nodesK_step h, stepAll_app, if_pos hb]
  rfl
theorem saK_stop {σ : Type} {kids : TmV → List TmV} (st : TmV → σ → Bool × σ) (s : σ) (l : List TmV) (k : Nat) (hb : (stepAll st (nodesK kids (l.take k)) s).1 = false) : stepAll st (nodesK kids l) s = stepAll st (nodesK kids (l.take k)) s := by
  rw [nodesK_split kids l k, stepAll_app, if_neg (by rw [hb]; exact Bool.false_ne_true)]
/-- a function value over terms, whose state lies in one block at most -/
structure FvT (w0 : World) (row : Option Nat) (g : Nat) (lb : Array Value) {σ : Type} (Inv : σ → World → Prop) (ok : TmV → Prop) (st : TmV → σ → Bool × σ) : Prop where
  eg : ∀ args w, (callFunc g args).run Tryz.prog w = .ok (.enter g args) w
  hb : ∀ b, row = some b → w0.heap.size ≤ b
  lt : ∀ b, row = some b → ∀ s W, Inv s W → b < W.heap.size
  inv : ∀ s W W', Inv s W → Below W.heap.size W W' → Inv s W'
  call : ∀ a s W, ok a → Below w0.heap.size w0 W → Inv s W → Calls Tryz.prog g (#[aggV a] ++ lb) W fun e w' => e = .returned (.bool (st a s).1) ∧ Inv (st a s).2 w' ∧ W.grownBy w' row
def EachT (w0 : World) (row : Option Nat) (g : Nat) (lb : Array Value) {σ : Type} (Inv : σ → World → Prop) (ok : TmV → Prop) (st : TmV → σ → Bool × σ) (p : Option Addr) (n c : Nat) (L : List TmV) : Prop :=
  (∀ a ∈ L, ok a) → ∀ s W, Below w0.heap.size w0 W → Inv s W → Calls Tryz.prog 102 #[.func (.func g) #[] lb, .slice p n c] W fun e w' => e = .returned (.bool (stepAll st L s).1) ∧ Inv (stepAll st L s).2 w' ∧ W.grownBy w' row
theorem mem_nodesK {kids : TmV → List TmV} {l : List TmV} {x : TmV} (hx : x ∈ l) {a : TmV} (ha : a ∈ x :: kids x) : a ∈ nodesK kids l := List.mem_flatten.2 ⟨_, List.mem_map_of_mem hx, ha⟩
theorem box8T_new (w : World) (t : TmV) : Box8 (w.alloc (boxTm t.hd t.kp t.kn t.kc)) w.heap.size t.hd (.slice t.kp t.kn t.kc) := ⟨heap_alloc_new w _⟩
set_option maxHeartbeats 4000000 in
theorem term_each_of {w0 : World} {row : Option Nat} {g : Nat} {lb : Array Value} {σ : Type} {Inv : σ → World → Prop} {ok : TmV → Prop} {st : TmV → σ → Bool × σ} (F : FvT w0 row g lb Inv ok st) (kids : TmV → List TmV)
    {p : Option Addr} {n c : Nat} {l : List TmV} (hR : IsRow encTm 8 w0 p n c l) (ih : ∀ x ∈ l, EachT w0 row g lb Inv ok st x.kp x.kn x.kc (kids x)) : EachT w0 row g lb Inv ok st p n c (nodesK kids l) := by
  intro hok s W hbW hinv
  have eg := F.eg
  have HF := Lib.hid F
  have HI := Lib.hid ih
  have HR := Lib.hid hR
  have HOK := Lib.hid hok
  have HBW := Lib.hid hbW
  have HV := Lib.hid hinv
  have hnm : n ≤ 9223372036854775807 := hR.max
  clear F ih hR hok hbW hinv
  go_enter Tryz.func102, Tryz.ntmps102
  go_wp2_with fail
  go_loopw [9] (fun i wr => ∃ (k : Nat) (S : Bool × σ), k ≤ n ∧ i = .int .i64 k ∧ Hid (stepAll st (nodesK kids (l.take k)) s = S) ∧ S.1 = true ∧ Inv S.2 wr ∧ W.grownBy wr row) (fun i _ => n - (intOf i).toNat)
  case atStart => exact ⟨0, (true, s), by omega, rfl, Lib.hid rfl, rfl, HV.out, World.grownBy.refl _ _⟩
  case round =>
    obtain ⟨k, S, hk, rfl, HS, hs, hiv, hg⟩ := hrel
    have HIV := Lib.hid hiv
    have HG := Lib.hid hg
    have HST := Lib.hid hs
    have HB := Lib.hid (HBW.out.grown hg HBW.out.size HF.out.hb)
    clear hiv hg hs
    by_cases hlt : k < n
    · obtain ⟨a, hx⟩ := get_of_lt (l := l) (j := k) (by rw [HR.out.len]; exact hlt)
      obtain ⟨b, o, hbo, hbl, hcs⟩ := (HR.out.below HB.out).row.elem hx
      have HCS := Lib.hid hcs
      subst hbo
      have hE := List.mem_of_getElem? hx
      have HXK := Lib.hid (show EachT w0 row g lb Inv ok st a.kp a.kn a.kc (kids a) from HI.out _ hE)
      have HKO := Lib.hid (show ∀ a' ∈ kids a, ok a' from fun a' ha => HOK.out a' (mem_nodesK hE (List.mem_cons_of_mem _ ha)))
      have hoka : ok a := HOK.out a (mem_nodesK hE List.mem_cons_self)
      have HSS := Lib.hid (show stepAll st (nodesK kids (l.take (k + 1))) s = if (st a S.2).1 then stepAll st (kids a) (st a S.2).2 else (false, (st a S.2).2) by
        have h := saK_step (kids := kids) st s hx (by rw [HS.out]; exact HST.out)
        rw [HS.out] at h
        exact h)
      clear hx hbl hcs hE
      have HBX := Lib.hid (box8T_new wr a)
      have hb1 : Below wr.heap.size wr (wr.alloc (boxTm a.hd a.kp a.kn a.kc)) := (Below.refl _ _).alloc (Nat.le_refl _) _
      have HB1 := Lib.hid (HB.out.trans (hb1.mono HB.out.size))
      have HIV1 := Lib.hid (HF.out.inv _ _ _ HIV.out hb1)
      have HCALL := Lib.hid (HF.out.call a S.2 _ hoka HB1.out HIV1.out)
      have HG1 := Lib.hid (HG.out.trans ((World.grownBy_alloc wr (boxTm a.hd a.kp a.kn a.kc) row)))
      clear hb1 hoka
      have hal : (wr.alloc zTmO).heap[wr.heap.size]? = some (.cells #[.int .u8 0, .int .u8 0, .int .i64 0, .int .i64 0, .string ⟨#[]⟩, .string ⟨#[]⟩, .string ⟨#[]⟩, .slice none 0 0] 86 (0, 0)) := heap_alloc_new wr _
      have HAL := Lib.hid hal
      clear hal
      cases hq : (st a S.2).1 with
      | false =>
        rw [hq] at HCALL HSS
        have HQ := Lib.hid hq
        clear hq
        go_wp2_with (first
          | (refine wpList_load_mid rfl 86 _ rfl b (o + k * 8) rfl (encTm a) _ HCS.out Tryz.underlying86 rfl (by kernel_rfl) ?_)
          | (refine wpList_store_row rfl 86 _ _ rfl wr.heap.size (encTm a).toArray rfl rfl 86 _ HAL.out (by kernel_rfl) rfl (all_oneCell_toArray (encTm_one a)) ?_; rw [World.setRow_alloc_new])
          | (refine wpList_load_row rfl 86 _ rfl wr.heap.size rfl 86 _ (0, 0) _ HBX.out.blk Tryz.underlying86 rfl (by kernel_rfl) ?_)
          | (go_at_fn g; refine HCALL.out.mono ?_; rintro e w2 ⟨rfl, hi2, hg2⟩; have HI2 := Lib.hid hi2; have HG2 := Lib.hid (HG1.out.trans hg2); clear hi2 hg2))
        go_ret
        have hstop : stepAll st (nodesK kids l) s = (false, (st a S.2).2) := by
          rw [saK_stop st s l (k + 1) (by rw [HSS.out]; rfl), HSS.out]; rfl
        exact ⟨ret_bool (by rw [hstop]), by rw [hstop]; exact HI2.out, HG2.out⟩
      | true =>
        rw [hq] at HCALL HSS
        have HQ := Lib.hid hq
        clear hq
        have HM := Lib.hid (HF.out.hb)
        have q18 : ∀ w2, (wr.alloc (boxTm a.hd a.kp a.kn a.kc)).grownBy w2 row → Inv (st a S.2).2 w2 → w2.cell? ⟨wr.heap.size, 7, none⟩ = some (.slice a.kp a.kn a.kc) ∧ Below w0.heap.size w0 w2 := fun w2 hg2 hi2 => ⟨hg2.cell (a := ⟨wr.heap.size, 7, none⟩) (HBX.out.cells.2.2.2.2.2.2.2.1) (fun e => by have := HF.out.lt _ e.symm _ _ HIV.out; exact Nat.lt_irrefl _ this), HB1.out.grown hg2 HB1.out.size HM.out⟩
        have HQ18 := Lib.hid q18
        clear q18
        cases hq2 : (stepAll st (kids a) (st a S.2).2).1 with
        | false =>
          have HQ2 := Lib.hid hq2
          clear hq2
          go_wp2_with (first
            | (refine wpList_load_mid rfl 86 _ rfl b (o + k * 8) rfl (encTm a) _ HCS.out Tryz.underlying86 rfl (by kernel_rfl) ?_)
            | (refine wpList_store_row rfl 86 _ _ rfl wr.heap.size (encTm a).toArray rfl rfl 86 _ HAL.out (by kernel_rfl) rfl (all_oneCell_toArray (encTm_one a)) ?_; rw [World.setRow_alloc_new])
            | (refine wpList_load_row rfl 86 _ rfl wr.heap.size rfl 86 _ (0, 0) _ HBX.out.blk Tryz.underlying86 rfl (by kernel_rfl) ?_)
            | (first | (go_at_fn g; refine HCALL.out.mono ?_; rintro e w2 ⟨rfl, hi2, hg2⟩; obtain ⟨c18, hb2⟩ := HQ18.out _ hg2 hi2; have HI2 := Lib.hid hi2; have HG2 := Lib.hid (HG1.out.trans hg2); have HB2 := Lib.hid hb2; clear hi2 hg2 hb2) | (go_at_call 102; refine (HXK.out HKO.out _ _ HB2.out HI2.out).mono ?_; rw [HQ2.out]; rintro e w3 ⟨rfl, hi3, hg3⟩; have HI3 := Lib.hid hi3; have HG3 := Lib.hid (HG2.out.trans hg3); clear hi3 hg3)))
          go_ret
          have hstop : stepAll st (nodesK kids l) s = stepAll st (kids a) (st a S.2).2 := by
            rw [saK_stop st s l (k + 1) (by rw [HSS.out]; exact HQ2.out), HSS.out]; rfl
          exact ⟨ret_bool (by rw [hstop, HQ2.out]), by rw [hstop]; exact HI3.out, HG3.out⟩
        | true =>
          have HQ2 := Lib.hid hq2
          clear hq2
          go_wp2_with (first
            | (refine wpList_load_mid rfl 86 _ rfl b (o + k * 8) rfl (encTm a) _ HCS.out Tryz.underlying86 rfl (by kernel_rfl) ?_)
            | (refine wpList_store_row rfl 86 _ _ rfl wr.heap.size (encTm a).toArray rfl rfl 86 _ HAL.out (by kernel_rfl) rfl (all_oneCell_toArray (encTm_one a)) ?_; rw [World.setRow_alloc_new])
            | (refine wpList_load_row rfl 86 _ rfl wr.heap.size rfl 86 _ (0, 0) _ HBX.out.blk Tryz.underlying86 rfl (by kernel_rfl) ?_)
            | (first | (go_at_fn g; refine HCALL.out.mono ?_; rintro e w2 ⟨rfl, hi2, hg2⟩; obtain ⟨c18, hb2⟩ := HQ18.out _ hg2 hi2; have HI2 := Lib.hid hi2; have HG2 := Lib.hid (HG1.out.trans hg2); have HB2 := Lib.hid hb2; clear hi2 hg2 hb2) | (go_at_call 102; refine (HXK.out HKO.out _ _ HB2.out HI2.out).mono ?_; rw [HQ2.out]; rintro e w3 ⟨rfl, hi3, hg3⟩; have HI3 := Lib.hid hi3; have HG3 := Lib.hid (HG2.out.trans hg3); clear hi3 hg3)))
          go_roundw
          case rel => exact ⟨k + 1, _, by omega, by go_num, HSS, by show (stepAll st (kids a) (st a S.2).2).1 = true; exact HQ2.out, HI3.out, HG3.out⟩
          case measure => simp [intOf]; omega
    · have hkn : k = n := by omega
      have hfull : l.take k = l := take_full (by rw [HR.out.len, hkn]; exact Nat.le_refl _)
      rw [hfull] at HS
      go_wp2_with fail
      go_ret
      exact ⟨ret_bool (by rw [HS.out, HST.out]), by rw [HS.out]; exact HIV.out, HG.out⟩
/-- a term whose kids are numbers alone, in a row of its own -/
def leafV : TmV := ⟨⟨1, 0, 0, 0, ⟨#[]⟩, ⟨#[]⟩, ⟨#[]⟩⟩, none, 0, 0⟩
theorem term_each_stub {w0 : World} {row : Option Nat} {g : Nat} {lb : Array Value} {σ : Type} {Inv : σ → World → Prop} {ok : TmV → Prop} {st : TmV → σ → Bool × σ} (F : FvT w0 row g lb Inv ok st) {t : TmV} {p : Option Addr} {c : Nat}
    (hk : IsRow encO 8 w0 t.kp t.kn t.kc (List.replicate t.kn ())) (ht : IsRow encTm 8 w0 p 1 c [t]) : EachT w0 row g lb Inv ok st p 1 c (t :: List.replicate t.kn leafV) := by
  have h0 : EachT w0 row g lb Inv ok st none 0 0 [] := term_each_of F (fun _ => []) (IsRow.none _ _ _) (fun x hx => absurd hx (by simp))
  have h1 : IsRow encTm 8 w0 t.kp t.kn t.kc (List.replicate t.kn leafV) := by
    refine ⟨by simp, hk.max, hk.le, hk.nil, ?_⟩
    rcases hk.row with h | ⟨b, o, hp, hb, hc⟩
    · left
      have h2 : t.kn = 0 := by simpa using h
      simp [h2]
    · refine .inr ⟨b, o, hp, hb, fun j x hx i v hv => ?_⟩
      have hj : j < t.kn := by
        have := (List.getElem?_eq_some_iff.1 hx).1
        simpa using this
      have hx2 : x = leafV := (List.mem_replicate.1 (List.mem_of_getElem? hx)).2
      subst hx2
      exact hc j () (by simp [hj]) i v hv
  have h2 := term_each_of F (fun _ => []) h1 (fun x hx => by
    rw [(List.mem_replicate.1 hx).2]; exact h0)
  have e2 : nodesK (fun _ => []) (List.replicate t.kn leafV) = List.replicate t.kn leafV := by
    unfold nodesK
    generalize t.kn = m
    induction m with
    | zero => rfl
    | succ m ih => rw [List.replicate_succ, List.map_cons, List.flatten_cons, ih]; rfl
  rw [e2] at h2
  have h3 := term_each_of F (fun _ => List.replicate t.kn leafV) ht (fun x hx => by
    rw [List.mem_singleton.1 hx]; exact h2)
  simpa [nodesK] using h3
end Go.Proofs.YtdlbjngpohkglaaGreatDoor
end
