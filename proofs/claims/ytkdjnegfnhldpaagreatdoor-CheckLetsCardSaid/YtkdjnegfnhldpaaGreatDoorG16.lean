/- Part 16 of the texts: Te, Tms, Once, Node. -/
import Derived.Test.YtkdjnegfnhldpaaGreatDoorG15
import Derived.Deep.MidRow
import Derived.RangeFuncBox
import Derived.RangeFuncLeaves
import Derived.Shelf.Abstract
import Derived.WalkKit
import Derived.OwnWalkIn
import Derived.TacticsInMore
import Derived.LoopNIn
import Derived.LoopIn
import Derived.Maps.AppendAt
import Derived.Test.YtkdjnegfnhldpaaGreatDoorG07
import Derived.Test.YtkdjnegfnhldpaaGreatDoorG04
set_option linter.unusedVariables false
set_option maxRecDepth 100000
set_option linter.unusedSimpArgs false
section
namespace Go.Proofs.YtkdjnegfnhldpaaGreatDoor
open Go.RowKit
structure TmV where
  hd : HeadV
  kp : Option Addr
  kn : Nat
  kc : Nat
def encTm (t : TmV) : List Value := [.int .u8 t.hd.kind, .int .u8 t.hd.op, .int .i64 t.hd.at_, .int .i64 t.hd.n, .string t.hd.name, .string t.hd.arg, .string t.hd.exn, .slice t.kp t.kn t.kc]
theorem encTm_len (t : TmV) : (encTm t).length = 8 := rfl
theorem encTm_one : ∀ t : TmV, ∀ u ∈ encTm t, u.oneCell' = true := by
  intro y u hu
  simp [encTm] at hu
  rcases hu with rfl | rfl | rfl | rfl | rfl | rfl | rfl | rfl <;> rfl
abbrev aggV (t : TmV) : Value := aggTm t.hd t.kp t.kn t.kc
def nodesK (kids : TmV → List TmV) (l : List TmV) : List TmV := (l.map (fun t => t :: kids t)).flatten
theorem nodesK_split (kids : TmV → List TmV) (l : List TmV) (k : Nat) : nodesK kids l = nodesK kids (l.take k) ++ nodesK kids (l.drop k) := by
  unfold nodesK
  rw [← List.flatten_append, ← List.map_append, List.take_append_drop]
theorem nodesK_step {kids : TmV → List TmV} {l : List TmV} {k : Nat} {x : TmV} (h : l[k]? = some x) : nodesK kids (l.take (k + 1)) = nodesK kids (l.take k) ++ x :: kids x := by
  unfold nodesK
  rw [List.take_add_one, h]
  simp
theorem saK_step {σ : Type} {kids : TmV → List TmV} (st : TmV → σ → Bool × σ) (s : σ) {l : List TmV} {k : Nat} {x : TmV} (h : l[k]? = some x) (hb : (stepAll st (nodesK kids (l.take k)) s).1 = true) :
    stepAll st (nodesK kids (l.take (k + 1))) s = if (st x (stepAll st (nodesK kids (l.take k)) s).2).1 then stepAll st (kids x) (st x (stepAll st (nodesK kids (l.take k)) s).2).2 else (false, (st x (stepAll st (nodesK kids (l.take k)) s).2).2) := by
  rw [nodesK_step h, stepAll_app, if_pos hb]
  rfl
theorem saK_stop {σ : Type} {kids : TmV → List TmV} (st : TmV → σ → Bool × σ) (s : σ) (l : List TmV) (k : Nat) (hb : (stepAll st (nodesK kids (l.take k)) s).1 = false) : stepAll st (nodesK kids l) s = stepAll st (nodesK kids (l.take k)) s := by
  rw [nodesK_split kids l k, stepAll_app, if_neg (by rw [hb]; exact Bool.false_ne_true)]
structure FvT (w0 : World) (row : Option Nat) (g : Nat) (lb : Array Value) {σ : Type} (Inv : σ → World → Prop) (ok : TmV → Prop) (st : TmV → σ → Bool × σ) : Prop where
  eg : ∀ args w, (callFunc g args).run Tryz.prog w = .ok (.enter g args) w
  hb : ∀ b, row = some b → w0.heap.size ≤ b
  lt : ∀ b, row = some b → ∀ s W, Inv s W → b < W.heap.size
  inv : ∀ s W W', Inv s W → Below W.heap.size W W' → Inv s W'
  call : ∀ a s W, ok a → Below w0.heap.size w0 W → Inv s W → Calls Tryz.prog g (#[aggV a] ++ lb) W fun e w' => e = .returned (.bool (st a s).1) ∧ Inv (st a s).2 w' ∧ W.grownBy w' row
def EachT (w0 : World) (row : Option Nat) (g : Nat) (lb : Array Value) {σ : Type} (Inv : σ → World → Prop) (ok : TmV → Prop) (st : TmV → σ → Bool × σ) (p : Option Addr) (n c : Nat) (L : List TmV) : Prop :=
  (∀ a ∈ L, ok a) → ∀ s W, Below w0.heap.size w0 W → Inv s W → Calls Tryz.prog 168 #[.func (.func g) #[] lb, .slice p n c] W fun e w' => e = .returned (.bool (stepAll st L s).1) ∧ Inv (stepAll st L s).2 w' ∧ W.grownBy w' row
theorem mem_nodesK {kids : TmV → List TmV} {l : List TmV} {x : TmV} (hx : x ∈ l) {a : TmV} (ha : a ∈ x :: kids x) : a ∈ nodesK kids l := List.mem_flatten.2 ⟨_, List.mem_map_of_mem hx, ha⟩
theorem box8T_new (w : World) (t : TmV) : Box8 (w.alloc (boxTm t.hd t.kp t.kn t.kc)) w.heap.size t.hd (.slice t.kp t.kn t.kc) := ⟨heap_alloc_new w _⟩
set_option maxHeartbeats 4000000 in
theorem term_each_of {w0 : World} {row : Option Nat} {g : Nat} {lb : Array Value} {σ : Type} {Inv : σ → World → Prop} {ok : TmV → Prop} {st : TmV → σ → Bool × σ} (F : FvT w0 row g lb Inv ok st) (kids : TmV → List TmV)
    {p : Option Addr} {n c : Nat} {l : List TmV} (hR : IsRow encTm 8 w0 p n c l) (ih : ∀ x ∈ l, EachT w0 row g lb Inv ok st x.kp x.kn x.kc (kids x)) : EachT w0 row g lb Inv ok st p n c (nodesK kids l) := by
  intro hok s W hbW hinv
  have eg := F.eg
  have HF := Lib.hid F
  have HI := Lib.hid ih
  have HR := Lib.hid hR
  have HOK := Lib.hid hok
  have HBW := Lib.hid hbW
  have HV := Lib.hid hinv
  have hnm : n ≤ 9223372036854775807 := hR.max
  clear F ih hR hok hbW hinv
  go_enter Tryz.func168, Tryz.ntmps168
  go_wp2_with fail
  go_loopw [9] (fun i wr => ∃ (k : Nat) (S : Bool × σ), k ≤ n ∧ i = .int .i64 k ∧ Hid (stepAll st (nodesK kids (l.take k)) s = S) ∧ S.1 = true ∧ Inv S.2 wr ∧ W.grownBy wr row) (fun i _ => n - (intOf i).toNat)
  case atStart => exact ⟨0, (true, s), by omega, rfl, Lib.hid rfl, rfl, HV.out, World.grownBy.refl _ _⟩
  case round =>
    obtain ⟨k, S, hk, rfl, HS, hs, hiv, hg⟩ := hrel
    have HIV := Lib.hid hiv
    have HG := Lib.hid hg
    have HST := Lib.hid hs
    have HB := Lib.hid (HBW.out.grown hg HBW.out.size HF.out.hb)
    clear hiv hg hs
    by_cases hlt : k < n
    · obtain ⟨a, hx⟩ := get_of_lt (l := l) (j := k) (by rw [HR.out.len]; exact hlt)
      obtain ⟨b, o, hbo, hbl, hcs⟩ := (HR.out.below HB.out).row.elem hx
      have HCS := Lib.hid hcs
      subst hbo
      have hE := List.mem_of_getElem? hx
      have HXK := Lib.hid (show EachT w0 row g lb Inv ok st a.kp a.kn a.kc (kids a) from HI.out _ hE)
      have HKO := Lib.hid (show ∀ a' ∈ kids a, ok a' from fun a' ha => HOK.out a' (mem_nodesK hE (List.mem_cons_of_mem _ ha)))
      have hoka : ok a := HOK.out a (mem_nodesK hE List.mem_cons_self)
      have HSS := Lib.hid (show stepAll st (nodesK kids (l.take (k + 1))) s = if (st a S.2).1 then stepAll st (kids a) (st a S.2).2 else (false, (st a S.2).2) by
        have h := saK_step (kids := kids) st s hx (by rw [HS.out]; exact HST.out)
        rw [HS.out] at h
        exact h)
      clear hx hbl hcs hE
      have HBX := Lib.hid (box8T_new wr a)
      have hb1 : Below wr.heap.size wr (wr.alloc (boxTm a.hd a.kp a.kn a.kc)) := (Below.refl _ _).alloc (Nat.le_refl _) _
      have HB1 := Lib.hid (HB.out.trans (hb1.mono HB.out.size))
      have HIV1 := Lib.hid (HF.out.inv _ _ _ HIV.out hb1)
      have HCALL := Lib.hid (HF.out.call a S.2 _ hoka HB1.out HIV1.out)
      have HG1 := Lib.hid (HG.out.trans ((World.grownBy_alloc wr (boxTm a.hd a.kp a.kn a.kc) row)))
      clear hb1 hoka
      have hal : (wr.alloc zTmO).heap[wr.heap.size]? = some (.cells #[.int .u8 0, .int .u8 0, .int .i64 0, .int .i64 0, .string ⟨#[]⟩, .string ⟨#[]⟩, .string ⟨#[]⟩, .slice none 0 0] 53 (0, 0)) := heap_alloc_new wr _
      have HAL := Lib.hid hal
      clear hal
      cases hq : (st a S.2).1 with
      | false =>
        rw [hq] at HCALL HSS
        have HQ := Lib.hid hq
        clear hq
        go_wp2_with (first
          | (refine wpList_load_mid rfl 53 _ rfl b (o + k * 8) rfl (encTm a) _ HCS.out Tryz.underlying53 rfl (by kernel_rfl) ?_)
          | (refine wpList_store_row rfl 53 _ _ rfl wr.heap.size (encTm a).toArray rfl rfl 53 _ HAL.out (by kernel_rfl) rfl (all_oneCell_toArray (encTm_one a)) ?_; rw [World.setRow_alloc_new])
          | (refine wpList_load_row rfl 53 _ rfl wr.heap.size rfl 53 _ (0, 0) _ HBX.out.blk Tryz.underlying53 rfl (by kernel_rfl) ?_)
          | (go_at_fn g; refine HCALL.out.mono ?_; rintro e w2 ⟨rfl, hi2, hg2⟩; have HI2 := Lib.hid hi2; have HG2 := Lib.hid (HG1.out.trans hg2); clear hi2 hg2))
        go_ret
        have hstop : stepAll st (nodesK kids l) s = (false, (st a S.2).2) := by
          rw [saK_stop st s l (k + 1) (by rw [HSS.out]; rfl), HSS.out]; rfl
        exact ⟨ret_bool (by rw [hstop]), by rw [hstop]; exact HI2.out, HG2.out⟩
      | true =>
        rw [hq] at HCALL HSS
        have HQ := Lib.hid hq
        clear hq
        have HM := Lib.hid (HF.out.hb)
        have q18 : ∀ w2, (wr.alloc (boxTm a.hd a.kp a.kn a.kc)).grownBy w2 row → Inv (st a S.2).2 w2 → w2.cell? ⟨wr.heap.size, 7, none⟩ = some (.slice a.kp a.kn a.kc) ∧ Below w0.heap.size w0 w2 := fun w2 hg2 hi2 => ⟨hg2.cell (a := ⟨wr.heap.size, 7, none⟩) (HBX.out.cells.2.2.2.2.2.2.2.1) (fun e => by have := HF.out.lt _ e.symm _ _ HIV.out; exact Nat.lt_irrefl _ this), HB1.out.grown hg2 HB1.out.size HM.out⟩
        have HQ18 := Lib.hid q18
        clear q18
        cases hq2 : (stepAll st (kids a) (st a S.2).2).1 with
        | false =>
          have HQ2 := Lib.hid hq2
          clear hq2
          go_wp2_with (first
            | (refine wpList_load_mid rfl 53 _ rfl b (o + k * 8) rfl (encTm a) _ HCS.out Tryz.underlying53 rfl (by kernel_rfl) ?_)
            | (refine wpList_store_row rfl 53 _ _ rfl wr.heap.size (encTm a).toArray rfl rfl 53 _ HAL.out (by kernel_rfl) rfl (all_oneCell_toArray (encTm_one a)) ?_; rw [World.setRow_alloc_new])
            | (refine wpList_load_row rfl 53 _ rfl wr.heap.size rfl 53 _ (0, 0) _ HBX.out.blk Tryz.underlying53 rfl (by kernel_rfl) ?_)
            | (first | (go_at_fn g; refine HCALL.out.mono ?_; rintro e w2 ⟨rfl, hi2, hg2⟩; obtain ⟨c18, hb2⟩ := HQ18.out _ hg2 hi2; have HI2 := Lib.hid hi2; have HG2 := Lib.hid (HG1.out.trans hg2); have HB2 := Lib.hid hb2; clear hi2 hg2 hb2) | (go_at_call 168; refine (HXK.out HKO.out _ _ HB2.out HI2.out).mono ?_; rw [HQ2.out]; rintro e w3 ⟨rfl, hi3, hg3⟩; have HI3 := Lib.hid hi3; have HG3 := Lib.hid (HG2.out.trans hg3); clear hi3 hg3)))
          go_ret
          have hstop : stepAll st (nodesK kids l) s = stepAll st (kids a) (st a S.2).2 := by
            rw [saK_stop st s l (k + 1) (by rw [HSS.out]; exact HQ2.out), HSS.out]; rfl
          exact ⟨ret_bool (by rw [hstop, HQ2.out]), by rw [hstop]; exact HI3.out, HG3.out⟩
        | true =>
          have HQ2 := Lib.hid hq2
          clear hq2
          go_wp2_with (first
            | (refine wpList_load_mid rfl 53 _ rfl b (o + k * 8) rfl (encTm a) _ HCS.out Tryz.underlying53 rfl (by kernel_rfl) ?_)
            | (refine wpList_store_row rfl 53 _ _ rfl wr.heap.size (encTm a).toArray rfl rfl 53 _ HAL.out (by kernel_rfl) rfl (all_oneCell_toArray (encTm_one a)) ?_; rw [World.setRow_alloc_new])
            | (refine wpList_load_row rfl 53 _ rfl wr.heap.size rfl 53 _ (0, 0) _ HBX.out.blk Tryz.underlying53 rfl (by kernel_rfl) ?_)
            | (first | (go_at_fn g; refine HCALL.out.mono ?_; rintro e w2 ⟨rfl, hi2, hg2⟩; obtain ⟨c18, hb2⟩ := HQ18.out _ hg2 hi2; have HI2 := Lib.hid hi2; have HG2 := Lib.hid (HG1.out.trans hg2); have HB2 := Lib.hid hb2; clear hi2 hg2 hb2) | (go_at_call 168; refine (HXK.out HKO.out _ _ HB2.out HI2.out).mono ?_; rw [HQ2.out]; rintro e w3 ⟨rfl, hi3, hg3⟩; have HI3 := Lib.hid hi3; have HG3 := Lib.hid (HG2.out.trans hg3); clear hi3 hg3)))
          go_roundw
          case rel => exact ⟨k + 1, _, by omega, by go_num, HSS, by show (stepAll st (kids a) (st a S.2).2).1 = true; exact HQ2.out, HI3.out, HG3.out⟩
          case measure => simp [intOf]; omega
    · have hkn : k = n := by omega
      have hfull : l.take k = l := take_full (by rw [HR.out.len, hkn]; exact Nat.le_refl _)
      rw [hfull] at HS
      go_wp2_with fail
      go_ret
      exact ⟨ret_bool (by rw [HS.out, HST.out]), by rw [HS.out]; exact HIV.out, HG.out⟩
def leafV : TmV := ⟨⟨1, 0, 0, 0, ⟨#[]⟩, ⟨#[]⟩, ⟨#[]⟩⟩, none, 0, 0⟩
theorem term_each_stub {w0 : World} {row : Option Nat} {g : Nat} {lb : Array Value} {σ : Type} {Inv : σ → World → Prop} {ok : TmV → Prop} {st : TmV → σ → Bool × σ} (F : FvT w0 row g lb Inv ok st) {t : TmV} {p : Option Addr} {c : Nat}
    (hk : IsRow encO 8 w0 t.kp t.kn t.kc (List.replicate t.kn ())) (ht : IsRow encTm 8 w0 p 1 c [t]) : EachT w0 row g lb Inv ok st p 1 c (t :: List.replicate t.kn leafV) := by
  have h0 : EachT w0 row g lb Inv ok st none 0 0 [] := term_each_of F (fun _ => []) (IsRow.none _ _ _) (fun x hx => absurd hx (by simp))
  have h1 : IsRow encTm 8 w0 t.kp t.kn t.kc (List.replicate t.kn leafV) := by
    refine ⟨by simp, hk.max, hk.le, hk.nil, ?_⟩
    rcases hk.row with h | ⟨b, o, hp, hb, hc⟩
    · left
      have h2 : t.kn = 0 := by simpa using h
      simp [h2]
    · refine .inr ⟨b, o, hp, hb, fun j x hx i v hv => ?_⟩
      have hj : j < t.kn := by
        have := (List.getElem?_eq_some_iff.1 hx).1
        simpa using this
      have hx2 : x = leafV := (List.mem_replicate.1 (List.mem_of_getElem? hx)).2
      subst hx2
      exact hc j () (by simp [hj]) i v hv
  have h2 := term_each_of F (fun _ => []) h1 (fun x hx => by
    rw [(List.mem_replicate.1 hx).2]; exact h0)
  have e2 : nodesK (fun _ => []) (List.replicate t.kn leafV) = List.replicate t.kn leafV := by
    unfold nodesK
    generalize t.kn = m
    induction m with
    | zero => rfl
    | succ m ih => rw [List.replicate_succ, List.map_cons, List.flatten_cons, ih]; rfl
  rw [e2] at h2
  have h3 := term_each_of F (fun _ => List.replicate t.kn leafV) ht (fun x hx => by
    rw [List.mem_singleton.1 hx]; exact h2)
  simpa [nodesK] using h3
end Go.Proofs.YtkdjnegfnhldpaaGreatDoor
end
section
namespace Go.Proofs.YtkdjnegfnhldpaaGreatDoor
open Go.RowKit
theorem wpList_load_midG {P : Program} {ops : Array Oper} {rest : List Oper} {op : Oper} {a : Act} {w : World} {Q : Exit → Act → World → Prop} (hw : Region.wanted op (yielded ops a.tmps) = true) (ty : TypeId) (x : Operand) (ho : op.op = .load ty x)
    (b o : Nat) (hx : a.eval x = .pointer (some ⟨b, o, none⟩)) (cs : List Value) (d : TypeDesc) (hc : w.rangeAt b o cs)
    (hu : P.underlying ty = some d) (hd : d.isRow = true) (hi : (P.info? ty).map (·.size) = some cs.length)
    (h : wpList P ops Q rest (a.put op.dst (.agg cs.toArray)) w) : wpList P ops Q (op :: rest) a w := by
  rw [wpList, if_pos hw]
  exact .inl (wp_load_mid ty x ho b o hx cs d hc hu hd hi h)
theorem Box8.range {w : World} {g : Nat} {h : HeadV} {p : Option Addr} {n c : Nat} (hb : Box8 w g h (.slice p n c)) : w.rangeAt g 0 (encTm ⟨h, p, n, c⟩) := by
  have hb := hb.blk
  intro i u hu
  have : i < 8 := (List.getElem?_eq_some_iff.1 hu).1
  rcases (by omega : i = 0 ∨ i = 1 ∨ i = 2 ∨ i = 3 ∨ i = 4 ∨ i = 5 ∨ i = 6 ∨ i = 7) with rfl | rfl | rfl | rfl | rfl | rfl | rfl | rfl <;> (simp [encTm] at hu; subst hu; simp [World.cell?, hb])
def IntBlk (b : Nat) (z : Int) (W : World) : Prop := W.heap[b]? = some (.cells #[.int .i64 z] 3 (0, 0))
theorem IntBlk.cells {W : World} {b : Nat} {z : Int} (h : IntBlk b z W) : W.cell? ⟨b, 0, none⟩ = some (.int .i64 z) ∧ W.frozen? ⟨b, 0, none⟩ = false := by
  unfold IntBlk at h
  simp [World.cell?, World.frozen?, h]
theorem IntBlk.lt {W : World} {b : Nat} {z : Int} (h : IntBlk b z W) : b < W.heap.size := (Array.getElem?_eq_some_iff.1 h).1
theorem IntBlk.below {W W' : World} {b : Nat} {z : Int} (h : IntBlk b z W) (hb : Below W.heap.size W W') : IntBlk b z W' := by
  unfold IntBlk; rw [hb.block b h.lt]; exact h
theorem IntBlk.set {W : World} {b : Nat} {z : Int} (h : IntBlk b z W) (y : Int) : IntBlk b y (W.setCell ⟨b, 0, none⟩ (.int .i64 y)) := by
  unfold IntBlk at h ⊢
  simpa using heap_setCell1 (o := 0) (.int .i64 y) h
def plus1 {α : Type} (_ : α) (z : Int) : Bool × Int := (true, IntKind.i64.wrap (z + 1))
theorem plus1_all {α : Type} : ∀ (l : List α) (z : Int), 0 ≤ z → z + l.length ≤ 1000000000 → stepAll plus1 l z = (true, z + l.length)
  | [], z, _, _ => by simp [stepAll]
  | a :: l, z, h0, h => by
    have hl : ((a :: l).length : Int) = (l.length : Int) + 1 := by simp
    have e : IntKind.i64.wrap (z + 1) = z + 1 := IntWalk.i64_in _ (by omega)
    show (if true = true then stepAll plus1 l (IntKind.i64.wrap (z + 1)) else _) = _
    rw [if_pos rfl, e, plus1_all l (z + 1) (by omega) (by omega), hl]
    congr 1
    omega
set_option maxHeartbeats 1000000 in
theorem term_Size1_any (t : TmV) (b : Nat) (z : Int) (W : World) (h : IntBlk b z W) :
    Calls Tryz.prog 203 #[aggV t, .pointer (some ⟨b, 0, none⟩)] W fun e w' => e = .returned (.bool (plus1 t z).1) ∧ IntBlk b (plus1 t z).2 w' ∧ W.grownBy w' (some b) := by
  have HA := Lib.hid (h.below ((Below.refl _ _).alloc (Nat.le_refl _) (boxTm t.hd t.kp t.kn t.kc)))
  obtain ⟨q0, qf⟩ := HA.out.cells
  obtain ⟨Z, hZ⟩ : ∃ Z, IntKind.i64.wrap (z + 1) = Z := ⟨_, rfl⟩
  have HZ : Hid ((plus1 t z).2 = Z) := hZ
  clear h
  go_enter Tryz.func203, Tryz.ntmps203
  go_wp2_with fail
  go_ret
  refine ⟨rfl, ?_⟩
  rw [HZ.out]
  exact ⟨HA.out.set Z, (World.grownBy_alloc W _ _).trans (grown_setCell1 _ _ _ _)⟩
theorem fvT_Size {w0 : World} {b : Nat} (hb : w0.heap.size ≤ b) : FvT w0 (some b) 203 #[.pointer (some ⟨b, 0, none⟩)] (IntBlk b) (fun _ => True) plus1 where
  eg := fun args w => rfl
  hb := fun b' h => by injection h with h; omega
  lt := fun b' h s W hi => by injection h with h; rw [← h]; exact hi.lt
  inv := fun s W W' hi hbl => hi.below hbl
  call := fun a s W _ _ hi => term_Size1_any a b s W hi
set_option maxHeartbeats 1000000 in
theorem term_Size_stub {w : World} {t : TmV} {p : Option Addr} {c : Nat} (hk : IsRow encO 8 w t.kp t.kn t.kc (List.replicate t.kn ())) (ht : IsRow encTm 8 w p 1 c [t]) (h3 : t.kn ≤ 1000) :
    Calls Tryz.prog 167 #[.slice p 1 c] w fun e w' => e = .returned (.int .i64 (1 + t.kn)) ∧ Below w.heap.size w w' := by
  have HE := Lib.hid (term_each_stub (fvT_Size (w0 := w) (b := w.heap.size) (Nat.le_refl _)) hk ht)
  have HP : Hid (stepAll plus1 (t :: List.replicate t.kn leafV) 0 = (true, 1 + (t.kn : Int))) := by
    show _ = _
    rw [plus1_all (t :: List.replicate t.kn leafV) 0 (by omega) (by simp; omega)]
    congr 1
    simp; omega
  have HI : Hid (IntBlk w.heap.size 0 (w.alloc (.cells #[.int .i64 0] 3))) := heap_alloc_new w _
  have HB := Lib.hid ((Below.refl w.heap.size w).alloc (Nat.le_refl _) (.cells #[.int .i64 0] 3))
  have HG := Lib.hid (World.grownBy_alloc w (.cells #[.int .i64 0] 3) (some w.heap.size))
  clear hk ht
  go_enter Tryz.func167, Tryz.ntmps167
  go_wp2_with (go_at_call 168; refine (HE.out (fun _ _ => trivial) 0 _ HB.out HI.out).mono ?_; rw [HP.out]; rintro e w2 ⟨rfl, hi2, hg2⟩; obtain ⟨q0, qf⟩ := hi2.cells; have HG2 := Lib.hid (HG.out.trans hg2); clear hi2 hg2)
  go_ret
  exact ⟨rfl, held_under HG2.out (Nat.le_refl _) (fun b hb => by injection hb with hb; omega)⟩
theorem leaf_node : node4B leafV.hd 0 = true := by decide
def nodeT (t : TmV) (_ : Unit) : Bool × Unit := (node4B t.hd t.kn, ())
theorem fvT_node {w0 : World} (hv : Vr w0) : FvT w0 none 169 #[] (fun (_ : Unit) _ => True) (fun t => 0 ≤ t.hd.kind ∧ t.hd.kind ≤ 255 ∧ t.kn ≤ 1000000) nodeT where
  eg := fun args w => rfl
  hb := fun b' h => by cases h
  lt := fun b' h => by cases h
  inv := fun _ _ _ _ _ => trivial
  call := fun a s W ok hb _ => by
    refine (term_node_any a.hd ok.1 ok.2.1 a.kp a.kn a.kc ok.2.2 W (hv.below hb)).mono ?_
    rintro e w' ⟨rfl, hb'⟩
    exact ⟨rfl, trivial, hb'.os, hb'.tape, hb'.output, hb'.size, fun k hk _ => hb'.block k hk⟩
theorem stepAll_leaf : ∀ n, stepAll nodeT (List.replicate n leafV) () = (true, ())
  | 0 => rfl
  | n + 1 => by
    rw [List.replicate_succ]
    show (if (node4B leafV.hd 0) = true then stepAll nodeT (List.replicate n leafV) () else _) = _
    rw [leaf_node, if_pos rfl, stepAll_leaf n]
theorem stepAll_stub (t : TmV) (n : Nat) : (stepAll nodeT (t :: List.replicate n leafV) ()).1 = node4B t.hd t.kn := by
  show (if (node4B t.hd t.kn) = true then stepAll nodeT (List.replicate n leafV) () else (false, ())).1 = _
  rw [stepAll_leaf]
  cases node4B t.hd t.kn <;> rfl
set_option maxHeartbeats 2000000 in
theorem term_May_stub {w : World} (hv : Vr w) {t : TmV} (hk : IsRow encO 8 w t.kp t.kn t.kc (List.replicate t.kn ())) (h3 : t.kn ≤ 1000) (hk0 : 0 ≤ t.hd.kind) (hk1 : t.hd.kind ≤ 255) :
    Calls Tryz.prog 120 #[aggV t] w fun e w' => e = .returned (.bool (node4B t.hd t.kn)) ∧ Below w.heap.size w w' := by
  have HV := Lib.hid hv
  have HK := Lib.hid hk
  have HBX := Lib.hid (box8T_new w t)
  have HB := Lib.hid ((Below.refl w.heap.size w).alloc (Nat.le_refl _) (boxTm t.hd t.kp t.kn t.kc))
  have HS := Lib.hid (stepAll_stub t t.kn)
  have hrow : ∀ (W : World) (ty : TypeId) (gs : Nat), W.heap.size = gs → IsRow encTm 8 (W.alloc (.cells #[.int .u8 t.hd.kind, .int .u8 t.hd.op, .int .i64 t.hd.at_, .int .i64 t.hd.n, .string t.hd.name, .string t.hd.arg, .string t.hd.exn, .slice t.kp t.kn t.kc] ty)) (some ⟨gs, 0, none⟩) 1 1 [t] := fun W ty gs hgs =>
    ⟨rfl, by decide, by decide, (by intro h; cases h), RowE.newAt encTm_len W [t] _ (by simp [encTm]) _ _ _ hgs⟩
  have HROW := Lib.hid hrow
  clear hv hk hrow
  go_enter Tryz.func120, Tryz.ntmps120
  have hle : decide (1 + (t.kn : Int) ≤ 4000) = true := by simp; omega
  have hle2 : decide ((1 : Int) + t.kn ≤ 4000) = true := hle
  go_wp2_with (first
    | (refine wpList_load_row rfl 53 _ rfl w.heap.size rfl 53 _ (0, 0) _ HBX.out.blk Tryz.underlying53 rfl (by kernel_rfl) ?_)
    | (refine wpList_load_midG (by rfl) 53 _ rfl w.heap.size 0 rfl [.int .u8 t.hd.kind, .int .u8 t.hd.op, .int .i64 t.hd.at_, .int .i64 t.hd.n, .string t.hd.name, .string t.hd.arg, .string t.hd.exn, .slice t.kp t.kn t.kc] _ HBX.out.range Tryz.underlying53 rfl (by kernel_rfl) ?_)
    | (go_at_call 167; refine (term_Size_stub (HK.out.below (HB.out.alloc HB.out.size _)) (HROW.out _ _ _ (by simp)) (by omega)).mono ?_; rintro e w2 ⟨rfl, hb⟩; have HB2 := Lib.hid ((HB.out.alloc HB.out.size _).trans (hb.mono (HB.out.alloc HB.out.size _).size)); have HBX := Lib.hid ((HBX.out.below ((Below.refl _ _).alloc (Nat.le_refl _) _)).below hb); clear hb)
    | (go_at_call 168; refine (term_each_stub (fvT_node (HV.out.below (HB2.out.alloc HB2.out.size _))) (HK.out.below (HB2.out.alloc HB2.out.size _)) (HROW.out _ _ _ (by simp)) (by intro a ha; rcases List.mem_cons.1 ha with rfl | ha; exact ⟨hk0, hk1, by omega⟩; rw [(List.mem_replicate.1 ha).2]; exact ⟨by decide, by decide, by decide⟩) () _ (Below.refl _ _) trivial).mono ?_; rw [HS.out]; rintro e w3 ⟨rfl, _, hg3⟩; have HB3 := Lib.hid (held_under hg3 (Nat.le_refl _) (fun b h => by cases h)); clear hg3))
  go_ret
  exact ⟨rfl, HB2.out.trans (((Below.refl _ w2).alloc (Nat.le_refl _) _ |>.trans (HB3.out.mono (by simp))).mono HB2.out.size)⟩
end Go.Proofs.YtkdjnegfnhldpaaGreatDoor
end
section
namespace Go.Proofs.YtkdjnegfnhldpaaGreatDoor
open Go.RowKit Go.Shelf
attribute [local go_sem] Oper.semAt_some
def upto (f : Nat → Int) (k : Nat) : List Int := (List.range k).map f
theorem upto_succ (f : Nat → Int) (k : Nat) : upto f (k + 1) = upto f k ++ [f k] := by simp [upto, List.range_succ]
theorem upto_length (f : Nat → Int) (k : Nat) : (upto f k).length = k := by simp [upto]
theorem upto_all (zs : List Int) : upto (fun j => zs[j]?.getD 0) zs.length = zs := by
  apply List.ext_getElem
  · simp [upto]
  · intro i h1 h2
    simp [upto, h2]
theorem upto_take (zs : List Int) {k : Nat} (hk : k ≤ zs.length) : upto (fun j => zs[j]?.getD 0) k = zs.take k := by
  apply List.ext_getElem
  · simp [upto, hk]
  · intro i h1 h2
    have : i < zs.length := by simp [upto] at h1; omega
    simp [upto, this]
set_option maxHeartbeats 2000000 in
theorem values1_in (F : Fence) (n : Nat) (h7 : F.fn 173) (hro : F.round = none) (hn : 1 ≤ n) (l Bs n₀ b off len cap : Nat) (zs : List Int) (hreach : len * 8 ≤ 140737488351232) (hb : b < n₀) (J Jx : List Int → World → Prop)
    (hY : ∀ pre x W, J pre W → pre.length < len → YieldAt F (n - 1) Tryz.prog l #[.int .i64 x] W fun e W' =>
      (e = .returned (.bool true) ∧ J (pre ++ [x]) W' ∧ Below n₀ W W') ∨ (e = .returned (.bool false) ∧ Jx (pre ++ [x]) W'))
    (W : World) (hBs : W.cell? ⟨Bs, 0, none⟩ = some (.slice (some ⟨b, off, none⟩) len cap)) (hc : ∀ j, j < len → W.cell? ⟨b, off + j, none⟩ = some (.int .i64 (zs[j]?.getD 0))) (h0 : J [] W) :
    CallsIn F n Tryz.prog 173 #[.func (.yield l) #[] #[], .pointer (some ⟨Bs, 0, none⟩)] W fun e W' => (∃ v, e = .returned v) ∧
      ((∃ ys, ys = upto (fun j => zs[j]?.getD 0) len ∧ J ys W') ∨ (∃ pre, (∃ k, k ≤ len ∧ pre = upto (fun j => zs[j]?.getD 0) k) ∧ Jx pre W')) := by
  refine callsIn_of_wp Tryz.func173 rfl h7 ?_ hro
  simp only [Tryz.ntmps173, List.size_toArray, List.length_cons, List.length_nil, Nat.reduceAdd, Nat.reduceSub, Array.replicate_succ, Array.replicate_zero, List.push_toArray, List.append_toArray, List.nil_append, List.cons_append]
  gi_wp2
  gi_loopw [7] (fun i wr => ∃ k : Nat, k ≤ len ∧ i = .int .i64 k ∧ J (upto (fun j => zs[j]?.getD 0) k) wr ∧ Below n₀ W wr)
    (fun i _ => len - (intOf i).toNat)
  case atStart => exact ⟨0, Nat.zero_le _, rfl, h0, Below.refl _ _⟩
  case round =>
    obtain ⟨k, hk, rfl, hJs, hnx⟩ := hrel
    have hcx : k < len → wr.cell? ⟨b, off + k, none⟩ = some (.int .i64 (zs[k]?.getD 0)) := fun h => (hnx.cell (p := ⟨b, off + k, none⟩) hb).trans (hc k h)
    by_cases hlt : k < len
    · obtain ⟨fn, tmps, assign, body, hy, hR⟩ := hY _ (zs[k]?.getD 0) wr hJs (by rw [upto_length]; exact hlt)
      have hcx' := hcx hlt
      gi_wp2
      refine hR.mono ?_
      rintro e W3 (⟨rfl, hJ3, hk3⟩ | ⟨rfl, hJx3⟩)
      · gi_wp2
        go_roundw
        case rel => exact ⟨k + 1, by omega, by simp, by rw [upto_succ]; exact hJ3, hnx.trans hk3⟩
        case measure => simp [intOf]; omega
      · gi_wp2
        refine bodyPost_ret (results_none rfl _ _ _) rfl ?_
        exact ⟨⟨_, rfl⟩, .inr ⟨_, ⟨k + 1, by omega, (upto_succ _ _).symm⟩, hJx3⟩⟩
    · obtain rfl : k = len := by omega
      gi_wp2
      go_end0
      exact ⟨⟨_, rfl⟩, .inl ⟨_, rfl, hJs⟩⟩
def IntsB (n₀ : Nat) (W : World) (sv : Value) (zs : List Int) : Prop :=
  (∃ p c, sv = .slice p 0 c ∧ zs = []) ∨ ∃ b off cap, sv = .slice (some ⟨b, off, none⟩) zs.length cap ∧ b < n₀ ∧ ∀ j, j < zs.length → W.cell? ⟨b, off + j, none⟩ = some (.int .i64 (zs[j]?.getD 0))
theorem IntsB.below {n₀ : Nat} {A B : World} (h : Below n₀ A B) {sv : Value} {zs : List Int} : IntsB n₀ A sv zs → IntsB n₀ B sv zs
  | .inl e => .inl e
  | .inr ⟨b, off, cap, e, hb, hc⟩ => .inr ⟨b, off, cap, e, hb, fun j hj => (h.cell (p := ⟨b, off + j, none⟩) hb).trans (hc j hj)⟩
set_option maxHeartbeats 1000000 in
theorem values1_nil_in {p : Option Addr} {c : Nat} (F : Fence) (n : Nat) (h7 : F.fn 173) (hro : F.round = none) (l Bs : Nat) (J : List Int → World → Prop) (W : World) (hBs : W.cell? ⟨Bs, 0, none⟩ = some (.slice p 0 c)) (h0 : J [] W) :
    CallsIn F n Tryz.prog 173 #[.func (.yield l) #[] #[], .pointer (some ⟨Bs, 0, none⟩)] W fun e W' => (∃ v, e = .returned v) ∧ J [] W' := by
  refine callsIn_of_wp Tryz.func173 rfl h7 ?_ hro
  simp only [Tryz.ntmps173, List.size_toArray, List.length_cons, List.length_nil, Nat.reduceAdd, Nat.reduceSub, Array.replicate_succ, Array.replicate_zero, List.push_toArray, List.append_toArray, List.nil_append, List.cons_append]
  gi_wp2
  gi_loopw [7] (fun i wr => i = .int .i64 0 ∧ J [] wr) (fun _ _ => 0)
  case atStart => exact ⟨rfl, h0⟩
  case round =>
    obtain ⟨rfl, hJs⟩ := hrel
    gi_wp2
    go_end0
    exact ⟨⟨_, rfl⟩, hJs⟩
theorem values_stops (F : Fence) (n : Nat) (h7 : F.fn 173) (hro : F.round = none) (hn : 1 ≤ n) (Bs n₀ : Nat) (sv : Value) (zs : List Int) (hreach : zs.length * 8 ≤ 140737488351232) (w : World) (hBs : Bs < w.heap.size) (hn₀ : n₀ ≤ w.heap.size)
    (hc : w.cell? ⟨Bs, 0, none⟩ = some sv) (hI : IntsB n₀ w sv zs) :
    SeqStopsK F n Tryz.prog 173 #[.pointer (some ⟨Bs, 0, none⟩)] (fun x : Int => #[Value.int .i64 x]) (Below n₀) (fun ys => ys = zs) (fun pre => pre <+: zs) zs.length w := fun l J Jx W hW _ _ hY h0 => by
  have hc' := (hW.cell (p := ⟨Bs, 0, none⟩) hBs).trans hc
  rcases hI.below (hW.mono hn₀) with ⟨p, c, rfl, rfl⟩ | ⟨b, off, cap, rfl, hb, hcs⟩
  · exact (values1_nil_in F n h7 hro l Bs J W hc' h0).mono fun e W' ⟨he, hj⟩ => ⟨he, .inl ⟨_, rfl, hj⟩⟩
  · refine (values1_in F n h7 hro hn l Bs n₀ b off zs.length cap zs hreach hb J Jx hY W hc' hcs h0).mono ?_
    rintro e W' ⟨he, ⟨ys, rfl, hj⟩ | ⟨pre, ⟨k, hk, rfl⟩, hj⟩⟩
    · exact ⟨he, .inl ⟨_, upto_all zs, hj⟩⟩
    · exact ⟨he, .inr ⟨_, by rw [upto_take zs hk]; exact List.take_prefix _ _, hj⟩⟩
set_option maxHeartbeats 2000000 in
theorem appendSeq_in (F : Fence) (n : Nat) (h3 : F.fn 208) (h5 : F.fn 173) (hro : F.round = none) (hn : 3 ≤ n) (Bs : Nat) (sv : Value) (xs : List Int) (hbytes : xs.length * 8 ≤ 140737488351232) (w : World)
    (hBs : Bs < w.heap.size) (hcs : w.cell? ⟨Bs, 0, none⟩ = some sv) (hI : IntsB w.heap.size w sv xs) :
    CallsIn F n Tryz.prog 208 #[.slice none 0 0, .func (.func 173) #[] #[.pointer (some ⟨Bs, 0, none⟩)]] w fun e W' => ∃ v, e = .returned v ∧ W'.ownsRow w.heap.size 3 1 v xs.length (xs.map (Value.int .i64)) ∧ Below w.heap.size w W' := by
  have h1 : 1 ≤ n := by omega
  obtain ⟨i0, hi, hz0, hz1, hz2⟩ := info_parts infoN
  refine callsIn_of_wp_marks Tryz.func208 rfl h3 ?_ hro
  simp only [Tryz.ntmps208, List.size_toArray, List.length_cons, List.length_nil, Nat.reduceAdd, Nat.reduceSub, Array.replicate_succ, Array.replicate_zero, List.push_toArray, List.append_toArray, List.nil_append, List.cons_append]
  gi_wp2
  have bO := Boxed.new w 24 (.slice none 0 0)
  have hB0 : Below w.heap.size w (w.alloc (.cells #[.slice none 0 0] 24)) := (Below.refl _ w).alloc (Nat.le_refl _) _
  refine wpIn_rangeFunc_ownG hro h1 (gf := 173) (lb := #[.pointer (some ⟨Bs, 0, none⟩)]) rfl h5 (enters_of Tryz.func173 (by kernel_rfl) rfl)
    (values_stops F (n - 1) h5 hro (by omega) Bs w.heap.size sv xs hbytes _ (by simp; omega) (by simp) ((hB0.cell (p := ⟨Bs, 0, none⟩) hBs).trans hcs) (hI.below hB0)) belowK_t (belowK_b (by simp)) (Below.refl _ _) (fun _ => rfl)
    (fun pre W => (∃ v, Boxed W w.heap.size 24 v ∧ W.ownsRow w.heap.size 3 1 v pre.length (pre.map (Value.int .i64)) ∧ (v = .slice none 0 0 ↔ pre = [])) ∧ Below w.heap.size w W)
    (fun _ _ _ => False)
    (OwnFrom.and (Own.from (holdsRow_own w.heap.size w.heap.size 24 3 1 (fun pre => pre.length) (fun pre => pre.map (Value.int .i64)) (fun pre v => v = .slice none 0 0 ↔ pre = [])) _) (ownFrom_below (Nat.le_refl _) (by simp)))
    (fun _ _ _ _ _ hs _ _ => hs)
    ⟨⟨_, bO, World.ownsRow_nil _ _ _ _, by simp⟩, hB0⟩
    (fun x => { tmps := #[.slice none 0 0, .func (.func 173) #[] #[.pointer (some ⟨Bs, 0, none⟩)], .pointer (some ⟨w.heap.size, 0, none⟩), undef, .slice none 0 0, .int .i64 x, .func (.func 173) #[] #[.pointer (some ⟨Bs, 0, none⟩)], .int .i64 x, undef, undef, undef, undef, undef], defers := [] }) ?assign ?body ?done ?stop
  case assign =>
    intro l x W K hK
    gi_wp2
    exact hK
  case body =>
    rintro l pre x W ⟨⟨v, hv, hrow, hnil⟩, hB⟩ hlt
    have hc := hv.cell
    gi_wp2_with (gi_at_builtin; refine wpListIn_append_own _ rfl _ _ 24 rfl w.heap.size 3 i0 (.int .i64 0) 1 8 Tryz.underlying24 hi hz0 hz1 hz2 rfl (by decide) _ _ _ rfl (hrow.alloc _) ⟨W.heap.size, 0, none⟩ 1 1 [.int .i64 x] rfl rfl (cell_one_new _ _ _) (by simp [Value.oneCell']) (by unfold maxLen; omega) (by omega) (by have := hB.size; simp; omega) ?_; intro v' w1 hown' hgrow _; obtain ⟨g', cap', rfl⟩ := ownsRow_succ hown'; obtain ⟨hv1, hv2, hr2, hk2, hb2⟩ := hv.appended (by decide) hrow hB.size (Nat.le_refl _) hown' hgrow; have hc1 := hv1.cell; have hf1 := hv1.frozen)
    exact ⟨hk2.from _, hb2, ⟨_, hv2, by simpa using hr2, by simp⟩, hB.trans hb2⟩
  case done =>
    rintro D ys W hD rfl ⟨⟨v, hv, hrow, hnil⟩, hB⟩ hK
    have hc := hv.cell
    gi_wp2
    refine ⟨by simp, .inl ⟨_, _, rfl, run_takeDeferred hK, ?_⟩⟩
    exact ⟨_, results_tmp rfl _ _ _, v, rfl, ownsRow_putObj hrow _ hK rfl, hB.trans (belowK_b (w := w) (Nat.le_refl _) W D _ _ (by simp at hD; omega) hK rfl rfl)⟩
  case stop =>
    rintro D c pre W _ _ h _
    exact h.elim
theorem appendSeq_any (Bs : Nat) (sv : Value) (xs : List Int) (hbytes : xs.length * 8 ≤ 140737488351232) (w : World)
    (hBs : Bs < w.heap.size) (hcs : w.cell? ⟨Bs, 0, none⟩ = some sv) (hI : IntsB w.heap.size w sv xs) :
    Calls Tryz.prog 208 #[.slice none 0 0, .func (.func 173) #[] #[.pointer (some ⟨Bs, 0, none⟩)]] w fun e W' => ∃ v, e = .returned v ∧ W'.ownsRow w.heap.size 3 1 v xs.length (xs.map (Value.int .i64)) ∧ Below w.heap.size w W' :=
  (callsIn_wide (n := 6)).1 (appendSeq_in Fence.wide 6 trivial trivial rfl (by omega) Bs sv xs hbytes w hBs hcs hI)
end Go.Proofs.YtkdjnegfnhldpaaGreatDoor
end
section
namespace Go.Proofs.YtkdjnegfnhldpaaGreatDoor
open Go.RowKit
def ofB (k : Int) : Value := .agg #[.bool (inB [3, 6, 11, 13, 17, 18] k), .bool ((k == 13) || (k == 18)), .bool (inB [11, 13, 18] k), .bool (inB [11, 13, 15] k), .bool (k == 13)]
set_option maxHeartbeats 2000000 in
theorem of_any (k : Int) (w : World) : Calls Tryz.prog 89 #[.int .u8 k] w fun e w' => e = .returned (ofB k) ∧ Below w.heap.size w w' := by
  by_cases h3 : k = 3
  · subst h3
    go_enter Tryz.func89, Tryz.ntmps89
    go_wp2_with fail
    refine bodyPost_ret (results_cell_row rfl _ _ _ _ _ _ _ rfl (heap_alloc_new w _) Tryz.underlying137 rfl (by kernel_rfl)) rfl ?_
    exact ⟨rfl, (Below.refl _ _).alloc (Nat.le_refl _) _⟩
  have b3 : (k == 3) = false := by simpa using h3
  by_cases h6 : k = 6
  · subst h6
    go_enter Tryz.func89, Tryz.ntmps89
    go_wp2_with fail
    refine bodyPost_ret (results_cell_row rfl _ _ _ _ _ _ _ rfl (heap_alloc_new w _) Tryz.underlying137 rfl (by kernel_rfl)) rfl ?_
    exact ⟨rfl, (Below.refl _ _).alloc (Nat.le_refl _) _⟩
  have b6 : (k == 6) = false := by simpa using h6
  by_cases h17 : k = 17
  · subst h17
    go_enter Tryz.func89, Tryz.ntmps89
    go_wp2_with fail
    refine bodyPost_ret (results_cell_row rfl _ _ _ _ _ _ _ rfl (heap_alloc_new w _) Tryz.underlying137 rfl (by kernel_rfl)) rfl ?_
    exact ⟨rfl, (Below.refl _ _).alloc (Nat.le_refl _) _⟩
  have b17 : (k == 17) = false := by simpa using h17
  by_cases h11 : k = 11
  · subst h11
    go_enter Tryz.func89, Tryz.ntmps89
    go_wp2_with fail
    refine bodyPost_ret (results_cell_row rfl _ _ _ _ _ _ _ rfl (heap_alloc_new w _) Tryz.underlying137 rfl (by kernel_rfl)) rfl ?_
    exact ⟨rfl, (Below.refl _ _).alloc (Nat.le_refl _) _⟩
  have b11 : (k == 11) = false := by simpa using h11
  by_cases h13 : k = 13
  · subst h13
    go_enter Tryz.func89, Tryz.ntmps89
    go_wp2_with fail
    refine bodyPost_ret (results_cell_row rfl _ _ _ _ _ _ _ rfl (heap_alloc_new w _) Tryz.underlying137 rfl (by kernel_rfl)) rfl ?_
    exact ⟨rfl, (Below.refl _ _).alloc (Nat.le_refl _) _⟩
  have b13 : (k == 13) = false := by simpa using h13
  by_cases h15 : k = 15
  · subst h15
    go_enter Tryz.func89, Tryz.ntmps89
    go_wp2_with fail
    refine bodyPost_ret (results_cell_row rfl _ _ _ _ _ _ _ rfl (heap_alloc_new w _) Tryz.underlying137 rfl (by kernel_rfl)) rfl ?_
    exact ⟨rfl, (Below.refl _ _).alloc (Nat.le_refl _) _⟩
  have b15 : (k == 15) = false := by simpa using h15
  by_cases h18 : k = 18
  · subst h18
    go_enter Tryz.func89, Tryz.ntmps89
    go_wp2_with fail
    refine bodyPost_ret (results_cell_row rfl _ _ _ _ _ _ _ rfl (heap_alloc_new w _) Tryz.underlying137 rfl (by kernel_rfl)) rfl ?_
    exact ⟨rfl, (Below.refl _ _).alloc (Nat.le_refl _) _⟩
  have b18 : (k == 18) = false := by simpa using h18
  have hz : Hid (ofB k = .agg #[.bool false, .bool false, .bool false, .bool false, .bool false]) := by
    show _ = _
    have c3 : ((3 : Int) == k) = false := by rw [BEq.comm]; exact b3
    have c6 : ((6 : Int) == k) = false := by rw [BEq.comm]; exact b6
    have c17 : ((17 : Int) == k) = false := by rw [BEq.comm]; exact b17
    have c11 : ((11 : Int) == k) = false := by rw [BEq.comm]; exact b11
    have c13 : ((13 : Int) == k) = false := by rw [BEq.comm]; exact b13
    have c15 : ((15 : Int) == k) = false := by rw [BEq.comm]; exact b15
    have c18 : ((18 : Int) == k) = false := by rw [BEq.comm]; exact b18
    simp only [ofB, inB, List.any_cons, List.any_nil, c3, c6, c17, c11, c13, c15, c18, b13, b18, Bool.or_false]
  clear h3 h6 h17 h11 h13 h15 h18
  go_enter Tryz.func89, Tryz.ntmps89
  go_wp2_with fail
  refine bodyPost_ret (results_cell_row rfl _ _ _ _ _ _ _ rfl (heap_alloc_new w _) Tryz.underlying137 rfl (by kernel_rfl)) rfl ?_
  exact ⟨by rw [hz.out], (Below.refl _ _).alloc (Nat.le_refl _) _⟩
def fitsT (there : Bool) (t : PT) : Bool := if there then mayT t.er else plainB t.head
set_option maxHeartbeats 2000000 in
theorem aterm_fits_any (there : Bool) (t : PT) {w : World} (hl : LR.lies w t) (h1 : t.head.en ≤ 1000000) (h2 : t.head.kn ≤ 1000000) :
    Calls Tryz.prog 94 #[.bool there, aggR t.head] w fun e w' => e = .returned (.bool (fitsT there t)) ∧ Below w.heap.size w w' := by
  have HB := Lib.hid ((Below.refl w.heap.size w).alloc (Nat.le_refl _) (.cells #[.int .u8 t.head.kind, .int .i64 t.head.rho, .slice t.head.ep t.head.en t.head.ec, .slice t.head.kp t.head.kn t.head.kc] 28))
  have HL := Lib.hid (LR.lies_below HB.out t hl)
  clear hl
  cases there with
  | true =>
    go_enter Tryz.func94, Tryz.ntmps94
    go_wp2_with (go_at_call 129; refine (rtype_May_one HL.out rfl _ (by simp)).mono ?_; rintro e w2 ⟨rfl, hb⟩; have HB2 := Lib.hid hb; clear hb)
    go_ret
    exact ⟨rfl, HB.out.trans (((Below.refl _ _).alloc (Nat.le_refl _) _ |>.trans (HB2.out.mono (by simp))).mono HB.out.size)⟩
  | false =>
    have hw : IntKind.i64.wrap ((t.head.en : Int) + t.head.kn) = (t.head.en : Int) + t.head.kn := IntWalk.i64_in _ (by omega)
    have HP : Hid (plainB t.head = ((t.head.kind == 0) && (t.head.rho == 0) && ((t.head.en : Int) + t.head.kn == 0))) := by
      show _ = _
      unfold plainB
      rw [Bool.and_assoc (_ && _)]
      congr 1
      rw [Bool.eq_iff_iff]
      simp only [Bool.and_eq_true, beq_iff_eq]
      omega
    cases hk : (t.head.kind == 0) with
    | false =>
      rw [hk] at HP
      go_enter Tryz.func94, Tryz.ntmps94
      go_wp2_with fail
      go_ret
      exact ⟨ret_bool (by show _ = plainB _; rw [HP.out]; rfl), HB.out⟩
    | true =>
      rw [hk] at HP
      cases hr : (t.head.rho == 0) with
      | false =>
        rw [hr] at HP
        go_enter Tryz.func94, Tryz.ntmps94
        go_wp2_with fail
        go_ret
        exact ⟨ret_bool (by show _ = plainB _; rw [HP.out]; rfl), HB.out⟩
      | true =>
        rw [hr] at HP
        go_enter Tryz.func94, Tryz.ntmps94
        go_wp2_with fail
        go_ret
        exact ⟨ret_bool (by show _ = plainB _; rw [HP.out]; simp), HB.out⟩
end Go.Proofs.YtkdjnegfnhldpaaGreatDoor
end
