/- Part 23: Kb, Fd. -/
import Derived.Test.YtkdjnegfnhldpaaGreatDoorH22
import Derived.Test.YtkdjnegfnhldpaaGreatDoorH17
import Derived.RangeFuncNested
import Derived.RangeFuncBox
import Derived.RangeFuncLeaves
import Derived.Shelf.Abstract
import Derived.WalkKit
import Derived.OwnWalkIn
import Derived.TacticsInMore
import Derived.LoopNIn
import Derived.LoopIn
import Derived.Test.YtkdjnegfnhldpaaGreatDoorH20
import Derived.Test.YtkdjnegfnhldpaaGreatDoorH08
set_option linter.unusedVariables false
set_option maxRecDepth 100000
set_option linter.unusedSimpArgs false
namespace Go.Proofs.YtkdjnegfnhldpaaGreatDoor
open Go.Lib (hid)
section
open Go.RowKit
structure ChkIn (w0 w : World) (S : Nat → Prop) (t : PA) (p q : Option Addr) (n c m mc : Nat) (env : List BV) (rhos : List Int) : Prop where
  old : Below w0.heap.size w0 w
  lies : LA.lies w0 t
  small : SmallNs t
  good : GoodT (PA.er t)
  envA : EnvAt w0 w S p n c env
  rhosA : IsRow encN 1 w q m mc rhos
  genv : GoodEnv (erE env)
  s0 : ∀ b, b < w0.heap.size → S b
  new : ∀ b, w.heap.size ≤ b → S b
  hn : n + 2 * t.size ≤ 900000
  hm : m + 50 * t.size ≤ 900000
  hs : 102 * t.size ≤ 900000
def NodeAt (w0 : World) (t : PA) : Prop := ∀ (w : World) (S : Nat → Prop) (p q : Option Addr) (n c m mc : Nat) (env : List BV) (rhos : List Int), ChkIn w0 w S t p q n c m mc env rhos →
  Calls Tryz.prog 38 #[.agg #[.slice p n c, .slice q m mc], aggT t.head] w (OutC w S (chk (erE env) rhos (PA.er t)))
def Sx (w : World) (S : Nat → Prop) (v : Value) (b : Nat) : Prop := (b < w.heap.size ∧ S b) ∨ (w.heap.size + 3 ≤ b ∧ v.ownBlock ≠ some b)
theorem pa_size (t : PA) : (PA.er t).size = t.size := Rose.size_map _ t
def GoodAcc (l : List PA) (rs : List RV) : Prop := ∀ (j : Nat) (t : PA) (r : RV), l[j]? = some t → rs[j]? = some r → GoodE (102 * t.size) r.er ∧ r.er.1.size ≤ 500
structure KidsI (w : World) (S : Nat → Prop) (a : AH) (l : List PA) (x y : Value) (env : List Bnd) (rhos : List Int) (v : Value) (k : Nat) (rs : List RV) (wr : World) : Prop where
  nd : NdS w a x y wr
  own : OwnE encRV 5 wr (w.heap.size + 3) 81 v k rs
  each : ∀ r ∈ rs, r.Ok wr (Sx w S v)
  chk : chkL env rhos a.plain 0 [] (l.map PA.er) = chkL env rhos a.plain k (erL rs) ((l.drop k).map PA.er)
  acc : GoodAcc l rs
theorem kidsI_start {w W : World} {S : Nat → Prop} {a : AH} {l : List PA} {x y : Value} {env : List Bnd} {rhos : List Int} (h : NdS w a x y W) : KidsI w S a l x y env rhos (.slice none 0 0) 0 [] W :=
  ⟨h, OwnE.nil encRV W _ _ 5, fun r hr => (by cases hr), by simp [erL], fun j t r _ hr => by simp at hr⟩
theorem NdS.grown {w W W' : World} {a : AH} {x y : Value} {r : Option Nat} (h : NdS w a x y W) (hg : W.grownBy W' r) (hr : ∀ b, r = some b → w.heap.size + 3 ≤ b) : NdS w a x y W' := by
  obtain ⟨cs, h1, h2⟩ := h.res
  have hsz := h.size
  have hne : ∀ k, k < w.heap.size + 3 → W'.heap[k]? = W.heap[k]? := fun k hk => hg.block k (by omega) (fun e => by have := hr k e.symm; omega)
  exact ⟨⟨(hne _ (by omega)).trans h.b.b0, ⟨(hne _ (by omega)).trans h.b.b1.blk⟩, h.below.grown hg h.below.size (fun k e => by have := hr k e; omega)⟩, ⟨cs, h1, (hne _ (by omega)).trans h2⟩, Nat.le_trans h.size hg.size⟩
theorem KidsI.row {w : World} {S : Nat → Prop} {a : AH} {l : List PA} {x y : Value} {env : List Bnd} {rhos : List Int} {v : Value} {k : Nat} {rs : List RV} {wr : World} (h : KidsI w S a l x y env rhos v k rs wr) :
    ∃ p c, v = .slice p k c ∧ ResAt wr (Sx w S v) p k c rs ∧ rs.length = k ∧ ∀ b, v.ownBlock = some b → w.heap.size + 3 ≤ b ∧ b < wr.heap.size := by
  obtain ⟨p, c, hv, hrow⟩ := OwnE.isRow encRV_len (by omega) h.own
  exact ⟨p, c, hv, ⟨hrow, h.each⟩, hrow.len, fun b hb => World.ownsRow.lt h.own b hb⟩
theorem KidsI.below {w : World} {S : Nat → Prop} {a : AH} {l : List PA} {x y : Value} {env : List Bnd} {rhos : List Int} {v : Value} {k : Nat} {rs : List RV} {wr wr' : World} (h : KidsI w S a l x y env rhos v k rs wr) (hb : Below wr.heap.size wr wr') : KidsI w S a l x y env rhos v k rs wr' :=
  ⟨h.nd.step hb, h.own.below hb, fun r hr => (h.each r hr).below hb, h.chk, h.acc⟩
theorem sx_new {w : World} {S : Nat → Prop} {v : Value} {W : World} (hsz : w.heap.size + 3 ≤ W.heap.size) (hv : ∀ b, v.ownBlock = some b → b < W.heap.size) : ∀ b, W.heap.size ≤ b → Sx w S v b := fun b hb => .inr ⟨by omega, fun e => by have := hv b e; omega⟩
theorem env_sx {w0 w W : World} {S : Nat → Prop} {v : Value} {p : Option Addr} {n c : Nat} {env : List BV} (h : EnvAt w0 w S p n c env) (hb : Below w.heap.size w W) : EnvAt w0 W (Sx w S v) p n c env :=
  ⟨h.row.below hb, fun b hbm => ((h.each b hbm).below hb).weak (fun x hx => .inl ⟨lies_uses _ (h.each b hbm).ty x hx, (h.each b hbm).uses x hx⟩)⟩
theorem KidsI.push {w : World} {S : Nat → Prop} {a : AH} {l : List PA} {x y : Value} {env : List Bnd} {rhos : List Int} {v v' : Value} {k : Nat} {rs : List RV} {W w3 : World} {t : PA} {z : RV} {r : TE}
    (h : KidsI w S a l x y env rhos v k rs W) (ht : l[k]? = some t) (hz : z.Ok W (Sx w S v)) (hzr : z.er = r) (hc : Go.Proofs.YtkdjnegfnhldpaaGreatDoor.chk (innerE env a.plain k (erL rs)) (innerR rhos a.plain k) (PA.er t) = .ok r) (hgd : GoodE (102 * t.size) r)
    (hown : OwnE encRV 5 w3 (w.heap.size + 3) 81 v' (k + 1) (rs ++ [z])) (hg : W.grownBy w3 v.ownBlock) (hf : ∀ b, b < W.heap.size → v'.ownBlock = some b → v.ownBlock = some b) : KidsI w S a l x y env rhos v' (k + 1) (rs ++ [z]) w3 := by
  obtain ⟨_, _, _, _, hlen, hown0⟩ := h.row
  refine ⟨h.nd.grown hg (fun b e => (hown0 b e).1), hown, fun u hu => ?_, ?_, fun j u q hu hq => ?_⟩
  · have h1 : u.Ok W (Sx w S v) := by
      rcases List.mem_append.1 hu with hu | hu
      · exact h.each u hu
      · rw [List.mem_singleton] at hu; subst hu; exact hz
    have h2 : u.Ok W (fun b => Sx w S v b ∧ Sx w S v' b) := h1.weak (fun b hb hs => ⟨hs, by
      rcases hs with hs | ⟨hs1, hs2⟩
      · exact .inl hs
      · exact .inr ⟨hs1, fun e => hs2 (hf b hb e)⟩⟩)
    refine (h2.grown hg (fun b e hs => ?_)).weak (fun b _ hs => hs.2)
    rcases hs.1 with ⟨hs, _⟩ | ⟨_, hs⟩
    · have := (hown0 b e).1; omega
    · exact hs e
  · have hlt := get_lt ht
    have hd : l.drop k = t :: l.drop (k + 1) := by rw [List.drop_eq_getElem_cons hlt]; congr 1; rw [List.getElem?_eq_getElem hlt] at ht; exact Option.some.inj ht
    rw [h.chk, hd, List.map_cons, chkL_cons, hc]
    show chkL _ _ _ _ (erL rs ++ [r]) _ = _
    congr 1
    simp [erL, hzr]
  · rcases Nat.lt_or_ge j rs.length with hj | hj
    · rw [List.getElem?_append_left hj] at hq
      exact h.acc j u q hu hq
    · rw [List.getElem?_append_right hj] at hq
      have hjk : j = k := by
        have := get_lt hq
        simp at this
        omega
      subst hjk
      rw [hlen] at hq
      simp at hq
      subst hq
      rw [ht] at hu; cases hu
      rw [hzr]
      exact ⟨hgd, chk_size _ hc⟩
theorem KidsI.stop {w : World} {S : Nat → Prop} {a : AH} {l : List PA} {x y : Value} {env : List Bnd} {rhos : List Int} {v : Value} {k : Nat} {rs : List RV} {W : World} {t : PA} {e : Int × Int}
    (h : KidsI w S a l x y env rhos v k rs W) (ht : l[k]? = some t) (hc : Go.Proofs.YtkdjnegfnhldpaaGreatDoor.chk (innerE env a.plain k (erL rs)) (innerR rhos a.plain k) (PA.er t) = .error e) : chkL env rhos a.plain 0 [] (l.map PA.er) = .error e := by
  have hlt := get_lt ht
  have hd : l.drop k = t :: l.drop (k + 1) := by rw [List.drop_eq_getElem_cons hlt]; congr 1; rw [List.getElem?_eq_getElem hlt] at ht; exact Option.some.inj ht
  rw [h.chk, hd, List.map_cons, chkL_cons, hc]
theorem KidsI.full {w : World} {S : Nat → Prop} {a : AH} {l : List PA} {x y : Value} {env : List Bnd} {rhos : List Int} {v : Value} {rs : List RV} {W : World} (h : KidsI w S a l x y env rhos v l.length rs W) : chkL env rhos a.plain 0 [] (l.map PA.er) = .ok (erL rs) := by
  rw [h.chk, List.drop_length]
  exact chkL_nil _ _ _ _ _
theorem KidsI.sum {w : World} {S : Nat → Prop} {a : AH} {l : List PA} {x y : Value} {env : List Bnd} {rhos : List Int} {v : Value} {rs : List RV} {W : World} (h : KidsI w S a l x y env rhos v l.length rs W) : (rs.map (·.en)).sum ≤ 102 * (l.map Rose.size).sum := by
  have h1 : (rs.map (·.en)).sum = sumE (erL rs) := by
    unfold sumE erL
    rw [List.map_map]
    congr 1
    exact List.map_congr_left (fun r hr => ((h.each r hr).eff.len).symm)
  have h2 : (l.map Rose.size) = ((l.map PA.er).map Rose.size) := by
    rw [List.map_map]
    exact List.map_congr_left (fun t _ => (pa_size t).symm)
  obtain ⟨_, _, _, _, hlen, _⟩ := h.row
  rw [h1, h2]
  refine sumE_le (by simp [erL, hlen]) (fun j t r ht hr => ?_)
  rw [List.getElem?_map] at ht
  cases hl : l[j]? with
  | none => rw [hl] at ht; cases ht
  | some u =>
    rw [hl] at ht; cases ht
    unfold erL at hr
    rw [List.getElem?_map] at hr
    cases hq : rs[j]? with
    | none => rw [hq] at hr; cases hr
    | some q =>
      rw [hq] at hr; cases hr
      rw [pa_size]
      exact (h.acc j u q hl hq).1.len
theorem ChkIn.kid {w0 w : World} {S : Nat → Prop} {a : AH} {l : List PA} {p q : Option Addr} {n c m mc : Nat} {env : List BV} {rhos : List Int} (h : ChkIn w0 w S (.node a l) p q n c m mc env rhos) {k : Nat} {t : PA} (ht : l[k]? = some t)
    {x y : Value} {v : Value} {rs : List RV} {wr W2 : World} (hk : KidsI w S a l x y (erE env) rhos v k rs wr) (hb2 : Below wr.heap.size wr W2) {p' q' : Option Addr} {n' c' m' c'' : Nat} {env' : List BV} (hE : EnvAt w0 W2 (Sx w S v) p' n' c' env') (he : erE env' = innerE (erE env) a.plain k (erL rs))
    (hq : IsRow encN 1 W2 q' m' c'' (innerR rhos a.plain k)) (hn : n' ≤ n + 2) (hm : m' ≤ m + 50) : ChkIn w0 W2 (Sx w S v) t p' q' n' c' m' c'' env' (innerR rhos a.plain k) := by
  have htm := List.mem_of_getElem? ht
  have hN := nodeA h.lies
  have hsz : t.size + 1 ≤ (Rose.node a l).size := by
    rw [Rose.size_node]
    have := le_sum_of_mem (List.mem_map_of_mem (f := Rose.size) htm)
    omega
  have hg := h.good
  rw [PA.er_node] at hg
  have hall := hk.nd.below.trans (hb2.mono hk.nd.below.size)
  have h1 := h.hn
  have h2 := h.hm
  have h3 := h.hs
  obtain ⟨_, _, _, _, hlen, hown⟩ := hk.row
  refine ⟨h.old.trans (hall.mono h.old.size), hN.each t htm, fun x hx => h.small x (by rw [Rose.nodes_node, List.mem_cons, List.mem_flatten]; exact .inr ⟨_, List.mem_map_of_mem htm, hx⟩), hg.kid _ (List.mem_map_of_mem htm), hE, hq, ?_, fun b hb => .inl ⟨Nat.lt_of_lt_of_le hb h.old.size, h.s0 b hb⟩, sx_new (Nat.le_trans hk.nd.size hb2.size) (fun b e => Nat.lt_of_lt_of_le (hown b e).2 hb2.size), by omega, by omega, by omega⟩
  rw [he]
  refine goodEnv_inner hg.head h.genv (fun h12 h1 => ?_)
  subst h1
  have hlt := get_lt ht
  have hr0 : rs[0]? = some (rs[0]'(by omega)) := List.getElem?_eq_getElem _
  have hg0 := hk.acc 0 _ _ (List.getElem?_eq_getElem (by omega)) hr0
  have e0 : (erL rs).getD 0 dTE = (rs[0]'(by omega)).er := by
    rw [List.getD_eq_getElem?_getD]
    unfold erL
    rw [List.getElem?_map, hr0]; rfl
  rw [e0]
  exact ⟨hg0.1.may, hg0.1.effs, hg0.2⟩
theorem kid_good {w0 w : World} {S : Nat → Prop} {t : PA} {p q : Option Addr} {n c m mc : Nat} {env : List BV} {rhos : List Int} (h : ChkIn w0 w S t p q n c m mc env rhos) {r : TE} (hc : Go.Proofs.YtkdjnegfnhldpaaGreatDoor.chk (erE env) rhos (PA.er t) = .ok r) : GoodE (102 * t.size) r := by
  have := chk_good (PA.er t) (erE env) rhos r h.good (fun b hb => (h.genv b hb).1) hc
  rwa [pa_size] at this
end
section
open Go.RowKit Go.Shelf
attribute [local go_sem] Oper.semAt_some
def backTo (env : List BV) (k : Nat) : List (Int × BV) := (List.range k).filterMap (fun j => (env[env.length - 1 - j]?).map (fun x => (((env.length - 1 - j : Nat) : Int), x)))
theorem backTo_succ (env : List BV) (k : Nat) {x : BV} (h : env[env.length - 1 - k]? = some x) : backTo env (k + 1) = backTo env k ++ [(((env.length - 1 - k : Nat) : Int), x)] := by
  simp [backTo, List.range_succ, List.filterMap_append, h]
theorem backTo_map (env : List BV) {k : Nat} (hk : k ≤ env.length) : (backTo env k).map (·.2) = env.reverse.take k := by
  induction k with
  | zero => simp [backTo]
  | succ k ih =>
    have hlt : env.length - 1 - k < env.length := by omega
    rw [backTo_succ env k (List.getElem?_eq_getElem hlt), List.map_append, ih (by omega)]
    have h2 : env.reverse[k]? = some env[env.length - 1 - k] := by
      rw [List.getElem?_reverse (by omega), List.getElem?_eq_getElem hlt]
    rw [take_succ_get h2]
    rfl
set_option maxHeartbeats 2000000 in
theorem backward1_in (F : Fence) (n : Nat) (h7 : F.fn 186) (hro : F.round = none) (hn : 1 ≤ n) (l Bs n₀ b off len cap : Nat) (env : List BV) (hlen : env.length = len) (hreach : len ≤ 1000000) (hb : b < n₀) (hBl : Bs < n₀) (J Jx : List (Int × BV) → World → Prop)
    (hY : ∀ pre x W, J pre W → pre.length < len → YieldAt F (n - 1) Tryz.prog l #[.int .i64 x.1, aggBV x.2] W fun e W' =>
      (e = .returned (.bool true) ∧ J (pre ++ [x]) W' ∧ Below n₀ W W') ∨ (e = .returned (.bool false) ∧ Jx (pre ++ [x]) W'))
    (W : World) (hBs : W.cell? ⟨Bs, 0, none⟩ = some (.slice (some ⟨b, off, none⟩) len cap)) (hc : ∀ j x, env[j]? = some x → ∀ i v, (encBV x)[i]? = some v → W.cell? ⟨b, off + j * 6 + i, none⟩ = some v) (h0 : J [] W) :
    CallsIn F n Tryz.prog 186 #[.func (.yield l) #[] #[], .pointer (some ⟨Bs, 0, none⟩)] W fun e W' => (∃ v, e = .returned v) ∧
      ((∃ ys, ys = backTo env len ∧ J ys W') ∨ (∃ pre, (∃ k, k ≤ len ∧ pre = backTo env k) ∧ Jx pre W')) := by
  refine callsIn_of_wp Tryz.func186 rfl h7 ?_ hro
  simp only [Tryz.ntmps186, List.size_toArray, List.length_cons, List.length_nil, Nat.reduceAdd, Nat.reduceSub, Array.replicate_succ, Array.replicate_zero, List.push_toArray, List.append_toArray, List.nil_append, List.cons_append]
  gi_wp2
  gi_loopw [3] (fun i wr => ∃ k : Nat, k ≤ len ∧ i = .int .i64 ((len : Int) - 1 - k) ∧ J (backTo env k) wr ∧ Below n₀ W wr)
    (fun i _ => (intOf i + 1).toNat)
  case atStart => exact ⟨0, Nat.zero_le _, by simp, by simpa [backTo] using h0, Below.refl _ _⟩
  case round =>
    obtain ⟨k, hk, rfl, hJs, hnx⟩ := hrel
    have hBs' := (hnx.cell (p := ⟨Bs, 0, none⟩) hBl).trans hBs
    by_cases hlt : k < len
    · obtain ⟨x, hx⟩ := get_of_lt (l := env) (j := len - 1 - k) (by omega)
      have hidx : ((len : Int) - 1 - k) = ((len - 1 - k : Nat) : Int) := by omega
      have hcc : ∀ i v, (encBV x)[i]? = some v → wr.cell? ⟨b, off + (len - 1 - k) * 6 + i, none⟩ = some v := fun i v hv => (hnx.cell (p := ⟨b, off + (len - 1 - k) * 6 + i, none⟩) hb).trans (hc _ x hx i v hv)
      have c0 : wr.cell? ⟨b, off + (len - 1 - k) * 6, none⟩ = some (.string x.name) := hcc 0 _ rfl
      have c1 := hcc 1 _ rfl
      have c2 := hcc 2 _ rfl
      have c3 := hcc 3 _ rfl
      have c4 := hcc 4 _ rfl
      have c5 := hcc 5 _ rfl
      have hpl : (backTo env k).length < len := by
        have := congrArg List.length (backTo_map env (k := k) (by omega))
        simp at this; omega
      obtain ⟨fn, tmps, assign, body, hy, hR⟩ := hY _ (((len - 1 - k : Nat) : Int), x) wr hJs hpl
      have hsucc := backTo_succ env k (x := x) (by rw [hlen]; exact hx)
      rw [hlen] at hsucc
      have hlt2 : len - 1 - k < len := by omega
      rw [hidx]
      gi_wp2
      refine hR.mono ?_
      rintro e W3 (⟨rfl, hJ3, hk3⟩ | ⟨rfl, hJx3⟩)
      · gi_wp2
        go_roundw
        case rel => exact ⟨k + 1, by omega, by go_num, by rw [hsucc]; exact hJ3, hnx.trans hk3⟩
        case measure => simp [intOf] <;> omega
      · gi_wp2
        refine bodyPost_ret (results_none rfl _ _ _) rfl ?_
        exact ⟨⟨_, rfl⟩, .inr ⟨_, ⟨k + 1, by omega, hsucc.symm⟩, hJx3⟩⟩
    · obtain rfl : k = len := by omega
      have hneg : ((k : Int) - 1 - k) = -1 := by omega
      rw [hneg]
      gi_wp2
      go_end0
      exact ⟨⟨_, rfl⟩, .inl ⟨_, rfl, hJs⟩⟩
set_option maxHeartbeats 1000000 in
theorem backward_in (F : Fence) (n : Nat) (h5 : F.fn 134) (hro : F.round = none) (p : Option Addr) (m c : Nat) (w : World) :
    CallsIn F n Tryz.prog 134 #[.slice p m c] w fun e w' => e = .returned (.func (.func 186) #[] #[.pointer (some ⟨w.heap.size, 0, none⟩)]) ∧ w' = w.alloc (.cells #[.slice p m c] 82) := by
  refine callsIn_of_wp Tryz.func134 rfl h5 ?_ hro
  simp only [Tryz.ntmps134, List.size_toArray, List.length_cons, List.length_nil, Nat.reduceAdd, Nat.reduceSub, Array.replicate_succ, Array.replicate_zero, List.push_toArray, List.append_toArray, List.nil_append, List.cons_append]
  gi_wp2
  go_ret
  exact ⟨rfl, rfl⟩
set_option maxHeartbeats 1000000 in
theorem backward1_nil_in {p : Option Addr} {c : Nat} (F : Fence) (n : Nat) (h7 : F.fn 186) (hro : F.round = none) (l Bs : Nat) (J : List (Int × BV) → World → Prop) (W : World) (hBs : W.cell? ⟨Bs, 0, none⟩ = some (.slice p 0 c)) (h0 : J [] W) :
    CallsIn F n Tryz.prog 186 #[.func (.yield l) #[] #[], .pointer (some ⟨Bs, 0, none⟩)] W fun e W' => (∃ v, e = .returned v) ∧ J [] W' := by
  refine callsIn_of_wp Tryz.func186 rfl h7 ?_ hro
  simp only [Tryz.ntmps186, List.size_toArray, List.length_cons, List.length_nil, Nat.reduceAdd, Nat.reduceSub, Array.replicate_succ, Array.replicate_zero, List.push_toArray, List.append_toArray, List.nil_append, List.cons_append]
  gi_wp2
  gi_loopw [3] (fun i wr => i = .int .i64 (-1) ∧ J [] wr) (fun _ _ => 0)
  case atStart => exact ⟨rfl, h0⟩
  case round =>
    obtain ⟨rfl, hJs⟩ := hrel
    gi_wp2
    go_end0
    exact ⟨⟨_, rfl⟩, hJs⟩
theorem backward_stops (F : Fence) (n : Nat) (h7 : F.fn 186) (hro : F.round = none) (hn : 1 ≤ n) (Bs : Nat) {p : Option Addr} {m c : Nat} {env : List BV} (w : World) (hr : IsRow encBV 6 w p m c env) (hm : m ≤ 1000000) (W0 : World) (hb0 : Below w.heap.size w W0) (hBs : Bs < W0.heap.size)
    (hcs : W0.cell? ⟨Bs, 0, none⟩ = some (.slice p m c)) :
    SeqStopsK F n Tryz.prog 186 #[.pointer (some ⟨Bs, 0, none⟩)] (fun x : Int × BV => #[Value.int .i64 x.1, aggBV x.2]) (Below W0.heap.size) (fun ys => ys.map (·.2) = env.reverse) (fun pre => (pre.map (·.2)) <+: env.reverse) env.length W0 := fun l J Jx W hW _ _ hY h0 => by
  have hc' := (hW.cell (p := ⟨Bs, 0, none⟩) hBs).trans hcs
  have hlen := hr.len
  rcases hr.row with h | ⟨b, off, rfl, hb, hcc⟩
  · subst h
    obtain rfl : m = 0 := by simpa using hlen.symm
    exact (backward1_nil_in F n h7 hro l Bs J W hc' h0).mono fun e W' ⟨he, hj⟩ => ⟨he, .inl ⟨[], rfl, hj⟩⟩
  · have hbw : b < W0.heap.size := Nat.lt_of_lt_of_le hb hb0.size
    refine (backward1_in F n h7 hro hn l Bs W0.heap.size b off m c env hlen hm hbw hBs J Jx (by rw [← hlen]; exact hY) W hc' (fun j x hx i v hv => (hW.cell (p := ⟨b, off + j * 6 + i, none⟩) hbw).trans ((hb0.cell (p := ⟨b, off + j * 6 + i, none⟩) hb).trans (hcc j x hx i v hv))) h0).mono ?_
    rintro e W' ⟨he, ⟨ys, rfl, hj⟩ | ⟨pre, ⟨k, hk, rfl⟩, hj⟩⟩
    · exact ⟨he, .inl ⟨_, by show (backTo env m).map (·.2) = env.reverse; rw [backTo_map env (by omega), List.take_of_length_le (by simp <;> omega)], hj⟩⟩
    · exact ⟨he, .inr ⟨_, by show (backTo env k).map (·.2) <+: env.reverse; rw [backTo_map env (by omega)]; exact List.take_prefix _ _, hj⟩⟩
def findBV (env : List BV) (x : ByteArray) : Option BV := env.reverse.find? (fun b => decide (b.name = x))
theorem findBV_er (env : List BV) (x : ByteArray) : findP (erE env) x = (findBV env x).map BV.er := by
  unfold findP findBV erE
  rw [← List.map_reverse, List.find?_map]
  rfl
abbrev zeroBV : Value := .agg #[.string ⟨#[]⟩, .int .u8 0, .int .i64 0, .slice none 0 0, .slice none 0 0, .pointer none]
abbrev boxBV (b : BV) : Obj := .cells #[.string b.name, .int .u8 b.ty.head.kind, .int .i64 b.ty.head.rho, .slice b.ty.head.ep b.ty.head.en b.ty.head.ec, .slice b.ty.head.kp b.ty.head.kn b.ty.head.kc, .pointer (b.fn.map (fun x => ⟨x.2, 0, none⟩))] 145
structure FdI (w W : World) (name : ByteArray) (r : Obj) (ok : Bool) : Prop where
  b1 : W.heap[w.heap.size + 1]? = some (.cells #[.string name] 9 (0, 0))
  b2 : W.heap[w.heap.size + 2]? = some r
  b3 : W.heap[w.heap.size + 3]? = some (.cells #[.bool ok] 4 (0, 0))
  below : Below w.heap.size w W
  size : w.heap.size + 5 ≤ W.heap.size
theorem FdI.own {β : Type} {w : World} {name : ByteArray} {r : Obj} {ok : Bool} (hr : r.isCells = true) {B : Nat} (hB : w.heap.size ≤ B) : OwnFrom B (fun (_ : β) W => FdI w W name r ok) := fun s W W' row hs hg hrow => by
  have ne : ∀ (k : Nat) (o : Obj), W.heap[k]? = some o → o.isCells = true → some k ≠ row := fun k o hk ho e => by
    obtain ⟨_, o', ho', hc⟩ := hrow k e.symm
    rw [hk] at ho'; cases ho'
    rw [ho] at hc; cases hc
  have lt : ∀ (k : Nat) (o : Obj), W.heap[k]? = some o → k < W.heap.size := fun k o hk => (Array.getElem?_eq_some_iff.1 hk).1
  exact ⟨(hg.block _ (lt _ _ hs.b1) (ne _ _ hs.b1 rfl)).trans hs.b1, (hg.block _ (lt _ _ hs.b2) (ne _ _ hs.b2 hr)).trans hs.b2, (hg.block _ (lt _ _ hs.b3) (ne _ _ hs.b3 rfl)).trans hs.b3, hs.below.grown hg hs.below.size (fun k e => Nat.le_trans hB (hrow k e).1), Nat.le_trans hs.size hg.size⟩
def FindOut (env : List BV) (name : ByteArray) (e : Ending) : Prop :=
  match findBV env name with
  | some b => e = .returned (.tuple #[aggBV b, .bool true])
  | none => e = .returned (.tuple #[zeroBV, .bool false])
theorem fd_set {w W : World} {name : ByteArray} {y0 y1 y2 y3 y4 y5 : Value} {t : TypeId} {ok : Bool} (hF : FdI w W name (.cells #[y0, y1, y2, y3, y4, y5] t (0, 0)) ok) (u0 u1 u2 u3 u4 u5 : Value) (b : Bool) :
    FdI w (((((((W.setCell ⟨w.heap.size + 1 + 1, 0, none⟩ u0).setCell ⟨w.heap.size + 1 + 1, 1, none⟩ u1).setCell ⟨w.heap.size + 1 + 1, 2, none⟩ u2).setCell ⟨w.heap.size + 1 + 1, 3, none⟩ u3).setCell ⟨w.heap.size + 1 + 1, 4, none⟩ u4).setCell ⟨w.heap.size + 1 + 1, 5, none⟩ u5).setCell ⟨w.heap.size + 1 + 1 + 1, 0, none⟩ (.bool b)) name (.cells #[u0, u1, u2, u3, u4, u5] t (0, 0)) b ∧
    KeepsOthers W (((((((W.setCell ⟨w.heap.size + 1 + 1, 0, none⟩ u0).setCell ⟨w.heap.size + 1 + 1, 1, none⟩ u1).setCell ⟨w.heap.size + 1 + 1, 2, none⟩ u2).setCell ⟨w.heap.size + 1 + 1, 3, none⟩ u3).setCell ⟨w.heap.size + 1 + 1, 4, none⟩ u4).setCell ⟨w.heap.size + 1 + 1, 5, none⟩ u5).setCell ⟨w.heap.size + 1 + 1 + 1, 0, none⟩ (.bool b)) := by
  have hlt := hF.size
  have h6 := heap_setCell1 (o := 5) u5 (heap_setCell1 (o := 4) u4 (heap_setCell1 (o := 3) u3 (heap_setCell1 (o := 2) u2 (heap_setCell1 (o := 1) u1 (heap_setCell1 (o := 0) u0 hF.b2)))))
  have hg6 := held_own (held_own (held_own (held_own (held_own (grown_setCell1 W (w.heap.size + 1 + 1) 0 u0) (grown_setCell1 _ (w.heap.size + 1 + 1) 1 u1) (fun b _ h => h)) (grown_setCell1 _ (w.heap.size + 1 + 1) 2 u2) (fun b _ h => h)) (grown_setCell1 _ (w.heap.size + 1 + 1) 3 u3) (fun b _ h => h)) (grown_setCell1 _ (w.heap.size + 1 + 1) 4 u4) (fun b _ h => h)) (grown_setCell1 _ (w.heap.size + 1 + 1) 5 u5) (fun b _ h => h)
  have hk6 := ((((KeepsOthers.setCell W ⟨w.heap.size + 1 + 1, 0, none⟩ u0).trans (KeepsOthers.setCell _ ⟨w.heap.size + 1 + 1, 1, none⟩ u1)).trans (KeepsOthers.setCell _ ⟨w.heap.size + 1 + 1, 2, none⟩ u2)).trans (KeepsOthers.setCell _ ⟨w.heap.size + 1 + 1, 3, none⟩ u3)).trans ((KeepsOthers.setCell _ ⟨w.heap.size + 1 + 1, 4, none⟩ u4).trans (KeepsOthers.setCell _ ⟨w.heap.size + 1 + 1, 5, none⟩ u5))
  generalize ((((((W.setCell ⟨w.heap.size + 1 + 1, 0, none⟩ u0).setCell ⟨w.heap.size + 1 + 1, 1, none⟩ u1).setCell ⟨w.heap.size + 1 + 1, 2, none⟩ u2).setCell ⟨w.heap.size + 1 + 1, 3, none⟩ u3).setCell ⟨w.heap.size + 1 + 1, 4, none⟩ u4).setCell ⟨w.heap.size + 1 + 1, 5, none⟩ u5) = W6 at h6 hg6 hk6 ⊢
  have hg7 := grown_setCell1 W6 (w.heap.size + 1 + 1 + 1) 0 (.bool b)
  have hb3 : W6.heap[w.heap.size + 1 + 1 + 1]? = some (.cells #[.bool ok] 4 (0, 0)) := (hg6.block _ (by omega) (fun e => by injection e with e; omega)).trans hF.b3
  have h7 := heap_setCell1 (o := 0) (.bool b) hb3
  have hsz := hg6.size
  refine ⟨⟨?_, ?_, by simpa using h7, ?_, Nat.le_trans (Nat.le_trans hlt hg6.size) hg7.size⟩, hk6.trans (KeepsOthers.setCell _ _ _)⟩
  · exact (hg7.block _ (by omega) (fun e => by injection e with e; omega)).trans ((hg6.block _ (by omega) (fun e => by injection e with e; omega)).trans hF.b1)
  · refine (hg7.block _ (by omega) (fun e => by injection e with e; omega)).trans ?_
    simpa using h6
  · exact (hF.below.grown hg6 hF.below.size (fun k e => by injection e with e; omega)).grown hg7 (by have := hF.below.size; omega) (fun k e => by injection e with e; omega)
theorem FdI.cells {w W : World} {name : ByteArray} {y0 y1 y2 y3 y4 y5 : Value} {t : TypeId} {ok : Bool} (h : FdI w W name (.cells #[y0, y1, y2, y3, y4, y5] t (0, 0)) ok) :
    W.cell? ⟨w.heap.size + 1 + 1, 0, none⟩ = some y0 ∧ W.cell? ⟨w.heap.size + 1 + 1, 1, none⟩ = some y1 ∧ W.cell? ⟨w.heap.size + 1 + 1, 2, none⟩ = some y2 ∧ W.cell? ⟨w.heap.size + 1 + 1, 3, none⟩ = some y3 ∧ W.cell? ⟨w.heap.size + 1 + 1, 4, none⟩ = some y4 ∧ W.cell? ⟨w.heap.size + 1 + 1, 5, none⟩ = some y5 ∧ W.cell? ⟨w.heap.size + 1 + 1 + 1, 0, none⟩ = some (.bool ok) := by
  refine ⟨?_, ?_, ?_, ?_, ?_, ?_, ?_⟩ <;> simp only [World.cell?, h.b2, h.b3] <;> rfl
theorem FdI.put {w W : World} {name : ByteArray} {r : Obj} {ok : Bool} (hr : r.isCells = true) {D : Nat} (h : FdI w W name r ok) (hD : w.heap.size ≤ D) {o : Obj} (ho : W.heap[D]? = some o) (hc : o.isCells = false) (o' : Obj) : FdI w (W.putObj D o') name r ok :=
  (FdI.own (β := Unit) (B := w.heap.size) hr (Nat.le_refl _)) () W _ (some D) h (grownBy_putObj' W D o') (fun r e => by cases e; exact ⟨hD, o, ho, hc⟩)
theorem find_split {env : List BV} {q : List (Int × BV)} {x : Int × BV} {name : ByteArray} (h : ((q ++ [x]).map (·.2)) <+: env.reverse) (hne : ∀ y ∈ q, y.2.name ≠ name) (hx : x.2.name = name) : findBV env name = some x.2 := by
  obtain ⟨rest, hr⟩ := h
  unfold findBV
  rw [← hr, List.map_append, List.append_assoc, List.find?_append]
  have h1 : (q.map (·.2)).find? (fun b => decide (b.name = name)) = none := by
    rw [List.find?_eq_none]
    intro b hb
    obtain ⟨y, hy, rfl⟩ := List.mem_map.1 hb
    simpa using hne y hy
  rw [h1]
  simp [hx]
theorem find_none {env : List BV} {ys : List (Int × BV)} {name : ByteArray} (h : ys.map (·.2) = env.reverse) (hne : ∀ y ∈ ys, y.2.name ≠ name) : findBV env name = none := by
  unfold findBV
  rw [← h, List.find?_eq_none]
  intro b hb
  obtain ⟨y, hy, rfl⟩ := List.mem_map.1 hb
  simpa using hne y hy
set_option maxHeartbeats 4000000 in
theorem scope_find_in (F : Fence) (n : Nat) (h3 : F.fn 96) (h5 : F.fn 134) (h7 : F.fn 186) (hro : F.round = none) (hn : 6 ≤ n) {w : World} {p : Option Addr} {m c : Nat} {env : List BV} (hr : IsRow encBV 6 w p m c env) (hm : m ≤ 1000000) (rv : Value) (name : ByteArray) :
    CallsIn F n Tryz.prog 96 #[.agg #[.slice p m c, rv], .string name] w fun e w' => FindOut env name e ∧ Below w.heap.size w w' := by
  have h1 : 1 ≤ n := by omega
  refine callsIn_of_wp_marks Tryz.func96 rfl h3 ?_ hro
  simp only [Tryz.ntmps96, List.size_toArray, List.length_cons, List.length_nil, Nat.reduceAdd, Nat.reduceSub, Array.replicate_succ, Array.replicate_zero, List.push_toArray, List.append_toArray, List.nil_append, List.cons_append]
  gi_wp2_with (gi_at_call 134; refine (backward_in F (n - 1) h5 hro _ _ _ _).mono ?_; rintro e w' ⟨rfl, rfl⟩)
  have hF0 : FdI w (((((w.alloc (.cells #[.slice p m c, rv] 84)).alloc (.cells #[.string name] 9)).alloc (.cells #[.string ⟨#[]⟩, .int .u8 0, .int .i64 0, .slice none 0 0, .slice none 0 0, .pointer none] 145)).alloc (.cells #[.bool false] 4)).alloc (.cells #[.slice p m c] 82)) name (.cells #[.string ⟨#[]⟩, .int .u8 0, .int .i64 0, .slice none 0 0, .slice none 0 0, .pointer none] 145 (0, 0)) false := by
    have e1 := heap_alloc_new (w.alloc (.cells #[.slice p m c, rv] 84)) (.cells #[.string name] 9)
    have e2 := heap_alloc_new ((w.alloc (.cells #[.slice p m c, rv] 84)).alloc (.cells #[.string name] 9)) (.cells #[.string ⟨#[]⟩, .int .u8 0, .int .i64 0, .slice none 0 0, .slice none 0 0, .pointer none] 145)
    have e3 := heap_alloc_new (((w.alloc (.cells #[.slice p m c, rv] 84)).alloc (.cells #[.string name] 9)).alloc (.cells #[.string ⟨#[]⟩, .int .u8 0, .int .i64 0, .slice none 0 0, .slice none 0 0, .pointer none] 145)) (.cells #[.bool false] 4)
    simp only [World.size_alloc] at e1 e2 e3
    refine ⟨?_, ?_, ?_, ?_, by simp⟩
    · rw [Below.heap_alloc _ _ _ (by simp <;> omega), Below.heap_alloc _ _ _ (by simp <;> omega), Below.heap_alloc _ _ _ (by simp)]; exact e1
    · rw [Below.heap_alloc _ _ _ (by simp <;> omega), Below.heap_alloc _ _ _ (by simp)]; exact e2
    · rw [Below.heap_alloc _ _ _ (by simp)]; exact e3
    · exact (((((Below.refl w.heap.size w).alloc (Nat.le_refl _) _).alloc (by simp) _).alloc (by simp <;> omega) _).alloc (by simp <;> omega) _).alloc (by simp <;> omega) _
  have hcs : (((((w.alloc (.cells #[.slice p m c, rv] 84)).alloc (.cells #[.string name] 9)).alloc (.cells #[.string ⟨#[]⟩, .int .u8 0, .int .i64 0, .slice none 0 0, .slice none 0 0, .pointer none] 145)).alloc (.cells #[.bool false] 4)).alloc (.cells #[.slice p m c] 82)).cell? ⟨w.heap.size + 1 + 1 + 1 + 1, 0, none⟩ = some (.slice p m c) := by
    have e := heap_alloc_new ((((w.alloc (.cells #[.slice p m c, rv] 84)).alloc (.cells #[.string name] 9)).alloc (.cells #[.string ⟨#[]⟩, .int .u8 0, .int .i64 0, .slice none 0 0, .slice none 0 0, .pointer none] 145)).alloc (.cells #[.bool false] 4)) (.cells #[.slice p m c] 82)
    simp only [World.size_alloc] at e
    simp only [World.cell?, e]
    rfl
  have hsz : (((((w.alloc (.cells #[.slice p m c, rv] 84)).alloc (.cells #[.string name] 9)).alloc (.cells #[.string ⟨#[]⟩, .int .u8 0, .int .i64 0, .slice none 0 0, .slice none 0 0, .pointer none] 145)).alloc (.cells #[.bool false] 4)).alloc (.cells #[.slice p m c] 82)).heap.size = w.heap.size + 5 := by simp
  generalize ((((w.alloc (.cells #[.slice p m c, rv] 84)).alloc (.cells #[.string name] 9)).alloc (.cells #[.string ⟨#[]⟩, .int .u8 0, .int .i64 0, .slice none 0 0, .slice none 0 0, .pointer none] 145)).alloc (.cells #[.bool false] 4)).alloc (.cells #[.slice p m c] 82) = W0 at hF0 hcs hsz ⊢
  refine wpIn_rangeFunc_ownH hro h1 (gf := 186) (lb := #[.pointer (some ⟨w.heap.size + 1 + 1 + 1 + 1, 0, none⟩)]) rfl h7 (enters_of Tryz.func186 (by kernel_rfl) rfl)
    (backward_stops F (n - 1) h7 hro (by omega) (w.heap.size + 1 + 1 + 1 + 1) w hr hm W0 hF0.below (by omega) hcs) belowK_t (belowK_b (Nat.le_refl _)) (Below.refl _ _) (fun _ => rfl)
    (fun pre W => FdI w W name (.cells #[.string ⟨#[]⟩, .int .u8 0, .int .i64 0, .slice none 0 0, .slice none 0 0, .pointer none] 145 (0, 0)) false ∧ ∀ y ∈ pre, y.2.name ≠ name)
    (fun c pre W => c = .ret ∧ ∃ q x, pre = q ++ [x] ∧ (∀ y ∈ q, y.2.name ≠ name) ∧ x.2.name = name ∧ FdI w W name (boxBV x.2) true)
    (OwnFrom.and (FdI.own rfl (by omega)) (fun _ _ _ _ h _ _ => h))
    (fun c s W W' row hs hg hrow => by
      obtain ⟨h1, q, x, h2, h3, h4, h5⟩ := hs
      exact ⟨h1, q, x, h2, h3, h4, (FdI.own (β := Unit) rfl (by omega)) () W W' row h5 hg hrow⟩)
    ⟨hF0, fun y hy => by cases hy⟩
    (fun x a' W => ∃ Bx, w.heap.size + 5 ≤ Bx ∧ W.heap[Bx]? = some (boxBV x.2) ∧ a' = { tmps := #[.agg #[.slice p m c, rv], .string name, .pointer (some ⟨w.heap.size, 0, none⟩), .pointer (some ⟨w.heap.size + 1, 0, none⟩), .pointer (some ⟨w.heap.size + 1 + 1, 0, none⟩), .pointer (some ⟨w.heap.size + 1 + 1 + 1, 0, none⟩), undef, .pointer (some ⟨Bx, 0, none⟩), .pointer (some ⟨w.heap.size, 0, none⟩), .slice p m c, .func (.func 186) #[] #[.pointer (some ⟨w.heap.size + 1 + 1 + 1 + 1, 0, none⟩)], .int .i64 x.1, aggBV x.2, undef, undef, undef, undef, undef, undef], defers := [] })
    (fun x a' s W W' row hs hg hrow => by
      obtain ⟨Bx, h1, h2, h3⟩ := hs
      refine ⟨Bx, h1, (hg.block _ (Array.getElem?_eq_some_iff.1 h2).1 (fun e => ?_)).trans h2, h3⟩
      obtain ⟨_, o', ho', hc⟩ := hrow Bx e.symm
      rw [h2] at ho'; cases ho'
      cases hc) ?assign ?body ?done ?stop
  case assign =>
    intro l pre x W K hi hK
    gi_wp2
    have hlt := hi.1.size
    refine hK _ _ ((KeepsOthers.alloc _ _).from _) ((Below.refl _ W).alloc (by omega) _) ⟨⟨?_, ?_, ?_, hi.1.below.alloc (by omega) _, by simp; omega⟩, hi.2⟩ ⟨W.heap.size, by omega, heap_alloc_new W _, rfl⟩
    · rw [Below.heap_alloc _ _ _ (by omega)]; exact hi.1.b1
    · rw [Below.heap_alloc _ _ _ (by omega)]; exact hi.1.b2
    · rw [Below.heap_alloc _ _ _ (by omega)]; exact hi.1.b3
  case body =>
    rintro l pre x a' W hl ⟨r, hr'⟩ ⟨hF, hne⟩ ⟨Bx, hBx, hbx, rfl⟩ hlt
    have c0 : W.cell? ⟨Bx, 0, none⟩ = some (.string x.2.name) := by simp [World.cell?, hbx]
    have c1 : W.cell? ⟨Bx, 1, none⟩ = some (.int .u8 x.2.ty.head.kind) := by simp [World.cell?, hbx]
    have c2 : W.cell? ⟨Bx, 2, none⟩ = some (.int .i64 x.2.ty.head.rho) := by simp [World.cell?, hbx]
    have c3 : W.cell? ⟨Bx, 3, none⟩ = some (.slice x.2.ty.head.ep x.2.ty.head.en x.2.ty.head.ec) := by simp [World.cell?, hbx]
    have c4 : W.cell? ⟨Bx, 4, none⟩ = some (.slice x.2.ty.head.kp x.2.ty.head.kn x.2.ty.head.kc) := by simp [World.cell?, hbx]
    have c5 : W.cell? ⟨Bx, 5, none⟩ = some (.pointer (x.2.fn.map (fun x => ⟨x.2, 0, none⟩))) := by simp [World.cell?, hbx]
    have cn : W.cell? ⟨w.heap.size + 1, 0, none⟩ = some (.string name) := by simp [World.cell?, hF.b1]
    have z0 : W.cell? ⟨w.heap.size + 1 + 1, 0, none⟩ = some (.string ⟨#[]⟩) := by simp only [World.cell?, hF.b2]; rfl
    have f0 : W.frozen? ⟨w.heap.size + 1 + 1, 0, none⟩ = false := by simp only [World.frozen?, hF.b2]; rfl
    have z1 : W.cell? ⟨w.heap.size + 1 + 1, 1, none⟩ = some (.int .u8 0) := by simp only [World.cell?, hF.b2]; rfl
    have f1 : W.frozen? ⟨w.heap.size + 1 + 1, 1, none⟩ = false := by simp only [World.frozen?, hF.b2]; rfl
    have z2 : W.cell? ⟨w.heap.size + 1 + 1, 2, none⟩ = some (.int .i64 0) := by simp only [World.cell?, hF.b2]; rfl
    have f2 : W.frozen? ⟨w.heap.size + 1 + 1, 2, none⟩ = false := by simp only [World.frozen?, hF.b2]; rfl
    have z3 : W.cell? ⟨w.heap.size + 1 + 1, 3, none⟩ = some (.slice none 0 0) := by simp only [World.cell?, hF.b2]; rfl
    have f3 : W.frozen? ⟨w.heap.size + 1 + 1, 3, none⟩ = false := by simp only [World.frozen?, hF.b2]; rfl
    have z4 : W.cell? ⟨w.heap.size + 1 + 1, 4, none⟩ = some (.slice none 0 0) := by simp only [World.cell?, hF.b2]; rfl
    have f4 : W.frozen? ⟨w.heap.size + 1 + 1, 4, none⟩ = false := by simp only [World.frozen?, hF.b2]; rfl
    have z5 : W.cell? ⟨w.heap.size + 1 + 1, 5, none⟩ = some (.pointer none) := by simp only [World.cell?, hF.b2]; rfl
    have f5 : W.frozen? ⟨w.heap.size + 1 + 1, 5, none⟩ = false := by simp only [World.frozen?, hF.b2]; rfl
    have z6 : W.cell? ⟨w.heap.size + 1 + 1 + 1, 0, none⟩ = some (.bool false) := by simp only [World.cell?, hF.b3]; rfl
    have f6 : W.frozen? ⟨w.heap.size + 1 + 1 + 1, 0, none⟩ = false := by simp only [World.frozen?, hF.b3]; rfl
    by_cases hq : x.2.name = name
    · have hb : (x.2.name.toList == name.toList) = true := by rw [hq]; simp
      have hset := fd_set hF (.string name) (.int .u8 x.2.ty.head.kind) (.int .i64 x.2.ty.head.rho) (.slice x.2.ty.head.ep x.2.ty.head.en x.2.ty.head.ec) (.slice x.2.ty.head.kp x.2.ty.head.kn x.2.ty.head.kc) (.pointer (x.2.fn.map (fun x => ⟨x.2, 0, none⟩))) true
      have HSET := hid hset
      clear hset
      gi_wp2
      exact ⟨HSET.out.2.from _, rfl, pre, x, rfl, hne, hq, by unfold boxBV; rw [hq]; exact HSET.out.1⟩
    · have hb : (x.2.name.toList == name.toList) = false := by rw [bytes_beq]; exact decide_eq_false hq
      gi_wp2
      exact ⟨KeepsFrom.refl _ _, Below.refl _ _, hF, fun y hy => by
        rcases List.mem_append.1 hy with hy | hy
        · exact hne y hy
        · rw [List.mem_singleton] at hy; subst hy; exact hq⟩
  case done =>
    rintro D ys W hD hys ⟨hF, hne⟩ hK
    have z0 : W.cell? ⟨w.heap.size + 1 + 1, 0, none⟩ = some (.string ⟨#[]⟩) := by simp only [World.cell?, hF.b2]; rfl
    have f0 : W.frozen? ⟨w.heap.size + 1 + 1, 0, none⟩ = false := by simp only [World.frozen?, hF.b2]; rfl
    have z1 : W.cell? ⟨w.heap.size + 1 + 1, 1, none⟩ = some (.int .u8 0) := by simp only [World.cell?, hF.b2]; rfl
    have f1 : W.frozen? ⟨w.heap.size + 1 + 1, 1, none⟩ = false := by simp only [World.frozen?, hF.b2]; rfl
    have z2 : W.cell? ⟨w.heap.size + 1 + 1, 2, none⟩ = some (.int .i64 0) := by simp only [World.cell?, hF.b2]; rfl
    have f2 : W.frozen? ⟨w.heap.size + 1 + 1, 2, none⟩ = false := by simp only [World.frozen?, hF.b2]; rfl
    have z3 : W.cell? ⟨w.heap.size + 1 + 1, 3, none⟩ = some (.slice none 0 0) := by simp only [World.cell?, hF.b2]; rfl
    have f3 : W.frozen? ⟨w.heap.size + 1 + 1, 3, none⟩ = false := by simp only [World.frozen?, hF.b2]; rfl
    have z4 : W.cell? ⟨w.heap.size + 1 + 1, 4, none⟩ = some (.slice none 0 0) := by simp only [World.cell?, hF.b2]; rfl
    have f4 : W.frozen? ⟨w.heap.size + 1 + 1, 4, none⟩ = false := by simp only [World.frozen?, hF.b2]; rfl
    have z5 : W.cell? ⟨w.heap.size + 1 + 1, 5, none⟩ = some (.pointer none) := by simp only [World.cell?, hF.b2]; rfl
    have f5 : W.frozen? ⟨w.heap.size + 1 + 1, 5, none⟩ = false := by simp only [World.frozen?, hF.b2]; rfl
    have z6 : W.cell? ⟨w.heap.size + 1 + 1 + 1, 0, none⟩ = some (.bool false) := by simp only [World.cell?, hF.b3]; rfl
    have f6 : W.frozen? ⟨w.heap.size + 1 + 1 + 1, 0, none⟩ = false := by simp only [World.frozen?, hF.b3]; rfl
    have HSET := hid (fd_set hF (.string ⟨#[]⟩) (.int .u8 0) (.int .i64 0) (.slice none 0 0) (.slice none 0 0) (.pointer none) false)
    gi_wp2
    have hK' := HSET.out.2.same D _ hK rfl
    have hP := HSET.out.1.put rfl (by omega) hK' rfl (.deferred none)
    refine ⟨by simp, .inl ⟨_, _, rfl, run_takeDeferred hK', ?_⟩⟩
    obtain ⟨d0, d1, d2, d3, d4, d5, d6⟩ := hP.cells
    refine ⟨.tuple #[zeroBV, .bool false], ?_, by unfold FindOut; rw [find_none hys hne], hP.below⟩
    clear hK HSET hK' hP hF z0 z1 z2 z3 z4 z5 z6 f0 f1 f2 f3 f4 f5 f6
    simp [results, Tryz.f96, go_sem, d0, d1, d2, d3, d4, d5, d6]
  case stop =>
    rintro D cd pre W hD hpre ⟨rfl, q, x, rfl, hne, hx, hF⟩ hK
    gi_wp2
    have hP := hF.put rfl (by omega) hK rfl (.deferred none)
    refine ⟨by simp, .inl ⟨_, _, rfl, run_takeDeferred hK, ?_⟩⟩
    obtain ⟨d0, d1, d2, d3, d4, d5, d6⟩ := hP.cells
    refine ⟨.tuple #[aggBV x.2, .bool true], ?_, by unfold FindOut; rw [find_split hpre hne hx], hP.below⟩
    clear hK hP hF
    simp [results, Tryz.f96, go_sem, d0, d1, d2, d3, d4, d5, d6]
theorem scope_find_any {w : World} {p : Option Addr} {m c : Nat} {env : List BV} (hr : IsRow encBV 6 w p m c env) (hm : m ≤ 1000000) (rv : Value) (name : ByteArray) :
    Calls Tryz.prog 96 #[.agg #[.slice p m c, rv], .string name] w fun e w' => FindOut env name e ∧ Below w.heap.size w w' :=
  (callsIn_wide (n := 6)).1 (scope_find_in Fence.wide 6 trivial trivial trivial rfl (by omega) hr hm rv name)
end
end Go.Proofs.YtkdjnegfnhldpaaGreatDoor
