/- Part 10: RtA. -/
import Derived.Test.YtkdjnegfnhldpaaGreatDoorH04
import Derived.Maps.AppendAt
import Derived.Deep.RegionHeld3
import Derived.Deep.AppendLies
import Derived.Test.YtkdjnegfnhldpaaGreatDoorH09
set_option linter.unusedVariables false
set_option maxRecDepth 100000
set_option linter.unusedSimpArgs false
namespace Go.Proofs.YtkdjnegfnhldpaaGreatDoor
open Go.Lib (hid)
section
section
open Go.RowKit
theorem step_appendR {P : Program} {α : Type} {ops : Array Oper} {o : Oper} {a : Act} {K : Act → World → Prop} {Q : Exit → Act → World → Prop} {E : Prop} (hgd : o.guard = none) (s x : Operand) (t : TypeId)
    (ho : o.op = .call { callee := .builtin .append, args := #[s, x], argTypes := #[t, t] })
    (base : Nat) (e : TypeId) (z : Value) (k bytes : Nat) (ht : P.underlying t = some (.slice e)) (hinfo : (P.info? e).map (fun i => (i.zero, i.size, i.bytes)) = some (some z, k, bytes))
    (hzs : z.cells.size = k) (hsz : 0 < k)
    (enc : α → List Value) (hk : ∀ x, (enc x).length = k) (h1 : ∀ y, ∀ u ∈ enc y, u.oneCell' = true) (l' l : List α) (n : Nat) {w : World} (v : Value) (hown : OwnE enc k w base e v n l)
    (p : Option Addr) (m c : Nat) (hs : a.eval s = v) (hx : a.eval x = .slice p m c) (hl : l'.length = m) (hp : p = none → c = 0) (hr : RowE enc k w p l')
    (hbytes : (n + m) * bytes ≤ 140737488355328) (h63 : n + m ≤ 9223372036854775807) (hbase : base ≤ w.heap.size)
    (h : ∀ v' w', OwnE enc k w' base e v' (n + m) (l ++ l') → w.grownBy w' v.ownBlock → (∀ b, b < w.heap.size → v'.ownBlock = some b → v.ownBlock = some b) → K (a.put o.dst v') w') :
    if Region.wanted o (yielded ops a.tmps) = true then Oper.wp P o a w K Q else E := by
  have hw : Region.wanted o (yielded ops a.tmps) = true := by simp [Region.wanted, hgd]
  rw [if_pos hw]
  obtain ⟨i, hi, hz, hsize, hby⟩ := info_parts hinfo
  rcases p with _ | ad
  · have hl0 : l' = [] := by
      rcases hr with h | ⟨_, _, h, _⟩
      · exact h
      · cases h
    subst hl0
    obtain rfl : m = 0 := by simpa using hl.symm
    obtain rfl := hp rfl
    have hrun := run_append_owned_none (P := P) (w := w) base t o.type e i k ht hi v n _ hown
    have := h v w (by simpa using hown) (World.grownBy.refl _ _) (fun b _ h => h)
    unfold Oper.wp execOp
    simp only [ho, resolve, invoke, builtin, Sem.run_bind, Sem.run_pure, Result.andThen_ok, List.map_toArray, List.map_cons, List.map_nil, hs, hx, hrun]
    exact this
  · obtain ⟨v', w', hrun, h2, h3, h4, h5⟩ := run_append_own_at (P := P) w base t o.type e i z k bytes ht hi hz hsize hby hzs hsz v n _ hown ad m c (l'.flatMap enc) (by rw [flat_length hk, hl]) (by
      intro j u hj
      rcases hr with h0 | ⟨b, o', hb, hlt, hc⟩
      · subst h0; simp at hj
      · cases hb
        have hjl : j < l'.length * k := by rw [← flat_length hk]; exact get_lt hj
        have hq : j / k < l'.length := Nat.div_lt_of_lt_mul (by rw [Nat.mul_comm]; exact hjl)
        have hm : j % k < k := Nat.mod_lt _ hsz
        have hf := flat_get hk l' (j / k) _ (j % k) (List.getElem?_eq_getElem hq) hm
        rw [Nat.div_add_mod' j k, hj] at hf
        have := hc (j / k) _ (List.getElem?_eq_getElem hq) (j % k) u hf.symm
        rw [add_lit', ← Nat.div_add_mod' j k, ← Nat.add_assoc]
        exact this) (by
      intro u hu
      obtain ⟨y, _, hy⟩ := List.mem_flatMap.1 hu
      exact h1 y u hy) (by unfold maxLen; omega) hbytes hbase
    unfold Oper.wp execOp
    simp only [ho, resolve, invoke, builtin, Sem.run_bind, Sem.run_pure, Result.andThen_ok, List.map_toArray, List.map_cons, List.map_nil, hs, hx, hrun]
    refine h v' w' (by unfold OwnE; rw [List.flatMap_append]; exact h2) h3 (fun b hb hv => ?_)
    rcases h5 with h5 | h5
    · rw [← h5]; exact hv
    · rw [h5] at hv; cases hv; omega
theorem held_drew {w0 w : World} {r : Option Nat} (h : w0.grownBy w r) : w0.grownBy w.drew r := ⟨h.os, h.tape, h.output, h.size, h.block⟩
theorem held_alloc {w0 w : World} {r : Option Nat} (h : w0.grownBy w r) (o : Obj) : w0.grownBy (w.alloc o) r :=
  ⟨h.os, h.tape, h.output, Nat.le_trans h.size (by simp), fun k hk hne => (Below.heap_alloc w o k (by have := h.size; omega)).trans (h.block k hk hne)⟩
theorem held_below {w0 w w' : World} {r : Option Nat} (h : w0.grownBy w r) (hb : Below w.heap.size w w') : w0.grownBy w' r :=
  ⟨hb.os.trans h.os, hb.tape.trans h.tape, hb.output.trans h.output, Nat.le_trans h.size hb.size, fun k hk hne => (hb.block k (by have := h.size; omega)).trans (h.block k hk hne)⟩
theorem held_own {w0 w w' : World} {r r' : Option Nat} (h : w0.grownBy w r) (hg : w.grownBy w' r') (hr : ∀ b, b < w0.heap.size → r' = some b → r = some b) : w0.grownBy w' r :=
  ⟨hg.os.trans h.os, hg.tape.trans h.tape, hg.output.trans h.output, Nat.le_trans h.size hg.size, fun k hk hne => (hg.block k (by have := h.size; omega) (fun e => hne (hr k hk e.symm).symm)).trans (h.block k hk hne)⟩
theorem held_cell {w0 w : World} {r : Option Nat} {a : Addr} {u : Value} (h : w0.grownBy w r) (hne : r ≠ some a.block) (hc : w0.cell? a = some u) : w.cell? a = some u := by
  have hb := h.block a.block (cell_block hc) hne.symm
  unfold World.cell? at hc ⊢
  rw [hb]; exact hc
theorem held_under {w0 w : World} {r : Option Nat} {B : Nat} (h : w0.grownBy w r) (hB : B ≤ w0.heap.size) (hr : ∀ b, r = some b → B ≤ b) : Below B w0 w :=
  ⟨h.os, h.tape, h.output, h.size, fun k hk => h.block k (by omega) (fun e => by have := hr k e.symm; omega)⟩
theorem OwnE.from {α : Type} {enc : α → List Value} {k : Nat} {w : World} {base e n : Nat} {v : Value} {l : List α} (h : OwnE enc k w base e v n l) : ∀ b, v.ownBlock = some b → base ≤ b := fun b hb => (World.ownsRow.lt h b hb).1
theorem OwnE.under {α : Type} {enc : α → List Value} {k : Nat} {w : World} {base e n : Nat} {v : Value} {l : List α} (h : OwnE enc k w base e v n l) : ∀ b, v.ownBlock = some b → b < w.heap.size := fun b hb => (World.ownsRow.lt h b hb).2
end
section
open Go.RowKit Go.Sort Go.Lib
def ownR (a : LH) : List Int := if a.kind = 1 then [] else a.rho :: rhosOf a.eff
def gathT : RT → List Int := Rose.fold (fun a l => ownR a ++ l.flatten)
theorem gathT_node (a : LH) (l : List RT) : gathT (.node a l) = ownR a ++ l.flatMap gathT := by
  show Rose.fold _ _ = _
  rw [Rose.fold_node, List.flatMap_def]; rfl
def gathL (l : List PT) : List Int := l.flatMap (fun t => gathT t.er)
theorem gathT_kids (x : PT) : gathT x.er = ownR x.head.plain ++ gathL x.kids := by
  obtain ⟨a, l⟩ := x
  rw [PT.er_node, gathT_node, List.flatMap_map]; rfl
theorem gathL_take {l : List PT} {k : Nat} {x : PT} (h : l[k]? = some x) : gathL (l.take (k + 1)) = gathL (l.take k) ++ (ownR x.head.plain ++ gathL x.kids) := by
  unfold gathL
  rw [take_succ_get h, List.flatMap_append, List.flatMap_singleton, gathT_kids]; rfl
theorem gathL_mem {l : List PT} {x : PT} (h : x ∈ l) : (gathL x.kids).length ≤ (gathL l).length := by
  have h1 : (gathT x.er).length ≤ (gathL l).length := by
    unfold gathL
    rw [List.length_flatMap]
    exact le_sum_of_mem (List.mem_map_of_mem (f := fun t => (gathT (PT.er t)).length) h)
  rw [gathT_kids, List.length_append] at h1
  omega
theorem gathL_len {l : List PT} {k : Nat} {x : PT} (h : l[k]? = some x) : (gathL (l.take k)).length + ((ownR x.head.plain).length + (gathL x.kids).length) ≤ (gathL l).length := by
  have h1 := gathL_take h
  have h2 : gathL l = gathL (l.take (k + 1)) ++ gathL (l.drop (k + 1)) := by
    unfold gathL; rw [← List.flatMap_append, List.take_append_drop]
  rw [h2, h1]
  simp only [List.length_append]; omega
def effMax (n : Nat) (l : List PT) : Prop := ∀ x ∈ l, x.head.en ≤ n
def GathAt (x : PT) (W : World) : Prop := Calls Tryz.prog 185 #[.slice x.head.kp x.head.kn x.head.kc] W fun e w' => ∃ v, e = .returned v ∧ OwnE encN 1 w' W.heap.size 3 v (gathL x.kids).length (gathL x.kids) ∧ Below W.heap.size W w'
theorem effect_Rhos_one {b o : Nat} {ep : Option Addr} {en ec : Nat} {eff : List Atom} {w : World} (hc : w.cell? ⟨b, o, none⟩ = some (.slice ep en ec)) (hr : IsRow encA 3 w ep en ec eff) (hm : en ≤ 1000000) :
    Calls Tryz.prog 132 #[.slice (some ⟨b, o, none⟩) 1 1] w fun e w' => ∃ q m c, e = .returned (.slice q m c) ∧ m ≤ 1000000 ∧ IsRow encN 1 w' q m c (rhosOf eff) ∧ Below w.heap.size w w' := by
  have h := effect_Rhos_any (some ⟨b, o, none⟩) 1 1 [⟨ep, en, ec, eff⟩] w rfl (by omega) (.inr ⟨b, o, rfl, cell_block hc, fun j x hx i u hi => by
    rcases j with _ | j
    · simp at hx; subst hx
      rcases i with _ | i
      · simp [encSl] at hi; subst hi; simpa using hc
      · simp [encSl] at hi
    · simp at hx⟩) (fun r hr' => by
      have : r = ⟨ep, en, ec, eff⟩ := by simpa using hr'
      subst this
      exact ⟨hr.len, hr.le, hr.nil, hr.row⟩) (by simpa using hm)
  simpa using h
theorem own_alloc {α : Type} {enc : α → List Value} {k : Nat} {w : World} {base e n : Nat} {v : Value} {l : List α} (h : OwnE enc k w base e v n l) (o : Obj) : OwnE enc k (w.alloc o) base e v n l := h.below ((Below.refl _ w).alloc (Nat.le_refl _) o)
theorem rowN_one {w : World} {b : Nat} {y : Int} (h : w.cell? ⟨b, 0, none⟩ = some (.int .i64 y)) : RowE encN 1 w (some ⟨b, 0, none⟩) [y] :=
  .inr ⟨b, 0, rfl, cell_block h, fun j x hx i u hi => by
    rcases j with _ | j
    · simp at hx; subst hx
      rcases i with _ | i
      · simp [encN] at hi; subst hi; simpa using h
      · simp [encN] at hi
    · simp at hx⟩
set_option maxHeartbeats 2000000 in
theorem rtype_gather_of {p : Option Addr} {n cap : Nat} {l : List PT} {w : World} (hr : RowT w p n cap l) (hs : (gathL l).length ≤ 1000000) (he : effMax 1000000 l) (hf : ∀ x ∈ l, ∀ W, Below w.heap.size w W → GathAt x W) :
    Calls Tryz.prog 185 #[.slice p n cap] w fun e w' => ∃ v, e = .returned v ∧ OwnE encN 1 w' w.heap.size 3 v (gathL l).length (gathL l) ∧ Below w.heap.size w w' := by
  have hm := hr.row.max
  have HR := hid hr
  have HF := hid hf
  have HS := hid hs
  have HEM := hid he
  clear hr hf hs he
  go_enter Tryz.func185, Tryz.ntmps185
  go_wp2_with fail
  go_loopw [3, 5, 8] (fun u _ i wr => ∃ (k m : Nat) (v0 : Value), k ≤ n ∧ i = .int .i64 k ∧ v0 = u ∧ OwnE encN 1 wr w.heap.size 3 v0 m (gathL (l.take k)) ∧ Below w.heap.size w wr) (fun _ _ i _ => n - (intOf i).toNat)
  case atStart => exact ⟨0, 0, _, by omega, rfl, rfl, OwnE.nil _ _ _ _ _, Below.refl _ _⟩
  case round =>
    obtain ⟨k, m, v0, hk, rfl, rfl, hown, hb⟩ := hrel
    have hmlen := hown.len encN_len (by omega)
    have HOWN := hid hown
    have HB := hid hb
    clear hown hb
    by_cases hlt : k < n
    · obtain ⟨x, hx⟩ := HR.out.at (j := k) hlt
      have HE := hid hx
      obtain ⟨b, o, rfl, hbl, d0, d1, d2, d3⟩ := (HR.out.below HB.out).kid hx
      have HLEN : Hid (m + ((ownR x.head.plain).length + (gathL x.kids).length) ≤ 1000000) := by
        have h1 := gathL_len hx; have h2 := HS.out; show _ ≤ _; omega
      have HT := hid (gathL_take hx)
      have HN := hid (nodeIn ((Rose.eta x) ▸ HR.out.lies hx))
      have hwr := HB.out.size
      clear hx hbl hmlen
      by_cases h1 : x.head.kind = 1
      · have hb1 : (x.head.kind != 1) = false := by simp [h1]
        have HTT : Hid (gathL (l.take (k + 1)) = gathL (l.take k) ++ gathL x.kids) := by show _ = _; rw [HT.out]; simp [ownR, RH.plain, h1]
        clear h1
        go_wp2_with fail
        refine (HF.out x (List.mem_of_getElem? HE.out) _ (HB.out.alloc hwr _)).mono ?_
        rintro e w5 ⟨v5, rfl, hown5, hb⟩
        have HB5 := hid ((HB.out.alloc hwr _).trans (hb.mono (HB.out.alloc hwr _).size))
        have HV := hid (OwnE.below (own_alloc HOWN.out _) hb)
        obtain ⟨q5, c5, rfl, hrow5⟩ := hown5.isRow encN_len (by omega)
        have HR5 := hid hrow5
        clear hb hown5 hrow5
        go_wp2_with (at_builtin; refine wpList_appendR rfl _ _ 24 rfl w.heap.size 3 _ 1 8 Tryz.underlying24 infoN rfl (by decide) encN encN_len encN_one (gathL x.kids) _ _ _ HV.out _ _ _ rfl rfl HR5.out.len HR5.out.nil HR5.out.row ?c1 ?c2 ?c3 ?_)
        case c1 => have := HLEN.out; omega
        case c2 => have := HLEN.out; omega
        case c3 => exact HB5.out.size
        · intro v6 w6 hown6 hg6
          have HO6 := hid hown6
          have HB6 := hid (Below.own HB5.out hg6 HB5.out.size HV.out)
          clear hown6 hg6
          go_wp2_with fail
          go_roundw
          case rel => exact ⟨k + 1, _, _, by omega, by go_num, rfl, (by rw [HTT.out]; exact HO6.out), HB6.out⟩
          case measure => simp [intOf]; omega
      · have hb1 : (x.head.kind != 1) = true := by simpa using h1
        have HLO : Hid ((ownR x.head.plain).length = 1 + (rhosOf x.head.eff).length) := by show _ = _; simp [ownR, RH.plain, h1]; omega
        have HTT : Hid (gathL (l.take (k + 1)) = gathL (l.take k) ++ x.head.rho :: (rhosOf x.head.eff ++ gathL x.kids)) := by show _ = _; rw [HT.out]; simp [ownR, RH.plain, h1]
        clear h1
        have HU0 := hid (OwnE.under HOWN.out)
        have HF0 := hid (OwnE.from HOWN.out)
        have hw0 : (wr.alloc (.cells #[.int .u8 x.head.kind, .int .i64 x.head.rho, .slice x.head.ep x.head.en x.head.ec, .slice x.head.kp x.head.kn x.head.kc] 28)).heap.size = wr.heap.size + 1 := by simp
        have e1 : (wr.alloc (.cells #[.int .u8 x.head.kind, .int .i64 x.head.rho, .slice x.head.ep x.head.en x.head.ec, .slice x.head.kp x.head.kn x.head.kc] 28)).cell? ⟨wr.heap.size, 1, none⟩ = some (.int .i64 x.head.rho) := by rw [cell_new]; rfl
        have e2 : (wr.alloc (.cells #[.int .u8 x.head.kind, .int .i64 x.head.rho, .slice x.head.ep x.head.en x.head.ec, .slice x.head.kp x.head.kn x.head.kc] 28)).cell? ⟨wr.heap.size, 2, none⟩ = some (.slice x.head.ep x.head.en x.head.ec) := by rw [cell_new]; rfl
        have e3 : (wr.alloc (.cells #[.int .u8 x.head.kind, .int .i64 x.head.rho, .slice x.head.ep x.head.en x.head.ec, .slice x.head.kp x.head.kn x.head.kc] 28)).cell? ⟨wr.heap.size, 3, none⟩ = some (.slice x.head.kp x.head.kn x.head.kc) := by rw [cell_new]; rfl
        have HO0 := hid (own_alloc HOWN.out (.cells #[.int .u8 x.head.kind, .int .i64 x.head.rho, .slice x.head.ep x.head.en x.head.ec, .slice x.head.kp x.head.kn x.head.kc] 28))
        have HBW := hid (HB.out.alloc hwr (.cells #[.int .u8 x.head.kind, .int .i64 x.head.rho, .slice x.head.ep x.head.en x.head.ec, .slice x.head.kp x.head.kn x.head.kc] 28))
        go_wp2_with fail
        generalize wr.alloc (.cells #[.int .u8 x.head.kind, .int .i64 x.head.rho, .slice x.head.ep x.head.en x.head.ec, .slice x.head.kp x.head.kn x.head.kc] 28) = W0 at *
        have HSS : Hid (∀ W, W0.grownBy W v0.ownBlock → W.cell? ⟨wr.heap.size, 1, none⟩ = some (.int .i64 x.head.rho) ∧ W.cell? ⟨wr.heap.size, 2, none⟩ = some (.slice x.head.ep x.head.en x.head.ec) ∧ W0.grownBy W v0.ownBlock) := fun W hg =>
          ⟨held_cell hg (fun h => by have := HU0.out _ h; simp at this) e1, held_cell hg (fun h => by have := HU0.out _ h; simp at this) e2, hg⟩
        have HS3 : Hid (∀ W, W0.grownBy W v0.ownBlock → W.cell? ⟨wr.heap.size, 3, none⟩ = some (.slice x.head.kp x.head.kn x.head.kc) ∧ Below w.heap.size w W) := fun W hg =>
          ⟨held_cell hg (fun h => by have := HU0.out _ h; simp at this) e3, HBW.out.trans (held_under hg (by omega) HF0.out)⟩
        have HNE : Hid (∀ b, W0.heap.size ≤ b → v0.ownBlock ≠ some b) := fun b hb h => by have := HU0.out _ h; omega
        have hm1 : m + 1 ≤ 1000000 := by have := HLEN.out; rw [HLO.out] at this; omega
        have HEN := hid (HEM.out x (List.mem_of_getElem? HE.out))
        clear e1 e2 e3 d0 d1 d2 d3
        go_region_held3 (fun W => W.cell? ⟨wr.heap.size, 1, none⟩ = some (.int .i64 x.head.rho) ∧ W.cell? ⟨wr.heap.size, 2, none⟩ = some (.slice x.head.ep x.head.en x.head.ec) ∧ W0.grownBy W v0.ownBlock)
          (first
            | exact HSS.out _ (held_drew (World.grownBy.refl _ _))
            | exact HSS.out _ (held_alloc (by go_split_ands; assumption) _)
            | exact HSS.out _ (held_own (by go_split_ands; assumption) hg1 (fun b _ h => h))
            | exact HSS.out _ (held_own (by go_split_ands; assumption) hg2 hf1)
            | exact HSS.out _ (held_below (by go_split_ands; assumption) hb2))
          (first
            | (go_at_call 132; refine (effect_Rhos_one (by first | (go_simp; done) | exact held_cell hg1 (HNE.out _ (by first | omega | (simp; omega))) (by go_simp)) (HN.out.own.eff.below (HS3.out _ (by go_split_ands; assumption)).2) HEN.out).mono ?_
               rintro e w2 ⟨q2, m2, c2, rfl, hm2, hrow2, hb2⟩; have hsz2 : w.heap.size ≤ w2.heap.size := Nat.le_trans (HS3.out _ (by go_split_ands; assumption)).2.size hb2.size)
            | (refine step_appendR (by rfl) _ _ 24 (by rfl) w.heap.size 3 _ 1 8 Tryz.underlying24 infoN rfl (by decide) encN encN_len encN_one [x.head.rho] _ _ v0 (by first | exact own_alloc (OwnE.drew HO0.out) _ | exact own_alloc (own_alloc (OwnE.drew HO0.out) _) _) _ 1 _ (by rfl) (by rfl) rfl (by intro h; cases h) (rowN_one (by go_simp)) (by omega) (by omega) (by simp; have := HBW.out.size; omega) ?_
               intro v1 w1 hown1 hg1 hf1'
               have hf1 : ∀ b, b < W0.heap.size → v1.ownBlock = some b → v0.ownBlock = some b := fun b hb => hf1' b (by simp; omega))
            | (refine step_appendR (by rfl) _ _ 24 (by rfl) w.heap.size 3 _ 1 8 Tryz.underlying24 infoN rfl (by decide) encN encN_len encN_one (rhosOf x.head.eff) _ _ v1 (by first | exact OwnE.below hown1 hb2 | exact OwnE.below (own_alloc hown1 _) hb2) _ m2 _ (by rfl) (by rfl) hrow2.len hrow2.nil hrow2.row (by omega) (by omega) hsz2 ?_
               intro v3 w3 hown3 hg2 hf3))
        all_goals (
          have hgl : W0.grownBy w3 v0.ownBlock := by go_split_ands; assumption
          have hc3 := (HS3.out _ hgl).1
          have HB3 := hid (HS3.out _ hgl).2
          have HO3 := hid hown3
          have HLEN3 : Hid (m + 1 + m2 + (gathL x.kids).length ≤ 1000000) := by have h1 := HLEN.out; have h2 := HLO.out; have h3 := hrow2.len; show _ ≤ _; omega
          clear hgl hown1 hg1 hf1 hf1' hrow2 hb2 hsz2 hown3 hg2 hf3 hm2 hw0 hm1)
        all_goals (
          go_wp2_with fail
          refine (HF.out x (List.mem_of_getElem? HE.out) _ (HB3.out)).mono ?_
          rintro e w5 ⟨v5, rfl, hown5, hb⟩
          have HB5 := hid ((HB3.out).trans (hb.mono (HB3.out).size))
          have HV := hid (OwnE.below (HO3.out) hb)
          obtain ⟨q5, c5, rfl, hrow5⟩ := hown5.isRow encN_len (by omega)
          have HR5 := hid hrow5
          clear hb hown5 hrow5
          go_wp2_with (at_builtin; refine wpList_appendR rfl _ _ 24 rfl w.heap.size 3 _ 1 8 Tryz.underlying24 infoN rfl (by decide) encN encN_len encN_one (gathL x.kids) _ _ _ HV.out _ _ _ rfl rfl HR5.out.len HR5.out.nil HR5.out.row ?c1 ?c2 ?c3 ?_)
          case c1 => have := HLEN3.out; omega
          case c2 => have := HLEN3.out; omega
          case c3 => exact HB5.out.size
          · intro v6 w6 hown6 hg6
            have HO6 := hid hown6
            have HB6 := hid (Below.own HB5.out hg6 HB5.out.size HV.out)
            clear hown6 hg6
            go_wp2_with fail
            go_roundw
            case rel => exact ⟨k + 1, _, _, by omega, by go_num, rfl, (by rw [HTT.out]; exact HO6.out), HB6.out⟩
            case measure => simp [intOf]; omega
          )
    · have hkn : k = n := by omega
      subst hkn
      go_wp2_with fail
      go_ret
      have h := HOWN.out
      rw [take_full (by rw [HR.out.row.len]; omega)] at h
      have hl := h.len encN_len (by omega)
      rw [← hl] at h
      exact ⟨_, rfl, h, HB.out⟩
theorem gathAt_any (t : PT) : ∀ w, LR.lies w t → (gathL t.kids).length ≤ 1000000 → Rose.all (fun a _ => decide (a.en ≤ 1000000)) t = true → GathAt t w := by
  refine Rose.ind (P := fun (t : PT) => ∀ w, LR.lies w t → (gathL t.kids).length ≤ 1000000 → Rose.all (fun a _ => decide (a.en ≤ 1000000)) t = true → GathAt t w) (fun a l ih => ?_) t
  intro w hl hs he
  have HN := nodeIn hl
  rw [Rose.all_node, Bool.and_eq_true, List.all_eq_true] at he
  exact rtype_gather_of (l := l) HN.rowT hs (fun x hx => by
    have h := he.2 x hx
    obtain ⟨b, m⟩ := x
    rw [Rose.all_node, Bool.and_eq_true] at h
    simpa [Rose.head] using h.1) (fun x hx W hW => ih x hx W (LR.lies_below hW x (HN.each x hx)) (Nat.le_trans (gathL_mem hx) hs) (he.2 x hx))
def enOK (l : List PT) : Prop := ∀ x ∈ l, Rose.all (fun a _ => decide (a.en ≤ 1000000)) x = true
theorem rtype_gather_any {p : Option Addr} {n cap : Nat} {l : List PT} {w : World} (hr : RowT w p n cap l) (hs : (gathL l).length ≤ 1000000) (he : enOK l) :
    Calls Tryz.prog 185 #[.slice p n cap] w fun e w' => ∃ v, e = .returned v ∧ OwnE encN 1 w' w.heap.size 3 v (gathL l).length (gathL l) ∧ Below w.heap.size w w' :=
  rtype_gather_of hr hs (fun x hx => by
    have h := he x hx
    obtain ⟨b, m⟩ := x
    rw [Rose.all_node, Bool.and_eq_true] at h
    simpa [Rose.head] using h.1) (fun x hx W hW => gathAt_any x W (LR.lies_below hW x (hr.each x hx)) (Nat.le_trans (gathL_mem hx) hs) (he x hx))
theorem rtype_Rhos_any {p : Option Addr} {n cap : Nat} {l : List PT} {w : World} (hr : RowT w p n cap l) (hs : (gathL l).length ≤ 1000000) (he : enOK l) :
    Calls Tryz.prog 133 #[.slice p n cap] w fun e w' => ∃ q m c, e = .returned (.slice q m c) ∧ m ≤ 1000000 ∧ IsRow encN 1 w' q m c (sortI (gathL l)) ∧ Below w.heap.size w w' := by
  have HG := hid (rtype_gather_any hr hs he)
  have HS := hid hs
  clear hr hs he
  generalize hL : gathL l = L at *
  clear hL
  go_enter Tryz.func133, Tryz.ntmps133
  go_wp2_with fail
  refine HG.out.mono ?_
  rintro e w1 ⟨v, rfl, hown, hb⟩
  have HO := hid hown
  have HB := hid hb
  clear hb
  clear hown
  rcases HO.out.split encN_len (by omega) with ⟨rfl, hl0, hnil⟩ | ⟨g, cp, rfl, hcp, hbg⟩
  · have HNIL := hid hnil
    clear hnil hl0
    go_wp2_with fail
    refine (Tryz.slices_Sort_int_none none 0 _).mono ?_
    rintro e w2 ⟨rfl, rfl⟩
    go_wp2_with fail
    refine (Tryz.slices_Compact_int_empty none 0 _).mono ?_
    rintro e w3 ⟨rfl, rfl⟩
    go_wp2_with fail
    go_ret
    exact ⟨none, 0, 0, rfl, by omega, by rw [HNIL.out]; exact IsRow.none _ _ _, HB.out⟩
  · go_wp2_with fail
    refine (sortN_any g cp _ _ w.heap.size w1 HO.out (by have := HS.out; omega)).mono ?_
    rintro e w2 ⟨rfl, ho1, hg1⟩
    have HB1 := hid (OwnE.drop_base (enc := encN) (k := 1) hg1 hbg HB.out HB.out.size)
    have HO1 := hid ho1
    clear ho1 hg1
    go_wp2_with fail
    refine (compactN_any g cp _ _ w.heap.size w2 HO1.out hcp (by have := HS.out; omega)).mono ?_
    rintro e w3 ⟨m', rfl, hm', ho2, hg2⟩
    have HB2 := hid (OwnE.drop_base (enc := encN) (k := 1) hg2 hbg HB1.out HB1.out.size)
    rw [compact_msortI] at ho2
    obtain ⟨p', c', hv, hrow⟩ := ho2.isRow encN_len (by omega)
    cases hv
    have HO2 := hid hrow
    clear ho2 hg2 hrow
    go_wp2_with fail
    go_ret
    exact ⟨_, m', _, rfl, by have := HS.out; omega, HO2.out, HB2.out⟩
end
section
open Go.RowKit Go.Sort Go.Lib
theorem own_made {α : Type} {enc : α → List Value} {k : Nat} (hk : ∀ x, (enc x).length = k) (w : World) (base e : Nat) (l : List α) (n : Nat) (cs : Array Value) (hcs : cs = (l.flatMap enc).toArray) (hn : l.length = n) (hm : n ≤ maxLen) (hb : base ≤ w.heap.size) :
    OwnE enc k (w.alloc (.cells cs e)) base e (.slice (some ⟨w.heap.size, 0, none⟩) n n) n l := by
  subst hcs
  refine ⟨by rw [flat_length hk, hn], .inr ⟨w.heap.size, n, _, rfl, hb, heap_alloc_new w _, Nat.le_refl _, hm, by simp [← hn]; rw [← flat_length hk]; simp, ?_⟩⟩
  rw [← hn, ← flat_length hk]
  exact List.take_length
theorem row_made {α : Type} {enc : α → List Value} {k : Nat} (hk : ∀ x, (enc x).length = k) (hk0 : 0 < k) (w : World) (e : Nat) (l : List α) (n : Nat) (cs : Array Value) (hcs : cs = (l.flatMap enc).toArray) (hn : l.length = n) (hm : n ≤ maxLen) :
    IsRow enc k (w.alloc (.cells cs e)) (some ⟨w.heap.size, 0, none⟩) n n l := by
  obtain ⟨p, cap, hv, hr⟩ := (own_made hk w 0 e l n cs hcs hn hm (Nat.zero_le _)).isRow hk hk0
  cases hv; exact hr
theorem bel_step {w0 w w' : World} (h : Below w0.heap.size w0 w) (hb : Below w.heap.size w w') : Below w0.heap.size w0 w' := h.trans (hb.mono h.size)
theorem bel_alloc {w0 w : World} (h : Below w0.heap.size w0 w) (o : Obj) : Below w0.heap.size w0 (w.alloc o) := h.alloc h.size o
theorem bel_drew (w0 : World) : Below w0.heap.size w0 w0.drew := ⟨rfl, rfl, rfl, Nat.le_refl _, fun _ _ => rfl⟩
theorem greatB_len' {l : List Atom} (h : greatB l = false) : l.length ≤ 100 := by
  unfold greatB at h
  simp only [Bool.or_eq_false_iff, decide_eq_false_iff_not] at h
  omega
end
section
open Go.RowKit Go.Sort Go.Lib
theorem rowT_made {w : World} {t : PT} (hl : LR.lies w t) (e : Nat) : RowT (w.alloc (.cells #[.int .u8 t.head.kind, .int .i64 t.head.rho, .slice t.head.ep t.head.en t.head.ec, .slice t.head.kp t.head.kn t.head.kc] e)) (some ⟨w.heap.size, 0, none⟩) 1 1 [t] := by
  refine ⟨row_made LRlen (by omega) w e [t] 1 _ ?_ rfl (by decide), fun x hx => ?_⟩
  · simp [encT_LR, encRH]
  · have : x = t := by simpa using hx
    subst this
    exact LR.lies_below ((Below.refl _ w).alloc (Nat.le_refl _) _) x hl
theorem rtype_May_one {w : World} {t : PT} (hl : LR.lies w t) {r : Bool} (hr : mayT t.er = r) (ty : Nat) {g : Nat} (hgs : w.heap.size = g) :
    Calls Tryz.prog 129 #[.slice (some ⟨g, 0, none⟩) 1 1] (w.alloc (.cells #[.int .u8 t.head.kind, .int .i64 t.head.rho, .slice t.head.ep t.head.en t.head.ec, .slice t.head.kp t.head.kn t.head.kc] ty)) fun e w' => e = .returned (.bool r) ∧ Below (w.heap.size + 1) (w.alloc (.cells #[.int .u8 t.head.kind, .int .i64 t.head.rho, .slice t.head.ep t.head.en t.head.ec, .slice t.head.kp t.head.kn t.head.kc] ty)) w' := by
  subst hr
  subst hgs
  have h := rtype_May_any (rowT_made hl ty)
  refine h.mono ?_
  rintro e w' ⟨rfl, hb⟩
  exact ⟨by simp, by simpa using hb⟩
end
section
open Go.RowKit Go.Sort Go.Lib
theorem sum_le_mul {α : Type} (f g : α → Nat) (k : Nat) : ∀ l : List α, (∀ x ∈ l, f x ≤ k * g x) → (l.map f).sum ≤ k * (l.map g).sum
  | [], _ => by simp
  | x :: l, h => by
    have h1 := h x (List.mem_cons_self ..)
    have h2 := sum_le_mul f g k l (fun y hy => h y (List.mem_cons_of_mem _ hy))
    simp only [List.map_cons, List.sum_cons, Nat.mul_add]; omega
theorem ownR_le (a : LH) (h : greatB a.eff = false) : (ownR a).length ≤ 101 := by
  unfold ownR
  have h1 := rhosOf_length a.eff
  have h2 := greatB_len' h
  split
  · simp
  · simp only [List.length_cons]; omega
theorem gath_le (t : RT) : effsOK t = true → (gathT t).length ≤ 101 * t.size := by
  refine Rose.ind (P := fun t => effsOK t = true → (gathT t).length ≤ 101 * t.size) (fun a l ih h => ?_) t
  rw [effsOK_node, Bool.and_eq_true, List.all_eq_true] at h
  rw [gathT_node, List.length_append, Rose.size_node, List.length_flatMap]
  have h1 := ownR_le a (by simpa using h.1)
  have h2 := sum_le_mul (fun t => (gathT t).length) Rose.size 101 l (fun x hx => ih x hx (h.2 x hx))
  omega
theorem enOK_one (t : PT) {w : World} : LR.lies w t → effsOK t.er = true → Rose.all (fun a _ => decide (a.en ≤ 1000000)) t = true := by
  refine Rose.ind (P := fun (t : PT) => LR.lies w t → effsOK t.er = true → Rose.all (fun a _ => decide (a.en ≤ 1000000)) t = true) (fun a l ih hl h => ?_) t
  have HN := nodeIn hl
  rw [PT.er_node, effsOK_node, Bool.and_eq_true, List.all_map, List.all_eq_true] at h
  rw [Rose.all_node, Bool.and_eq_true, List.all_eq_true]
  refine ⟨?_, fun x hx => ih x hx (HN.each x hx) (h.2 x hx)⟩
  have h1 := greatB_len' (show greatB a.eff = false by simpa [RH.plain] using h.1)
  have h2 := HN.own.eff.len
  simp; omega
theorem er_size (t : PT) : t.er.size = t.size := Rose.size_map _ t
end
end
end Go.Proofs.YtkdjnegfnhldpaaGreatDoor
