/- Part 9 of the texts: RtA, RtS, RtP, RtB, Eff19. -/
import Derived.Test.YtkdjnegfnhldpaaGreatDoorH03
import Derived.Maps.AppendAt
import Derived.Deep.RegionHeld3
import Derived.Deep.AppendLies
import Derived.Test.YtkdjnegfnhldpaaGreatDoorH07
import Derived.Test.YtkdjnegfnhldpaaGreatDoorH08
import Derived.Deep.RegionLaw
import Derived.Test.YtkdjnegfnhldpaaGreatDoorH06
set_option linter.unusedVariables false
set_option maxRecDepth 100000
set_option linter.unusedSimpArgs false
namespace Go.Proofs.YtkdjnegfnhldpaaGreatDoor
open Go.Lib (hid)
section
section
open Go.RowKit
theorem step_appendR {P : Program} {α : Type} {ops : Array Oper} {o : Oper} {a : Act} {K : Act → World → Prop} {Q : Exit → Act → World → Prop} {E : Prop} (hgd : o.guard = none) (s x : Operand) (t : TypeId)
    (ho : o.op = .call { callee := .builtin .append, args := #[s, x], argTypes := #[t, t] })
    (base : Nat) (e : TypeId) (z : Value) (k bytes : Nat) (ht : P.underlying t = some (.slice e)) (hinfo : (P.info? e).map (fun i => (i.zero, i.size, i.bytes)) = some (some z, k, bytes))
    (hzs : z.cells.size = k) (hsz : 0 < k)
    (enc : α → List Value) (hk : ∀ x, (enc x).length = k) (h1 : ∀ y, ∀ u ∈ enc y, u.oneCell' = true) (l' l : List α) (n : Nat) {w : World} (v : Value) (hown : OwnE enc k w base e v n l)
    (p : Option Addr) (m c : Nat) (hs : a.eval s = v) (hx : a.eval x = .slice p m c) (hl : l'.length = m) (hp : p = none → c = 0) (hr : RowE enc k w p l')
    (hbytes : (n + m) * bytes ≤ 140737488355328) (h63 : n + m ≤ 9223372036854775807) (hbase : base ≤ w.heap.size)
    (h : ∀ v' w', OwnE enc k w' base e v' (n + m) (l ++ l') → w.grownBy w' v.ownBlock → (∀ b, b < w.heap.size → v'.ownBlock = some b → v.ownBlock = some b) → K (a.put o.dst v') w') :
    if Region.wanted o (yielded ops a.tmps) = true then Oper.wp P o a w K Q else E := by
  have hw : Region.wanted o (yielded ops a.tmps) = true := by simp [Region.wanted, hgd]
  rw [if_pos hw]
  obtain ⟨i, hi, hz, hsize, hby⟩ := info_parts hinfo
  rcases p with _ | ad
  · have hl0 : l' = [] := by
      rcases hr with h | ⟨_, _, h, _⟩
      · exact h
      · cases h
    subst hl0
    obtain rfl : m = 0 := by simpa using hl.symm
    obtain rfl := hp rfl
    have hrun := run_append_owned_none (P := P) (w := w) base t o.type e i k ht hi v n _ hown
    have := h v w (by simpa using hown) (World.grownBy.refl _ _) (fun b _ h => h)
    unfold Oper.wp execOp
    simp only [ho, resolve, invoke, builtin, Sem.run_bind, Sem.run_pure, Result.andThen_ok, List.map_toArray, List.map_cons, List.map_nil, hs, hx, hrun]
    exact this
  · obtain ⟨v', w', hrun, h2, h3, h4, h5⟩ := run_append_own_at (P := P) w base t o.type e i z k bytes ht hi hz hsize hby hzs hsz v n _ hown ad m c (l'.flatMap enc) (by rw [flat_length hk, hl]) (by
      intro j u hj
      rcases hr with h0 | ⟨b, o', hb, hlt, hc⟩
      · subst h0; simp at hj
      · cases hb
        have hjl : j < l'.length * k := by rw [← flat_length hk]; exact get_lt hj
        have hq : j / k < l'.length := Nat.div_lt_of_lt_mul (by rw [Nat.mul_comm]; exact hjl)
        have hm : j % k < k := Nat.mod_lt _ hsz
        have hf := flat_get hk l' (j / k) _ (j % k) (List.getElem?_eq_getElem hq) hm
        rw [Nat.div_add_mod' j k, hj] at hf
        have := hc (j / k) _ (List.getElem?_eq_getElem hq) (j % k) u hf.symm
        rw [add_lit', ← Nat.div_add_mod' j k, ← Nat.add_assoc]
        exact this) (by
      intro u hu
      obtain ⟨y, _, hy⟩ := List.mem_flatMap.1 hu
      exact h1 y u hy) (by unfold maxLen; omega) hbytes hbase
    unfold Oper.wp execOp
    simp only [ho, resolve, invoke, builtin, Sem.run_bind, Sem.run_pure, Result.andThen_ok, List.map_toArray, List.map_cons, List.map_nil, hs, hx, hrun]
    refine h v' w' (by unfold OwnE; rw [List.flatMap_append]; exact h2) h3 (fun b hb hv => ?_)
    rcases h5 with h5 | h5
    · rw [← h5]; exact hv
    · rw [h5] at hv; cases hv; omega
theorem held_drew {w0 w : World} {r : Option Nat} (h : w0.grownBy w r) : w0.grownBy w.drew r := ⟨h.os, h.tape, h.output, h.size, h.block⟩
theorem held_alloc {w0 w : World} {r : Option Nat} (h : w0.grownBy w r) (o : Obj) : w0.grownBy (w.alloc o) r :=
  ⟨h.os, h.tape, h.output, Nat.le_trans h.size (by simp), fun k hk hne => (Below.heap_alloc w o k (by have := h.size; omega)).trans (h.block k hk hne)⟩
theorem held_below {w0 w w' : World} {r : Option Nat} (h : w0.grownBy w r) (hb : Below w.heap.size w w') : w0.grownBy w' r :=
  ⟨hb.os.trans h.os, hb.tape.trans h.tape, hb.output.trans h.output, Nat.le_trans h.size hb.size, fun k hk hne => (hb.block k (by have := h.size; omega)).trans (h.block k hk hne)⟩
theorem held_own {w0 w w' : World} {r r' : Option Nat} (h : w0.grownBy w r) (hg : w.grownBy w' r') (hr : ∀ b, b < w0.heap.size → r' = some b → r = some b) : w0.grownBy w' r :=
  ⟨hg.os.trans h.os, hg.tape.trans h.tape, hg.output.trans h.output, Nat.le_trans h.size hg.size, fun k hk hne => (hg.block k (by have := h.size; omega) (fun e => hne (hr k hk e.symm).symm)).trans (h.block k hk hne)⟩
theorem held_cell {w0 w : World} {r : Option Nat} {a : Addr} {u : Value} (h : w0.grownBy w r) (hne : r ≠ some a.block) (hc : w0.cell? a = some u) : w.cell? a = some u := by
  have hb := h.block a.block (cell_block hc) hne.symm
  unfold World.cell? at hc ⊢
  rw [hb]; exact hc
theorem held_under {w0 w : World} {r : Option Nat} {B : Nat} (h : w0.grownBy w r) (hB : B ≤ w0.heap.size) (hr : ∀ b, r = some b → B ≤ b) : Below B w0 w :=
  ⟨h.os, h.tape, h.output, h.size, fun k hk => h.block k (by omega) (fun e => by have := hr k e.symm; omega)⟩
theorem OwnE.from {α : Type} {enc : α → List Value} {k : Nat} {w : World} {base e n : Nat} {v : Value} {l : List α} (h : OwnE enc k w base e v n l) : ∀ b, v.ownBlock = some b → base ≤ b := fun b hb => (World.ownsRow.lt h b hb).1
theorem OwnE.under {α : Type} {enc : α → List Value} {k : Nat} {w : World} {base e n : Nat} {v : Value} {l : List α} (h : OwnE enc k w base e v n l) : ∀ b, v.ownBlock = some b → b < w.heap.size := fun b hb => (World.ownsRow.lt h b hb).2
end
section
open Go.RowKit Go.Sort Go.Lib
def ownR (a : LH) : List Int := if a.kind = 1 then [] else a.rho :: rhosOf a.eff
def gathT : RT → List Int := Rose.fold (fun a l => ownR a ++ l.flatten)
theorem gathT_node (a : LH) (l : List RT) : gathT (.node a l) = ownR a ++ l.flatMap gathT := by
  show Rose.fold _ _ = _
  rw [Rose.fold_node, List.flatMap_def]; rfl
def gathL (l : List PT) : List Int := l.flatMap (fun t => gathT t.er)
theorem gathT_kids (x : PT) : gathT x.er = ownR x.head.plain ++ gathL x.kids := by
  obtain ⟨a, l⟩ := x
  rw [PT.er_node, gathT_node, List.flatMap_map]; rfl
theorem gathL_take {l : List PT} {k : Nat} {x : PT} (h : l[k]? = some x) : gathL (l.take (k + 1)) = gathL (l.take k) ++ (ownR x.head.plain ++ gathL x.kids) := by
  unfold gathL
  rw [take_succ_get h, List.flatMap_append, List.flatMap_singleton, gathT_kids]; rfl
theorem gathL_mem {l : List PT} {x : PT} (h : x ∈ l) : (gathL x.kids).length ≤ (gathL l).length := by
  have h1 : (gathT x.er).length ≤ (gathL l).length := by
    unfold gathL
    rw [List.length_flatMap]
    exact le_sum_of_mem (List.mem_map_of_mem (f := fun t => (gathT (PT.er t)).length) h)
  rw [gathT_kids, List.length_append] at h1
  omega
theorem gathL_len {l : List PT} {k : Nat} {x : PT} (h : l[k]? = some x) : (gathL (l.take k)).length + ((ownR x.head.plain).length + (gathL x.kids).length) ≤ (gathL l).length := by
  have h1 := gathL_take h
  have h2 : gathL l = gathL (l.take (k + 1)) ++ gathL (l.drop (k + 1)) := by
    unfold gathL; rw [← List.flatMap_append, List.take_append_drop]
  rw [h2, h1]
  simp only [List.length_append]; omega
def effMax (n : Nat) (l : List PT) : Prop := ∀ x ∈ l, x.head.en ≤ n
def GathAt (x : PT) (W : World) : Prop := Calls Tryz.prog 185 #[.slice x.head.kp x.head.kn x.head.kc] W fun e w' => ∃ v, e = .returned v ∧ OwnE encN 1 w' W.heap.size 3 v (gathL x.kids).length (gathL x.kids) ∧ Below W.heap.size W w'
theorem effect_Rhos_one {b o : Nat} {ep : Option Addr} {en ec : Nat} {eff : List Atom} {w : World} (hc : w.cell? ⟨b, o, none⟩ = some (.slice ep en ec)) (hr : IsRow encA 3 w ep en ec eff) (hm : en ≤ 1000000) :
    Calls Tryz.prog 132 #[.slice (some ⟨b, o, none⟩) 1 1] w fun e w' => ∃ q m c, e = .returned (.slice q m c) ∧ m ≤ 1000000 ∧ IsRow encN 1 w' q m c (rhosOf eff) ∧ Below w.heap.size w w' := by
  have h := effect_Rhos_any (some ⟨b, o, none⟩) 1 1 [⟨ep, en, ec, eff⟩] w rfl (by omega) (.inr ⟨b, o, rfl, cell_block hc, fun j x hx i u hi => by
    rcases j with _ | j
    · simp at hx; subst hx
      rcases i with _ | i
      · simp [encSl] at hi; subst hi; simpa using hc
      · simp [encSl] at hi
    · simp at hx⟩) (fun r hr' => by
      have : r = ⟨ep, en, ec, eff⟩ := by simpa using hr'
      subst this
      exact ⟨hr.len, hr.le, hr.nil, hr.row⟩) (by simpa using hm)
  simpa using h
theorem own_alloc {α : Type} {enc : α → List Value} {k : Nat} {w : World} {base e n : Nat} {v : Value} {l : List α} (h : OwnE enc k w base e v n l) (o : Obj) : OwnE enc k (w.alloc o) base e v n l := h.below ((Below.refl _ w).alloc (Nat.le_refl _) o)
theorem rowN_one {w : World} {b : Nat} {y : Int} (h : w.cell? ⟨b, 0, none⟩ = some (.int .i64 y)) : RowE encN 1 w (some ⟨b, 0, none⟩) [y] :=
  .inr ⟨b, 0, rfl, cell_block h, fun j x hx i u hi => by
    rcases j with _ | j
    · simp at hx; subst hx
      rcases i with _ | i
      · simp [encN] at hi; subst hi; simpa using h
      · simp [encN] at hi
    · simp at hx⟩
set_option maxHeartbeats 2000000 in
theorem rtype_gather_of {p : Option Addr} {n cap : Nat} {l : List PT} {w : World} (hr : RowT w p n cap l) (hs : (gathL l).length ≤ 1000000) (he : effMax 1000000 l) (hf : ∀ x ∈ l, ∀ W, Below w.heap.size w W → GathAt x W) :
    Calls Tryz.prog 185 #[.slice p n cap] w fun e w' => ∃ v, e = .returned v ∧ OwnE encN 1 w' w.heap.size 3 v (gathL l).length (gathL l) ∧ Below w.heap.size w w' := by
  have hm := hr.row.max
  have HR := hid hr
  have HF := hid hf
  have HS := hid hs
  have HEM := hid he
  clear hr hf hs he
  go_enter Tryz.func185, Tryz.ntmps185
  go_wp2_with fail
  go_loopw [3, 5, 8] (fun u _ i wr => ∃ (k m : Nat) (v0 : Value), k ≤ n ∧ i = .int .i64 k ∧ v0 = u ∧ OwnE encN 1 wr w.heap.size 3 v0 m (gathL (l.take k)) ∧ Below w.heap.size w wr) (fun _ _ i _ => n - (intOf i).toNat)
  case atStart => exact ⟨0, 0, _, by omega, rfl, rfl, OwnE.nil _ _ _ _ _, Below.refl _ _⟩
  case round =>
    obtain ⟨k, m, v0, hk, rfl, rfl, hown, hb⟩ := hrel
    have hmlen := hown.len encN_len (by omega)
    have HOWN := hid hown
    have HB := hid hb
    clear hown hb
    by_cases hlt : k < n
    · obtain ⟨x, hx⟩ := HR.out.at (j := k) hlt
      have HE := hid hx
      obtain ⟨b, o, rfl, hbl, d0, d1, d2, d3⟩ := (HR.out.below HB.out).kid hx
      have HLEN : Hid (m + ((ownR x.head.plain).length + (gathL x.kids).length) ≤ 1000000) := by
        have h1 := gathL_len hx; have h2 := HS.out; show _ ≤ _; omega
      have HT := hid (gathL_take hx)
      have HN := hid (nodeIn ((Rose.eta x) ▸ HR.out.lies hx))
      have hwr := HB.out.size
      clear hx hbl hmlen
      by_cases h1 : x.head.kind = 1
      · have hb1 : (x.head.kind != 1) = false := by simp [h1]
        have HTT : Hid (gathL (l.take (k + 1)) = gathL (l.take k) ++ gathL x.kids) := by show _ = _; rw [HT.out]; simp [ownR, RH.plain, h1]
        clear h1
        go_wp2_with fail
        refine (HF.out x (List.mem_of_getElem? HE.out) _ (HB.out.alloc hwr _)).mono ?_
        rintro e w5 ⟨v5, rfl, hown5, hb⟩
        have HB5 := hid ((HB.out.alloc hwr _).trans (hb.mono (HB.out.alloc hwr _).size))
        have HV := hid (OwnE.below (own_alloc HOWN.out _) hb)
        obtain ⟨q5, c5, rfl, hrow5⟩ := hown5.isRow encN_len (by omega)
        have HR5 := hid hrow5
        clear hb hown5 hrow5
        go_wp2_with (at_builtin; refine wpList_appendR rfl _ _ 24 rfl w.heap.size 3 _ 1 8 Tryz.underlying24 infoN rfl (by decide) encN encN_len encN_one (gathL x.kids) _ _ _ HV.out _ _ _ rfl rfl HR5.out.len HR5.out.nil HR5.out.row ?c1 ?c2 ?c3 ?_)
        case c1 => have := HLEN.out; omega
        case c2 => have := HLEN.out; omega
        case c3 => exact HB5.out.size
        · intro v6 w6 hown6 hg6
          have HO6 := hid hown6
          have HB6 := hid (Below.own HB5.out hg6 HB5.out.size HV.out)
          clear hown6 hg6
          go_wp2_with fail
          go_roundw
          case rel => exact ⟨k + 1, _, _, by omega, by go_num, rfl, (by rw [HTT.out]; exact HO6.out), HB6.out⟩
          case measure => simp [intOf]; omega
      · have hb1 : (x.head.kind != 1) = true := by simpa using h1
        have HLO : Hid ((ownR x.head.plain).length = 1 + (rhosOf x.head.eff).length) := by show _ = _; simp [ownR, RH.plain, h1]; omega
        have HTT : Hid (gathL (l.take (k + 1)) = gathL (l.take k) ++ x.head.rho :: (rhosOf x.head.eff ++ gathL x.kids)) := by show _ = _; rw [HT.out]; simp [ownR, RH.plain, h1]
        clear h1
        have HU0 := hid (OwnE.under HOWN.out)
        have HF0 := hid (OwnE.from HOWN.out)
        have hw0 : (wr.alloc (.cells #[.int .u8 x.head.kind, .int .i64 x.head.rho, .slice x.head.ep x.head.en x.head.ec, .slice x.head.kp x.head.kn x.head.kc] 28)).heap.size = wr.heap.size + 1 := by simp
        have e1 : (wr.alloc (.cells #[.int .u8 x.head.kind, .int .i64 x.head.rho, .slice x.head.ep x.head.en x.head.ec, .slice x.head.kp x.head.kn x.head.kc] 28)).cell? ⟨wr.heap.size, 1, none⟩ = some (.int .i64 x.head.rho) := by rw [cell_new]; rfl
        have e2 : (wr.alloc (.cells #[.int .u8 x.head.kind, .int .i64 x.head.rho, .slice x.head.ep x.head.en x.head.ec, .slice x.head.kp x.head.kn x.head.kc] 28)).cell? ⟨wr.heap.size, 2, none⟩ = some (.slice x.head.ep x.head.en x.head.ec) := by rw [cell_new]; rfl
        have e3 : (wr.alloc (.cells #[.int .u8 x.head.kind, .int .i64 x.head.rho, .slice x.head.ep x.head.en x.head.ec, .slice x.head.kp x.head.kn x.head.kc] 28)).cell? ⟨wr.heap.size, 3, none⟩ = some (.slice x.head.kp x.head.kn x.head.kc) := by rw [cell_new]; rfl
        have HO0 := hid (own_alloc HOWN.out (.cells #[.int .u8 x.head.kind, .int .i64 x.head.rho, .slice x.head.ep x.head.en x.head.ec, .slice x.head.kp x.head.kn x.head.kc] 28))
        have HBW := hid (HB.out.alloc hwr (.cells #[.int .u8 x.head.kind, .int .i64 x.head.rho, .slice x.head.ep x.head.en x.head.ec, .slice x.head.kp x.head.kn x.head.kc] 28))
        go_wp2_with fail
        generalize wr.alloc (.cells #[.int .u8 x.head.kind, .int .i64 x.head.rho, .slice x.head.ep x.head.en x.head.ec, .slice x.head.kp x.head.kn x.head.kc] 28) = W0 at *
        have HSS : Hid (∀ W, W0.grownBy W v0.ownBlock → W.cell? ⟨wr.heap.size, 1, none⟩ = some (.int .i64 x.head.rho) ∧ W.cell? ⟨wr.heap.size, 2, none⟩ = some (.slice x.head.ep x.head.en x.head.ec) ∧ W0.grownBy W v0.ownBlock) := fun W hg =>
          ⟨held_cell hg (fun h => by have := HU0.out _ h; simp at this) e1, held_cell hg (fun h => by have := HU0.out _ h; simp at this) e2, hg⟩
        have HS3 : Hid (∀ W, W0.grownBy W v0.ownBlock → W.cell? ⟨wr.heap.size, 3, none⟩ = some (.slice x.head.kp x.head.kn x.head.kc) ∧ Below w.heap.size w W) := fun W hg =>
          ⟨held_cell hg (fun h => by have := HU0.out _ h; simp at this) e3, HBW.out.trans (held_under hg (by omega) HF0.out)⟩
        have HNE : Hid (∀ b, W0.heap.size ≤ b → v0.ownBlock ≠ some b) := fun b hb h => by have := HU0.out _ h; omega
        have hm1 : m + 1 ≤ 1000000 := by have := HLEN.out; rw [HLO.out] at this; omega
        have HEN := hid (HEM.out x (List.mem_of_getElem? HE.out))
        clear e1 e2 e3 d0 d1 d2 d3
        go_region_held3 (fun W => W.cell? ⟨wr.heap.size, 1, none⟩ = some (.int .i64 x.head.rho) ∧ W.cell? ⟨wr.heap.size, 2, none⟩ = some (.slice x.head.ep x.head.en x.head.ec) ∧ W0.grownBy W v0.ownBlock)
          (first
            | exact HSS.out _ (held_drew (World.grownBy.refl _ _))
            | exact HSS.out _ (held_alloc (by go_split_ands; assumption) _)
            | exact HSS.out _ (held_own (by go_split_ands; assumption) hg1 (fun b _ h => h))
            | exact HSS.out _ (held_own (by go_split_ands; assumption) hg2 hf1)
            | exact HSS.out _ (held_below (by go_split_ands; assumption) hb2))
          (first
            | (go_at_call 132; refine (effect_Rhos_one (by first | (go_simp; done) | exact held_cell hg1 (HNE.out _ (by first | omega | (simp; omega))) (by go_simp)) (HN.out.own.eff.below (HS3.out _ (by go_split_ands; assumption)).2) HEN.out).mono ?_
               rintro e w2 ⟨q2, m2, c2, rfl, hm2, hrow2, hb2⟩; have hsz2 : w.heap.size ≤ w2.heap.size := Nat.le_trans (HS3.out _ (by go_split_ands; assumption)).2.size hb2.size)
            | (refine step_appendR (by rfl) _ _ 24 (by rfl) w.heap.size 3 _ 1 8 Tryz.underlying24 infoN rfl (by decide) encN encN_len encN_one [x.head.rho] _ _ v0 (by first | exact own_alloc (OwnE.drew HO0.out) _ | exact own_alloc (own_alloc (OwnE.drew HO0.out) _) _) _ 1 _ (by rfl) (by rfl) rfl (by intro h; cases h) (rowN_one (by go_simp)) (by omega) (by omega) (by simp; have := HBW.out.size; omega) ?_
               intro v1 w1 hown1 hg1 hf1'
               have hf1 : ∀ b, b < W0.heap.size → v1.ownBlock = some b → v0.ownBlock = some b := fun b hb => hf1' b (by simp; omega))
            | (refine step_appendR (by rfl) _ _ 24 (by rfl) w.heap.size 3 _ 1 8 Tryz.underlying24 infoN rfl (by decide) encN encN_len encN_one (rhosOf x.head.eff) _ _ v1 (by first | exact OwnE.below hown1 hb2 | exact OwnE.below (own_alloc hown1 _) hb2) _ m2 _ (by rfl) (by rfl) hrow2.len hrow2.nil hrow2.row (by omega) (by omega) hsz2 ?_
               intro v3 w3 hown3 hg2 hf3))
        all_goals (
          have hgl : W0.grownBy w3 v0.ownBlock := by go_split_ands; assumption
          have hc3 := (HS3.out _ hgl).1
          have HB3 := hid (HS3.out _ hgl).2
          have HO3 := hid hown3
          have HLEN3 : Hid (m + 1 + m2 + (gathL x.kids).length ≤ 1000000) := by have h1 := HLEN.out; have h2 := HLO.out; have h3 := hrow2.len; show _ ≤ _; omega
          clear hgl hown1 hg1 hf1 hf1' hrow2 hb2 hsz2 hown3 hg2 hf3 hm2 hw0 hm1)
        all_goals (
          go_wp2_with fail
          refine (HF.out x (List.mem_of_getElem? HE.out) _ (HB3.out)).mono ?_
          rintro e w5 ⟨v5, rfl, hown5, hb⟩
          have HB5 := hid ((HB3.out).trans (hb.mono (HB3.out).size))
          have HV := hid (OwnE.below (HO3.out) hb)
          obtain ⟨q5, c5, rfl, hrow5⟩ := hown5.isRow encN_len (by omega)
          have HR5 := hid hrow5
          clear hb hown5 hrow5
          go_wp2_with (at_builtin; refine wpList_appendR rfl _ _ 24 rfl w.heap.size 3 _ 1 8 Tryz.underlying24 infoN rfl (by decide) encN encN_len encN_one (gathL x.kids) _ _ _ HV.out _ _ _ rfl rfl HR5.out.len HR5.out.nil HR5.out.row ?c1 ?c2 ?c3 ?_)
          case c1 => have := HLEN3.out; omega
          case c2 => have := HLEN3.out; omega
          case c3 => exact HB5.out.size
          · intro v6 w6 hown6 hg6
            have HO6 := hid hown6
            have HB6 := hid (Below.own HB5.out hg6 HB5.out.size HV.out)
            clear hown6 hg6
            go_wp2_with fail
            go_roundw
            case rel => exact ⟨k + 1, _, _, by omega, by go_num, rfl, (by rw [HTT.out]; exact HO6.out), HB6.out⟩
            case measure => simp [intOf]; omega
          )
    · have hkn : k = n := by omega
      subst hkn
      go_wp2_with fail
      go_ret
      have h := HOWN.out
      rw [take_full (by rw [HR.out.row.len]; omega)] at h
      have hl := h.len encN_len (by omega)
      rw [← hl] at h
      exact ⟨_, rfl, h, HB.out⟩
theorem gathAt_any (t : PT) : ∀ w, LR.lies w t → (gathL t.kids).length ≤ 1000000 → Rose.all (fun a _ => decide (a.en ≤ 1000000)) t = true → GathAt t w := by
  refine Rose.ind (P := fun (t : PT) => ∀ w, LR.lies w t → (gathL t.kids).length ≤ 1000000 → Rose.all (fun a _ => decide (a.en ≤ 1000000)) t = true → GathAt t w) (fun a l ih => ?_) t
  intro w hl hs he
  have HN := nodeIn hl
  rw [Rose.all_node, Bool.and_eq_true, List.all_eq_true] at he
  exact rtype_gather_of (l := l) HN.rowT hs (fun x hx => by
    have h := he.2 x hx
    obtain ⟨b, m⟩ := x
    rw [Rose.all_node, Bool.and_eq_true] at h
    simpa [Rose.head] using h.1) (fun x hx W hW => ih x hx W (LR.lies_below hW x (HN.each x hx)) (Nat.le_trans (gathL_mem hx) hs) (he.2 x hx))
def enOK (l : List PT) : Prop := ∀ x ∈ l, Rose.all (fun a _ => decide (a.en ≤ 1000000)) x = true
theorem rtype_gather_any {p : Option Addr} {n cap : Nat} {l : List PT} {w : World} (hr : RowT w p n cap l) (hs : (gathL l).length ≤ 1000000) (he : enOK l) :
    Calls Tryz.prog 185 #[.slice p n cap] w fun e w' => ∃ v, e = .returned v ∧ OwnE encN 1 w' w.heap.size 3 v (gathL l).length (gathL l) ∧ Below w.heap.size w w' :=
  rtype_gather_of hr hs (fun x hx => by
    have h := he x hx
    obtain ⟨b, m⟩ := x
    rw [Rose.all_node, Bool.and_eq_true] at h
    simpa [Rose.head] using h.1) (fun x hx W hW => gathAt_any x W (LR.lies_below hW x (hr.each x hx)) (Nat.le_trans (gathL_mem hx) hs) (he x hx))
theorem rtype_Rhos_any {p : Option Addr} {n cap : Nat} {l : List PT} {w : World} (hr : RowT w p n cap l) (hs : (gathL l).length ≤ 1000000) (he : enOK l) :
    Calls Tryz.prog 133 #[.slice p n cap] w fun e w' => ∃ q m c, e = .returned (.slice q m c) ∧ m ≤ 1000000 ∧ IsRow encN 1 w' q m c (sortI (gathL l)) ∧ Below w.heap.size w w' := by
  have HG := hid (rtype_gather_any hr hs he)
  have HS := hid hs
  clear hr hs he
  generalize hL : gathL l = L at *
  clear hL
  go_enter Tryz.func133, Tryz.ntmps133
  go_wp2_with fail
  refine HG.out.mono ?_
  rintro e w1 ⟨v, rfl, hown, hb⟩
  have HO := hid hown
  have HB := hid hb
  clear hb
  clear hown
  rcases HO.out.split encN_len (by omega) with ⟨rfl, hl0, hnil⟩ | ⟨g, cp, rfl, hcp, hbg⟩
  · have HNIL := hid hnil
    clear hnil hl0
    go_wp2_with fail
    refine (Tryz.slices_Sort_int_none none 0 _).mono ?_
    rintro e w2 ⟨rfl, rfl⟩
    go_wp2_with fail
    refine (Tryz.slices_Compact_int_empty none 0 _).mono ?_
    rintro e w3 ⟨rfl, rfl⟩
    go_wp2_with fail
    go_ret
    exact ⟨none, 0, 0, rfl, by omega, by rw [HNIL.out]; exact IsRow.none _ _ _, HB.out⟩
  · go_wp2_with fail
    refine (sortN_any g cp _ _ w.heap.size w1 HO.out (by have := HS.out; omega)).mono ?_
    rintro e w2 ⟨rfl, ho1, hg1⟩
    have HB1 := hid (OwnE.drop_base (enc := encN) (k := 1) hg1 hbg HB.out HB.out.size)
    have HO1 := hid ho1
    clear ho1 hg1
    go_wp2_with fail
    refine (compactN_any g cp _ _ w.heap.size w2 HO1.out hcp (by have := HS.out; omega)).mono ?_
    rintro e w3 ⟨m', rfl, hm', ho2, hg2⟩
    have HB2 := hid (OwnE.drop_base (enc := encN) (k := 1) hg2 hbg HB1.out HB1.out.size)
    rw [compact_msortI] at ho2
    obtain ⟨p', c', hv, hrow⟩ := ho2.isRow encN_len (by omega)
    cases hv
    have HO2 := hid hrow
    clear ho2 hg2 hrow
    go_wp2_with fail
    go_ret
    exact ⟨_, m', _, rfl, by have := HS.out; omega, HO2.out, HB2.out⟩
end
section
open Go.RowKit Go.Sort Go.Lib
theorem own_made {α : Type} {enc : α → List Value} {k : Nat} (hk : ∀ x, (enc x).length = k) (w : World) (base e : Nat) (l : List α) (n : Nat) (cs : Array Value) (hcs : cs = (l.flatMap enc).toArray) (hn : l.length = n) (hm : n ≤ maxLen) (hb : base ≤ w.heap.size) :
    OwnE enc k (w.alloc (.cells cs e)) base e (.slice (some ⟨w.heap.size, 0, none⟩) n n) n l := by
  subst hcs
  refine ⟨by rw [flat_length hk, hn], .inr ⟨w.heap.size, n, _, rfl, hb, heap_alloc_new w _, Nat.le_refl _, hm, by simp [← hn]; rw [← flat_length hk]; simp, ?_⟩⟩
  rw [← hn, ← flat_length hk]
  exact List.take_length
theorem row_made {α : Type} {enc : α → List Value} {k : Nat} (hk : ∀ x, (enc x).length = k) (hk0 : 0 < k) (w : World) (e : Nat) (l : List α) (n : Nat) (cs : Array Value) (hcs : cs = (l.flatMap enc).toArray) (hn : l.length = n) (hm : n ≤ maxLen) :
    IsRow enc k (w.alloc (.cells cs e)) (some ⟨w.heap.size, 0, none⟩) n n l := by
  obtain ⟨p, cap, hv, hr⟩ := (own_made hk w 0 e l n cs hcs hn hm (Nat.zero_le _)).isRow hk hk0
  cases hv; exact hr
theorem bel_step {w0 w w' : World} (h : Below w0.heap.size w0 w) (hb : Below w.heap.size w w') : Below w0.heap.size w0 w' := h.trans (hb.mono h.size)
theorem bel_alloc {w0 w : World} (h : Below w0.heap.size w0 w) (o : Obj) : Below w0.heap.size w0 (w.alloc o) := h.alloc h.size o
theorem bel_drew (w0 : World) : Below w0.heap.size w0 w0.drew := ⟨rfl, rfl, rfl, Nat.le_refl _, fun _ _ => rfl⟩
theorem greatB_len' {l : List Atom} (h : greatB l = false) : l.length ≤ 100 := by
  unfold greatB at h
  simp only [Bool.or_eq_false_iff, decide_eq_false_iff_not] at h
  omega
end
section
open Go.RowKit Go.Sort Go.Lib
theorem rowT_made {w : World} {t : PT} (hl : LR.lies w t) (e : Nat) : RowT (w.alloc (.cells #[.int .u8 t.head.kind, .int .i64 t.head.rho, .slice t.head.ep t.head.en t.head.ec, .slice t.head.kp t.head.kn t.head.kc] e)) (some ⟨w.heap.size, 0, none⟩) 1 1 [t] := by
  refine ⟨row_made LRlen (by omega) w e [t] 1 _ ?_ rfl (by decide), fun x hx => ?_⟩
  · simp [encT_LR, encRH]
  · have : x = t := by simpa using hx
    subst this
    exact LR.lies_below ((Below.refl _ w).alloc (Nat.le_refl _) _) x hl
theorem rtype_May_one {w : World} {t : PT} (hl : LR.lies w t) {r : Bool} (hr : mayT t.er = r) (ty : Nat) {g : Nat} (hgs : w.heap.size = g) :
    Calls Tryz.prog 129 #[.slice (some ⟨g, 0, none⟩) 1 1] (w.alloc (.cells #[.int .u8 t.head.kind, .int .i64 t.head.rho, .slice t.head.ep t.head.en t.head.ec, .slice t.head.kp t.head.kn t.head.kc] ty)) fun e w' => e = .returned (.bool r) ∧ Below (w.heap.size + 1) (w.alloc (.cells #[.int .u8 t.head.kind, .int .i64 t.head.rho, .slice t.head.ep t.head.en t.head.ec, .slice t.head.kp t.head.kn t.head.kc] ty)) w' := by
  subst hr
  subst hgs
  have h := rtype_May_any (rowT_made hl ty)
  refine h.mono ?_
  rintro e w' ⟨rfl, hb⟩
  exact ⟨by simp, by simpa using hb⟩
end
section
open Go.RowKit Go.Sort Go.Lib
theorem sum_le_mul {α : Type} (f g : α → Nat) (k : Nat) : ∀ l : List α, (∀ x ∈ l, f x ≤ k * g x) → (l.map f).sum ≤ k * (l.map g).sum
  | [], _ => by simp
  | x :: l, h => by
    have h1 := h x (List.mem_cons_self ..)
    have h2 := sum_le_mul f g k l (fun y hy => h y (List.mem_cons_of_mem _ hy))
    simp only [List.map_cons, List.sum_cons, Nat.mul_add]; omega
theorem ownR_le (a : LH) (h : greatB a.eff = false) : (ownR a).length ≤ 101 := by
  unfold ownR
  have h1 := rhosOf_length a.eff
  have h2 := greatB_len' h
  split
  · simp
  · simp only [List.length_cons]; omega
theorem gath_le (t : RT) : effsOK t = true → (gathT t).length ≤ 101 * t.size := by
  refine Rose.ind (P := fun t => effsOK t = true → (gathT t).length ≤ 101 * t.size) (fun a l ih h => ?_) t
  rw [effsOK_node, Bool.and_eq_true, List.all_eq_true] at h
  rw [gathT_node, List.length_append, Rose.size_node, List.length_flatMap]
  have h1 := ownR_le a (by simpa using h.1)
  have h2 := sum_le_mul (fun t => (gathT t).length) Rose.size 101 l (fun x hx => ih x hx (h.2 x hx))
  omega
theorem enOK_one (t : PT) {w : World} : LR.lies w t → effsOK t.er = true → Rose.all (fun a _ => decide (a.en ≤ 1000000)) t = true := by
  refine Rose.ind (P := fun (t : PT) => LR.lies w t → effsOK t.er = true → Rose.all (fun a _ => decide (a.en ≤ 1000000)) t = true) (fun a l ih hl h => ?_) t
  have HN := nodeIn hl
  rw [PT.er_node, effsOK_node, Bool.and_eq_true, List.all_map, List.all_eq_true] at h
  rw [Rose.all_node, Bool.and_eq_true, List.all_eq_true]
  refine ⟨?_, fun x hx => ih x hx (HN.each x hx) (h.2 x hx)⟩
  have h1 := greatB_len' (show greatB a.eff = false by simpa [RH.plain] using h.1)
  have h2 := HN.own.eff.len
  simp; omega
theorem er_size (t : PT) : t.er.size = t.size := Rose.size_map _ t
end
end
section
open Go.RowKit Go.Sort Go.Lib
def sameH (a b : LH) : Bool := decide (a.kind = b.kind) && decide (a.rho = b.rho) && (withinB a.eff b.eff && withinB b.eff a.eff)
def sameP (x y : PT) : Bool := Rose.same sameH x.er y.er
def sameK (l m : List PT) : Bool := Rose.sameL sameH (l.map PT.er) (m.map PT.er)
theorem sameP_node (a b : RH) (l m : List PT) : sameP (.node a l) (.node b m) = (sameH a.plain b.plain && sameK l m) := by
  unfold sameP
  rw [PT.er_node, PT.er_node, Rose.same_node]; rfl
theorem sameK_true {l m : List PT} (hl : l.length = m.length) (h : ∀ (j : Nat) (x y : PT), l[j]? = some x → m[j]? = some y → sameP x y = true) : sameK l m = true := by
  unfold sameK
  rw [Rose.sameL_get]
  refine ⟨by simp [hl], fun j t u ht hu => ?_⟩
  rw [List.getElem?_map] at ht hu
  obtain ⟨x, hx, rfl⟩ := Option.map_eq_some_iff.1 ht
  obtain ⟨y, hy, rfl⟩ := Option.map_eq_some_iff.1 hu
  exact h j x y hx hy
theorem sameK_len {l m : List PT} (hl : l.length ≠ m.length) : sameK l m = false := by
  rw [Bool.eq_false_iff]
  intro h
  exact hl (by simpa using Rose.sameL_length _ _ _ h)
theorem sameK_false {l m : List PT} {j : Nat} {x y : PT} (hx : l[j]? = some x) (hy : m[j]? = some y) (h : sameP x y = false) : sameK l m = false := by
  rw [Bool.eq_false_iff]
  intro hs
  unfold sameK at hs
  rw [Rose.sameL_get] at hs
  have := hs.2 j x.er y.er (by rw [List.getElem?_map, hx]; rfl) (by rw [List.getElem?_map, hy]; rfl)
  unfold sameP at h
  rw [h] at this; cases this
def SameAt (x y : PT) (W : World) : Prop := Calls Tryz.prog 142 #[aggR x.head, aggR y.head] W fun e w' => e = .returned (.bool (sameP x y)) ∧ Below W.heap.size W w'
def PredT2 (fid : FuncId) (w : World) (l m : List PT) : Prop :=
  ∀ x ∈ l, ∀ y ∈ m, ∀ r, sameP x y = r → ∀ W, Below w.heap.size w W → Calls Tryz.prog fid #[aggR x.head, aggR y.head] W fun e w' => e = .returned (.bool r) ∧ Below W.heap.size W w'
set_option maxHeartbeats 1000000 in
theorem t_equalFunc_any (fid : FuncId) (hent : Enters fid) {p : Option Addr} {n cap : Nat} {l : List PT} {q : Option Addr} {m mc : Nat} {l' : List PT} {w : World} (hr : RowT w p n cap l) (hr' : RowT w q m mc l') (hf : PredT2 fid w l l') :
    Calls Tryz.prog 192 #[.slice p n cap, .slice q m mc, .func (.func fid) #[] #[]] w fun e w' => e = .returned (.bool (sameK l l')) ∧ Below w.heap.size w w' := by
  unfold Enters at hent
  have hm := hr.row.max
  have HR := hid hr
  have HR' := hid hr'
  have HF := hid hf
  clear hr hr' hf
  by_cases hnm : n = m
  · subst hnm
    go_enter Tryz.func192, Tryz.ntmps192
    go_wp2_with fail
    go_loopw [7, 8, 9, 17] (fun _ _ _ i wr => ∃ k : Nat, k ≤ n ∧ i = .int .i64 k ∧ (∀ (j : Nat) (x y : PT), j < k → l[j]? = some x → l'[j]? = some y → sameP x y = true) ∧ Below w.heap.size w wr) (fun _ _ _ i _ => n - (intOf i).toNat)
    case atStart => exact ⟨0, by omega, rfl, fun j x y hj => by omega, Below.refl _ _⟩
    case round =>
      obtain ⟨k, hk, rfl, hno, hb⟩ := hrel
      have HNO := hid hno
      have HB := hid hb
      clear hno hb
      by_cases hlt : k < n
      · obtain ⟨x, hx⟩ := HR.out.at (j := k) hlt
        obtain ⟨y, hy⟩ := HR'.out.at (j := k) hlt
        have HX := hid hx
        have HY := hid hy
        obtain ⟨b, o, rfl, hbl, d0, d1, d2, d3⟩ := (HR.out.below HB.out).kid hx
        obtain ⟨b', o', rfl, hbl', e0, e1, e2, e3⟩ := (HR'.out.below HB.out).kid hy
        have hB2 := (HB.out.alloc HB.out.size (.cells #[.int .u8 x.head.kind, .int .i64 x.head.rho, .slice x.head.ep x.head.en x.head.ec, .slice x.head.kp x.head.kn x.head.kc] 28))
        have HB2 := hid (hB2.alloc hB2.size (.cells #[.int .u8 y.head.kind, .int .i64 y.head.rho, .slice y.head.ep y.head.en y.head.ec, .slice y.head.kp y.head.kn y.head.kc] 28))
        clear hx hy hB2
        cases hq : sameP x y
        · have HQ := hid hq
          clear hq
          go_wp2_with fail
          refine (HF.out x (List.mem_of_getElem? HX.out) y (List.mem_of_getElem? HY.out) _ HQ.out _ HB2.out).mono ?_
          rintro e w1 ⟨rfl, hb⟩
          have HB3 := hid (HB2.out.trans (hb.mono HB2.out.size))
          clear hb d0 d1 d2 d3 e0 e1 e2 e3
          go_wp2_with fail
          go_ret
          exact ⟨ret_bool (sameK_false HX.out HY.out HQ.out).symm, HB3.out⟩
        · have HQ := hid hq
          clear hq
          go_wp2_with fail
          refine (HF.out x (List.mem_of_getElem? HX.out) y (List.mem_of_getElem? HY.out) _ HQ.out _ HB2.out).mono ?_
          rintro e w1 ⟨rfl, hb⟩
          have HB3 := hid (HB2.out.trans (hb.mono HB2.out.size))
          clear hb d0 d1 d2 d3 e0 e1 e2 e3
          go_wp2_with fail
          go_roundw
          case rel =>
            refine ⟨k + 1, by omega, by go_num, fun j x' y' hj hx' hy' => ?_, HB3.out⟩
            by_cases hjk : j = k
            · subst hjk
              have h1 := HX.out; have h2 := HY.out
              rw [hx'] at h1; rw [hy'] at h2
              cases h1; cases h2
              exact HQ.out
            · exact HNO.out j x' y' (by omega) hx' hy'
          case measure => simp [intOf]; omega
      · have hkn : k = n := by omega
        go_wp2_with fail
        go_ret
        have hs : sameK l l' = true := sameK_true (by rw [HR.out.row.len, HR'.out.row.len]) (fun j x y hx hy => HNO.out j x y (by have h1 := (List.getElem?_eq_some_iff.1 hx).1; have h2 := HR.out.row.len; omega) hx hy)
        exact ⟨ret_bool hs.symm, HB.out⟩
  · have hne : Hid (sameK l l' = false) := sameK_len (by rw [HR.out.row.len, HR'.out.row.len]; exact hnm)
    have hb : ((n : Int) != (m : Int)) = true := by rw [bne_iff_ne]; omega
    clear hnm
    go_enter Tryz.func192, Tryz.ntmps192
    go_wp2_with fail
    go_ret
    exact ⟨ret_bool hne.out.symm, Below.refl _ _⟩
theorem effect_Same_is {p : Option Addr} {n cap : Nat} {l : List Atom} {q : Option Addr} {m mc : Nat} {l' : List Atom} {w : World} {r : Bool} (h : (withinB l l' && withinB l' l) = r) (hr : IsRow encA 3 w p n cap l) (hr' : IsRow encA 3 w q m mc l') :
    Calls Tryz.prog 191 #[.slice p n cap, .slice q m mc] w fun e w' => e = .returned (.bool r) ∧ Below w.heap.size w w' := by
  subst h; exact effect_Same_any p n cap l q m mc l' w hr.len hr.max hr.row hr'.len hr'.max hr'.row
theorem boxes_cells {w w1 : World} {a b : RH} (hb : Below (w.heap.size + 2) ((w.alloc (.cells #[.int .u8 a.kind, .int .i64 a.rho, .slice a.ep a.en a.ec, .slice a.kp a.kn a.kc] 28)).alloc (.cells #[.int .u8 b.kind, .int .i64 b.rho, .slice b.ep b.en b.ec, .slice b.kp b.kn b.kc] 28)) w1) :
    (w1.cell? ⟨w.heap.size, 0, none⟩ = some (.int .u8 a.kind) ∧ w1.cell? ⟨w.heap.size, 1, none⟩ = some (.int .i64 a.rho) ∧ w1.cell? ⟨w.heap.size, 2, none⟩ = some (.slice a.ep a.en a.ec) ∧ w1.cell? ⟨w.heap.size, 3, none⟩ = some (.slice a.kp a.kn a.kc)) ∧
    (w1.cell? ⟨w.heap.size + 1, 0, none⟩ = some (.int .u8 b.kind) ∧ w1.cell? ⟨w.heap.size + 1, 1, none⟩ = some (.int .i64 b.rho) ∧ w1.cell? ⟨w.heap.size + 1, 2, none⟩ = some (.slice b.ep b.en b.ec) ∧ w1.cell? ⟨w.heap.size + 1, 3, none⟩ = some (.slice b.kp b.kn b.kc)) := by
  refine ⟨⟨?_, ?_, ?_, ?_⟩, ?_, ?_, ?_, ?_⟩ <;> (rw [hb.cell (by simp)]; go_simp)
abbrev boxes (w : World) (a b : RH) : World := (w.alloc (.cells #[.int .u8 a.kind, .int .i64 a.rho, .slice a.ep a.en a.ec, .slice a.kp a.kn a.kc] 28)).alloc (.cells #[.int .u8 b.kind, .int .i64 b.rho, .slice b.ep b.en b.ec, .slice b.kp b.kn b.kc] 28)
theorem boxes_below (w : World) (a b : RH) : Below w.heap.size w (boxes w a b) := ((Below.refl w.heap.size w).alloc (Nat.le_refl _) _).alloc (by simp) _
set_option maxHeartbeats 1000000 in
theorem rtype_Same_of {a b : RH} {l m : List PT} {w : World} (ha : NodeIn w a l) (hb : NodeIn w b m) (hf : PredT2 142 w l m) : SameAt (.node a l) (.node b m) w := by
  have HBX := hid (boxes_below w a b)
  have HNA := hid ha
  have HNB := hid hb
  have HF := hid hf
  have HP := hid (sameP_node a b l m)
  show Calls _ _ #[aggR a, aggR b] w _
  clear ha hb hf
  by_cases h1 : a.kind = b.kind
  · have b1 : (a.kind == b.kind) = true := by simpa using h1
    by_cases h2 : a.rho = b.rho
    · have b2 : (a.rho == b.rho) = true := by simpa using h2
      cases h3 : (withinB a.eff b.eff && withinB b.eff a.eff)
      · have HS : Hid (sameP (.node a l) (.node b m) = false) := by show _ = _; rw [HP.out]; simp only [sameH, RH.plain, h3, Bool.and_false, Bool.false_and]
        have H3 := hid h3
        clear h1 h2 h3
        go_enter Tryz.func142, Tryz.ntmps142
        go_wp2_with fail
        refine (effect_Same_is H3.out (HNA.out.below HBX.out).own.eff (HNB.out.below HBX.out).own.eff).mono ?_
        rintro e w1 ⟨rfl, hb⟩
        have HB1 := hid (HBX.out.trans (hb.mono HBX.out.size))
        clear hb
        go_wp2_with fail
        go_ret
        exact ⟨ret_bool HS.out.symm, HB1.out⟩
      · have HS : Hid (sameP (.node a l) (.node b m) = sameK l m) := by show _ = _; rw [HP.out]; simp only [sameH, RH.plain, h1, h2, h3, decide_true, Bool.true_and]
        have H3 := hid h3
        clear h1 h2 h3
        generalize hk : sameK l m = K at HS
        have HK := hid hk
        clear hk
        go_enter Tryz.func142, Tryz.ntmps142
        go_wp2_with fail
        refine (effect_Same_is H3.out (HNA.out.below HBX.out).own.eff (HNB.out.below HBX.out).own.eff).mono ?_
        rintro e w1 ⟨rfl, hb⟩
        have HB1 := hid (HBX.out.trans (hb.mono HBX.out.size))
        have HC : Hid (Below (w.heap.size + 2) (boxes w a b) w1) := by show Below _ _ _; simpa using hb
        clear hb
        obtain ⟨⟨d0, d1, d2, d3⟩, e0, e1, e2, e3⟩ := boxes_cells HC.out
        go_wp2_with fail
        refine (t_equalFunc_any 142 (fun a w => Tryz.call142 a w) (HNA.out.below HB1.out).rowT (HNB.out.below HB1.out).rowT (fun x hx y hy r hq W hW => HF.out x hx y hy r hq W (HB1.out.trans (hW.mono HB1.out.size)))).mono ?_
        rintro e w2 ⟨rfl, hb⟩
        have HB2 := hid (HB1.out.trans (hb.mono HB1.out.size))
        rw [HK.out]
        clear hb d0 d1 d2 d3 e0 e1 e2 e3
        go_wp2_with fail
        go_ret
        exact ⟨ret_bool HS.out.symm, HB2.out⟩
    · have b2 : (a.rho == b.rho) = false := by rw [beq_eq_false_iff_ne]; exact h2
      have HS : Hid (sameP (.node a l) (.node b m) = false) := by show _ = _; rw [HP.out]; simp [sameH, RH.plain, h2]
      clear h1 h2
      go_enter Tryz.func142, Tryz.ntmps142
      go_wp2_with fail
      go_ret
      exact ⟨ret_bool HS.out.symm, HBX.out⟩
  · have b1 : (a.kind == b.kind) = false := by rw [beq_eq_false_iff_ne]; exact h1
    have HS : Hid (sameP (.node a l) (.node b m) = false) := by show _ = _; rw [HP.out]; simp [sameH, RH.plain, h1]
    clear h1
    go_enter Tryz.func142, Tryz.ntmps142
    go_wp2_with fail
    go_ret
    exact ⟨ret_bool HS.out.symm, HBX.out⟩
theorem sameAt_any (x : PT) : ∀ y w, LR.lies w x → LR.lies w y → SameAt x y w := by
  refine Rose.ind (P := fun (x : PT) => ∀ y w, LR.lies w x → LR.lies w y → SameAt x y w) (fun a l ih => ?_) x
  intro y w hx hy
  obtain ⟨b, m⟩ := y
  have HX := nodeIn hx
  have HY := nodeIn hy
  refine rtype_Same_of HX HY (fun x hx y hy r hq W hW => ?_)
  have := ih x hx y W (LR.lies_below hW x (HX.each x hx)) (LR.lies_below hW y (HY.each y hy))
  unfold SameAt at this
  rw [hq] at this
  exact this
theorem rtype_Same_is {x y : PT} {w : World} {r : Bool} (h : sameP x y = r) (hx : LR.lies w x) (hy : LR.lies w y) :
    Calls Tryz.prog 142 #[aggR x.head, aggR y.head] w fun e w' => e = .returned (.bool r) ∧ Below w.heap.size w w' := by
  subst h; exact sameAt_any x y w hx hy
end
section
open Go.RowKit Go.Sort Go.Lib
theorem boxT_cells {w w1 : World} {t : PT} (hb : Below (w.heap.size + 1) (w.alloc (.cells #[.int .u8 t.head.kind, .int .i64 t.head.rho, .slice t.head.ep t.head.en t.head.ec, .slice t.head.kp t.head.kn t.head.kc] 28)) w1) :
    w1.cell? ⟨w.heap.size, 0, none⟩ = some (.int .u8 t.head.kind) ∧ w1.cell? ⟨w.heap.size, 1, none⟩ = some (.int .i64 t.head.rho) ∧ w1.cell? ⟨w.heap.size, 2, none⟩ = some (.slice t.head.ep t.head.en t.head.ec) ∧ w1.cell? ⟨w.heap.size, 3, none⟩ = some (.slice t.head.kp t.head.kn t.head.kc) := by
  refine ⟨?_, ?_, ?_, ?_⟩ <;> (rw [hb.cell (by simp), cell_new]; rfl)
end
section
open Go.RowKit Go.Sort Go.Lib
structure LBH where
  kind : Int
  var : Int
structure BH where
  kind : Int
  var : Int
  kp : Option Addr
  kn : Nat
  kc : Nat
abbrev PB := Rose BH
abbrev BT := Rose LBH
def BH.plain (a : BH) : LBH := ⟨a.kind, a.var⟩
def PB.er (t : PB) : BT := Rose.map BH.plain t
theorem PB.er_node (a : BH) (l : List PB) : PB.er (.node a l) = .node a.plain (l.map PB.er) := Rose.map_node _ a l
def encBH (a : BH) : List Value := [.int .u8 a.kind, .int .i64 a.var, .slice a.kp a.kn a.kc]
structure BH.Own (a : BH) : Prop where
  kmax : a.kn ≤ 9223372036854775807
  kle : a.kn ≤ a.kc
  knil : a.kp = none → a.kc = 0
def LB : Laid BH where
  enc := encBH
  k := 3
  own := fun _ => BH.Own
  kp := BH.kp
  kn := BH.kn
  len := fun _ => rfl
  below := fun h _ => h
def Span (B E : Nat) (t : PB) : Prop := ∀ a ∈ t.nodes, ∀ ad, a.kp = some ad → B ≤ ad.block ∧ ad.block < E
theorem Span.mono {B E B' E' : Nat} {t : PB} (h : Span B E t) (hB : B' ≤ B) (hE : E ≤ E') : Span B' E' t := fun a ha ad hp => by have := h a ha ad hp; omega
theorem Span.node {B E : Nat} {a : BH} {l : List PB} (ha : ∀ ad, a.kp = some ad → B ≤ ad.block ∧ ad.block < E) (hl : ∀ t ∈ l, Span B E t) : Span B E (.node a l) := by
  intro x hx
  rw [Rose.nodes_node, List.mem_cons] at hx
  rcases hx with rfl | hx
  · exact ha
  · rw [List.mem_flatten] at hx
    obtain ⟨m, hm, hx⟩ := hx
    obtain ⟨t, ht, rfl⟩ := List.mem_map.1 hm
    exact hl t ht x hx
theorem rowE_grown {α : Type} {enc : α → List Value} {k : Nat} {w w' : World} {r : Option Nat} {p : Option Addr} {l : List α} (hg : w.grownBy w' r) (hne : ∀ ad, p = some ad → r ≠ some ad.block) (h : RowE enc k w p l) : RowE enc k w' p l := by
  rcases h with h | ⟨b, o, rfl, hb, hc⟩
  · exact .inl h
  · refine .inr ⟨b, o, rfl, Nat.lt_of_lt_of_le hb hg.size, fun j x hx i u hi => held_cell hg (by exact hne ⟨b, o, none⟩ rfl) (hc j x hx i u hi)⟩
structure Box3 (w : World) (g : Nat) (x y z : Value) : Prop where
  blk : w.heap[g]? = some (.cells #[x, y, z] 45 (0, 0))
theorem Box3.cells {w : World} {g : Nat} {x y z : Value} (h : Box3 w g x y z) : w.cell? ⟨g, 0, none⟩ = some x ∧ w.cell? ⟨g, 1, none⟩ = some y ∧ w.cell? ⟨g, 2, none⟩ = some z ∧ w.frozen? ⟨g, 0, none⟩ = false ∧ w.frozen? ⟨g, 1, none⟩ = false ∧ w.frozen? ⟨g, 2, none⟩ = false := by
  have hb := h.blk
  refine ⟨?_, ?_, ?_, ?_, ?_, ?_⟩ <;> simp [World.cell?, World.frozen?, hb]
theorem Box3.lt {w : World} {g : Nat} {x y z : Value} (h : Box3 w g x y z) : g < w.heap.size := (Array.getElem?_eq_some_iff.1 h.blk).1
theorem Box3.grown {w w' : World} {g : Nat} {x y z : Value} {r : Option Nat} (h : Box3 w g x y z) (hg : w.grownBy w' r) (hr : r ≠ some g) : Box3 w' g x y z := ⟨by rw [hg.block g h.lt hr.symm]; exact h.blk⟩
theorem Box3.below {w w' : World} {g : Nat} {x y z : Value} (h : Box3 w g x y z) (hb : Below w.heap.size w w') : Box3 w' g x y z := ⟨by rw [hb.block g h.lt]; exact h.blk⟩
theorem OwnE.other {α : Type} {enc : α → List Value} {k : Nat} {w w' : World} {base e n : Nat} {v : Value} {l : List α} {r : Option Nat} (h : OwnE enc k w base e v n l) (hg : w.grownBy w' r) (hr : ∀ b, v.ownBlock = some b → r ≠ some b) : OwnE enc k w' base e v n l := by
  refine ⟨h.1, ?_⟩
  rcases h.2 with hn | ⟨g, cap, cur, rfl, hb', hgg, rest⟩
  · exact .inl hn
  · refine .inr ⟨g, cap, cur, rfl, hb', ?_, rest⟩
    rw [hg.block g (Array.getElem?_eq_some_iff.1 hgg).1 (hr g rfl).symm]; exact hgg
end
section
open Go.RowKit Go.Sort Go.Lib
end
end Go.Proofs.YtkdjnegfnhldpaaGreatDoor
