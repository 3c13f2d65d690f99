/- Part 14 of the texts: RtA. -/
import Derived.Test.YtdlbjngpohkglaaGreatDoorG05
import Derived.Maps.AppendAt
import Derived.Deep.RegionHeld3
import Derived.Deep.AppendLies
import Derived.Test.YtdlbjngpohkglaaGreatDoorG11
import Derived.Test.YtdlbjngpohkglaaGreatDoorG13
section
set_option linter.unusedVariables false
set_option maxRecDepth 100000
set_option linter.unusedSimpArgs false
namespace Go.Proofs.YtdlbjngpohkglaaGreatDoor
section
open Go.RowKit

/-- append of a row, nil or not, to a row of the call's own, at a step of a region that draws -/
theorem step_appendR {P : Program} {α : Type} {ops : Array Oper} {o : Oper} {a : Act} {K : Act → World → Prop} {Q : Exit → Act → World → Prop} {E : Prop} (hgd : o.guard = none) (s x : Operand) (t : TypeId)
    (ho : o.op = .call { callee := .builtin .append, args := #[s, x], argTypes := #[t, t] })
    (base : Nat) (e : TypeId) (z : Value) (k bytes : Nat) (ht : P.underlying t = some (.slice e)) (hinfo : (P.info? e).map (fun i => (i.zero, i.size, i.bytes)) = some (some z, k, bytes))
    (hzs : z.cells.size = k) (hsz : 0 < k)
    (enc : α → List Value) (hk : ∀ x, (enc x).length = k) (h1 : ∀ y, ∀ u ∈ enc y, u.oneCell' = true) (l' l : List α) (n : Nat) {w : World} (v : Value) (hown : OwnE enc k w base e v n l)
    (p : Option Addr) (m c : Nat) (hs : a.eval s = v) (hx : a.eval x = .slice p m c) (hl : l'.length = m) (hp : p = none → c = 0) (hr : RowE enc k w p l')
    (hbytes : (n + m) * bytes ≤ 140737488355328) (h63 : n + m ≤ 9223372036854775807) (hbase : base ≤ w.heap.size)
    (h : ∀ v' w', OwnE enc k w' base e v' (n + m) (l ++ l') → w.grownBy w' v.ownBlock → (∀ b, b < w.heap.size → v'.ownBlock = some b → v.ownBlock = some b) → K (a.put o.dst v') w') :
    if Region.wanted o (yielded ops a.tmps) = true then Oper.wp P o a w K Q else E := by
  have hw : Region.wanted o (yielded ops a.tmps) = true := by simp [Region.wanted, hgd]
  rw [if_pos hw]
  obtain ⟨i, hi, hz, hsize, hby⟩ := info_parts hinfo
  rcases p with _ | ad
  · have hl0 : l' = [] := by
      rcases hr with h | ⟨_, _, h, _⟩
      · exact h
      · cases h
    subst hl0
    obtain rfl : m = 0 := by simpa using hl.symm
    obtain rfl := hp rfl
    have hrun := run_append_owned_none (P := P) (w := w) base t o.type e i k ht hi v n _ hown
    have := h v w (by simpa using hown) (World.grownBy.refl _ _) (fun b _ h => h)
    unfold Oper.wp execOp
    simp only [ho, resolve, invoke, builtin, Sem.run_bind, Sem.run_pure, Result.andThen_ok, List.map_toArray, List.map_cons, List.map_nil, hs, hx, hrun]
    exact this
  · obtain ⟨v', w', hrun, h2, h3, h4, h5⟩ := run_append_own_at (P := P) w base t o.type e i z k bytes ht hi hz hsize hby hzs hsz v n _ hown ad m c (l'.flatMap enc) (by rw [flat_length hk, hl]) (by
      intro j u hj
      rcases hr with h0 | ⟨b, o', hb, hlt, hc⟩
      · subst h0; simp at hj
      · cases hb
        have hjl : j < l'.length * k := by rw [← flat_length hk]; exact get_lt hj
        have hq : j / k < l'.length := Nat.div_lt_of_lt_mul (by rw [Nat.mul_comm]; exact hjl)
        have hm : j % k < k := Nat.mod_lt _ hsz
        have hf := flat_get hk l' (j / k) _ (j % k) (List.getElem?_eq_getElem hq) hm
        rw [Nat.div_add_mod' j k, hj] at hf
        have := hc (j / k) _ (List.getElem?_eq_getElem hq) (j % k) u hf.symm
        rw [add_lit', ← Nat.div_add_mod' j k, ← Nat.add_assoc]
        exact this) (by
      intro u hu
      obtain ⟨y, _, hy⟩ := List.mem_flatMap.1 hu
      exact h1 y u hy) (by unfold maxLen; omega) hbytes hbase
    unfold Oper.wp execOp
    simp only [ho, resolve, invoke, builtin, Sem.run_bind, Sem.run_pure, Result.andThen_ok, List.map_toArray, List.map_cons, List.map_nil, hs, hx, hrun]
    refine h v' w' (by unfold OwnE; rw [List.flatMap_append]; exact h2) h3 (fun b hb hv => ?_)
    rcases h5 with h5 | h5
    · rw [← h5]; exact hv
    · rw [h5] at hv; cases hv; omega

/-- The class: what was there when the region began stays, but for one row. -/
theorem held_drew {w0 w : World} {r : Option Nat} (h : w0.grownBy w r) : w0.grownBy w.drew r := ⟨h.os, h.tape, h.output, h.size, h.block⟩
theorem held_alloc {w0 w : World} {r : Option Nat} (h : w0.grownBy w r) (o : Obj) : w0.grownBy (w.alloc o) r :=
  ⟨h.os, h.tape, h.output, Nat.le_trans h.size (by simp), fun k hk hne => (Below.heap_alloc w o k (by have := h.size; omega)).trans (h.block k hk hne)⟩
theorem held_below {w0 w w' : World} {r : Option Nat} (h : w0.grownBy w r) (hb : Below w.heap.size w w') : w0.grownBy w' r :=
  ⟨hb.os.trans h.os, hb.tape.trans h.tape, hb.output.trans h.output, Nat.le_trans h.size hb.size, fun k hk hne => (hb.block k (by have := h.size; omega)).trans (h.block k hk hne)⟩
theorem held_own {w0 w w' : World} {r r' : Option Nat} (h : w0.grownBy w r) (hg : w.grownBy w' r') (hr : ∀ b, b < w0.heap.size → r' = some b → r = some b) : w0.grownBy w' r :=
  ⟨hg.os.trans h.os, hg.tape.trans h.tape, hg.output.trans h.output, Nat.le_trans h.size hg.size, fun k hk hne => (hg.block k (by have := h.size; omega) (fun e => hne (hr k hk e.symm).symm)).trans (h.block k hk hne)⟩
theorem held_cell {w0 w : World} {r : Option Nat} {a : Addr} {u : Value} (h : w0.grownBy w r) (hne : r ≠ some a.block) (hc : w0.cell? a = some u) : w.cell? a = some u := by
  have hb := h.block a.block (cell_block hc) hne.symm
  unfold World.cell? at hc ⊢
  rw [hb]; exact hc
theorem held_under {w0 w : World} {r : Option Nat} {B : Nat} (h : w0.grownBy w r) (hB : B ≤ w0.heap.size) (hr : ∀ b, r = some b → B ≤ b) : Below B w0 w :=
  ⟨h.os, h.tape, h.output, h.size, fun k hk => h.block k (by omega) (fun e => by have := hr k e.symm; omega)⟩
theorem OwnE.from {α : Type} {enc : α → List Value} {k : Nat} {w : World} {base e n : Nat} {v : Value} {l : List α} (h : OwnE enc k w base e v n l) : ∀ b, v.ownBlock = some b → base ≤ b := fun b hb => (World.ownsRow.lt h b hb).1
theorem OwnE.under {α : Type} {enc : α → List Value} {k : Nat} {w : World} {base e n : Nat} {v : Value} {l : List α} (h : OwnE enc k w base e v n l) : ∀ b, v.ownBlock = some b → b < w.heap.size := fun b hb => (World.ownsRow.lt h b hb).2
end

section
open Go.RowKit Go.Sort Go.Lib

/-- a node's own regions, as they are met -/
def ownR (a : LH) : List Int := if a.kind = 1 then [] else a.rho :: rhosOf a.eff
/-- a type's regions, as they are met -/
def gathT : RT → List Int := Rose.fold (fun a l => ownR a ++ l.flatten)
theorem gathT_node (a : LH) (l : List RT) : gathT (.node a l) = ownR a ++ l.flatMap gathT := by
  show Rose.fold _ _ = _
  rw [Rose.fold_node, List.flatMap_def]; rfl
/-- types' regions -/
def gathL (l : List PT) : List Int := l.flatMap (fun t => gathT t.er)
theorem gathT_kids (x : PT) : gathT x.er = ownR x.head.plain ++ gathL x.kids := by
  obtain ⟨a, l⟩ := x
  rw [PT.er_node, gathT_node, List.flatMap_map]; rfl
theorem gathL_take {l : List PT} {k : Nat} {x : PT} (h : l[k]? = some x) : gathL (l.take (k + 1)) = gathL (l.take k) ++ (ownR x.head.plain ++ gathL x.kids) := by
  unfold gathL
  rw [take_succ_get h, List.flatMap_append, List.flatMap_singleton, gathT_kids]; rfl
theorem gathL_mem {l : List PT} {x : PT} (h : x ∈ l) : (gathL x.kids).length ≤ (gathL l).length := by
  have h1 : (gathT x.er).length ≤ (gathL l).length := by
    unfold gathL
    rw [List.length_flatMap]
    exact le_sum_of_mem (List.mem_map_of_mem (f := fun t => (gathT (PT.er t)).length) h)
  rw [gathT_kids, List.length_append] at h1
  omega
theorem gathL_len {l : List PT} {k : Nat} {x : PT} (h : l[k]? = some x) : (gathL (l.take k)).length + ((ownR x.head.plain).length + (gathL x.kids).length) ≤ (gathL l).length := by
  have h1 := gathL_take h
  have h2 : gathL l = gathL (l.take (k + 1)) ++ gathL (l.drop (k + 1)) := by
    unfold gathL; rw [← List.flatMap_append, List.take_append_drop]
  rw [h2, h1]
  simp only [List.length_append]; omega
/-- how great effects are -/
def effMax (n : Nat) (l : List PT) : Prop := ∀ x ∈ l, x.head.en ≤ n
theorem own_alloc {α : Type} {enc : α → List Value} {k : Nat} {w : World} {base e n : Nat} {v : Value} {l : List α} (h : OwnE enc k w base e v n l) (o : Obj) : OwnE enc k (w.alloc o) base e v n l := h.below ((Below.refl _ w).alloc (Nat.le_refl _) o)
theorem rowN_one {w : World} {b : Nat} {y : Int} (h : w.cell? ⟨b, 0, none⟩ = some (.int .i64 y)) : RowE encN 1 w (some ⟨b, 0, none⟩) [y] :=
  .inr ⟨b, 0, rfl, cell_block h, fun j x hx i u hi => by
    rcases j with _ | j
    · simp at hx; subst hx
      rcases i with _ | i
      · simp [encN] at hi; subst hi; simpa using h
      · simp [encN] at hi
    · simp at hx⟩
/-- effects that are not too great, in every node -/
def enOK (l : List PT) : Prop := ∀ x ∈ l, Rose.all (fun a _ => decide (a.en ≤ 1000000)) x = true
end

section
open Go.RowKit Go.Sort Go.Lib

/-- strings, a space between two -/
def joinB (l : List ByteArray) : ByteArray := ⟨(Lib.join (l.map (·.data.toList)) [32]).toArray⟩
theorem joinB_size (l : List ByteArray) : (joinB l).size = (Lib.join (l.map (·.data.toList)) [32]).length := by
  show (Lib.join (l.map (·.data.toList)) [32]).toArray.size = _
  simp
theorem join_mem (sep : List UInt8) : ∀ (xs : List (List UInt8)) (x : List UInt8), x ∈ xs → x.length ≤ (Lib.join xs sep).length
  | [], _, h => by cases h
  | y :: r, x, h => by
    rw [Lib.join_cons, List.length_append]
    rcases List.mem_cons.1 h with rfl | h
    · omega
    · have : x.length ≤ (Lib.joinTail sep r).length := by
        unfold Lib.joinTail
        rw [List.length_flatten]
        have h1 : (sep ++ x).length ∈ (r.map (sep ++ ·)).map List.length := List.mem_map_of_mem (List.mem_map_of_mem (f := (sep ++ ·)) h)
        have h2 := le_sum_of_mem h1
        rw [List.length_append] at h2
        omega
      omega
theorem joinB_mem {l : List ByteArray} {x : ByteArray} (h : x ∈ l) : x.size ≤ (joinB l).size := by
  rw [joinB_size]
  have := join_mem [32] (l.map (·.data.toList)) x.data.toList (List.mem_map_of_mem (f := fun b : ByteArray => b.data.toList) h)
  simpa using this
def bInt : ByteArray := ⟨#[105, 110, 116]⟩
/-- what stands between, by the kind -/
def partsL (a : LH) (k0 k1 : ByteArray) : List ByteArray :=
  if a.kind = 2 then [⟨#[40]⟩, k0, ⟨#[42]⟩, k1] else if a.kind = 3 then [⟨#[40, 32, 114, 101, 102]⟩, k0] else [⟨#[40]⟩, k0, ⟨#[45, 62]⟩, k1, ⟨#[33]⟩, textA (effL a.eff)]
def atL (r : Int) : List ByteArray := [⟨#[64]⟩, decB r, ⟨#[41]⟩]
/-- a node's text, out of its kids' -/
def nodeText (a : LH) (l : List ByteArray) : ByteArray := if a.kind = 1 then bInt else joinB (partsL a (l.getD 0 .empty) (l.getD 1 .empty) ++ atL a.rho)
/-- a type's text -/
def textT : RT → ByteArray := Rose.fold nodeText
theorem textT_er (a : RH) (l : List PT) : textT (PT.er (.node a l)) = nodeText a.plain (l.map (fun t => textT (PT.er t))) := by
  rw [PT.er_node]
  show Rose.fold _ _ = _
  rw [Rose.fold_node, List.map_map]; rfl
theorem nodeText_mem {a : RH} {l : List PT} (hn : nodeB a.plain l.length = true) {x : PT} (hx : x ∈ l) : (textT x.er).size ≤ (textT (PT.er (.node a l))).size := by
  rw [textT_er]
  unfold nodeText
  have h1 : a.kind ≠ 1 := by
    intro h
    have : l.length = 0 := by unfold nodeB at hn; rw [if_pos (show a.plain.kind = 1 from h)] at hn; simp at hn; simpa using hn.2
    have := List.length_eq_zero_iff.1 this
    subst this; cases hx
  rw [if_neg (show ¬ a.plain.kind = 1 from h1)]
  refine joinB_mem ?_
  apply List.mem_append_left
  have hlen : (a.plain.kind = 3 ∧ l.length = 1) ∨ (a.plain.kind ≠ 3 ∧ l.length = 2) := by
    unfold nodeB at hn
    rw [if_neg (show ¬ a.plain.kind = 1 from h1)] at hn
    by_cases h2 : a.plain.kind = 2
    · rw [if_pos h2] at hn; simp at hn; exact .inr ⟨by rw [h2]; decide, hn.2⟩
    · rw [if_neg h2] at hn
      by_cases h3 : a.plain.kind = 3
      · rw [if_pos h3] at hn; simp at hn; exact .inl ⟨h3, hn.2⟩
      · rw [if_neg h3] at hn
        by_cases h4 : a.plain.kind = 4
        · rw [if_pos h4] at hn; simp at hn; exact .inr ⟨h3, hn.2⟩
        · rw [if_neg h4] at hn; cases hn
  rcases hlen with ⟨h3, hl⟩ | ⟨h3, hl⟩
  · obtain ⟨y, rfl⟩ := List.length_eq_one_iff.1 hl
    have : x = y := by simpa using hx
    subst this
    unfold partsL
    rw [if_neg (by rw [h3]; decide), if_pos h3]; simp
  · obtain ⟨y, z, rfl⟩ : ∃ y z, l = [y, z] := by match l, hl with | [y, z], _ => exact ⟨y, z, rfl⟩
    have hxy : x = y ∨ x = z := by simpa using hx
    unfold partsL
    by_cases h2 : a.plain.kind = 2
    · rw [if_pos h2]; rcases hxy with rfl | rfl <;> simp
    · rw [if_neg h2, if_neg h3]; rcases hxy with rfl | rfl <;> simp

/-- what text answers -/
def TextAt (x : PT) (W : World) : Prop := Calls Tryz.prog 149 #[aggR x.head] W fun e w' => e = .returned (.string (textT x.er)) ∧ Below W.heap.size W w'
theorem TextAt.is {x : PT} {W : World} (h : TextAt x W) {s : ByteArray} (hs : textT x.er = s) : Calls Tryz.prog 149 #[aggR x.head] W fun e w' => e = .returned (.string s) ∧ Below W.heap.size W w' := by subst hs; exact h
/-- what Text of an effect answers -/
def EffTextAt (a : RH) (w : World) : Prop := ∀ W, Below w.heap.size w W → Calls Tryz.prog 124 #[.slice a.ep a.en a.ec] W fun e w' => e = .returned (.string (textA (effL a.eff))) ∧ Below W.heap.size W w'

/-- a literal, as a row of the call's own -/
theorem own_made {α : Type} {enc : α → List Value} {k : Nat} (hk : ∀ x, (enc x).length = k) (w : World) (base e : Nat) (l : List α) (n : Nat) (cs : Array Value) (hcs : cs = (l.flatMap enc).toArray) (hn : l.length = n) (hm : n ≤ maxLen) (hb : base ≤ w.heap.size) :
    OwnE enc k (w.alloc (.cells cs e)) base e (.slice (some ⟨w.heap.size, 0, none⟩) n n) n l := by
  subst hcs
  refine ⟨by rw [flat_length hk, hn], .inr ⟨w.heap.size, n, _, rfl, hb, heap_alloc_new w _, Nat.le_refl _, hm, by simp [← hn]; rw [← flat_length hk]; simp, ?_⟩⟩
  rw [← hn, ← flat_length hk]
  exact List.take_length
/-- strings.Join of a row of the call's own -/
theorem join_own {w : World} {base n : Nat} {v : Value} {l : List ByteArray} (h : OwnE encS 1 w base 9 v n l) (hn : 0 < n) (hm : n ≤ 1000000) (hs : (joinB l).size ≤ 140737488355328) :
    Calls Tryz.prog 24 #[v, .string ⟨#[32]⟩] w fun e w' => e = .returned (.string (joinB l)) ∧ Below w.heap.size w w' := by
  obtain ⟨q, cp, rfl, hl, hcp, hrow, _⟩ := h.row encS_len (by omega)
  obtain ⟨bk, o, rfl, hbk, hcells⟩ := hrow.at (by rw [hl]; omega)
  have hc := Tryz.strings_Join bk o cp l ⟨#[32]⟩ w (fun j x hx => by simpa [encS] using hcells j x hx 0 _ rfl) hbk (by omega) (by omega) (by rw [joinB_size] at hs; exact hs)
  rw [hl] at hc
  exact hc

/-- a literal, as a row -/
theorem row_made {α : Type} {enc : α → List Value} {k : Nat} (hk : ∀ x, (enc x).length = k) (hk0 : 0 < k) (w : World) (e : Nat) (l : List α) (n : Nat) (cs : Array Value) (hcs : cs = (l.flatMap enc).toArray) (hn : l.length = n) (hm : n ≤ maxLen) :
    IsRow enc k (w.alloc (.cells cs e)) (some ⟨w.heap.size, 0, none⟩) n n l := by
  obtain ⟨p, cap, hv, hr⟩ := (own_made hk w 0 e l n cs hcs hn hm (Nat.zero_le _)).isRow hk hk0
  cases hv; exact hr

theorem bel_step {w0 w w' : World} (h : Below w0.heap.size w0 w) (hb : Below w.heap.size w w') : Below w0.heap.size w0 w' := h.trans (hb.mono h.size)
theorem bel_alloc {w0 w : World} (h : Below w0.heap.size w0 w) (o : Obj) : Below w0.heap.size w0 (w.alloc o) := h.alloc h.size o
theorem bel_drew (w0 : World) : Below w0.heap.size w0 w0.drew := ⟨rfl, rfl, rfl, Nat.le_refl _, fun _ _ => rfl⟩
set_option maxHeartbeats 4000000 in
theorem rtype_text_of {a : RH} {l : List PT} {w : World} (hN : NodeIn w a l) (hn : nodeB a.plain a.kn = true) (hd : DigOK w a.rho) (he : EffTextAt a w) (hs : (textT (PT.er (.node a l))).size ≤ 1000000000000) (hf : ∀ x ∈ l, ∀ W, Below w.heap.size w W → TextAt x W) :
    TextAt (.node a l) w := by
  have HBX := Lib.hid ((Below.refl w.heap.size w).alloc (Nat.le_refl _) (.cells #[.int .u8 a.kind, .int .i64 a.rho, .slice a.ep a.en a.ec, .slice a.kp a.kn a.kc] 28))
  have hkm := hN.own.kmax
  have HN := Lib.hid hN
  have HD := Lib.hid hd
  have HEF := Lib.hid he
  have HS := Lib.hid hs
  have HF := Lib.hid hf
  have HTX := Lib.hid (textT_er a l)
  have hnl := hN.kids.len
  show Calls _ _ #[aggR a] w _
  clear hN hd he hs hf
  obtain ⟨kd, rr, ep, en, ec, eff, kp, kn, kc⟩ := a
  simp only at hkm hnl
  by_cases h1 : kd = 1
  · subst h1
    have HR : Hid (textT (PT.er (.node ⟨1, rr, ep, en, ec, eff, kp, kn, kc⟩ l)) = ⟨#[105, 110, 116]⟩) := by show _ = _; rw [HTX.out]; rfl
    clear hn
    go_enter Tryz.func149, Tryz.ntmps149
    go_wp2_with fail
    refine (HD.out _ (HBX.out)).mono ?_
    rintro e w1 ⟨rfl, hb⟩
    have HB1 := Lib.hid (HBX.out.trans (hb.mono HBX.out.size))
    have hlt1 : w.heap.size < w1.heap.size := by have := hb.size; simp at this; omega
    have hc0 : w1.cell? ⟨w.heap.size, 0, none⟩ = some (.int .u8 1) := by rw [hb.cell (by simp), cell_new]; rfl
    clear hb
    go_wp2_with fail
    go_ret
    exact ⟨ret_str HR.out.symm, HB1.out.alloc HB1.out.size _⟩
  by_cases h3 : kd = 3
  · subst h3
    obtain rfl : kn = 1 := by unfold nodeB at hn; simp [RH.plain] at hn; exact hn.2
    obtain ⟨x, rfl⟩ := List.length_eq_one_iff.1 hnl
    have HJ : Hid (textT (PT.er (.node ⟨3, rr, ep, en, ec, eff, kp, 1, kc⟩ [x])) = joinB ([⟨#[40, 32, 114, 101, 102]⟩, textT (PT.er x)] ++ atL rr)) := by show _ = _; rw [HTX.out]; rfl
    clear hn
    obtain ⟨b, o, rfl, hbl, d0, d1, d2, d3⟩ := HN.out.rowT.kid (j := 0) rfl
    have HKC : Hid (∀ W, Below w.heap.size w W → W.cell? ⟨b, o, none⟩ = some (.int .u8 x.head.kind) ∧ W.cell? ⟨b, o + 1, none⟩ = some (.int .i64 x.head.rho) ∧ W.cell? ⟨b, o + 2, none⟩ = some (.slice x.head.ep x.head.en x.head.ec) ∧ W.cell? ⟨b, o + 3, none⟩ = some (.slice x.head.kp x.head.kn x.head.kc)) := fun W h => by
      simp only [Nat.zero_mul, Nat.add_zero] at d0 d1 d2 d3
      exact ⟨by rw [h.cell hbl]; exact d0, by rw [h.cell hbl]; exact d1, by rw [h.cell hbl]; exact d2, by rw [h.cell hbl]; exact d3⟩
    clear d0 d1 d2 d3
    generalize htx : textT (PT.er x) = tx at HJ
    have HTX' := Lib.hid htx
    clear htx
    go_enter Tryz.func149, Tryz.ntmps149
    go_wp2_with fail
    refine (HD.out _ (HBX.out)).mono ?_
    rintro e w1 ⟨rfl, hb⟩
    have HB1 := Lib.hid (HBX.out.trans (hb.mono HBX.out.size))
    have hlt1 : w.heap.size < w1.heap.size := by have := hb.size; simp at this; omega
    have hc0 : w1.cell? ⟨w.heap.size, 0, none⟩ = some (.int .u8 3) := by rw [hb.cell (by simp), cell_new]; rfl
    have hc3 : w1.cell? ⟨w.heap.size, 3, none⟩ = some (.slice (some ⟨b, o, none⟩) 1 kc) := by rw [hb.cell (by simp), cell_new]; rfl
    obtain ⟨d0, d1, d2, d3⟩ := HKC.out _ HB1.out
    have hbl1 : b < w1.heap.size := by omega
    clear hb
    go_wp2_with fail
    refine ((HF.out x (by simp) _ (HB1.out.alloc HB1.out.size _)).is HTX'.out).mono ?_
    rintro e w2 ⟨rfl, hb⟩
    have HB2 := Lib.hid (HB1.out.trans ((Below.refl _ w1).alloc (Nat.le_refl _) _ |>.trans (hb.mono (by simp)) |>.mono HB1.out.size))
    have hle2 : w1.heap.size ≤ w2.heap.size := by have := hb.size; simp at this; omega
    have HAT := Lib.hid ((row_made encS_len (by omega) w1 9 (atL rr) 3 _ rfl rfl (by decide)).below hb)
    clear d0 d1 d2 d3 hc0 hc3 hb
    have HJS : Hid ((joinB ([⟨#[40, 32, 114, 101, 102]⟩, tx] ++ atL rr)).size ≤ 140737488355328) := by have h1 := HS.out; have h2 := HJ.out; show _ ≤ _; rw [h2] at h1; omega
    have HOL := Lib.hid (own_made encS_len w2 w.heap.size 9 [⟨#[40, 32, 114, 101, 102]⟩, tx] 2 (([⟨#[40, 32, 114, 101, 102]⟩, tx]).flatMap encS).toArray rfl rfl (by decide) (Nat.le_trans (Nat.le_of_lt hlt1) hle2))
    have HAL := Lib.hid (HAT.out.alloc (.cells (([⟨#[40, 32, 114, 101, 102]⟩, tx]).flatMap encS).toArray 9))
    have HBL := Lib.hid (HB2.out.alloc HB2.out.size (.cells (([⟨#[40, 32, 114, 101, 102]⟩, tx]).flatMap encS).toArray 9))
    go_wp2_with (at_builtin; refine wpList_appendR rfl _ _ 44 rfl w.heap.size 9 _ 1 16 Tryz.underlying44 infoS rfl (by decide) encS encS_len encS_one (atL rr) [⟨#[40, 32, 114, 101, 102]⟩, tx] 2 _ HOL.out _ 3 _ rfl rfl rfl (by intro h; cases h) HAL.out.row ?c1 ?c2 ?c3 ?_)
    case c1 => omega
    case c2 => omega
    case c3 => exact HBL.out.size
    · intro v6 w6 hown6 hg6
      have HO6 := Lib.hid hown6
      have HB6 := Lib.hid (Below.own HBL.out hg6 HBL.out.size HOL.out)
      clear hown6 hg6
      go_wp2_with fail
      refine (join_own HO6.out (by omega) (by omega) HJS.out).mono ?_
      rintro e w7 ⟨rfl, hb⟩
      have HB7 := Lib.hid (HB6.out.trans (hb.mono HB6.out.size))
      clear hb
      go_wp2_with fail
      go_ret
      exact ⟨ret_str HJ.out.symm, HB7.out⟩
  by_cases h2 : kd = 2
  · subst h2
    obtain rfl : kn = 2 := by unfold nodeB at hn; simp [RH.plain] at hn; exact hn.2
    obtain ⟨x, y, rfl⟩ : ∃ x y, l = [x, y] := by match l, hnl with | [y, z], _ => exact ⟨y, z, rfl⟩
    have HJ : Hid (textT (PT.er (.node ⟨2, rr, ep, en, ec, eff, kp, 2, kc⟩ [x, y])) = joinB ([⟨#[40]⟩, textT (PT.er x), ⟨#[42]⟩, textT (PT.er y)] ++ atL rr)) := by show _ = _; rw [HTX.out]; rfl
    clear hn
    obtain ⟨b, o, rfl, hbl, d0, d1, d2, d3⟩ := HN.out.rowT.kid (j := 0) rfl
    obtain ⟨b', o', hbo, hbl', e0, e1, e2, e3⟩ := HN.out.rowT.kid (j := 1) rfl
    cases hbo
    simp only [Nat.zero_mul, Nat.add_zero, Nat.one_mul] at d0 d1 d2 d3 e0 e1 e2 e3
    have HKC : Hid (∀ W, Below w.heap.size w W → (W.cell? ⟨b, o, none⟩ = some (.int .u8 x.head.kind) ∧ W.cell? ⟨b, o + 1, none⟩ = some (.int .i64 x.head.rho) ∧ W.cell? ⟨b, o + 2, none⟩ = some (.slice x.head.ep x.head.en x.head.ec) ∧ W.cell? ⟨b, o + 3, none⟩ = some (.slice x.head.kp x.head.kn x.head.kc)) ∧
        (W.cell? ⟨b, o + 4, none⟩ = some (.int .u8 y.head.kind) ∧ W.cell? ⟨b, o + 4 + 1, none⟩ = some (.int .i64 y.head.rho) ∧ W.cell? ⟨b, o + 4 + 2, none⟩ = some (.slice y.head.ep y.head.en y.head.ec) ∧ W.cell? ⟨b, o + 4 + 3, none⟩ = some (.slice y.head.kp y.head.kn y.head.kc))) := fun W h =>
      ⟨⟨by rw [h.cell hbl]; exact d0, by rw [h.cell hbl]; exact d1, by rw [h.cell hbl]; exact d2, by rw [h.cell hbl]; exact d3⟩, ⟨by rw [h.cell hbl]; exact e0, by rw [h.cell hbl]; exact e1, by rw [h.cell hbl]; exact e2, by rw [h.cell hbl]; exact e3⟩⟩
    clear d0 d1 d2 d3 e0 e1 e2 e3
    go_enter Tryz.func149, Tryz.ntmps149
    go_wp2_with fail
    refine (HD.out _ (HBX.out)).mono ?_
    rintro e w1 ⟨rfl, hb⟩
    have HB1 := Lib.hid (HBX.out.trans (hb.mono HBX.out.size))
    have hlt1 : w.heap.size < w1.heap.size := by have := hb.size; simp at this; omega
    have hc0 : w1.cell? ⟨w.heap.size, 0, none⟩ = some (.int .u8 2) := by rw [hb.cell (by simp), cell_new]; rfl
    have hc3 : w1.cell? ⟨w.heap.size, 3, none⟩ = some (.slice (some ⟨b, o, none⟩) 2 kc) := by rw [hb.cell (by simp), cell_new]; rfl
    have hc2 : w1.cell? ⟨w.heap.size, 2, none⟩ = some (.slice ep en ec) := by rw [hb.cell (by simp), cell_new]; rfl
    have hbl1 : b < w1.heap.size := by omega
    clear hb
    have HBW := Lib.hid (HB1.out.alloc HB1.out.size (.cells #[.string ⟨#[64]⟩, .string (decB rr), .string ⟨#[41]⟩] 9))
    have HAT0 := Lib.hid (row_made encS_len (by omega) w1 9 (atL rr) 3 #[.string ⟨#[64]⟩, .string (decB rr), .string ⟨#[41]⟩] rfl rfl (by decide))
    have hW0 : (w1.alloc (.cells #[.string ⟨#[64]⟩, .string (decB rr), .string ⟨#[41]⟩] 9)).heap.size = w1.heap.size + 1 := by simp
    have hC0 : (w1.alloc (.cells #[.string ⟨#[64]⟩, .string (decB rr), .string ⟨#[41]⟩] 9)).cell? ⟨w.heap.size, 3, none⟩ = some (.slice (some ⟨b, o, none⟩) 2 kc) ∧ (w1.alloc (.cells #[.string ⟨#[64]⟩, .string (decB rr), .string ⟨#[41]⟩] 9)).cell? ⟨w.heap.size, 2, none⟩ = some (.slice ep en ec) := by
      have h := (Below.refl _ w1).alloc (Nat.le_refl _) (.cells #[.string ⟨#[64]⟩, .string (decB rr), .string ⟨#[41]⟩] 9)
      exact ⟨by rw [h.cell hlt1]; exact hc3, by rw [h.cell hlt1]; exact hc2⟩
    go_wp2_with fail
    clear hc0 hc2 hc3
    generalize w1.alloc (.cells #[.string ⟨#[64]⟩, .string (decB rr), .string ⟨#[41]⟩] 9) = W0 at *
    have HSS : Hid (∀ W, Below W0.heap.size W0 W → W.cell? ⟨w.heap.size, 3, none⟩ = some (.slice (some ⟨b, o, none⟩) 2 kc) ∧ W.cell? ⟨w.heap.size, 2, none⟩ = some (.slice ep en ec) ∧ W.cell? ⟨b, o, none⟩ = some (.int .u8 x.head.kind) ∧ W.cell? ⟨b, o + 1, none⟩ = some (.int .i64 x.head.rho) ∧ W.cell? ⟨b, o + 2, none⟩ = some (.slice x.head.ep x.head.en x.head.ec) ∧ W.cell? ⟨b, o + 3, none⟩ = some (.slice x.head.kp x.head.kn x.head.kc) ∧ W.cell? ⟨b, o + 4, none⟩ = some (.int .u8 y.head.kind) ∧ W.cell? ⟨b, o + 4 + 1, none⟩ = some (.int .i64 y.head.rho) ∧ W.cell? ⟨b, o + 4 + 2, none⟩ = some (.slice y.head.ep y.head.en y.head.ec) ∧ W.cell? ⟨b, o + 4 + 3, none⟩ = some (.slice y.head.kp y.head.kn y.head.kc) ∧ Below W0.heap.size W0 W) := fun W h => by
      obtain ⟨⟨a0, a1, a2, a3⟩, b0, b1, b2, b3⟩ := HKC.out W (HBW.out.trans (h.mono HBW.out.size))
      exact ⟨by rw [h.cell (by show w.heap.size < _; omega)]; exact hC0.1, by rw [h.cell (by show w.heap.size < _; omega)]; exact hC0.2, a0, a1, a2, a3, b0, b1, b2, b3, h⟩
    have HBZ : Hid (∀ W, Below W0.heap.size W0 W → Below w.heap.size w W) := fun W h => HBW.out.trans (h.mono HBW.out.size)
    clear hC0
    have HK : Hid (∀ t ∈ [x, y], ∀ W, Below W0.heap.size W0 W → Calls Tryz.prog 149 #[aggR t.head] W fun e w' => e = .returned (.string (textT (PT.er t))) ∧ Below W.heap.size W w') := fun t ht W h => HF.out t ht W (HBZ.out W h)
    have HE : Hid (∀ W, Below W0.heap.size W0 W → Calls Tryz.prog 124 #[.slice ep en ec] W fun e w' => e = .returned (.string (textA (effL eff))) ∧ Below W.heap.size W w') := fun W h => HEF.out W (HBZ.out W h)
    go_region_held3 (fun W => W.cell? ⟨w.heap.size, 3, none⟩ = some (.slice (some ⟨b, o, none⟩) 2 kc) ∧ W.cell? ⟨w.heap.size, 2, none⟩ = some (.slice ep en ec) ∧ W.cell? ⟨b, o, none⟩ = some (.int .u8 x.head.kind) ∧ W.cell? ⟨b, o + 1, none⟩ = some (.int .i64 x.head.rho) ∧ W.cell? ⟨b, o + 2, none⟩ = some (.slice x.head.ep x.head.en x.head.ec) ∧ W.cell? ⟨b, o + 3, none⟩ = some (.slice x.head.kp x.head.kn x.head.kc) ∧ W.cell? ⟨b, o + 4, none⟩ = some (.int .u8 y.head.kind) ∧ W.cell? ⟨b, o + 4 + 1, none⟩ = some (.int .i64 y.head.rho) ∧ W.cell? ⟨b, o + 4 + 2, none⟩ = some (.slice y.head.ep y.head.en y.head.ec) ∧ W.cell? ⟨b, o + 4 + 3, none⟩ = some (.slice y.head.kp y.head.kn y.head.kc) ∧ Below W0.heap.size W0 W)
      (first
        | exact HSS.out _ (bel_drew _)
        | exact HSS.out _ (bel_alloc (by go_split_ands; assumption) _)
        | exact HSS.out _ hZ)
      (first
        | (go_at_call 149; refine (HK.out _ (by simp) _ (by go_split_ands; assumption)).mono ?_; rintro e w2 ⟨rfl, hb2⟩; have hZ := bel_step (w0 := W0) (by go_split_ands; assumption) hb2)
        | (go_at_call 124; refine (HE.out _ (by go_split_ands; assumption)).mono ?_; rintro e w2 ⟨rfl, hb2⟩; have hZ := bel_step (w0 := W0) (by go_split_ands; assumption) hb2))
    rename_i hH
    clear hH
    have HB2 := Lib.hid (HBZ.out _ hZ)
    have hle2 : w1.heap.size ≤ w2.heap.size := by have := hZ.size; omega
    have HAT := Lib.hid (HAT0.out.below hZ)
    clear hZ hb2 HSS HBZ HK HE hW0
    have HJS : Hid ((joinB ([⟨#[40]⟩, textT (PT.er x), ⟨#[42]⟩, textT (PT.er y)] ++ atL rr)).size ≤ 140737488355328) := by have h1 := HS.out; have h2 := HJ.out; show _ ≤ _; rw [h2] at h1; omega
    have HOL := Lib.hid (own_made encS_len w2 w.heap.size 9 [⟨#[40]⟩, textT (PT.er x), ⟨#[42]⟩, textT (PT.er y)] 4 (([⟨#[40]⟩, textT (PT.er x), ⟨#[42]⟩, textT (PT.er y)]).flatMap encS).toArray rfl rfl (by decide) (Nat.le_trans (Nat.le_of_lt hlt1) hle2))
    have HAL := Lib.hid (HAT.out.alloc (.cells (([⟨#[40]⟩, textT (PT.er x), ⟨#[42]⟩, textT (PT.er y)]).flatMap encS).toArray 9))
    have HBL := Lib.hid (HB2.out.alloc HB2.out.size (.cells (([⟨#[40]⟩, textT (PT.er x), ⟨#[42]⟩, textT (PT.er y)]).flatMap encS).toArray 9))
    go_wp2_with (at_builtin; refine wpList_appendR rfl _ _ 44 rfl w.heap.size 9 _ 1 16 Tryz.underlying44 infoS rfl (by decide) encS encS_len encS_one (atL rr) [⟨#[40]⟩, textT (PT.er x), ⟨#[42]⟩, textT (PT.er y)] 4 _ HOL.out _ 3 _ rfl rfl rfl (by intro h; cases h) HAL.out.row ?c1 ?c2 ?c3 ?_)
    case c1 => omega
    case c2 => omega
    case c3 => exact HBL.out.size
    · intro v6 w6 hown6 hg6
      have HO6 := Lib.hid hown6
      have HB6 := Lib.hid (Below.own HBL.out hg6 HBL.out.size HOL.out)
      clear hown6 hg6
      go_wp2_with fail
      refine (join_own HO6.out (by omega) (by omega) HJS.out).mono ?_
      rintro e w7 ⟨rfl, hb⟩
      have HB7 := Lib.hid (HB6.out.trans (hb.mono HB6.out.size))
      clear hb
      go_wp2_with fail
      go_ret
      exact ⟨ret_str HJ.out.symm, HB7.out⟩
  by_cases h4 : kd = 4
  · subst h4
    obtain rfl : kn = 2 := by unfold nodeB at hn; simp [RH.plain] at hn; exact hn.2
    obtain ⟨x, y, rfl⟩ : ∃ x y, l = [x, y] := by match l, hnl with | [y, z], _ => exact ⟨y, z, rfl⟩
    have HJ : Hid (textT (PT.er (.node ⟨4, rr, ep, en, ec, eff, kp, 2, kc⟩ [x, y])) = joinB ([⟨#[40]⟩, textT (PT.er x), ⟨#[45, 62]⟩, textT (PT.er y), ⟨#[33]⟩, textA (effL eff)] ++ atL rr)) := by show _ = _; rw [HTX.out]; rfl
    clear hn
    obtain ⟨b, o, rfl, hbl, d0, d1, d2, d3⟩ := HN.out.rowT.kid (j := 0) rfl
    obtain ⟨b', o', hbo, hbl', e0, e1, e2, e3⟩ := HN.out.rowT.kid (j := 1) rfl
    cases hbo
    simp only [Nat.zero_mul, Nat.add_zero, Nat.one_mul] at d0 d1 d2 d3 e0 e1 e2 e3
    have HKC : Hid (∀ W, Below w.heap.size w W → (W.cell? ⟨b, o, none⟩ = some (.int .u8 x.head.kind) ∧ W.cell? ⟨b, o + 1, none⟩ = some (.int .i64 x.head.rho) ∧ W.cell? ⟨b, o + 2, none⟩ = some (.slice x.head.ep x.head.en x.head.ec) ∧ W.cell? ⟨b, o + 3, none⟩ = some (.slice x.head.kp x.head.kn x.head.kc)) ∧
        (W.cell? ⟨b, o + 4, none⟩ = some (.int .u8 y.head.kind) ∧ W.cell? ⟨b, o + 4 + 1, none⟩ = some (.int .i64 y.head.rho) ∧ W.cell? ⟨b, o + 4 + 2, none⟩ = some (.slice y.head.ep y.head.en y.head.ec) ∧ W.cell? ⟨b, o + 4 + 3, none⟩ = some (.slice y.head.kp y.head.kn y.head.kc))) := fun W h =>
      ⟨⟨by rw [h.cell hbl]; exact d0, by rw [h.cell hbl]; exact d1, by rw [h.cell hbl]; exact d2, by rw [h.cell hbl]; exact d3⟩, ⟨by rw [h.cell hbl]; exact e0, by rw [h.cell hbl]; exact e1, by rw [h.cell hbl]; exact e2, by rw [h.cell hbl]; exact e3⟩⟩
    clear d0 d1 d2 d3 e0 e1 e2 e3
    go_enter Tryz.func149, Tryz.ntmps149
    go_wp2_with fail
    refine (HD.out _ (HBX.out)).mono ?_
    rintro e w1 ⟨rfl, hb⟩
    have HB1 := Lib.hid (HBX.out.trans (hb.mono HBX.out.size))
    have hlt1 : w.heap.size < w1.heap.size := by have := hb.size; simp at this; omega
    have hc0 : w1.cell? ⟨w.heap.size, 0, none⟩ = some (.int .u8 4) := by rw [hb.cell (by simp), cell_new]; rfl
    have hc3 : w1.cell? ⟨w.heap.size, 3, none⟩ = some (.slice (some ⟨b, o, none⟩) 2 kc) := by rw [hb.cell (by simp), cell_new]; rfl
    have hc2 : w1.cell? ⟨w.heap.size, 2, none⟩ = some (.slice ep en ec) := by rw [hb.cell (by simp), cell_new]; rfl
    have hbl1 : b < w1.heap.size := by omega
    clear hb
    have HBW := Lib.hid (HB1.out.alloc HB1.out.size (.cells #[.string ⟨#[64]⟩, .string (decB rr), .string ⟨#[41]⟩] 9))
    have HAT0 := Lib.hid (row_made encS_len (by omega) w1 9 (atL rr) 3 #[.string ⟨#[64]⟩, .string (decB rr), .string ⟨#[41]⟩] rfl rfl (by decide))
    have hW0 : (w1.alloc (.cells #[.string ⟨#[64]⟩, .string (decB rr), .string ⟨#[41]⟩] 9)).heap.size = w1.heap.size + 1 := by simp
    have hC0 : (w1.alloc (.cells #[.string ⟨#[64]⟩, .string (decB rr), .string ⟨#[41]⟩] 9)).cell? ⟨w.heap.size, 3, none⟩ = some (.slice (some ⟨b, o, none⟩) 2 kc) ∧ (w1.alloc (.cells #[.string ⟨#[64]⟩, .string (decB rr), .string ⟨#[41]⟩] 9)).cell? ⟨w.heap.size, 2, none⟩ = some (.slice ep en ec) := by
      have h := (Below.refl _ w1).alloc (Nat.le_refl _) (.cells #[.string ⟨#[64]⟩, .string (decB rr), .string ⟨#[41]⟩] 9)
      exact ⟨by rw [h.cell hlt1]; exact hc3, by rw [h.cell hlt1]; exact hc2⟩
    go_wp2_with fail
    clear hc0 hc2 hc3
    generalize w1.alloc (.cells #[.string ⟨#[64]⟩, .string (decB rr), .string ⟨#[41]⟩] 9) = W0 at *
    have HSS : Hid (∀ W, Below W0.heap.size W0 W → W.cell? ⟨w.heap.size, 3, none⟩ = some (.slice (some ⟨b, o, none⟩) 2 kc) ∧ W.cell? ⟨w.heap.size, 2, none⟩ = some (.slice ep en ec) ∧ W.cell? ⟨b, o, none⟩ = some (.int .u8 x.head.kind) ∧ W.cell? ⟨b, o + 1, none⟩ = some (.int .i64 x.head.rho) ∧ W.cell? ⟨b, o + 2, none⟩ = some (.slice x.head.ep x.head.en x.head.ec) ∧ W.cell? ⟨b, o + 3, none⟩ = some (.slice x.head.kp x.head.kn x.head.kc) ∧ W.cell? ⟨b, o + 4, none⟩ = some (.int .u8 y.head.kind) ∧ W.cell? ⟨b, o + 4 + 1, none⟩ = some (.int .i64 y.head.rho) ∧ W.cell? ⟨b, o + 4 + 2, none⟩ = some (.slice y.head.ep y.head.en y.head.ec) ∧ W.cell? ⟨b, o + 4 + 3, none⟩ = some (.slice y.head.kp y.head.kn y.head.kc) ∧ Below W0.heap.size W0 W) := fun W h => by
      obtain ⟨⟨a0, a1, a2, a3⟩, b0, b1, b2, b3⟩ := HKC.out W (HBW.out.trans (h.mono HBW.out.size))
      exact ⟨by rw [h.cell (by show w.heap.size < _; omega)]; exact hC0.1, by rw [h.cell (by show w.heap.size < _; omega)]; exact hC0.2, a0, a1, a2, a3, b0, b1, b2, b3, h⟩
    have HBZ : Hid (∀ W, Below W0.heap.size W0 W → Below w.heap.size w W) := fun W h => HBW.out.trans (h.mono HBW.out.size)
    clear hC0
    have HK : Hid (∀ t ∈ [x, y], ∀ W, Below W0.heap.size W0 W → Calls Tryz.prog 149 #[aggR t.head] W fun e w' => e = .returned (.string (textT (PT.er t))) ∧ Below W.heap.size W w') := fun t ht W h => HF.out t ht W (HBZ.out W h)
    have HE : Hid (∀ W, Below W0.heap.size W0 W → Calls Tryz.prog 124 #[.slice ep en ec] W fun e w' => e = .returned (.string (textA (effL eff))) ∧ Below W.heap.size W w') := fun W h => HEF.out W (HBZ.out W h)
    go_region_held3 (fun W => W.cell? ⟨w.heap.size, 3, none⟩ = some (.slice (some ⟨b, o, none⟩) 2 kc) ∧ W.cell? ⟨w.heap.size, 2, none⟩ = some (.slice ep en ec) ∧ W.cell? ⟨b, o, none⟩ = some (.int .u8 x.head.kind) ∧ W.cell? ⟨b, o + 1, none⟩ = some (.int .i64 x.head.rho) ∧ W.cell? ⟨b, o + 2, none⟩ = some (.slice x.head.ep x.head.en x.head.ec) ∧ W.cell? ⟨b, o + 3, none⟩ = some (.slice x.head.kp x.head.kn x.head.kc) ∧ W.cell? ⟨b, o + 4, none⟩ = some (.int .u8 y.head.kind) ∧ W.cell? ⟨b, o + 4 + 1, none⟩ = some (.int .i64 y.head.rho) ∧ W.cell? ⟨b, o + 4 + 2, none⟩ = some (.slice y.head.ep y.head.en y.head.ec) ∧ W.cell? ⟨b, o + 4 + 3, none⟩ = some (.slice y.head.kp y.head.kn y.head.kc) ∧ Below W0.heap.size W0 W)
      (first
        | exact HSS.out _ (bel_drew _)
        | exact HSS.out _ (bel_alloc (by go_split_ands; assumption) _)
        | exact HSS.out _ hZ)
      (first
        | (go_at_call 149; refine (HK.out _ (by simp) _ (by go_split_ands; assumption)).mono ?_; rintro e w2 ⟨rfl, hb2⟩; have hZ := bel_step (w0 := W0) (by go_split_ands; assumption) hb2)
        | (go_at_call 124; refine (HE.out _ (by go_split_ands; assumption)).mono ?_; rintro e w2 ⟨rfl, hb2⟩; have hZ := bel_step (w0 := W0) (by go_split_ands; assumption) hb2))
    rename_i hH
    clear hH
    have HB2 := Lib.hid (HBZ.out _ hZ)
    have hle2 : w1.heap.size ≤ w2.heap.size := by have := hZ.size; omega
    have HAT := Lib.hid (HAT0.out.below hZ)
    clear hZ hb2 HSS HBZ HK HE hW0
    have HJS : Hid ((joinB ([⟨#[40]⟩, textT (PT.er x), ⟨#[45, 62]⟩, textT (PT.er y), ⟨#[33]⟩, textA (effL eff)] ++ atL rr)).size ≤ 140737488355328) := by have h1 := HS.out; have h2 := HJ.out; show _ ≤ _; rw [h2] at h1; omega
    have HOL := Lib.hid (own_made encS_len w2 w.heap.size 9 [⟨#[40]⟩, textT (PT.er x), ⟨#[45, 62]⟩, textT (PT.er y), ⟨#[33]⟩, textA (effL eff)] 6 (([⟨#[40]⟩, textT (PT.er x), ⟨#[45, 62]⟩, textT (PT.er y), ⟨#[33]⟩, textA (effL eff)]).flatMap encS).toArray rfl rfl (by decide) (Nat.le_trans (Nat.le_of_lt hlt1) hle2))
    have HAL := Lib.hid (HAT.out.alloc (.cells (([⟨#[40]⟩, textT (PT.er x), ⟨#[45, 62]⟩, textT (PT.er y), ⟨#[33]⟩, textA (effL eff)]).flatMap encS).toArray 9))
    have HBL := Lib.hid (HB2.out.alloc HB2.out.size (.cells (([⟨#[40]⟩, textT (PT.er x), ⟨#[45, 62]⟩, textT (PT.er y), ⟨#[33]⟩, textA (effL eff)]).flatMap encS).toArray 9))
    go_wp2_with (at_builtin; refine wpList_appendR rfl _ _ 44 rfl w.heap.size 9 _ 1 16 Tryz.underlying44 infoS rfl (by decide) encS encS_len encS_one (atL rr) [⟨#[40]⟩, textT (PT.er x), ⟨#[45, 62]⟩, textT (PT.er y), ⟨#[33]⟩, textA (effL eff)] 6 _ HOL.out _ 3 _ rfl rfl rfl (by intro h; cases h) HAL.out.row ?c1 ?c2 ?c3 ?_)
    case c1 => omega
    case c2 => omega
    case c3 => exact HBL.out.size
    · intro v6 w6 hown6 hg6
      have HO6 := Lib.hid hown6
      have HB6 := Lib.hid (Below.own HBL.out hg6 HBL.out.size HOL.out)
      clear hown6 hg6
      go_wp2_with fail
      refine (join_own HO6.out (by omega) (by omega) HJS.out).mono ?_
      rintro e w7 ⟨rfl, hb⟩
      have HB7 := Lib.hid (HB6.out.trans (hb.mono HB6.out.size))
      clear hb
      go_wp2_with fail
      go_ret
      exact ⟨ret_str HJ.out.symm, HB7.out⟩
  · exfalso
    simp [nodeB, RH.plain, h1, h2, h3, h4] at hn

theorem textOne_size {l : List Atom} (hg : greatB l = false) (hok : ∀ x ∈ l, okAt x) : ∀ a ∈ l, atomB a = true → (textOne a).size ≤ 1000000 := by
  intro a ha _
  have h := hok a ha
  have hs : a.exn.size ≤ 100 := by
    unfold greatB at hg
    simp only [Bool.or_eq_false_iff, List.any_eq_false] at hg
    have := hg.2 a ha
    simp at this
    omega
  have hd := decB_size a.rho h.r0 h.r1
  have e1 : bGet.size = 3 := rfl
  have e2 : bPut.size = 3 := rfl
  have e3 : bExn.size = 3 := rfl
  have e4 : bSp.size = 1 := rfl
  unfold textOne
  split
  · simp only [ByteArray.size_append]; omega
  · split <;> (simp only [ByteArray.size_append]; omega)

/-- what texts want of a type: it may be, and its effects are small -/
def textOK (t : PT) : Bool := Rose.all (fun a n => nodeB a.plain n && !greatB a.eff) t
theorem textOK_node (a : RH) (l : List PT) : textOK (.node a l) = ((nodeB a.plain l.length && !greatB a.eff) && l.all textOK) := Rose.all_node _ a l
theorem greatB_len' {l : List Atom} (h : greatB l = false) : l.length ≤ 100 := by
  unfold greatB at h
  simp only [Bool.or_eq_false_iff, decide_eq_false_iff_not] at h
  omega
theorem textAt_any (t : PT) : ∀ w, LR.lies w t → Tab w → textOK t = true → (textT t.er).size ≤ 1000000000000 → TextAt t w := by
  refine Rose.ind (P := fun (t : PT) => ∀ w, LR.lies w t → Tab w → textOK t = true → (textT t.er).size ≤ 1000000000000 → TextAt t w) (fun a l ih => ?_) t
  intro w hl hT ho hs
  have HN := nodeIn hl
  rw [textOK_node, Bool.and_eq_true, Bool.and_eq_true, List.all_eq_true] at ho
  obtain ⟨⟨hn, hg⟩, hk⟩ := ho
  have hg : greatB a.eff = false := by simpa using hg
  have hsz := textOne_size hg HN.own.ok
  have hlen := greatB_len' hg
  refine rtype_text_of HN (by rw [← HN.kids.len]; exact hn) (digOK_of HN.own.r0 HN.own.r1 hT) ?_ hs ?_
  · intro W hW
    exact effect_Text_any a.ep a.en a.ec a.eff W HN.own.eff.len (by have := HN.own.eff.len; omega) (HN.own.eff.below hW).row (fun x hx _ _ => digOK_of (HN.own.ok x hx).r0 (HN.own.ok x hx).r1 (hT.below hW)) hsz
  · intro x hx W hW
    exact ih x hx W (LR.lies_below hW x (HN.each x hx)) (hT.below hW) (hk x hx) (Nat.le_trans (nodeText_mem hn hx) hs)
end

section
open Go.RowKit Go.Sort Go.Lib

theorem rowT_made {w : World} {t : PT} (hl : LR.lies w t) (e : Nat) : RowT (w.alloc (.cells #[.int .u8 t.head.kind, .int .i64 t.head.rho, .slice t.head.ep t.head.en t.head.ec, .slice t.head.kp t.head.kn t.head.kc] e)) (some ⟨w.heap.size, 0, none⟩) 1 1 [t] := by
  refine ⟨row_made LRlen (by omega) w e [t] 1 _ ?_ rfl (by decide), fun x hx => ?_⟩
  · simp [encT_LR, encRH]
  · have : x = t := by simpa using hx
    subst this
    exact LR.lies_below ((Below.refl _ w).alloc (Nat.le_refl _) _) x hl
theorem rtype_May_one {w : World} {t : PT} (hl : LR.lies w t) {r : Bool} (hr : mayT t.er = r) (ty : Nat) {g : Nat} (hgs : w.heap.size = g) :
    Calls Tryz.prog 93 #[.slice (some ⟨g, 0, none⟩) 1 1] (w.alloc (.cells #[.int .u8 t.head.kind, .int .i64 t.head.rho, .slice t.head.ep t.head.en t.head.ec, .slice t.head.kp t.head.kn t.head.kc] ty)) fun e w' => e = .returned (.bool r) ∧ Below (w.heap.size + 1) (w.alloc (.cells #[.int .u8 t.head.kind, .int .i64 t.head.rho, .slice t.head.ep t.head.en t.head.ec, .slice t.head.kp t.head.kn t.head.kc] ty)) w' := by
  subst hr
  subst hgs
  have h := rtype_May_any (rowT_made hl ty)
  refine h.mono ?_
  rintro e w' ⟨rfl, hb⟩
  exact ⟨by simp, by simpa using hb⟩
theorem textOK_of {t : PT} : mayT t.er = true → effsOK t.er = true → textOK t = true := by
  refine Rose.ind (P := fun (t : PT) => mayT t.er = true → effsOK t.er = true → textOK t = true) (fun a l ih hm hg => ?_) t
  rw [mayT_er, Bool.and_eq_true, List.all_eq_true] at hm
  rw [PT.er_node, effsOK_node, Bool.and_eq_true, List.all_map, List.all_eq_true] at hg
  rw [textOK_node, Bool.and_eq_true, Bool.and_eq_true, List.all_eq_true]
  exact ⟨⟨hm.1, hg.1⟩, fun x hx => ih x hx (hm.2 x hx) (hg.2 x hx)⟩
/-- Text's answer -/
def textR (t : RT) : Value := .tuple #[.string (if mayT t then textT t else .empty), .int .i64 (if mayT t then 0 else 1)]
set_option maxHeartbeats 1000000 in
theorem rtype_Text_any {t : PT} {w : World} (hl : LR.lies w t) (hT : Tab w) (hg : effsOK t.er = true) (hs : (textT t.er).size ≤ 1000000000000) :
    Calls Tryz.prog 123 #[aggR t.head] w fun e w' => e = .returned (textR t.er) ∧ Below w.heap.size w w' := by
  have HBX := Lib.hid ((Below.refl w.heap.size w).alloc (Nat.le_refl _) (.cells #[.int .u8 t.head.kind, .int .i64 t.head.rho, .slice t.head.ep t.head.en t.head.ec, .slice t.head.kp t.head.kn t.head.kc] 28))
  have HL0 := Lib.hid hl
  have HL := Lib.hid (LR.lies_below HBX.out t hl)
  have HTAB := Lib.hid hT
  have HS := Lib.hid hs
  cases hm : mayT t.er
  · have HR : Hid (textR t.er = .tuple #[.string .empty, .int .i64 1]) := by show _ = _; simp [textR, hm]
    have HM := Lib.hid hm
    clear hl hT hg hs hm
    go_enter Tryz.func123, Tryz.ntmps123
    go_wp2_with fail
    refine (rtype_May_one HL.out HM.out _ (by simp)).mono ?_
    rintro e w1 ⟨rfl, hb⟩
    have HB1 := Lib.hid ((HBX.out.alloc HBX.out.size _).trans (hb.mono (by simp; omega)))
    clear hb
    go_wp2_with fail
    go_ret2
    exact ⟨by rw [HR.out]; rfl, HB1.out⟩
  · have HR : Hid (textR t.er = .tuple #[.string (textT t.er), .int .i64 0]) := by show _ = _; simp [textR, hm]
    have HTA := Lib.hid (fun W (hW : Below w.heap.size w W) => textAt_any t W (LR.lies_below hW t hl) (hT.below hW) (textOK_of hm hg) hs)
    have HM := Lib.hid hm
    clear hl hT hg hs hm
    go_enter Tryz.func123, Tryz.ntmps123
    go_wp2_with fail
    refine (rtype_May_one HL.out HM.out _ (by simp)).mono ?_
    rintro e w1 ⟨rfl, hb⟩
    have HB1 := Lib.hid ((HBX.out.alloc HBX.out.size _).trans (hb.mono (by simp; omega)))
    have hc : w1.cell? ⟨w.heap.size, 0, none⟩ = some (.int .u8 t.head.kind) ∧ w1.cell? ⟨w.heap.size, 1, none⟩ = some (.int .i64 t.head.rho) ∧ w1.cell? ⟨w.heap.size, 2, none⟩ = some (.slice t.head.ep t.head.en t.head.ec) ∧ w1.cell? ⟨w.heap.size, 3, none⟩ = some (.slice t.head.kp t.head.kn t.head.kc) := by
      refine ⟨?_, ?_, ?_, ?_⟩ <;> (rw [hb.cell (by simp; omega)]; go_simp)
    obtain ⟨d0, d1, d2, d3⟩ := hc
    clear hb
    go_wp2_with fail
    refine (HTA.out _ HB1.out).mono ?_
    rintro e w2 ⟨rfl, hb⟩
    have HB2 := Lib.hid (HB1.out.trans (hb.mono HB1.out.size))
    clear hb d0 d1 d2 d3
    go_wp2_with fail
    go_ret2
    exact ⟨by rw [HR.out]; rfl, HB2.out⟩

/-- an int, and a pair of two, as they lie -/
def intH : RH := ⟨1, 0, none, 0, 0, [], none, 0, 0⟩
def intT : PT := .node intH []
theorem intT_own (w : World) : RH.Own w intH := ⟨IsRow.none _ _ _, by simp [intH], by decide, by decide, by decide, by decide, by decide, by decide, fun _ => rfl⟩
theorem intT_lies (w : World) : LR.lies w intT := (NodeIn.lies ⟨intT_own w, IsRow.none _ _ _, by simp⟩)
def pairH (g : Nat) : RH := ⟨2, 3, none, 0, 0, [], some ⟨g, 0, none⟩, 2, 2⟩
def pairT (g : Nat) : PT := .node (pairH g) [intT, intT]
theorem pairT_lies {w : World} (e : Nat) : LR.lies (w.alloc (.cells #[.int .u8 1, .int .i64 0, .slice none 0 0, .slice none 0 0, .int .u8 1, .int .i64 0, .slice none 0 0, .slice none 0 0] e)) (pairT w.heap.size) := by
  refine NodeIn.lies ⟨⟨IsRow.none _ _ _, by simp [pairH], by simp [pairH], by simp [pairH], by simp [pairH], by simp [pairH], by simp [pairH], by simp [pairH], fun h => by cases h⟩, row_made LRlen (by omega) w e [intT, intT] 2 _ ?_ rfl (by decide), fun x hx => ?_⟩
  · simp [encT_LR, encRH, intT, Rose.head, intH]
  · have : x = intT := by simpa using hx
    subst this
    exact intT_lies _
def bPair : ByteArray := ⟨#[40, 32, 105, 110, 116, 32, 42, 32, 105, 110, 116, 32, 64, 32, 51, 32, 41]⟩
theorem pairT_text (g : Nat) : textT (pairT g).er = bPair := by
  have e : textT (pairT g).er = joinB ([⟨#[40]⟩, bInt, ⟨#[42]⟩, bInt] ++ [⟨#[64]⟩, decB ((3 : Nat) : Int), ⟨#[41]⟩]) := rfl
  rw [e, decB_small (by omega)]
  decide
theorem pairT_Text {g : Nat} {w : World} (hl : LR.lies w (pairT g)) (hT : Tab w) :
    Calls Tryz.prog 123 #[.agg #[.int .u8 2, .int .i64 3, .slice none 0 0, .slice (some ⟨g, 0, none⟩) 2 2]] w fun e w' => e = .returned (.tuple #[.string bPair, .int .i64 0]) ∧ Below w.heap.size w w' := by
  have h := rtype_Text_any hl hT rfl (by rw [pairT_text]; decide)
  have e : textR (pairT g).er = .tuple #[.string bPair, .int .i64 0] := by
    have hm : mayT (pairT g).er = true := rfl
    unfold textR; rw [pairT_text, hm]; rfl
  rw [e] at h
  exact h
theorem pairT_gath (g : Nat) : sortI (gathL [pairT g]) = [3] := by
  have e : gathL [pairT g] = [3] := rfl
  rw [e]; decide
end

section
open Go.RowKit Go.Sort Go.Lib

theorem sum_le_mul {α : Type} (f g : α → Nat) (k : Nat) : ∀ l : List α, (∀ x ∈ l, f x ≤ k * g x) → (l.map f).sum ≤ k * (l.map g).sum
  | [], _ => by simp
  | x :: l, h => by
    have h1 := h x (List.mem_cons_self ..)
    have h2 := sum_le_mul f g k l (fun y hy => h y (List.mem_cons_of_mem _ hy))
    simp only [List.map_cons, List.sum_cons, Nat.mul_add]; omega
theorem ownR_le (a : LH) (h : greatB a.eff = false) : (ownR a).length ≤ 101 := by
  unfold ownR
  have h1 := rhosOf_length a.eff
  have h2 := greatB_len' h
  split
  · simp
  · simp only [List.length_cons]; omega
theorem gath_le (t : RT) : effsOK t = true → (gathT t).length ≤ 101 * t.size := by
  refine Rose.ind (P := fun t => effsOK t = true → (gathT t).length ≤ 101 * t.size) (fun a l ih h => ?_) t
  rw [effsOK_node, Bool.and_eq_true, List.all_eq_true] at h
  rw [gathT_node, List.length_append, Rose.size_node, List.length_flatMap]
  have h1 := ownR_le a (by simpa using h.1)
  have h2 := sum_le_mul (fun t => (gathT t).length) Rose.size 101 l (fun x hx => ih x hx (h.2 x hx))
  omega
theorem enOK_one (t : PT) {w : World} : LR.lies w t → effsOK t.er = true → Rose.all (fun a _ => decide (a.en ≤ 1000000)) t = true := by
  refine Rose.ind (P := fun (t : PT) => LR.lies w t → effsOK t.er = true → Rose.all (fun a _ => decide (a.en ≤ 1000000)) t = true) (fun a l ih hl h => ?_) t
  have HN := nodeIn hl
  rw [PT.er_node, effsOK_node, Bool.and_eq_true, List.all_map, List.all_eq_true] at h
  rw [Rose.all_node, Bool.and_eq_true, List.all_eq_true]
  refine ⟨?_, fun x hx => ih x hx (HN.each x hx) (h.2 x hx)⟩
  have h1 := greatB_len' (show greatB a.eff = false by simpa [RH.plain] using h.1)
  have h2 := HN.own.eff.len
  simp; omega
theorem er_size (t : PT) : t.er.size = t.size := Rose.size_map _ t
/-- facts of a small type -/
structure SmallP (t : PT) : Prop where
  size : t.size ≤ 100
  sizes : sizes t.kids + 1 = t.size
  gath : (gathL t.kids).length ≤ 10100
  gath1 : (gathL [t]).length ≤ 10100
  en : enOK t.kids
  en1 : enOK [t]
  effs : effsOK t.er = true
  eff : greatB t.head.eff = false
theorem smallP {t : PT} {w : World} (hl : LR.lies w t) (h : SmallT t.er 100) : SmallP t := by
  have hs := h.size
  rw [er_size] at hs
  have hg := gath_le t.er h.effs
  rw [er_size] at hg
  have hg1 : (gathL [t]).length ≤ 10100 := by unfold gathL; simp; omega
  refine ⟨hs, sizes_kids t, ?_, hg1, ?_, ?_, h.effs, ?_⟩
  · exact Nat.le_trans (gathL_mem (l := [t]) (by simp)) hg1
  · obtain ⟨a, l⟩ := t
    have HN := nodeIn hl
    intro x hx
    refine enOK_one x (HN.each x hx) ?_
    have := h.effs
    rw [PT.er_node, effsOK_node, Bool.and_eq_true, List.all_map, List.all_eq_true] at this
    exact this.2 x hx
  · intro x hx
    have : x = t := by simpa using hx
    subst this
    exact enOK_one x hl h.effs
  · obtain ⟨a, l⟩ := t
    exact SmallT.eff h
theorem rowT_cells {w : World} {b : Nat} {t : PT} (hl : LR.lies w t) (h0 : w.cell? ⟨b, 0, none⟩ = some (.int .u8 t.head.kind)) (h1 : w.cell? ⟨b, 1, none⟩ = some (.int .i64 t.head.rho)) (h2 : w.cell? ⟨b, 2, none⟩ = some (.slice t.head.ep t.head.en t.head.ec)) (h3 : w.cell? ⟨b, 3, none⟩ = some (.slice t.head.kp t.head.kn t.head.kc)) :
    RowT w (some ⟨b, 0, none⟩) 1 1 [t] := by
  refine ⟨⟨rfl, by omega, by omega, (fun h => by cases h), .inr ⟨b, 0, rfl, cell_block h0, fun j x hx i u hi => ?_⟩⟩, fun x hx => ?_⟩
  · rcases j with _ | j
    · simp at hx; subst hx
      rw [encT_LR] at hi
      unfold encRH at hi
      match i with
      | 0 => simp at hi; subst hi; simpa using h0
      | 1 => simp at hi; subst hi; simpa using h1
      | 2 => simp at hi; subst hi; simpa using h2
      | 3 => simp at hi; subst hi; simpa using h3
      | i + 4 => simp at hi
    · simp at hx
  · have : x = t := by simpa using hx
    subst this; exact hl

theorem eqN_refl (l : List Int) : eqN l l = true := by simp [eqN]
theorem putI_len {a : Int} {l : List Int} {k : Nat} (h : l.length ≤ k) : (putI a l).length ≤ k + 1 := Nat.le_trans (putI_length a l) (by omega)
/-- a type's regions: its own, its effect's, its kids' -/
theorem parts_eq (t : PT) (hk : t.head.kind ≠ 1) : (rhosOf t.head.eff).foldl (fun e a => putI a e) (putI t.head.rho (sortI (gathL t.kids))) = sortI (gathL [t]) := by
  obtain ⟨h1, h2⟩ := foldI (rhosOf t.head.eff) _ (rising_putI t.head.rho _ (rising_sortI (gathL t.kids)))
  refine eq_sortI h1 (fun x => ?_)
  rw [h2, mem_putI, mem_sortI]
  have e : gathL [t] = ownR t.head.plain ++ gathL t.kids := by
    unfold gathL; simp; rw [gathT_kids]; rfl
  rw [e, List.mem_append]
  have e2 : ownR t.head.plain = t.head.rho :: rhosOf t.head.eff := by unfold ownR; rw [if_neg (show ¬ t.head.plain.kind = 1 from hk)]; rfl
  rw [e2, List.mem_cons]
  constructor
  · rintro ((h | h) | h)
    · exact .inl (.inl h)
    · exact .inr h
    · exact .inl (.inr h)
  · rintro ((h | h) | h)
    · exact .inl (.inl h)
    · exact .inr h
    · exact .inl (.inr h)
theorem parts_eq1 (t : PT) (hk : t.head.kind = 1) : sortI (gathL t.kids) = sortI (gathL [t]) := by
  have e : gathL [t] = ownR t.head.plain ++ gathL t.kids := by
    unfold gathL; simp; rw [gathT_kids]; rfl
  rw [e]; unfold ownR; rw [if_pos (show t.head.plain.kind = 1 from hk)]; rfl
end
end Go.Proofs.YtdlbjngpohkglaaGreatDoor
end
