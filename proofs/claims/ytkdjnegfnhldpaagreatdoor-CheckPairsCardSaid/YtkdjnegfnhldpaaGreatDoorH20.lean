/- Part 20: Cm, Ca, Cl, Hs, Tk, Rv. -/
import Derived.Test.YtkdjnegfnhldpaaGreatDoorH19
import Derived.Test.YtkdjnegfnhldpaaGreatDoorH06
import Derived.WalkSmall
import Derived.Test.YtkdjnegfnhldpaaGreatDoorH10
import Derived.Test.YtkdjnegfnhldpaaGreatDoorH08
import Derived.ArgAppend
import Derived.Deep.Upon
import Derived.Test.YtkdjnegfnhldpaaGreatDoorH16
import Derived.Test.YtkdjnegfnhldpaaGreatDoorH07
import Derived.Deep.RegionHeld3
import Derived.Test.YtkdjnegfnhldpaaGreatDoorH09
set_option linter.unusedVariables false
set_option maxRecDepth 100000
set_option linter.unusedSimpArgs false
namespace Go.Proofs.YtkdjnegfnhldpaaGreatDoor
open Go.Lib (hid)
section
open Go.RowKit
def blkOf : Option Addr → List Nat
  | some ad => [ad.block]
  | none => []
theorem mem_blkOf {p : Option Addr} {b : Nat} : b ∈ blkOf p ↔ ∃ ad, p = some ad ∧ ad.block = b := by
  cases p with
  | none => simp [blkOf]
  | some ad => simp [blkOf, eq_comm]
def usesR : PT → List Nat := Rose.fold (fun a l => (if l.isEmpty then [] else blkOf a.kp) ++ (if a.eff.isEmpty then [] else blkOf a.ep) ++ l.flatten)
theorem usesR_node (a : RH) (l : List PT) : usesR (.node a l) = (if l.isEmpty then [] else blkOf a.kp) ++ (if a.eff.isEmpty then [] else blkOf a.ep) ++ l.flatMap usesR := by
  unfold usesR
  rw [Rose.fold_node, List.isEmpty_map, List.flatMap_def]
theorem usesR_kp {a : RH} {l : List PT} {ad : Addr} (hl : l ≠ []) (h : a.kp = some ad) : ad.block ∈ usesR (.node a l) := by
  rw [usesR_node]
  cases l with
  | nil => exact absurd rfl hl
  | cons x l => simp [mem_blkOf, h]
theorem usesR_ep {a : RH} {l : List PT} {ad : Addr} (hl : a.eff ≠ []) (h : a.ep = some ad) : ad.block ∈ usesR (.node a l) := by
  rw [usesR_node]
  cases he : a.eff with
  | nil => exact absurd he hl
  | cons x m => simp [mem_blkOf, h]
theorem usesR_kid {a : RH} {l : List PT} {t : PT} (ht : t ∈ l) {b : Nat} (hb : b ∈ usesR t) : b ∈ usesR (.node a l) := by
  rw [usesR_node]
  exact List.mem_append.2 (.inr (List.mem_flatMap.2 ⟨t, ht, hb⟩))
theorem usesR_cases {a : RH} {l : List PT} {b : Nat} (h : b ∈ usesR (.node a l)) : (l ≠ [] ∧ ∃ ad, a.kp = some ad ∧ ad.block = b) ∨ (a.eff ≠ [] ∧ ∃ ad, a.ep = some ad ∧ ad.block = b) ∨ ∃ t ∈ l, b ∈ usesR t := by
  rw [usesR_node, List.mem_append, List.mem_append] at h
  rcases h with (h | h) | h
  · refine .inl ?_
    split at h
    · cases h
    · rename_i hl
      exact ⟨by intro e; subst e; simp at hl, mem_blkOf.1 h⟩
  · refine .inr (.inl ?_)
    split at h
    · cases h
    · rename_i hl
      exact ⟨by intro e; rw [e] at hl; simp at hl, mem_blkOf.1 h⟩
  · exact .inr (.inr (List.mem_flatMap.1 h))
theorem rowE_lt {α : Type} {enc : α → List Value} {k : Nat} {w : World} {p : Option Addr} {l : List α} (h : RowE enc k w p l) (hl : l ≠ []) {ad : Addr} (hp : p = some ad) : ad.block < w.heap.size := by
  rcases h with h | ⟨b, o, hb, hlt, _⟩
  · exact absurd h hl
  · rw [hp] at hb; cases hb; exact hlt
theorem lies_uses {w : World} (t : PT) : LR.lies w t → ∀ b ∈ usesR t, b < w.heap.size := by
  refine Rose.ind (P := fun (t : PT) => LR.lies w t → ∀ b ∈ usesR t, b < w.heap.size) (fun a l ih h b hb => ?_) t
  have hn := nodeIn h
  rcases usesR_cases hb with ⟨hl, ad, hp, rfl⟩ | ⟨hl, ad, hp, rfl⟩ | ⟨u, hu, hb⟩
  · exact rowE_lt hn.kids.row hl hp
  · exact rowE_lt hn.own.eff.row hl hp
  · exact ih u hu (hn.each u hu) b hb
theorem lies_grownU {w w' : World} {r : Option Nat} (hg : w.grownBy w' r) (t : PT) : (∀ b ∈ usesR t, r ≠ some b) → LR.lies w t → LR.lies w' t := by
  refine Rose.ind (P := fun (t : PT) => (∀ b ∈ usesR t, r ≠ some b) → LR.lies w t → LR.lies w' t) (fun a l ih ho h => ?_) t
  have hn := nodeIn h
  refine NodeIn.lies ⟨⟨isRow_grown hg (fun he ad hp => ho _ (usesR_ep he hp)) hn.own.eff, hn.own.ok, hn.own.k0, hn.own.k1, hn.own.r0, hn.own.r1, hn.own.kmax, hn.own.kle, hn.own.knil⟩, isRow_grown hg (fun hl ad hp => ho _ (usesR_kp hl hp)) hn.kids, fun t ht => ih t ht (fun b hb => ho b (usesR_kid ht hb)) (hn.each t ht)⟩
theorem span_uses {N B E : Nat} (t : PT) : SpanR N B E t → ∀ b ∈ usesR t, b < N ∨ B ≤ b := by
  refine Rose.ind (P := fun (t : PT) => SpanR N B E t → ∀ b ∈ usesR t, b < N ∨ B ≤ b) (fun a l ih h b hb => ?_) t
  have h0 := h a (by rw [Rose.nodes_node]; simp)
  rcases usesR_cases hb with ⟨hl, ad, hp, rfl⟩ | ⟨hl, ad, hp, rfl⟩ | ⟨u, hu, hb⟩
  · exact .inr (h0.1 ad hp).1
  · exact (h0.2 hl ad hp).1
  · exact ih u hu (fun x hx => h x (by rw [Rose.nodes_node, List.mem_cons, List.mem_flatten]; exact .inr ⟨u.nodes, List.mem_map_of_mem hu, hx⟩)) b hb
structure BV where
  name : ByteArray
  ty : PT
  fn : Option (AH × Nat)
def encBV (b : BV) : List Value := [.string b.name, .int .u8 b.ty.head.kind, .int .i64 b.ty.head.rho, .slice b.ty.head.ep b.ty.head.en b.ty.head.ec, .slice b.ty.head.kp b.ty.head.kn b.ty.head.kc, .pointer (b.fn.map (fun x => ⟨x.2, 0, none⟩))]
theorem encBV_len (b : BV) : (encBV b).length = 6 := rfl
theorem encBV_one : ∀ b : BV, ∀ u ∈ encBV b, u.oneCell' = true := by
  intro b u hu
  simp [encBV] at hu
  rcases hu with rfl | rfl | rfl | rfl | rfl | rfl <;> rfl
abbrev aggBV (b : BV) : Value := .agg #[.string b.name, .int .u8 b.ty.head.kind, .int .i64 b.ty.head.rho, .slice b.ty.head.ep b.ty.head.en b.ty.head.ec, .slice b.ty.head.kp b.ty.head.kn b.ty.head.kc, .pointer (b.fn.map (fun x => ⟨x.2, 0, none⟩))]
def BV.er (b : BV) : Bnd := ⟨b.name, b.ty.er, b.fn.map (fun x => x.1.plain)⟩
structure BV.Ok (w0 w : World) (S : Nat → Prop) (b : BV) : Prop where
  ty : LR.lies w b.ty
  uses : ∀ x ∈ usesR b.ty, S x
  fn : ∀ a g, b.fn = some (a, g) → CellsA w g 0 a ∧ AH.Own w0 a ∧ g < w.heap.size
  name : b.name.size ≤ 9223372036854775807
theorem BV.Ok.below {w0 w w' : World} {S : Nat → Prop} {b : BV} (h : b.Ok w0 w S) (hb : Below w.heap.size w w') : b.Ok w0 w' S :=
  ⟨LR.lies_below hb _ h.ty, h.uses, fun a g e => ⟨(h.fn a g e).1.below hb (h.fn a g e).2.2, (h.fn a g e).2.1, Nat.lt_of_lt_of_le (h.fn a g e).2.2 hb.size⟩, h.name⟩
theorem BV.Ok.weak {w0 w : World} {S S' : Nat → Prop} {b : BV} (h : b.Ok w0 w S) (hs : ∀ x ∈ usesR b.ty, S' x) : b.Ok w0 w S' := ⟨h.ty, hs, h.fn, h.name⟩
structure EnvAt (w0 w : World) (S : Nat → Prop) (p : Option Addr) (n c : Nat) (env : List BV) : Prop where
  row : IsRow encBV 6 w p n c env
  each : ∀ b ∈ env, b.Ok w0 w S
theorem EnvAt.below {w0 w w' : World} {S : Nat → Prop} {p : Option Addr} {n c : Nat} {env : List BV} (h : EnvAt w0 w S p n c env) (hb : Below w.heap.size w w') : EnvAt w0 w' S p n c env := ⟨h.row.below hb, fun b hbm => (h.each b hbm).below hb⟩
theorem EnvAt.weak {w0 w : World} {S S' : Nat → Prop} {p : Option Addr} {n c : Nat} {env : List BV} (h : EnvAt w0 w S p n c env) (hs : ∀ x, x < w.heap.size → S x → S' x) : EnvAt w0 w S' p n c env :=
  ⟨h.row, fun b hb => (h.each b hb).weak (fun x hx => hs x (lies_uses _ (h.each b hb).ty x hx) ((h.each b hb).uses x hx))⟩
def erE (env : List BV) : List Bnd := env.map BV.er
structure RV where
  ty : PT
  ep : Option Addr
  en : Nat
  ec : Nat
  eff : List Atom
def encRV (r : RV) : List Value := [.int .u8 r.ty.head.kind, .int .i64 r.ty.head.rho, .slice r.ty.head.ep r.ty.head.en r.ty.head.ec, .slice r.ty.head.kp r.ty.head.kn r.ty.head.kc, .slice r.ep r.en r.ec]
theorem encRV_len (r : RV) : (encRV r).length = 5 := rfl
theorem encRV_one : ∀ r : RV, ∀ u ∈ encRV r, u.oneCell' = true := by
  intro r u hu
  simp [encRV] at hu
  rcases hu with rfl | rfl | rfl | rfl | rfl <;> rfl
abbrev aggRV (r : RV) : Value := .agg #[.int .u8 r.ty.head.kind, .int .i64 r.ty.head.rho, .slice r.ty.head.ep r.ty.head.en r.ty.head.ec, .slice r.ty.head.kp r.ty.head.kn r.ty.head.kc, .slice r.ep r.en r.ec]
def RV.er (r : RV) : TE := (r.ty.er, r.eff)
structure RV.Ok (w : World) (S : Nat → Prop) (r : RV) : Prop where
  ty : LR.lies w r.ty
  uses : ∀ x ∈ usesR r.ty, S x
  eff : IsRow encA 3 w r.ep r.en r.ec r.eff
  eok : ∀ x ∈ r.eff, okAt x
  euse : r.eff ≠ [] → ∀ ad, r.ep = some ad → S ad.block
theorem RV.Ok.below {w w' : World} {S : Nat → Prop} {r : RV} (h : r.Ok w S) (hb : Below w.heap.size w w') : r.Ok w' S := ⟨LR.lies_below hb _ h.ty, h.uses, h.eff.below hb, h.eok, h.euse⟩
theorem RV.Ok.weak {w : World} {S S' : Nat → Prop} {r : RV} (h : r.Ok w S) (hs : ∀ x, x < w.heap.size → S x → S' x) : r.Ok w S' :=
  ⟨h.ty, fun x hx => hs x (lies_uses _ h.ty x hx) (h.uses x hx), h.eff, h.eok, fun he ad hp => hs _ (rowE_lt h.eff.row he hp) (h.euse he ad hp)⟩
theorem RV.Ok.grown {w w' : World} {S : Nat → Prop} {r : RV} {row : Option Nat} (h : r.Ok w S) (hg : w.grownBy w' row) (hr : ∀ b, row = some b → ¬ S b) : r.Ok w' S :=
  ⟨lies_grownU hg _ (fun b hb e => hr b e (h.uses b hb)) h.ty, h.uses, isRow_grown hg (fun he ad hp e => hr _ e (h.euse he ad hp)) h.eff, h.eok, h.euse⟩
structure ResAt (w : World) (S : Nat → Prop) (p : Option Addr) (n c : Nat) (l : List RV) : Prop where
  row : IsRow encRV 5 w p n c l
  each : ∀ r ∈ l, r.Ok w S
theorem ResAt.below {w w' : World} {S : Nat → Prop} {p : Option Addr} {n c : Nat} {l : List RV} (h : ResAt w S p n c l) (hb : Below w.heap.size w w') : ResAt w' S p n c l := ⟨h.row.below hb, fun r hr => (h.each r hr).below hb⟩
def erL (l : List RV) : List TE := l.map RV.er
abbrev wrongV (at_ no : Int) : Value := .iface 79 (.agg #[.int .i64 at_, .int .i64 no])
def OutC (W : World) (S : Nat → Prop) (r : ChkR) (e : Ending) (w' : World) : Prop :=
  (match r with
    | .ok x => ∃ y : RV, e = .returned (aggRV y) ∧ y.er = x ∧ y.Ok w' S
    | .error (a, n) => e = .panicked [{ v := wrongV a n, recovered := false }]) ∧ Below W.heap.size W w'
end
section
open Go.RowKit
theorem check_get_any (r : Int) (w : World) : Calls Tryz.prog 137 #[.int .i64 r] w fun e w' => e = .returned (aggA (aGet r)) ∧ Below w.heap.size w w' := by
  go_enter Tryz.func137, Tryz.ntmps137
  go_wp2_with fail
  refine bodyPost_ret (results_cell_row rfl _ _ _ _ _ _ _ rfl (heap_alloc_new w _) Tryz.underlying59 rfl (by kernel_rfl)) rfl ?_
  exact ⟨rfl, (Below.refl w.heap.size w).alloc (Nat.le_refl _) _⟩
theorem check_put_any (r : Int) (w : World) : Calls Tryz.prog 138 #[.int .i64 r] w fun e w' => e = .returned (aggA (aPut r)) ∧ Below w.heap.size w w' := by
  go_enter Tryz.func138, Tryz.ntmps138
  go_wp2_with fail
  refine bodyPost_ret (results_cell_row rfl _ _ _ _ _ _ _ rfl (heap_alloc_new w _) Tryz.underlying59 rfl (by kernel_rfl)) rfl ?_
  exact ⟨rfl, (Below.refl w.heap.size w).alloc (Nat.le_refl _) _⟩
set_option maxHeartbeats 1000000 in
theorem must_yes (a : AH) (no : Int) (w : World) : Calls Tryz.prog 64 #[.bool true, aggT a, .int .i64 no] w fun e w' => e = .returned (.tuple #[]) ∧ Below w.heap.size w w' := by
  have HB := hid ((Below.refl w.heap.size w).alloc (Nat.le_refl _) (boxA a))
  go_enter Tryz.func64, Tryz.ntmps64
  go_wp2_with fail
  go_end0
  exact ⟨rfl, HB.out⟩
set_option maxHeartbeats 1000000 in
theorem must_no (a : AH) (no : Int) (w : World) : Calls Tryz.prog 64 #[.bool false, aggT a, .int .i64 no] w fun e w' => e = .panicked [{ v := wrongV a.at_ no, recovered := false }] ∧ Below w.heap.size w w' := by
  have HB := hid ((Below.refl w.heap.size w).alloc (Nat.le_refl _) (boxA a))
  go_enter Tryz.func64, Tryz.ntmps64
  go_wp2_with fail
  exact ⟨rfl, rfl, HB.out⟩
theorem result_is_any (r : RV) (k : Int) (w : World) : Calls Tryz.prog 141 #[aggRV r, .int .u8 k] w fun e w' => e = .returned (.bool (r.ty.head.kind == k)) ∧ Below w.heap.size w w' := by
  go_enter Tryz.func141, Tryz.ntmps141
  go_wp2_with fail
  go_ret
  exact ⟨ret_bool rfl, (Below.refl w.heap.size w).alloc (Nat.le_refl _) _⟩
set_option maxHeartbeats 1000000 in
theorem check_of_any (k rho : Int) {p : Option Addr} {n c : Nat} {l : List Atom} {w : World} (hr : IsRow encA 3 w p n c l) (hm : n ≤ 1000000) (kp : Option Addr) (kn kc : Nat) :
    Calls Tryz.prog 136 #[.int .u8 k, .int .i64 rho, .slice p n c, .slice kp kn kc] w fun e w' => ∃ q m qc, e = .returned (.agg #[.int .u8 k, .int .i64 rho, .slice q m qc, .slice kp kn kc]) ∧ IsRow encA 3 w' q m qc (effL l) ∧ (∀ ad, q = some ad → w.heap.size ≤ ad.block) ∧ Below w.heap.size w w' := by
  have hb0 : Below w.heap.size w (w.alloc (.cells #[.int .u8 0, .int .i64 0, .slice none 0 0, .slice none 0 0] 28)) := (Below.refl w.heap.size w).alloc (Nat.le_refl _) _
  have HR := hid (hr.below hb0)
  have HB0 := hid hb0
  clear hr hb0
  go_enter Tryz.func136, Tryz.ntmps136
  go_wp2_with fail
  refine (effect_Of_any p n c l _ HR.out.len hm HR.out.row).mono ?_
  rintro e w2 ⟨v, m, rfl, hle, hown, hb⟩
  obtain ⟨q, qc, rfl, hrow⟩ := OwnE.isRow encA_len (by omega) hown
  have hfrom := fun b hb => OwnE.from hown b hb
  have HROW := hid hrow
  have HFR := hid hfrom
  have HB := hid (HB0.out.trans (hb.mono HB0.out.size))
  have hblk : w2.heap[w.heap.size]? = some (.cells #[.int .u8 0, .int .i64 0, .slice none 0 0, .slice none 0 0] 28 (0, 0)) := (hb.block _ (by simp)).trans (heap_alloc_new w _)
  have HBLK := hid hblk
  clear hown hrow hfrom hb hblk
  go_wp2_with (refine wpList_store_row rfl 28 _ _ rfl w.heap.size #[.int .u8 k, .int .i64 rho, .slice q m qc, .slice kp kn kc] rfl rfl 28 _ HBLK.out (by kernel_rfl) rfl (by simp [Value.oneCell']) ?_)
  refine bodyPost_ret (results_cell_row rfl _ _ _ _ _ _ _ rfl (setRow_heap _ _ _ _ _ _ HBLK.out) Tryz.underlying28 rfl (by kernel_rfl)) rfl ?_
  have hg : w2.grownBy (w2.setRow w.heap.size #[.int .u8 k, .int .i64 rho, .slice q m qc, .slice kp kn kc]) (some w.heap.size) := ⟨rfl, rfl, rfl, by simp, fun k hk hne => setRow_other _ _ _ _ (fun e => hne (by rw [e]))⟩
  have hne : ∀ ad, q = some ad → w.heap.size + 1 ≤ ad.block := fun ad hp => by
    subst hp
    have := HFR.out ad.block rfl
    simpa using this
  exact ⟨q, m, qc, rfl, isRow_grown hg (fun _ ad hp e => by have := hne ad hp; injection e with e; omega) HROW.out, fun ad hp => by have := hne ad hp; omega, HB.out.grown hg HB.out.size (fun k e => by cases e; exact Nat.le_refl _)⟩
end
section
open Go.RowKit
theorem row_flat {α : Type} {enc : α → List Value} {k : Nat} (hk : ∀ x, (enc x).length = k) (hk0 : 0 < k) {w : World} {ad : Addr} {l : List α} (h : RowE enc k w (some ad) l) : ∀ j u, (l.flatMap enc)[j]? = some u → w.cell? (ad.add j) = some u := by
  intro j u hj
  rcases h with h0 | ⟨b, o', hb, hlt, hc⟩
  · subst h0; simp at hj
  · cases hb
    have hjl : j < l.length * k := by rw [← flat_length hk]; exact get_lt hj
    have hq : j / k < l.length := Nat.div_lt_of_lt_mul (by rw [Nat.mul_comm]; exact hjl)
    have hm : j % k < k := Nat.mod_lt _ hk0
    have hf := flat_get hk l (j / k) _ (j % k) (List.getElem?_eq_getElem hq) hm
    rw [Nat.div_add_mod' j k, hj] at hf
    have := hc (j / k) _ (List.getElem?_eq_getElem hq) (j % k) u hf.symm
    rw [add_lit', ← Nat.div_add_mod' j k, ← Nat.add_assoc]
    exact this
theorem run_append_clip {P : Program} {α : Type} {enc : α → List Value} {k : Nat} (hk : ∀ x, (enc x).length = k) (hk0 : 0 < k) (h1 : ∀ y, ∀ u ∈ enc y, u.oneCell' = true) (t ty e : TypeId) (z : Value) (bytes : Nat) (ht : P.underlying t = some (.slice e))
    (hinfo : (P.info? e).map (fun i => (i.zero, i.size, i.bytes)) = some (some z, k, bytes)) (hzs : z.cells.size = k) {w : World} {p q : Option Addr} {n m c : Nat} {l l' : List α} (hr : IsRow enc k w p n n l) (hr' : IsRow enc k w q m c l')
    (hbytes : (n + m) * bytes ≤ 140737488355328) (h63 : n + m ≤ 1000000) :
    ∃ p' c' w', (Builtin.append_ #[t, t] ty #[.slice p n n, .slice q m c]).run P w = .ok (.slice p' (n + m) c') w' ∧ IsRow enc k w' p' (n + m) c' (l ++ l') ∧ Below w.heap.size w w' ∧ (l' = [] ∧ p' = p ∨ ∀ ad, p' = some ad → w.heap.size ≤ ad.block) := by
  obtain ⟨i, hi, hz, hsize, hby⟩ := info_parts hinfo
  rcases Nat.eq_zero_or_pos m with h0 | hpos
  · subst h0
    have hl0 : l' = [] := List.length_eq_zero_iff.1 hr'.len
    subst hl0
    have hs : Src P i.size t (.slice q 0 c) 0 [] w := by
      cases q with
      | none => exact Src.ofNil w ht c
      | some ad => exact Src.ofSlice w ht ad 0 c [] (by simp) (by intro j u h; simp at h) (by simp)
    exact ⟨p, n, w, run_append_nothing w t t ty e i ht hi p n n (Nat.le_refl _) _ hs, by simpa using hr, Below.refl _ _, .inl ⟨rfl, rfl⟩⟩
  · have hq : ∃ ad, q = some ad := by
      cases q with
      | none => have := hr'.nil rfl; have := hr'.le; omega
      | some ad => exact ⟨ad, rfl⟩
    obtain ⟨ad', rfl⟩ := hq
    have hnews := row_flat hk hk0 hr'.row
    have hone : ∀ u ∈ l'.flatMap enc, u.oneCell' = true := fun u hu => by
      obtain ⟨y, _, hy⟩ := List.mem_flatMap.1 hu
      exact h1 y u hy
    have fin : ∀ v' w', (Builtin.append_ #[t, t] ty #[.slice p n n, .slice (some ad') m c]).run P w = .ok v' w' → OwnE enc k w' w.heap.size e v' (n + m) (l ++ l') → w.grownBy w' none → ∃ p' c' w', (Builtin.append_ #[t, t] ty #[.slice p n n, .slice (some ad') m c]).run P w = .ok (.slice p' (n + m) c') w' ∧ IsRow enc k w' p' (n + m) c' (l ++ l') ∧ Below w.heap.size w w' ∧ (l' = [] ∧ p' = p ∨ ∀ ad, p' = some ad → w.heap.size ≤ ad.block) := fun v' w' hrun hown hg => by
      obtain ⟨p', c', rfl, hrow⟩ := OwnE.isRow hk hk0 hown
      exact ⟨p', c', w', hrun, hrow, held_under hg (Nat.le_refl _) (fun b h => by cases h), .inr (fun ad hp => by subst hp; exact OwnE.from hown ad.block rfl)⟩
    cases p with
    | some ad =>
      obtain ⟨v', w', hrun, hown, hg⟩ := run_append_arg_grows (P := P) w t ty e i z k bytes ht hi hz hsize hby hzs hk0 ad n n (l.flatMap enc) (by rw [flat_length hk, hr.len]) (row_flat hk hk0 hr.row) ad' m c (l'.flatMap enc) (by rw [flat_length hk, hr'.len]) hnews (by omega) (by unfold maxLen; omega) hbytes
      exact fin v' w' hrun (by unfold OwnE; rw [List.flatMap_append]; exact hown) hg
    | none =>
      have hn0 := hr.nil rfl
      subst hn0
      have hl0 : l = [] := List.length_eq_zero_iff.1 hr.len
      subst hl0
      obtain ⟨v', w', hrun, hown, hg, _, _⟩ := run_append_own_at (P := P) w w.heap.size t ty e i z k bytes ht hi hz hsize hby hzs hk0 (.slice none 0 0) 0 [] (World.ownsRow_nil _ _ _ _) ad' m c (l'.flatMap enc) (by rw [flat_length hk, hr'.len]) hnews hone (by unfold maxLen; omega) hbytes (Nat.le_refl _)
      exact fin v' w' hrun (by unfold OwnE; simpa using hown) hg
theorem wpList_append_clip {P : Program} {α : Type} {ops : Array Oper} {rest : List Oper} {o : Oper} {a : Act} {Q : Exit → Act → World → Prop} (hgd : o.guard = none) (s x : Operand) (t : TypeId)
    (ho : o.op = .call { callee := .builtin .append, args := #[s, x], argTypes := #[t, t] }) (enc : α → List Value) (k : Nat) (hk : ∀ x, (enc x).length = k) (hk0 : 0 < k) (h1 : ∀ y, ∀ u ∈ enc y, u.oneCell' = true) (e : TypeId) (z : Value) (bytes : Nat) (ht : P.underlying t = some (.slice e))
    (hinfo : (P.info? e).map (fun i => (i.zero, i.size, i.bytes)) = some (some z, k, bytes)) (hzs : z.cells.size = k) {w : World} (p q : Option Addr) (n m c : Nat) (l l' : List α) (hs : a.eval s = .slice p n n) (hx : a.eval x = .slice q m c) (hr : IsRow enc k w p n n l) (hr' : IsRow enc k w q m c l')
    (hbytes : (n + m) * bytes ≤ 140737488355328) (h63 : n + m ≤ 1000000)
    (h : ∀ p' c' w', IsRow enc k w' p' (n + m) c' (l ++ l') → Below w.heap.size w w' → (l' = [] ∧ p' = p ∨ ∀ ad, p' = some ad → w.heap.size ≤ ad.block) → wpList P ops Q rest (a.put o.dst (.slice p' (n + m) c')) w') : wpList P ops Q (o :: rest) a w := by
  refine wpList_plain hgd fun K' hK' => ?_
  obtain ⟨p', c', w', hrun, hrow, hb, hwh⟩ := run_append_clip (P := P) hk hk0 h1 t o.type e z bytes ht hinfo hzs hr hr' hbytes h63
  unfold Oper.wp execOp
  simp only [ho, resolve, invoke, builtin, Sem.run_bind, Sem.run_pure, Result.andThen_ok, List.map_toArray, List.map_cons, List.map_nil, hs, hx, hrun]
  exact hK' _ _ (h p' c' w' hrow hb hwh)
set_option maxHeartbeats 1000000 in
theorem clipN_any {w : World} {p : Option Addr} {n c : Nat} {l : List Int} (hr : IsRow encN 1 w p n c l) : Calls Tryz.prog 184 #[.slice p n c] w fun e w' => e = .returned (.slice p n n) ∧ w = w' := by
  have HR := hid hr
  have hle := hr.le
  have hm := hr.max
  clear hr
  cases p with
  | none =>
    have hc := HR.out.nil rfl
    subst hc
    obtain rfl : n = 0 := by omega
    go_enter Tryz.func184, Tryz.ntmps184
    go_wp2_with fail
    go_ret
    exact ⟨rfl, rfl⟩
  | some ad =>
    obtain ⟨b, o, s⟩ := ad
    go_enter Tryz.func184, Tryz.ntmps184
    go_wp2_with fail
    go_ret
    exact ⟨rfl, rfl⟩
set_option maxHeartbeats 1000000 in
theorem clipB_any {w : World} {p : Option Addr} {n c : Nat} {l : List BV} (hr : IsRow encBV 6 w p n c l) : Calls Tryz.prog 190 #[.slice p n c] w fun e w' => e = .returned (.slice p n n) ∧ w = w' := by
  have HR := hid hr
  have hle := hr.le
  have hm := hr.max
  clear hr
  cases p with
  | none =>
    have hc := HR.out.nil rfl
    subst hc
    obtain rfl : n = 0 := by omega
    go_enter Tryz.func190, Tryz.ntmps190
    go_wp2_with fail
    go_ret
    exact ⟨rfl, rfl⟩
  | some ad =>
    obtain ⟨b, o, s⟩ := ad
    go_enter Tryz.func190, Tryz.ntmps190
    go_wp2_with fail
    go_ret
    exact ⟨rfl, rfl⟩
theorem IsRow.clip {α : Type} {enc : α → List Value} {k : Nat} {w : World} {p : Option Addr} {n c : Nat} {l : List α} (h : IsRow enc k w p n c l) : IsRow enc k w p n n l := ⟨h.len, h.max, Nat.le_refl _, fun e => by have := h.nil e; have := h.le; omega, h.row⟩
theorem infoBd : (Tryz.prog.info? 145).map (fun i => (i.zero, i.size, i.bytes)) = some (some (.agg #[.string .empty, .int .u8 0, .int .i64 0, .slice none 0 0, .slice none 0 0, .pointer none]), 6, 88) := by kernel_rfl
structure SBox (w W : World) (x y : Value) : Prop where
  b0 : W.heap[w.heap.size]? = some (.cells #[x, y] 84 (0, 0))
  b1 : W.heap[w.heap.size + 1]? = some (.cells #[.slice none 0 0, .slice none 0 0] 84 (0, 0))
  below : Below w.heap.size w W
theorem sbox_new (w : World) (x y : Value) : SBox w ((w.alloc (.cells #[x, y] 84)).alloc (.cells #[.slice none 0 0, .slice none 0 0] 84)) x y := by
  have e1 := heap_alloc_new (w.alloc (.cells #[x, y] 84)) (.cells #[.slice none 0 0, .slice none 0 0] 84)
  simp only [World.size_alloc] at e1
  refine ⟨?_, e1, ((Below.refl w.heap.size w).alloc (Nat.le_refl _) _).alloc (by simp) _⟩
  rw [Below.heap_alloc _ _ _ (by simp)]; exact heap_alloc_new w _
theorem SBox.step {w W W' : World} {x y : Value} (h : SBox w W x y) (hb : Below W.heap.size W W') : SBox w W' x y :=
  ⟨(hb.block _ (Array.getElem?_eq_some_iff.1 h.b0).1).trans h.b0, (hb.block _ (Array.getElem?_eq_some_iff.1 h.b1).1).trans h.b1, h.below.trans (hb.mono h.below.size)⟩
theorem SBox.cells {w W : World} {x y : Value} (h : SBox w W x y) : W.cell? ⟨w.heap.size, 0, none⟩ = some x ∧ W.cell? ⟨w.heap.size, 1, none⟩ = some y ∧ W.frozen? ⟨w.heap.size, 0, none⟩ = false ∧ W.frozen? ⟨w.heap.size, 1, none⟩ = false := by
  refine ⟨?_, ?_, ?_, ?_⟩ <;> simp only [World.cell?, World.frozen?, h.b0] <;> rfl
theorem SBox.set {w W : World} {x y x' : Value} {i : Nat} (h : SBox w W x y) : (W.setCell ⟨w.heap.size, i, none⟩ x').heap[w.heap.size + 1]? = some (.cells #[.slice none 0 0, .slice none 0 0] 84 (0, 0)) ∧ Below w.heap.size w (W.setCell ⟨w.heap.size, i, none⟩ x') ∧ W.grownBy (W.setCell ⟨w.heap.size, i, none⟩ x') (some w.heap.size) :=
  have hg := grown_setCell1 W w.heap.size i x'
  ⟨(hg.block _ (Array.getElem?_eq_some_iff.1 h.b1).1 (fun e => by injection e with e; omega)).trans h.b1, h.below.grown hg h.below.size (fun k e => by cases e; exact Nat.le_refl _), hg⟩
theorem row_far {α : Type} {enc : α → List Value} {k : Nat} {w w' : World} {r : Nat} {p : Option Addr} {n c : Nat} {l : List α} (h : IsRow enc k w p n c l) (hg : w.grownBy w' (some r)) (hr : l ≠ [] → ∀ ad, p = some ad → ad.block ≠ r) : IsRow enc k w' p n c l :=
  isRow_grown hg (fun hl ad hp e => by injection e with e; exact hr hl ad hp e.symm) h
theorem row_set {W : World} {r : Nat} {cs : Array Value} : W.grownBy (W.setRow r cs) (some r) := ⟨rfl, rfl, rfl, by simp, fun k hk hne => setRow_other _ _ _ _ (fun e => hne (by rw [e]))⟩
set_option maxHeartbeats 2000000 in
theorem scope_with_any {w : World} {p : Option Addr} {n c : Nat} {l : List BV} (hr : IsRow encBV 6 w p n c l) (rp : Option Addr) (rn rc : Nat) {q : Option Addr} {m mc : Nat} {l' : List BV} (hr' : IsRow encBV 6 w q m mc l') (h : n + m ≤ 1000000) :
    Calls Tryz.prog 139 #[.agg #[.slice p n c, .slice rp rn rc], .slice q m mc] w fun e w' => ∃ p' c', e = .returned (.agg #[.slice p' (n + m) c', .slice rp rn rc]) ∧ IsRow encBV 6 w' p' (n + m) c' (l ++ l') ∧ Below w.heap.size w w' ∧ (l' = [] ∧ p' = p ∨ ∀ ad, p' = some ad → w.heap.size ≤ ad.block) := by
  have hs := sbox_new w (.slice p n c) (.slice rp rn rc)
  have HS := hid hs
  have HR0 := hid hr
  have HR := hid (hr.below hs.below)
  have HR' := hid (hr'.below hs.below)
  have hsz : ((w.alloc (.cells #[.slice p n c, .slice rp rn rc] 84)).alloc (.cells #[.slice none 0 0, .slice none 0 0] 84)).heap.size = w.heap.size + 2 := by simp
  clear hr hr' hs
  go_enter Tryz.func139, Tryz.ntmps139
  go_wp2_with fail
  refine (clipB_any HR.out).mono ?_
  rintro e w1 ⟨rfl, rfl⟩
  generalize (w.alloc (.cells #[.slice p n c, .slice rp rn rc] 84)).alloc (.cells #[.slice none 0 0, .slice none 0 0] 84) = W1 at *
  go_wp2_with (first
    | (refine wpList_append_clip rfl _ _ 82 rfl encBV 6 encBV_len (by decide) encBV_one 145 _ 88 Tryz.underlying82 infoBd rfl p q n m mc l l' rfl rfl HR.out.clip HR'.out (by omega) (by omega) ?_; intro p' c' w2 hrow hb hwh; have HROW := hid hrow; have HWH := hid hwh; have HS2 := hid (HS.out.step hb); obtain ⟨x0, x1, x2, x3⟩ := HS2.out.cells; clear hrow hb hwh)
    | (refine wpList_store_row rfl 84 _ _ rfl (w.heap.size + 1) #[.slice p' (n + m) c', .slice rp rn rc] rfl rfl 84 _ (HS2.out.set).1 (by kernel_rfl) rfl (by simp [Value.oneCell']) ?_))
  refine bodyPost_ret (results_cell_row rfl _ _ _ _ _ _ _ rfl (setRow_heap _ _ _ _ _ _ (HS2.out.set).1) Tryz.underlying84 rfl (by kernel_rfl)) rfl ?_
  have hne : l ++ l' ≠ [] → ∀ ad, p' = some ad → ad.block ≠ w.heap.size ∧ ad.block ≠ w.heap.size + 1 := fun hl ad hp => by
    rcases HWH.out with ⟨h1, h2⟩ | h2
    · subst h1
      have hlt := rowE_lt HR0.out.row (by simpa using hl) (h2 ▸ hp)
      omega
    · have := h2 ad hp
      omega
  have hg := (HS2.out.set (i := 0) (x' := .slice p' (n + m) c'))
  exact ⟨p', c', rfl, row_far (row_far HROW.out hg.2.2 (fun hl ad hp => (hne hl ad hp).1)) row_set (fun hl ad hp => (hne hl ad hp).2), hg.2.1.grown row_set hg.2.1.size (fun k e => by cases e; omega), HWH.out.imp id (fun h ad hp => by have := h ad hp; omega)⟩
set_option maxHeartbeats 2000000 in
theorem scope_open_any {w : World} {p : Option Addr} {n c : Nat} {l : List Int} (hr : IsRow encN 1 w p n c l) (rp : Option Addr) (rn rc : Nat) {q : Option Addr} {m mc : Nat} {l' : List Int} (hr' : IsRow encN 1 w q m mc l') (h : n + m ≤ 1000000) :
    Calls Tryz.prog 131 #[.agg #[.slice rp rn rc, .slice p n c], .slice q m mc] w fun e w' => ∃ p' c', e = .returned (.agg #[.slice rp rn rc, .slice p' (n + m) c']) ∧ IsRow encN 1 w' p' (n + m) c' (l ++ l') ∧ Below w.heap.size w w' ∧ (l' = [] ∧ p' = p ∨ ∀ ad, p' = some ad → w.heap.size ≤ ad.block) := by
  have hs := sbox_new w (.slice rp rn rc) (.slice p n c)
  have HS := hid hs
  have HR0 := hid hr
  have HR := hid (hr.below hs.below)
  have HR' := hid (hr'.below hs.below)
  have hsz : ((w.alloc (.cells #[.slice rp rn rc, .slice p n c] 84)).alloc (.cells #[.slice none 0 0, .slice none 0 0] 84)).heap.size = w.heap.size + 2 := by simp
  clear hr hr' hs
  go_enter Tryz.func131, Tryz.ntmps131
  go_wp2_with fail
  refine (clipN_any HR.out).mono ?_
  rintro e w1 ⟨rfl, rfl⟩
  generalize (w.alloc (.cells #[.slice rp rn rc, .slice p n c] 84)).alloc (.cells #[.slice none 0 0, .slice none 0 0] 84) = W1 at *
  go_wp2_with (first
    | (refine wpList_append_clip rfl _ _ 24 rfl encN 1 encN_len (by decide) encN_one 3 _ 8 Tryz.underlying24 infoN rfl p q n m mc l l' rfl rfl HR.out.clip HR'.out (by omega) (by omega) ?_; intro p' c' w2 hrow hb hwh; have HROW := hid hrow; have HWH := hid hwh; have HS2 := hid (HS.out.step hb); obtain ⟨x0, x1, x2, x3⟩ := HS2.out.cells; clear hrow hb hwh)
    | (refine wpList_store_row rfl 84 _ _ rfl (w.heap.size + 1) #[.slice rp rn rc, .slice p' (n + m) c'] rfl rfl 84 _ (HS2.out.set).1 (by kernel_rfl) rfl (by simp [Value.oneCell']) ?_))
  refine bodyPost_ret (results_cell_row rfl _ _ _ _ _ _ _ rfl (setRow_heap _ _ _ _ _ _ (HS2.out.set).1) Tryz.underlying84 rfl (by kernel_rfl)) rfl ?_
  have hne : l ++ l' ≠ [] → ∀ ad, p' = some ad → ad.block ≠ w.heap.size ∧ ad.block ≠ w.heap.size + 1 := fun hl ad hp => by
    rcases HWH.out with ⟨h1, h2⟩ | h2
    · subst h1
      have hlt := rowE_lt HR0.out.row (by simpa using hl) (h2 ▸ hp)
      omega
    · have := h2 ad hp
      omega
  have hg := (HS2.out.set (i := 1) (x' := .slice p' (n + m) c'))
  exact ⟨p', c', rfl, row_far (row_far HROW.out hg.2.2 (fun hl ad hp => (hne hl ad hp).1)) row_set (fun hl ad hp => (hne hl ad hp).2), hg.2.1.grown row_set hg.2.1.size (fun k e => by cases e; omega), HWH.out.imp id (fun h ad hp => by have := h ad hp; omega)⟩
end
section
open Go.RowKit Go.Shelf
theorem has1_any (x : Int) {g : Nat} {q : Option Addr} {m mc : Nat} {rhos : List Int} {W : World} (hc : W.cell? ⟨g, 1, none⟩ = some (.slice q m mc)) (hr : IsRow encN 1 W q m mc rhos) :
    Calls Tryz.prog 182 #[.int .i64 x, .pointer (some ⟨g, 0, none⟩)] W fun e w' => e = .returned (.bool (!inN rhos x)) ∧ w' = W := by
  have HC := hid (n_contains_any hr x)
  clear hr
  go_enter Tryz.func182, Tryz.ntmps182
  go_wp2_with fail
  refine HC.out.mono ?_
  rintro e w1 ⟨rfl, rfl⟩
  go_wp2_with fail
  go_ret
  exact ⟨rfl, rfl⟩
theorem cfunc_has {W : World} {p : Option Addr} {n c : Nat} {l : List Int} (hr : IsRow encN 1 W p n c l) {g : Nat} {q : Option Addr} {m mc : Nat} {rhos : List Int} (hc : W.cell? ⟨g, 1, none⟩ = some (.slice q m mc)) (hq : IsRow encN 1 W q m mc rhos) :
    Calls Tryz.prog 122 #[.slice p n c, .func (.func 182) #[] #[.pointer (some ⟨g, 0, none⟩)]] W fun e w' => e = .returned (.bool (l.any (fun x => !inN rhos x))) ∧ Below W.heap.size W w' := by
  have hln := hr.len
  have hmx := hr.max
  rcases hr.row with h | ⟨b, o, hp, hb, hcs⟩
  · subst h
    obtain rfl : n = 0 := by simpa using hln.symm
    refine (Tryz.slices_ContainsFunc_empty_f122 (α := Int) p c _ W).mono ?_
    rintro e w' ⟨rfl, rfl⟩
    exact ⟨rfl, Below.refl _ _⟩
  · subst hp
    have hcc : ∀ j, j < l.length → W.cell? ⟨b, o + j, none⟩ = some (Value.int .i64 (l[j]!)) := fun j hj => by
      have := hcs j (l[j]!) (by rw [List.getElem?_eq_getElem hj, getElem!_pos l j hj]) 0 (.int .i64 (l[j]!)) rfl
      simpa using this
    refine (Tryz.slices_ContainsFunc_f122 (α := Int) (Value.int .i64) (fun x : Int => !inN rhos x) 182 #[.pointer (some ⟨g, 0, none⟩)] (fun args w => rfl) b o n c l W ?_ (by omega) (by omega) hcc).mono ?_
    · intro W' x hb'
      refine (has1_any x (W := W') (g := g) (by rw [hb'.cell (cell_block hc)]; exact hc) (hq.below hb')).mono ?_
      rintro e w' ⟨rfl, rfl⟩
      exact ⟨rfl, 0, rfl⟩
    · rintro e w' ⟨rfl, q, rfl⟩
      rw [List.take_of_length_le (by omega)]
      exact ⟨rfl, rfl, rfl, rfl, Nat.le_refl _, fun _ _ => rfl⟩
theorem any_not (rhos l : List Int) : (!l.any (fun x => !inN rhos x)) = scopedB rhos l := by
  unfold scopedB
  rw [List.not_any_eq_all_not]
  simp
set_option maxHeartbeats 1000000 in
theorem scope_has_any {w : World} {p : Option Addr} {n c : Nat} {l : List Int} (hr : IsRow encN 1 w p n c l) (ep : Option Addr) (en ec : Nat) {q : Option Addr} {m mc : Nat} {rhos : List Int} (hq : IsRow encN 1 w q m mc rhos) :
    Calls Tryz.prog 130 #[.agg #[.slice ep en ec, .slice q m mc], .slice p n c] w fun e w' => e = .returned (.bool (scopedB rhos l)) ∧ Below w.heap.size w w' := by
  have hb : Below w.heap.size w (w.alloc (.cells #[.slice ep en ec, .slice q m mc] 84)) := (Below.refl _ _).alloc (Nat.le_refl _) _
  have HC := hid (cfunc_has (hr.below hb) (g := w.heap.size) (q := q) (m := m) (mc := mc) (rhos := rhos) (by rw [cell_new]; rfl) (hq.below hb))
  have HB := hid hb
  have HE := hid (any_not rhos l)
  generalize l.any (fun x => !inN rhos x) = r at HC HE
  clear hr hq hb
  go_enter Tryz.func130, Tryz.ntmps130
  go_wp2_with fail
  refine HC.out.mono ?_
  rintro e w1 ⟨rfl, hb⟩
  have HB2 := hid (HB.out.trans (hb.mono HB.out.size))
  clear hb
  go_wp2_with fail
  go_ret
  exact ⟨ret_bool HE.out, HB2.out⟩
end
section
open Go.RowKit
theorem tk {P : Program} {ops : Array Oper} {Q : Exit → Act → World → Prop} {md : Region.Mode} {S : World → Prop} {i : Nat} {oi : Oper} {v : Value} {fuel : Nat} {listed : Array Bool} {a : Act} {w : World} (hi : ops[i]? = some oi) (hy : YieldsIf P ops S oi v a)
    (h : wpAnyH P md ops Q S fuel (listed.setIfInBounds i true) (a.put oi.dst v) w) (hs : Region.noSelect ops = true := by kernel_rfl) (hf : Region.free md ops listed i = true := by kernel_rfl) (hr : (Region.ready md ops listed).contains i = true := by kernel_rfl)
    (hQ : ∀ c a w, Q (.panic c) (a.put oi.dst v) w → Q (.panic c) a w := by exact fun _ _ _ h => h) (hS : S w := by assumption) : wpAnyH P md ops Q S (fuel + 1) listed a w :=
  wpAnyH_take hi hs hf hr hQ hy hS h
end
section
open Go.RowKit
theorem rv_kid {w : World} {p : Option Addr} {n cap : Nat} {l : List RV} (h : IsRow encRV 5 w p n cap l) {j : Nat} {t : RV} (hx : l[j]? = some t) :
    ∃ b o, p = some ⟨b, o, none⟩ ∧ b < w.heap.size ∧ w.cell? ⟨b, o + j * 5, none⟩ = some (.int .u8 t.ty.head.kind) ∧ w.cell? ⟨b, o + j * 5 + 1, none⟩ = some (.int .i64 t.ty.head.rho) ∧
      w.cell? ⟨b, o + j * 5 + 2, none⟩ = some (.slice t.ty.head.ep t.ty.head.en t.ty.head.ec) ∧ w.cell? ⟨b, o + j * 5 + 3, none⟩ = some (.slice t.ty.head.kp t.ty.head.kn t.ty.head.kc) ∧ w.cell? ⟨b, o + j * 5 + 4, none⟩ = some (.slice t.ep t.en t.ec) := by
  obtain ⟨b, o, hp, hb, hc⟩ := h.row.elem hx
  exact ⟨b, o, hp, hb, hc 0 _ rfl, hc 1 _ rfl, hc 2 _ rfl, hc 3 _ rfl, hc 4 _ rfl⟩
def PredV (fid : FuncId) (caps : Array Value) (w : World) (l : List RV) (q : RV → Bool) : Prop :=
  ∀ x ∈ l, ∀ W, Below w.heap.size w W → Calls Tryz.prog fid (#[aggRV x] ++ caps) W fun e w' => e = .returned (.bool (q x)) ∧ Below W.heap.size W w'
theorem PredV.is {fid : FuncId} {caps : Array Value} {w : World} {l : List RV} {q : RV → Bool} (h : PredV fid caps w l q) {x : RV} (hx : x ∈ l) {r : Bool} (hq : q x = r) {W : World} (hb : Below w.heap.size w W) :
    Calls Tryz.prog fid (#[aggRV x] ++ caps) W fun e w' => e = .returned (.bool r) ∧ Below W.heap.size W w' := by subst hq; exact h x hx W hb
set_option maxHeartbeats 400000 in
theorem v_indexFunc_any (fid : FuncId) (caps : Array Value) (q : RV → Bool) (hent : Enters fid) {p : Option Addr} {n cap : Nat} {l : List RV} {w : World} (hr : IsRow encRV 5 w p n cap l) (hf : PredV fid caps w l q) :
    Calls Tryz.prog 219 #[.slice p n cap, .func (.func fid) #[] caps] w fun e w' =>
      (∃ r : Int, e = .returned (.int .i64 r) ∧ IdxOf q l r) ∧ Below w.heap.size w w' := by
  unfold Enters at hent
  have hm := hr.max
  have HR := hid hr
  have HF := hid hf
  clear hr hf
  go_enter Tryz.func219, Tryz.ntmps219
  go_wp2_with fail
  go_loopw [5, 8] (fun _ i wr => ∃ k : Nat, k ≤ n ∧ i = .int .i64 k ∧ (l.take k).any q = false ∧ Below w.heap.size w wr) (fun _ i _ => n - (intOf i).toNat)
  case atStart => exact ⟨0, by omega, rfl, by simp, Below.refl _ _⟩
  case round =>
    obtain ⟨k, hk, rfl, hno, hb⟩ := hrel
    have HNO := hid hno
    have HB := hid hb
    clear hno hb
    by_cases hlt : k < n
    · obtain ⟨x, hx⟩ := get_of_lt (l := l) (j := k) (by rw [HR.out.len]; exact hlt)
      have HE := hid hx
      obtain ⟨b, o, rfl, hbl, d0, d1, d2, d3, d4⟩ := rv_kid (HR.out.below HB.out) hx
      clear hx hbl
      cases hq : q x
      · have HQ := hid hq
        clear hq
        go_wp2_with fail
        refine (HF.out.is (List.mem_of_getElem? HE.out) HQ.out HB.out).mono ?_
        rintro e w1 ⟨rfl, hb⟩
        have HB1 := hid (HB.out.trans (hb.mono HB.out.size))
        clear hb
        clear d0 d1 d2 d3 d4
        go_wp2_with fail
        go_roundw
        case rel => exact ⟨k + 1, by omega, by go_num, by rw [any_take_get HE.out, HNO.out, HQ.out]; rfl, HB1.out⟩
        case measure => simp [intOf]; omega
      · have HQ := hid hq
        clear hq
        go_wp2_with fail
        refine (HF.out.is (List.mem_of_getElem? HE.out) HQ.out HB.out).mono ?_
        rintro e w1 ⟨rfl, hb⟩
        have HB1 := hid (HB.out.trans (hb.mono HB.out.size))
        clear hb
        clear d0 d1 d2 d3 d4
        go_wp2_with fail
        go_ret
        exact ⟨⟨k, rfl, .inr ⟨k, x, rfl, HE.out, HQ.out, HNO.out⟩⟩, HB1.out⟩
    · go_wp2_with fail
      go_ret
      have h := HNO.out
      rw [take_full (by rw [HR.out.len]; omega)] at h
      exact ⟨⟨-1, rfl, .inl ⟨rfl, h⟩⟩, HB.out⟩
theorem v_containsFunc_any (fid : FuncId) (caps : Array Value) (q : RV → Bool) (hent : Enters fid) {p : Option Addr} {n cap : Nat} {l : List RV} {w : World} (hr : IsRow encRV 5 w p n cap l) (hf : PredV fid caps w l q) :
    Calls Tryz.prog 193 #[.slice p n cap, .func (.func fid) #[] caps] w fun e w' => e = .returned (.bool (l.any q)) ∧ Below w.heap.size w w' := by
  have hc : Calls Tryz.prog 219 #[.slice p n cap, .func (.func fid) #[] caps] w fun e w' =>
      (∃ r : Int, e = .returned (.int .i64 r) ∧ l.any q = decide (0 ≤ r)) ∧ Below w.heap.size w w' :=
    (v_indexFunc_any fid caps q hent hr hf).mono fun _ _ ⟨⟨r, he, hr⟩, hb⟩ => ⟨⟨r, he, hr.any⟩, hb⟩
  generalize l.any q = r at hc ⊢
  clear hr hf hent
  go_enter Tryz.func193, Tryz.ntmps193
  go_wp2_with fail
  refine hc.mono ?_
  rintro e w1 ⟨⟨r, rfl, hr⟩, hb⟩
  have HR := hid hr
  have HB := hid hb
  clear hr hb hc
  go_wp2_with fail
  go_ret
  exact ⟨ret_bool HR.out.symm, HB.out⟩
end
end Go.Proofs.YtkdjnegfnhldpaaGreatDoor
