/- Part 12: RtW. -/
import Derived.Test.YtkdjnegfnhldpaaGreatDoorH11
import Derived.Deep.CutRange
set_option linter.unusedVariables false
set_option maxRecDepth 100000
set_option linter.unusedSimpArgs false
namespace Go.Proofs.YtkdjnegfnhldpaaGreatDoor
open Go.Lib (hid)
section
open Go.RowKit Go.Sort Go.Lib
set_option maxHeartbeats 2000000 in
theorem effect_Swap_own (p : Option Addr) (n cap : Nat) (l : List Atom) (p1 : Option Addr) (n1 c1 : Nat) (f : List Int) (p2 : Option Addr) (n2 c2 : Nat) (t : List Int) (w : World) (hn : l.length = n) (hm : n ≤ 1000000) (hr : RowA w p l)
    (hn1 : f.length = n1) (hm1 : n1 ≤ 1000000) (hr1 : RowE encN 1 w p1 f) (hn2 : t.length = n2) (hm2 : n2 ≤ 1000000) (hr2 : RowE encN 1 w p2 t) :
    Calls Tryz.prog 66 #[.slice p n cap, .slice p1 n1 c1, .slice p2 n2 c2] w fun e w' => ∃ v m, e = .returned v ∧ m ≤ n ∧ OwnE encA 3 w' w.heap.size 59 v m (swL f t l) ∧ Below w.heap.size w w' := by
  have HR := hid hr
  have HN := hid hn
  have HR1 := hid hr1
  have HN1 := hid hn1
  have HR2 := hid hr2
  have HN2 := hid hn2
  clear hr hn hr1 hn1 hr2 hn2
  go_enter Tryz.func66, Tryz.ntmps66
  go_wp2_with fail
  refine (effect_Of_any p n cap l _ HN.out hm HR.out).mono ?_
  rintro e w1 ⟨v, m, rfl, hmn, hown, hb⟩
  obtain ⟨q, mc, rfl, hSl, hmc, hrow, _⟩ := hown.row encA_len (by omega)
  have HROW := hid hrow
  have HSL := hid hSl
  have HB1 := hid hb
  generalize hS : sortA (l.filter atomB) = S at HROW HSL
  have HS := hid hS
  clear hown hb hrow hSl hS
  go_wp2_with fail
  go_loopw [7, 10, 14] (fun u _ i wr => ∃ k : Nat, k ≤ m ∧ i = .int .i64 k ∧ OwnE encA 3 wr w1.heap.size 59 u k ((S.take k).map (swA f t)) ∧ Below w1.heap.size w1 wr) (fun _ _ i _ => m - (intOf i).toNat)
  case atStart => exact ⟨0, by omega, rfl, OwnE.nil _ _ _ _ _, Below.refl _ _⟩
  case round =>
    obtain ⟨k, hk, rfl, hown, hb⟩ := hrel
    have HOWN := hid hown
    have HB := hid hb
    clear hown hb
    by_cases hlt : k < m
    · obtain ⟨x, hx⟩ := get_of_lt (l := S) (j := k) (by rw [HSL.out]; exact hlt)
      have HE := hid hx
      obtain ⟨b, o, rfl, hbl, d0, d1, d2⟩ := RowA.atom (HROW.out.below HB.out) hx
      clear hx hbl
      obtain ⟨kd, rr, ss⟩ := x
      simp only at d0 d1 d2
      have HW := hid (HB1.out.trans (HB.out.mono HB1.out.size))
      by_cases hk3 : kd = 3
      · subst hk3
        have HO2 := hid (HOWN.out.below ((Below.refl _ wr).alloc (Nat.le_refl _) (.cells #[.int .u8 3, .int .i64 rr, .string ss] 59)))
        have HB2 : Hid (Below w1.heap.size w1 (wr.alloc (.cells #[.int .u8 3, .int .i64 rr, .string ss] 59))) := HB.out.alloc HB.out.size _
        go_wp2_with fail
        refine (index_is rr p1 n1 c1 f _ _ rfl HN1.out (by omega) ((HR1.out.below HW.out).alloc _)).mono ?_
        rintro e w2 ⟨rfl, rfl⟩
        generalize Lib.idxOf f rr = c
        go_wp2_with (at_builtin; refine wpList_append1 rfl _ _ 25 rfl w1.heap.size 59 _ 3 32 Tryz.underlying25 infoA rfl (by decide) encA encA_len encA_one (⟨3, rr, ss⟩ : Atom) _ _ _ HO2.out rfl (by refine Eq.trans (b := Value.slice (some ⟨wr.heap.size + 1, 0, none⟩) 1 1) rfl ?_; simp) ?c1 ?c2 ?c3 ?_)
        case c1 => omega
        case c2 => omega
        case c3 => exact HB2.out.size
        · intro v' w4 hown' hg
          have HO := hid hown'
          have HB4 := hid (Below.own HB2.out hg HB2.out.size HO2.out)
          clear hown' hg
          go_wp2_with fail
          go_roundw
          case rel => exact ⟨k + 1, by omega, by go_num, by
            have e1 : (S.take (k + 1)).map (swA f t) = (S.take k).map (swA f t) ++ [(⟨3, rr, ss⟩ : Atom)] := by rw [take_succ_get HE.out, List.map_append]; simp only [List.map_cons, List.map_nil]; rw [swA_same (.inl rfl)]
            rw [e1, List.map_take]; exact HO.out, HB4.out⟩
          case measure => simp [intOf]; omega
      · have HK3 := hid hk3
        have hkd : decide (kd = 3) = false := by simp [hk3]
        rcases idx_turn rr f t with ⟨hi, ht⟩ | ⟨j, hj, hi, ht⟩
        · have HI := hid hi
          have HT := hid ht
          clear hi ht
          have HO2 := hid (HOWN.out.below ((Below.refl _ wr).alloc (Nat.le_refl _) (.cells #[.int .u8 kd, .int .i64 rr, .string ss] 59)))
          have HB2 : Hid (Below w1.heap.size w1 (wr.alloc (.cells #[.int .u8 kd, .int .i64 rr, .string ss] 59))) := HB.out.alloc HB.out.size _
          go_wp2_with fail
          refine (index_is rr p1 n1 c1 f _ (-1) HI.out HN1.out (by omega) ((HR1.out.below HW.out).alloc _)).mono ?_
          rintro e w2 ⟨rfl, rfl⟩
          go_wp2_with (at_builtin; refine wpList_append1 rfl _ _ 25 rfl w1.heap.size 59 _ 3 32 Tryz.underlying25 infoA rfl (by decide) encA encA_len encA_one (⟨kd, rr, ss⟩ : Atom) _ _ _ HO2.out rfl (by refine Eq.trans (b := Value.slice (some ⟨wr.heap.size + 1, 0, none⟩) 1 1) rfl ?_; simp) ?c1 ?c2 ?c3 ?_)
          case c1 => omega
          case c2 => omega
          case c3 => exact HB2.out.size
          · intro v' w4 hown' hg
            have HO := hid hown'
            have HB4 := hid (Below.own HB2.out hg HB2.out.size HO2.out)
            clear hown' hg
            go_wp2_with fail
            go_roundw
            case rel => exact ⟨k + 1, by omega, by go_num, by
              have e1 : (S.take (k + 1)).map (swA f t) = (S.take k).map (swA f t) ++ [(⟨kd, rr, ss⟩ : Atom)] := by rw [take_succ_get HE.out, List.map_append]; simp only [List.map_cons, List.map_nil]; rw [swA_same (.inr HT.out)]
              rw [e1, List.map_take]; exact HO.out, HB4.out⟩
            case measure => simp [intOf]; omega
        · have HI := hid hi
          have HT := hid ht
          clear hi ht
          have hj1 : j < n1 := by have := HN1.out; omega
          by_cases hjm : j < n2
          · obtain ⟨z, hz⟩ := get_of_lt (l := t) (j := j) (by rw [HN2.out]; exact hjm)
            have HTZ : Hid (turnI rr f t = z) := by show turnI rr f t = z; rw [HT.out, hz]; rfl
            obtain ⟨b', o', rfl, e0⟩ := (((HR2.out.below HW.out).alloc (.cells #[.int .u8 kd, .int .i64 rr, .string ss] 59))).num hz
            clear hz
            have HO2 := hid (HOWN.out.below ((Below.refl _ wr).alloc (Nat.le_refl _) (.cells #[.int .u8 kd, .int .i64 z, .string ss] 59)))
            have HB2 : Hid (Below w1.heap.size w1 (wr.alloc (.cells #[.int .u8 kd, .int .i64 z, .string ss] 59))) := HB.out.alloc HB.out.size _
            go_wp2_with fail
            refine (index_is rr p1 n1 c1 f _ (j : Int) HI.out HN1.out (by omega) ((HR1.out.below HW.out).alloc _)).mono ?_
            rintro e w2 ⟨rfl, rfl⟩
            go_wp2_with (at_builtin; refine wpList_append1 rfl _ _ 25 rfl w1.heap.size 59 _ 3 32 Tryz.underlying25 infoA rfl (by decide) encA encA_len encA_one (⟨kd, z, ss⟩ : Atom) _ _ _ HO2.out rfl (by refine Eq.trans (b := Value.slice (some ⟨wr.heap.size + 1, 0, none⟩) 1 1) rfl ?_; simp) ?c1 ?c2 ?c3 ?_)
            case c1 => omega
            case c2 => omega
            case c3 => exact HB2.out.size
            · intro v' w4 hown' hg
              have HO := hid hown'
              have HB4 := hid (Below.own HB2.out hg HB2.out.size HO2.out)
              clear hown' hg
              go_wp2_with fail
              go_roundw
              case rel => exact ⟨k + 1, by omega, by go_num, by
                have e1 : (S.take (k + 1)).map (swA f t) = (S.take k).map (swA f t) ++ [(⟨kd, z, ss⟩ : Atom)] := by rw [take_succ_get HE.out, List.map_append]; simp only [List.map_cons, List.map_nil]; rw [swA_of HK3.out HTZ.out]
                rw [e1, List.map_take]; exact HO.out, HB4.out⟩
              case measure => simp [intOf]; omega
          · have HZ : Hid (turnI rr f t = rr) := by show turnI rr f t = rr; rw [HT.out, List.getElem?_eq_none (by rw [HN2.out]; omega)]; rfl
            have HO2 := hid (HOWN.out.below ((Below.refl _ wr).alloc (Nat.le_refl _) (.cells #[.int .u8 kd, .int .i64 rr, .string ss] 59)))
            have HB2 : Hid (Below w1.heap.size w1 (wr.alloc (.cells #[.int .u8 kd, .int .i64 rr, .string ss] 59))) := HB.out.alloc HB.out.size _
            go_wp2_with fail
            refine (index_is rr p1 n1 c1 f _ (j : Int) HI.out HN1.out (by omega) ((HR1.out.below HW.out).alloc _)).mono ?_
            rintro e w2 ⟨rfl, rfl⟩
            go_wp2_with (at_builtin; refine wpList_append1 rfl _ _ 25 rfl w1.heap.size 59 _ 3 32 Tryz.underlying25 infoA rfl (by decide) encA encA_len encA_one (⟨kd, rr, ss⟩ : Atom) _ _ _ HO2.out rfl (by refine Eq.trans (b := Value.slice (some ⟨wr.heap.size + 1, 0, none⟩) 1 1) rfl ?_; simp) ?c1 ?c2 ?c3 ?_)
            case c1 => omega
            case c2 => omega
            case c3 => exact HB2.out.size
            · intro v' w4 hown' hg
              have HO := hid hown'
              have HB4 := hid (Below.own HB2.out hg HB2.out.size HO2.out)
              clear hown' hg
              go_wp2_with fail
              go_roundw
              case rel => exact ⟨k + 1, by omega, by go_num, by
                have e1 : (S.take (k + 1)).map (swA f t) = (S.take k).map (swA f t) ++ [(⟨kd, rr, ss⟩ : Atom)] := by rw [take_succ_get HE.out, List.map_append]; simp only [List.map_cons, List.map_nil]; rw [swA_same (.inr HZ.out)]
                rw [e1, List.map_take]; exact HO.out, HB4.out⟩
              case measure => simp [intOf]; omega
    · obtain rfl : k = m := by omega
      have hown := HOWN.out
      have HE : Hid (sortA ((S.map (swA f t)).filter atomB) = swL f t l) := by show _ = swL f t l; unfold swL; rw [HS.out]
      rw [take_full (by rw [HSL.out]; exact Nat.le_refl _)] at hown
      obtain ⟨q', c', rfl, hl', hc', hr', _⟩ := hown.row encA_len (by omega)
      have HL' := hid hl'
      have HR' := hid hr'
      clear hown hl' hr'
      go_wp2_with fail
      refine (effect_Of_any q' k c' (S.map (swA f t)) wr HL'.out (by omega) HR'.out).mono ?_
      rintro e w3 ⟨v, m', rfl, hm2, hown, hb⟩
      rw [HE.out] at hown
      have HO := hid (hown.lower (HB1.out.trans (HB.out.mono HB1.out.size)).size)
      have HB3 := hid ((HB1.out.trans (HB.out.mono HB1.out.size)).trans (hb.mono (HB1.out.trans (HB.out.mono HB1.out.size)).size))
      clear hown hb
      go_wp2_with fail
      go_ret
      exact ⟨_, _, rfl, by omega, HO.out, HB3.out⟩
def swH (f t : List Int) (a : LH) : LH := if a.kind = 1 then a else ⟨a.kind, turnI a.rho f t, swL f t a.eff⟩
def swapT (f t : List Int) : RT → RT := Rose.map (swH f t)
theorem swapT_er (f t : List Int) (a : RH) (l : List PT) : swapT f t (PT.er (.node a l)) = .node (swH f t a.plain) (l.map (fun x => swapT f t (PT.er x))) := by
  rw [PT.er_node]
  unfold swapT
  rw [Rose.map_node, List.map_map]; rfl
theorem turnI_in (r : Int) (f t : List Int) : turnI r f t = r ∨ turnI r f t ∈ t := by
  rcases idx_turn r f t with ⟨_, h⟩ | ⟨k, _, _, h⟩
  · exact .inl h
  · cases hk : t[k]? with
    | none => left; rw [h, hk]; rfl
    | some z => right; rw [h, hk]; exact List.mem_of_getElem? hk
def okI (z : Int) : Prop := -9223372036854775808 ≤ z ∧ z ≤ 9223372036854775807
theorem turnI_ok {r : Int} {f t : List Int} (hr : okI r) (ht : ∀ z ∈ t, okI z) : okI (turnI r f t) := by
  rcases turnI_in r f t with h | h
  · rw [h]; exact hr
  · exact ht _ h
theorem swL_ok {f t : List Int} {l : List Atom} (hl : ∀ x ∈ l, okAt x) (ht : ∀ z ∈ t, okI z) : ∀ x ∈ swL f t l, okAt x := by
  intro x hx
  unfold swL at hx
  rw [mem_sortA, List.mem_filter, List.mem_map] at hx
  obtain ⟨⟨y, hy, rfl⟩, _⟩ := hx
  rw [mem_sortA, List.mem_filter] at hy
  have h := hl y hy.1
  unfold swA
  split
  · exact h
  · have := turnI_ok (f := f) ⟨h.r0, h.r1⟩ ht
    exact ⟨h.k0, h.k1, this.1, this.2, h.s1⟩
theorem swH_ok {f t : List Int} {a : LH} (hr : okI a.rho) (ha : ∀ x ∈ a.eff, okAt x) (ht : ∀ z ∈ t, okI z) : okI (swH f t a).rho ∧ ∀ x ∈ (swH f t a).eff, okAt x := by
  unfold swH
  split
  · exact ⟨hr, ha⟩
  · exact ⟨turnI_ok hr ht, swL_ok ha ht⟩
def SpanR (N B E : Nat) (t : PT) : Prop := ∀ a ∈ t.nodes, (∀ ad, a.kp = some ad → B ≤ ad.block ∧ ad.block < E) ∧ (a.eff ≠ [] → ∀ ad, a.ep = some ad → (ad.block < N ∨ B ≤ ad.block) ∧ ad.block < E)
theorem SpanR.mono {N B E B' E' : Nat} {t : PT} (h : SpanR N B E t) (hB : B' ≤ B) (hE : E ≤ E') : SpanR N B' E' t := fun a ha =>
  ⟨fun ad hp => by have := (h a ha).1 ad hp; omega, fun he ad hp => by have := (h a ha).2 he ad hp; omega⟩
theorem SpanR.node {N B E : Nat} {a : RH} {l : List PT} (ha : ∀ ad, a.kp = some ad → B ≤ ad.block ∧ ad.block < E) (he : a.eff ≠ [] → ∀ ad, a.ep = some ad → (ad.block < N ∨ B ≤ ad.block) ∧ ad.block < E) (hl : ∀ t ∈ l, SpanR N B E t) : SpanR N B E (.node a l) := by
  intro x hx
  rw [Rose.nodes_node, List.mem_cons] at hx
  rcases hx with rfl | hx
  · exact ⟨ha, he⟩
  · rw [List.mem_flatten] at hx
    obtain ⟨m, hm, hx⟩ := hx
    obtain ⟨t, ht, rfl⟩ := List.mem_map.1 hm
    exact hl t ht x hx
def OffR (r : Option Nat) (t : PT) : Prop := ∀ a ∈ t.nodes, (∀ ad, a.kp = some ad → r ≠ some ad.block) ∧ (a.eff ≠ [] → ∀ ad, a.ep = some ad → r ≠ some ad.block)
theorem isRow_grown {α : Type} {enc : α → List Value} {k : Nat} {w w' : World} {r : Option Nat} {p : Option Addr} {n c : Nat} {l : List α} (hg : w.grownBy w' r) (hne : l ≠ [] → ∀ ad, p = some ad → r ≠ some ad.block) (h : IsRow enc k w p n c l) : IsRow enc k w' p n c l := by
  refine ⟨h.len, h.max, h.le, h.nil, ?_⟩
  by_cases hl : l = []
  · exact .inl hl
  · exact rowE_grown hg (hne hl) h.row
theorem liesR_grown {w w' : World} {r : Option Nat} (hg : w.grownBy w' r) (t : PT) : OffR r t → LR.lies w t → LR.lies w' t := by
  refine Rose.ind (P := fun (t : PT) => OffR r t → LR.lies w t → LR.lies w' t) (fun a l ih ho h => ?_) t
  have hn := nodeIn h
  have h0 := ho a (by rw [Rose.nodes_node]; simp)
  refine NodeIn.lies ⟨⟨isRow_grown hg h0.2 hn.own.eff, hn.own.ok, hn.own.k0, hn.own.k1, hn.own.r0, hn.own.r1, hn.own.kmax, hn.own.kle, hn.own.knil⟩, isRow_grown hg (fun _ => h0.1) hn.kids, fun t ht => ih t ht (fun x hx => ho x ?_) (hn.each t ht)⟩
  rw [Rose.nodes_node, List.mem_cons, List.mem_flatten]
  exact .inr ⟨t.nodes, List.mem_map_of_mem ht, hx⟩
theorem SpanR.off {N B E : Nat} {r : Nat} {t : PT} (h : SpanR N B E t) (hr : N ≤ r ∧ r < B ∨ E ≤ r) (hNE : N ≤ E) : OffR (some r) t := fun a ha =>
  ⟨fun ad hp e => by have := (h a ha).1 ad hp; injection e with e; omega, fun he ad hp e => by have := (h a ha).2 he ad hp; injection e with e; omega⟩
def SwapOut (N : Nat) (f t : List Int) (x : PT) (W : World) (e : Ending) (w' : World) : Prop := (∃ y : PT, e = .returned (aggR y.head) ∧ LR.lies w' y ∧ SpanR N W.heap.size w'.heap.size y ∧ PT.er y = swapT f t (PT.er x)) ∧ Below W.heap.size W w'
structure Two (w : World) (p1 : Option Addr) (n1 c1 : Nat) (f : List Int) (p2 : Option Addr) (n2 c2 : Nat) (t : List Int) : Prop where
  rf : IsRow encN 1 w p1 n1 c1 f
  rt : IsRow encN 1 w p2 n2 c2 t
  m1 : n1 ≤ 1000000
  m2 : n2 ≤ 1000000
  ok : ∀ z ∈ t, okI z
theorem Two.below {w w' : World} {p1 : Option Addr} {n1 c1 : Nat} {f : List Int} {p2 : Option Addr} {n2 c2 : Nat} {t : List Int} (h : Two w p1 n1 c1 f p2 n2 c2 t) (hb : Below w.heap.size w w') : Two w' p1 n1 c1 f p2 n2 c2 t := ⟨h.rf.below hb, h.rt.below hb, h.m1, h.m2, h.ok⟩
theorem infoR : (Tryz.prog.info? 28).map (fun i => (i.zero, i.size, i.bytes)) = some (some (.agg #[.int .u8 0, .int .i64 0, .slice none 0 0, .slice none 0 0]), 4, 64) := by kernel_rfl
theorem LRone : ∀ t : PT, ∀ u ∈ LR.encT t, u.oneCell' = true := by
  intro t u hu
  have : u ∈ encRH t.head := hu
  simp [encRH] at this
  rcases this with rfl | rfl | rfl | rfl <;> rfl
structure Box4 (w : World) (g : Nat) (x y z u : Value) : Prop where
  blk : w.heap[g]? = some (.cells #[x, y, z, u] 28 (0, 0))
theorem Box4.cells {w : World} {g : Nat} {x y z u : Value} (h : Box4 w g x y z u) : w.cell? ⟨g, 0, none⟩ = some x ∧ w.cell? ⟨g, 1, none⟩ = some y ∧ w.cell? ⟨g, 2, none⟩ = some z ∧ w.cell? ⟨g, 3, none⟩ = some u ∧ w.frozen? ⟨g, 0, none⟩ = false ∧ w.frozen? ⟨g, 1, none⟩ = false ∧ w.frozen? ⟨g, 2, none⟩ = false ∧ w.frozen? ⟨g, 3, none⟩ = false := by
  have hb := h.blk
  refine ⟨?_, ?_, ?_, ?_, ?_, ?_, ?_, ?_⟩ <;> simp [World.cell?, World.frozen?, hb]
theorem Box4.lt {w : World} {g : Nat} {x y z u : Value} (h : Box4 w g x y z u) : g < w.heap.size := (Array.getElem?_eq_some_iff.1 h.blk).1
theorem Box4.grown {w w' : World} {g : Nat} {x y z u : Value} {r : Option Nat} (h : Box4 w g x y z u) (hg : w.grownBy w' r) (hr : r ≠ some g) : Box4 w' g x y z u := ⟨by rw [hg.block g h.lt hr.symm]; exact h.blk⟩
theorem Box4.below {w w' : World} {g : Nat} {x y z u : Value} (h : Box4 w g x y z u) (hb : Below w.heap.size w w') : Box4 w' g x y z u := ⟨by rw [hb.block g h.lt]; exact h.blk⟩
theorem box4_new (w : World) (x y z u : Value) : Box4 (w.alloc (.cells #[x, y, z, u] 28)) w.heap.size x y z u := ⟨heap_alloc_new w _⟩
theorem box4_set {w : World} {g : Nat} {x y z u : Value} (h : Box4 w g x y z u) (x' y' z' u' : Value) :
    Box4 ((((w.setCell ⟨g, 0, none⟩ x').setCell ⟨g, 1, none⟩ y').setCell ⟨g, 2, none⟩ z').setCell ⟨g, 3, none⟩ u') g x' y' z' u' ∧ w.grownBy ((((w.setCell ⟨g, 0, none⟩ x').setCell ⟨g, 1, none⟩ y').setCell ⟨g, 2, none⟩ z').setCell ⟨g, 3, none⟩ u') (some g) := by
  have h1 := heap_setCell1 (o := 3) u' (heap_setCell1 (o := 2) z' (heap_setCell1 (o := 1) y' (heap_setCell1 (o := 0) x' h.blk)))
  refine ⟨⟨by simpa using h1⟩, ?_⟩
  exact held_own (held_own (held_own (grown_setCell1 w g 0 x') (grown_setCell1 _ g 1 y') (fun b _ h => h)) (grown_setCell1 _ g 2 z') (fun b _ h => h)) (grown_setCell1 _ g 3 u') (fun b _ h => h)
theorem box4_one {w : World} {g : Nat} {x y z u : Value} (h : Box4 w g x y z u) (v : Value) : Box4 (w.setCell ⟨g, 1, none⟩ v) g x v z u := ⟨by simpa using heap_setCell1 (o := 1) v h.blk⟩
theorem box4_two {w : World} {g : Nat} {x y z u : Value} (h : Box4 w g x y z u) (v : Value) : Box4 (w.setCell ⟨g, 2, none⟩ v) g x y v u := ⟨by simpa using heap_setCell1 (o := 2) v h.blk⟩
theorem box4_three {w : World} {g : Nat} {x y z u : Value} (h : Box4 w g x y z u) (v : Value) : Box4 (w.setCell ⟨g, 3, none⟩ v) g x y z v := ⟨by simpa using heap_setCell1 (o := 3) v h.blk⟩
structure SwR (N B : Nat) (w wx : World) (a : RH) (f t : List Int) (z : Int) (ep : Option Addr) (en ec : Nat) (eff : List Atom) : Prop where
  b0 : Box4 wx B (.int .u8 a.kind) (.int .i64 a.rho) (.slice a.ep a.en a.ec) (.slice a.kp a.kn a.kc)
  b1 : Box4 wx (B + 1) (.int .u8 0) (.int .i64 0) (.slice none 0 0) (.slice none 0 0)
  size : B + 3 ≤ wx.heap.size
  below : Below B w wx
  row : IsRow encA 3 wx ep en ec eff
  span : eff ≠ [] → ∀ ad, ep = some ad → (ad.block < N ∨ B + 3 ≤ ad.block) ∧ ad.block < wx.heap.size
  is : (⟨a.kind, z, eff⟩ : LH) = swH f t a.plain
theorem SwR.grown {N B : Nat} {w wx w' : World} {a : RH} {f t : List Int} {z : Int} {ep : Option Addr} {en ec : Nat} {eff : List Atom} {r : Option Nat} (h : SwR N B w wx a f t z ep en ec eff) (hg : wx.grownBy w' r) (hr : ∀ b, r = some b → B + 1 + 1 ≤ b)
    (heff : eff ≠ [] → ∀ ad, ep = some ad → r ≠ some ad.block) : SwR N B w w' a f t z ep en ec eff :=
  ⟨h.b0.grown hg (fun e => by have := hr _ e; omega), h.b1.grown hg (fun e => by have := hr _ e; omega), Nat.le_trans h.size hg.size, h.below.grown hg (by have := h.size; omega) (fun j hj => by have := hr _ hj; omega), isRow_grown hg heff h.row, fun he ad hp => by have := h.span he ad hp; have := hg.size; omega, h.is⟩
theorem SwR.drop {N B : Nat} {w wx w' : World} {a : RH} {f t : List Int} {z : Int} {ep : Option Addr} {en ec : Nat} {eff : List Atom} (h : SwR N B w wx a f t z ep en ec eff) (hb : Below wx.heap.size wx w') : SwR N B w w' a f t z ep en ec eff :=
  ⟨h.b0.below hb, h.b1.below hb, Nat.le_trans h.size hb.size, h.below.trans (hb.mono (by have := h.size; omega)), h.row.below hb, fun he ad hp => by have := h.span he ad hp; have := hb.size; omega, h.is⟩
structure SwI (N B : Nat) (w wx : World) (a : RH) (f t : List Int) (z : Int) (ep : Option Addr) (en ec : Nat) (eff : List Atom) (v : Value) (k : Nat) (ys : List PT) : Prop where
  own : OwnE LR.encT 4 wx (B + 3) 28 v k ys
  r : SwR N B w wx a f t z ep en ec eff
  b2 : Box4 wx (B + 1 + 1) (.int .u8 a.kind) (.int .i64 z) (.slice ep en ec) v
  eoff : eff ≠ [] → ∀ ad, ep = some ad → v.ownBlock ≠ some ad.block
  ys : ∀ y ∈ ys, LR.lies wx y ∧ OffR v.ownBlock y ∧ SpanR N (B + 3) wx.heap.size y
section
variable {N B : Nat} {w wx w' w3 : World} {a : RH} {f t : List Int} {z : Int} {ep : Option Addr} {en ec : Nat} {eff : List Atom} {v : Value} {k : Nat} {ys : List PT}
theorem SwI.drop (h : SwI N B w wx a f t z ep en ec eff v k ys) (hb : Below wx.heap.size wx w') : SwI N B w w' a f t z ep en ec eff v k ys :=
  ⟨h.own.below hb, h.r.drop hb, h.b2.below hb, h.eoff, fun y hy => ⟨LR.lies_below hb y (h.ys y hy).1, (h.ys y hy).2.1, (h.ys y hy).2.2.mono (Nat.le_refl _) hb.size⟩⟩
theorem SwI.add (h : SwI N B w wx a f t z ep en ec eff v k ys) {y : PT} (hl : LR.lies wx y) (ho : OffR v.ownBlock y) (hs : SpanR N (B + 3) wx.heap.size y) {p3 : Option Addr} {c3 : Nat}
    (hown3 : OwnE LR.encT 4 w3 (B + 3) 28 (.slice p3 (k + 1) c3) (k + 1) (ys ++ [y])) (hg3 : wx.grownBy w3 v.ownBlock) (hf3 : ∀ b, b < wx.heap.size → (Value.slice p3 (k + 1) c3).ownBlock = some b → v.ownBlock = some b) (hN : N ≤ B) :
    SwI N B w (w3.setCell ⟨B + 1 + 1, 3, none⟩ (.slice p3 (k + 1) c3)) a f t z ep en ec eff (.slice p3 (k + 1) c3) (k + 1) (ys ++ [y]) := by
  have hgs : w3.grownBy (w3.setCell ⟨B + 1 + 1, 3, none⟩ (.slice p3 (k + 1) c3)) (some (B + 1 + 1)) := grown_setCell1 _ _ _ _
  have hfr : ∀ b, v.ownBlock = some b → B + 3 ≤ b := fun b hb => OwnE.from h.own b hb
  have hfr3 : ∀ b, (Value.slice p3 (k + 1) c3).ownBlock = some b → B + 3 ≤ b := fun b hb => OwnE.from hown3 b hb
  have hall : ∀ y' ∈ ys ++ [y], LR.lies wx y' ∧ OffR v.ownBlock y' ∧ SpanR N (B + 3) wx.heap.size y' := fun y' hy' => by
    rcases List.mem_append.1 hy' with hy' | hy'
    · exact h.ys y' hy'
    · rw [List.mem_singleton] at hy'; subst hy'; exact ⟨hl, ho, hs⟩
  refine ⟨hown3.other hgs (fun b hb e => by have := hfr3 b hb; cases e; omega), (h.r.grown hg3 (fun b hb => by have := hfr b hb; omega) h.eoff).grown hgs (fun b hb => by cases hb; omega) (fun he ad hp e => ?_), box4_three (h.b2.grown hg3 (fun e => by have := hfr _ e; omega)) _, fun he ad hp e => ?_, fun y' hy' => ?_⟩
  · have := h.r.span he ad hp
    injection e with e; omega
  · exact h.eoff he ad hp (hf3 _ (h.r.span he ad hp).2 e)
  · obtain ⟨h1, h2, h3⟩ := hall y' hy'
    have hsz := Nat.le_trans hg3.size hgs.size
    have hB := h.r.size
    refine ⟨liesR_grown hgs y' (SpanR.off h3 (by omega) (by omega)) (liesR_grown hg3 y' h2 h1), fun a' ha => ⟨fun ad hp e => ?_, fun he ad hp e => ?_⟩, h3.mono (Nat.le_refl _) hsz⟩
    · exact (h2 a' ha).1 ad hp (hf3 _ ((h3 a' ha).1 ad hp).2 e)
    · exact (h2 a' ha).2 he ad hp (hf3 _ ((h3 a' ha).2 he ad hp).2 e)
theorem swap_end {l : List PT} {W : World} {p : Option Addr} {c : Nat} (hI : SwI N w.heap.size w wx a f t z ep en ec eff (.slice p k c) k ys) (hN : N ≤ w.heap.size) (hk : k = l.length) (ha : RH.Own w a) (ht : ∀ z ∈ t, okI z) (hm : k ≤ 1000)
    (her : ys.map PT.er = (l.take k).map (fun x => swapT f t (PT.er x))) (hg : wx.grownBy W (some (w.heap.size + 1))) : SwapOut N f t (.node a l) w (.returned (aggR ⟨a.kind, z, ep, en, ec, eff, p, k, c⟩)) W := by
  obtain ⟨q, c', hq, hrow⟩ := hI.own.isRow LRlen (by omega)
  cases hq
  have hsp : ∀ ad, p = some ad → w.heap.size + 3 ≤ ad.block ∧ ad.block < wx.heap.size := fun ad hp => by
    subst hp
    exact World.ownsRow.lt hI.own ad.block rfl
  have hB := hI.r.size
  have his := hI.r.is
  obtain ⟨hz, hok⟩ := swH_ok (f := f) (a := a.plain) ⟨ha.r0, ha.r1⟩ ha.ok ht
  rw [← his] at hz hok
  refine ⟨⟨.node ⟨a.kind, z, ep, en, ec, eff, p, k, c⟩ ys, rfl, ?_, SpanR.node (fun ad hp => by have := hsp ad hp; have := hg.size; omega) (fun he ad hp => by have := hI.r.span he ad hp; have := hg.size; omega) (fun y hy => (hI.ys y hy).2.2.mono (by omega) hg.size), ?_⟩, ?_⟩
  · refine NodeIn.lies ⟨⟨isRow_grown hg (fun he ad hp e => by have := hI.r.span he ad hp; injection e with e; omega) hI.r.row, hok, ha.k0, ha.k1, hz.1, hz.2, by show k ≤ _; omega, hrow.le, hrow.nil⟩, isRow_grown hg (fun _ ad hp e => by have := hsp ad hp; injection e with e; omega) hrow, fun y hy => ?_⟩
    exact liesR_grown hg y (SpanR.off (hI.ys y hy).2.2 (by omega) (by omega)) (hI.ys y hy).1
  · rw [PT.er_node, swapT_er, her, take_full (by omega)]
    show Rose.node (⟨a.kind, z, eff⟩ : LH) _ = _
    rw [his]
  · exact hI.r.below.grown hg (by omega) (fun j hj => by injection hj with hj; omega)
end
abbrev cellsR (a : RH) : Obj := .cells #[.int .u8 a.kind, .int .i64 a.rho, .slice a.ep a.en a.ec, .slice a.kp a.kn a.kc] 28
abbrev cellsZ : Obj := .cells #[.int .u8 0, .int .i64 0, .slice none 0 0, .slice none 0 0] 28
abbrev boxes3 (w : World) (a : RH) : World := ((w.alloc (cellsR a)).alloc cellsZ).alloc (cellsR a)
theorem boxes3_below (w : World) (a : RH) : Below w.heap.size w (boxes3 w a) := (((Below.refl w.heap.size w).alloc (Nat.le_refl _) _).alloc (by simp) _).alloc (by simp; omega) _
theorem boxes3_0 (w : World) (a : RH) : Box4 (boxes3 w a) w.heap.size (.int .u8 a.kind) (.int .i64 a.rho) (.slice a.ep a.en a.ec) (.slice a.kp a.kn a.kc) := by
  refine Box4.below (w := w.alloc (cellsR a)) ?_ (((Below.refl _ _).alloc (Nat.le_refl _) _).alloc (by simp) _)
  exact box4_new w _ _ _ _
theorem boxes3_1 (w : World) (a : RH) : Box4 (boxes3 w a) (w.heap.size + 1) (.int .u8 0) (.int .i64 0) (.slice none 0 0) (.slice none 0 0) := by
  refine Box4.below (w := (w.alloc (cellsR a)).alloc cellsZ) ?_ ((Below.refl _ _).alloc (Nat.le_refl _) _)
  have := box4_new (w.alloc (cellsR a)) (.int .u8 0) (.int .i64 0) (.slice none 0 0) (.slice none 0 0)
  simpa using this
theorem boxes3_2 (w : World) (a : RH) : Box4 (boxes3 w a) (w.heap.size + 1 + 1) (.int .u8 a.kind) (.int .i64 a.rho) (.slice a.ep a.en a.ec) (.slice a.kp a.kn a.kc) := by
  have := box4_new ((w.alloc (cellsR a)).alloc cellsZ) (.int .u8 a.kind) (.int .i64 a.rho) (.slice a.ep a.en a.ec) (.slice a.kp a.kn a.kc)
  simpa using this
def SwapAt (N : Nat) (p1 : Option Addr) (n1 c1 : Nat) (f : List Int) (p2 : Option Addr) (n2 c2 : Nat) (t : List Int) (x : PT) (W : World) : Prop :=
  Calls Tryz.prog 39 #[aggR x.head, .slice p1 n1 c1, .slice p2 n2 c2] W (SwapOut N f t x W)
set_option maxHeartbeats 4000000 in
theorem rtype_Swap_of {N : Nat} {a : RH} {l : List PT} {w : World} {p1 : Option Addr} {n1 c1 : Nat} {f : List Int} {p2 : Option Addr} {n2 c2 : Nat} {t : List Int} (hN : NodeIn w a l) (hNw : N ≤ w.heap.size) (he : a.eff ≠ [] → ∀ ad, a.ep = some ad → ad.block < N)
    (hge : a.en ≤ 1000) (h2 : Two w p1 n1 c1 f p2 n2 c2 t) (hl : a.kn ≤ 1000) (hf : ∀ x ∈ l, ∀ W, Below w.heap.size w W → SwapAt N p1 n1 c1 f p2 n2 c2 t x W) : SwapAt N p1 n1 c1 f p2 n2 c2 t (.node a l) w := by
  have HN := hid hN
  have HF := hid hf
  have H2 := hid h2
  have HE := hid he
  have HNW := hid hNw
  have hkm := hN.own.kmax
  have hm1 := h2.m1
  have hm2 := h2.m2
  have HB1 := hid (boxes3_below w a)
  have HX0 := hid (boxes3_0 w a)
  have HX1 := hid (boxes3_1 w a)
  have HX2 := hid (boxes3_2 w a)
  show Calls _ _ #[aggR a, .slice p1 n1 c1, .slice p2 n2 c2] w _
  clear hN hf h2 he hNw
  go_enter Tryz.func39, Tryz.ntmps39
  go_upto_if 14 with fail
  go_cut [] from 8 to 37 (fun wx => ∃ (z : Int) (ep : Option Addr) (en ec : Nat) (eff : List Atom), SwR N w.heap.size w wx a f t z ep en ec eff ∧ Box4 wx (w.heap.size + 1 + 1) (.int .u8 a.kind) (.int .i64 z) (.slice ep en ec) (.slice a.kp a.kn a.kc))
  case first =>
    by_cases hk1 : a.kind = 1
    · have HK1 := hid hk1
      have b1 : (a.kind != 1) = false := by simpa using hk1
      clear hk1
      go_wp2_with fail
      go_meet
      case rel => exact ⟨a.rho, a.ep, a.en, a.ec, a.eff, ⟨HX0.out, HX1.out, by simp, HB1.out, HN.out.own.eff.below HB1.out, fun he ad hp => ⟨.inl (HE.out he ad hp), by have := HE.out he ad hp; have := HNW.out; simp; omega⟩, by unfold swH; rw [if_pos (show a.plain.kind = 1 from HK1.out)]; rfl⟩, HX2.out⟩
    · have HK1 := hid hk1
      have b1 : (a.kind != 1) = true := by simpa using hk1
      have HEF := hid (HN.out.own.eff.below HB1.out)
      have H21 := hid (H2.out.below HB1.out)
      clear hk1
      go_wp2_with fail
      refine (effect_Swap_own a.ep a.en a.ec a.eff p1 n1 c1 f p2 n2 c2 t (boxes3 w a) HEF.out.len (by omega) HEF.out.row H21.out.rf.len hm1 H21.out.rf.row H21.out.rt.len hm2 H21.out.rt.row).mono ?_
      rintro e w2 ⟨v, m, rfl, hm, hown, hb⟩
      obtain ⟨q, qc, rfl, hrow⟩ := hown.isRow encA_len (by omega)
      have hB2 : Below w.heap.size w w2 := HB1.out.trans (hb.mono HB1.out.size)
      have HX3 := hid (HX2.out.below hb)
      have hlt2 := HX3.out.lt
      have hgs := grown_setCell1 w2 (w.heap.size + 1 + 1) 2 (.slice q m qc)
      have hsp : ∀ ad, q = some ad → w.heap.size + 3 ≤ ad.block ∧ ad.block < w2.heap.size := fun ad hp => by
        subst hp
        have := World.ownsRow.lt hown ad.block rfl
        simpa using this
      have HSW : Hid (SwR N w.heap.size w (w2.setCell ⟨w.heap.size + 1 + 1, 2, none⟩ (.slice q m qc)) a f t (turnI a.rho f t) q m qc (swL f t a.eff)) := SwR.grown
        ⟨HX0.out.below hb, HX1.out.below hb, by omega, hB2, hrow, fun _ ad hp => by have := hsp ad hp; omega, by unfold swH; rw [if_neg (show ¬ a.plain.kind = 1 from HK1.out)]; rfl⟩ hgs (fun b hb => by cases hb; omega) (fun _ ad hp e => by have := hsp ad hp; injection e with e; omega)
      have HX4 := hid (box4_two HX3.out (.slice q m qc))
      obtain ⟨x0, x1, x2, x3, x4, x5, x6, x7⟩ := HX3.out.cells
      obtain ⟨y0, y1, y2, y3, y4, y5, y6, y7⟩ := (HX0.out.below hb).cells
      clear hb hown hrow hB2 hgs hsp
      go_wp2_with fail
      clear x0 x1 x2 x3 x4 x5 x6 x7 y0 y1 y2 y3 y4 y5 y6 y7
      generalize w2.setCell ⟨w.heap.size + 1 + 1, 2, none⟩ (.slice q m qc) = W3 at *
      have H23 := hid (H2.out.below HSW.out.below)
      obtain ⟨x0, x1, x2, x3, x4, x5, x6, x7⟩ := HX4.out.cells
      obtain ⟨y0, y1, y2, y3, y4, y5, y6, y7⟩ := HSW.out.b0.cells
      have hlt3 := HX4.out.lt
      rcases idx_turn a.rho f t with ⟨hi, ht⟩ | ⟨j, hj, hi, ht⟩
      · have HI := hid hi
        have HT := hid ht
        clear hi ht
        refine (index_is a.rho p1 n1 c1 f _ (-1) HI.out H23.out.rf.len (by omega) H23.out.rf.row).mono ?_
        rintro e w3 ⟨rfl, rfl⟩
        go_wp2_with fail
        go_meet
        case rel => exact ⟨_, _, _, _, _, HSW.out, by rw [HT.out]; exact HX4.out⟩
      · have HI := hid hi
        have HT := hid ht
        clear hi ht
        have hj1 : j < n1 := by have := H23.out.rf.len; omega
        by_cases hjm : j < n2
        · obtain ⟨z, hz⟩ := get_of_lt (l := t) (j := j) (by rw [H23.out.rt.len]; exact hjm)
          have HTZ : Hid (turnI a.rho f t = z) := by show turnI a.rho f t = z; rw [HT.out, hz]; rfl
          obtain ⟨b', o', rfl, e0⟩ := H23.out.rt.row.num hz
          clear hz
          refine (index_is a.rho p1 n1 c1 f _ (j : Int) HI.out H23.out.rf.len (by omega) H23.out.rf.row).mono ?_
          rintro e w3 ⟨rfl, rfl⟩
          go_wp2_with fail
          go_meet
          case rel => exact ⟨z, _, _, _, _, by have := HSW.out; rw [HTZ.out] at this; exact this.grown (grown_setCell1 _ _ _ _) (fun b hb => by cases hb; omega) (fun he ad hp e => by have h := HSW.out.span he ad hp; have := HNW.out; injection e with e; omega), box4_one HX4.out _⟩
        · have HTR : Hid (turnI a.rho f t = a.rho) := by show turnI a.rho f t = a.rho; rw [HT.out, List.getElem?_eq_none (by rw [H23.out.rt.len]; omega)]; rfl
          refine (index_is a.rho p1 n1 c1 f _ (j : Int) HI.out H23.out.rf.len (by omega) H23.out.rf.row).mono ?_
          rintro e w3 ⟨rfl, rfl⟩
          go_wp2_with fail
          go_meet
          case rel => exact ⟨_, _, _, _, _, HSW.out, by rw [HTR.out]; exact HX4.out⟩
  case rest =>
    obtain ⟨z, ep, en, ec, eff, hr, hb2⟩ := hcut
    have HR := hid hr
    have HB2 := hid hb2
    clear hr hb2
    obtain ⟨x0, x1, x2, x3, x4, x5, x6, x7⟩ := HB2.out.cells
    obtain ⟨y0, y1, y2, y3, y4, y5, y6, y7⟩ := HR.out.b0.cells
    have hlt2 := HB2.out.lt
    go_wp2_with fail
    have HSI : Hid (SwI N w.heap.size w (wc.setCell ⟨w.heap.size + 1 + 1, 3, none⟩ (.slice none 0 0)) a f t z ep en ec eff (.slice none 0 0) 0 []) :=
      ⟨OwnE.nil _ _ _ _ _, HR.out.grown (grown_setCell1 _ _ _ _) (fun b hb => by cases hb; omega) (fun he ad hp e => by have h := HR.out.span he ad hp; have := HNW.out; injection e with e; omega), box4_three HB2.out _, (fun _ _ _ e => by cases e), (fun y hy => by cases hy)⟩
    clear x0 x1 x2 x3 x4 x5 x6 x7 y0 y1 y2 y3 y4 y5 y6 y7 hlt2
    generalize wc.setCell ⟨w.heap.size + 1 + 1, 3, none⟩ (.slice none 0 0) = W1 at *
    go_loopw [10, 42] (fun _ i wr => ∃ (k : Nat) (v : Value) (ys : List PT), k ≤ a.kn ∧ i = .int .i64 k ∧ SwI N w.heap.size w wr a f t z ep en ec eff v k ys ∧ ys.map PT.er = (l.take k).map (fun x => swapT f t (PT.er x))) (fun _ i _ => a.kn - (intOf i).toNat)
    case atStart => exact ⟨0, _, [], by omega, rfl, HSI.out, by simp⟩
    case round =>
      obtain ⟨k, v, ys, hk, rfl, hsi, her⟩ := hrel
      have HSW := hid hsi
      have HER := hid her
      clear hsi her
      have HB := hid HSW.out.r.below
      by_cases hlt : k < a.kn
      · obtain ⟨x, hx⟩ := HN.out.rowT.at (j := k) hlt
        have HEX := hid hx
        obtain ⟨g, o, hbo, hbl, d0, d1, d2, d3⟩ := (HN.out.rowT.below HB.out).kid hx
        have hBA : Below wr.heap.size wr (wr.alloc (.cells #[.int .u8 x.head.kind, .int .i64 x.head.rho, .slice x.head.ep x.head.en x.head.ec, .slice x.head.kp x.head.kn x.head.kc] 28)) := (Below.refl _ wr).alloc (Nat.le_refl _) _
        have HSA := hid (HSW.out.drop hBA)
        have HFA : Hid (∀ W, Below (wr.heap.size + 1) (wr.alloc (.cells #[.int .u8 x.head.kind, .int .i64 x.head.rho, .slice x.head.ep x.head.en x.head.ec, .slice x.head.kp x.head.kn x.head.kc] 28)) W → SwapAt N p1 n1 c1 f p2 n2 c2 t x W) := fun W h => HF.out x (List.mem_of_getElem? hx) W (HSA.out.r.below.trans (h.mono (by have := HB.out.size; omega)))
        have hsA : (wr.alloc (.cells #[.int .u8 x.head.kind, .int .i64 x.head.rho, .slice x.head.ep x.head.en x.head.ec, .slice x.head.kp x.head.kn x.head.kc] 28)).heap.size = wr.heap.size + 1 := by simp
        obtain ⟨e0, e1, e2, e3⟩ := boxT_cells (w := wr) (t := x) (Below.refl _ _)
        rw [hbo]
        clear hx
        go_wp2_with fail
        clear d0 d1 d2 d3 hbo hBA
        obtain ⟨x0, x1, x2, x3, x4, x5, x6, x7⟩ := HSA.out.b2.cells
        generalize wr.alloc (.cells #[.int .u8 x.head.kind, .int .i64 x.head.rho, .slice x.head.ep x.head.en x.head.ec, .slice x.head.kp x.head.kn x.head.kc] 28) = W0 at *
        have HNE : Hid (∀ g, g < w.heap.size + 3 → v.ownBlock ≠ some g) := fun g hg h => by have := OwnE.from HSA.out.own g h; omega
        go_region_law (first
          | (refine step_appendR (by rfl) _ _ 26 (by rfl) (w.heap.size + 3) 28 _ 4 64 Tryz.underlying26 infoR rfl (by decide) LR.encT LRlen LRone [y] ys k v (own_alloc HS2.out.own _) _ 1 _ (by rfl) (by rfl) rfl (by intro h; cases h) HRY.out.row (by omega) (by omega) (by simp; have := HS2.out.r.size; omega) ?_
             intro v3 w3 hown3 hg3 hf3
             obtain ⟨p3, c3, rfl, hrow3⟩ := OwnE.isRow LRlen (by omega) hown3
             obtain ⟨x0, x1, x2, x3, x4, x5, x6, x7⟩ := ((HS2.out.b2.below ((Below.refl _ w2).alloc (Nat.le_refl _) _)).grown hg3 (HNE.out _ (by omega))).cells)
          | (go_simp; go_at_call 39; refine (HFA.out _ (by first | exact ⟨rfl, rfl, rfl, Nat.le_refl _, fun _ _ => rfl⟩)).mono ?_
             rintro e w2 ⟨⟨y, rfl, hly, hsy, hey⟩, hb2⟩
             have hb2' : Below W0.heap.size W0 w2 := bel_step (bel_drew W0) hb2
             have HS2 := hid (HSA.out.drop hb2')
             have HRY := hid (row_made LRlen (by omega) w2 28 [y] 1 #[.int .u8 y.head.kind, .int .i64 y.head.rho, .slice y.head.ep y.head.en y.head.ec, .slice y.head.kp y.head.kn y.head.kc] rfl rfl (by decide))
             have hlt2 : w.heap.size + 1 + 1 < w2.heap.size := HS2.out.b2.lt
             obtain ⟨x0, x1, x2, x3, x4, x5, x6, x7⟩ := HS2.out.b2.cells
             go_wp2_with fail))
        all_goals (
          have hA := (Below.refl _ w2).alloc (Nat.le_refl _) (.cells #[.int .u8 y.head.kind, .int .i64 y.head.rho, .slice y.head.ep y.head.en y.head.ec, .slice y.head.kp y.head.kn y.head.kc] 28)
          have HST := hid ((HS2.out.drop hA).add (LR.lies_below hA y hly) (fun a ha => ⟨fun ad hp e => by have h1 := ((hsy a ha).1 ad hp).1; have h5 := OwnE.under HSW.out.own _ e; simp at h1; omega, fun he ad hp e => by
            have h1 := ((hsy a ha).2 he ad hp).1; have h5 := OwnE.under HSW.out.own _ e; have h6 := OwnE.from HSW.out.own _ e; have := HNW.out; simp at h1; omega⟩) (hsy.mono (by have := HSW.out.r.size; simp; omega) (by simp)) hown3 hg3 hf3 HNW.out)
          have HER2 : Hid ((ys ++ [y]).map PT.er = (l.take (k + 1)).map (fun x => swapT f t (PT.er x))) := by show _ = _; rw [take_succ_get HEX.out, List.map_append, List.map_append, HER.out]; simp [hey]
          clear hA hown3 hg3 hf3 hb2 hb2' hly hsy hey hrow3 x0 x1 x2 x3 x4 x5 x6 x7)
        all_goals (
          go_wp2_with fail
          go_roundw
          case rel => exact ⟨k + 1, _, ys ++ [y], by omega, by go_num, HST.out, HER2.out⟩
          case measure => simp [intOf]; omega)
      · obtain ⟨p', c', rfl, hrow⟩ := HSW.out.own.isRow LRlen (by omega)
        have hkn : k = a.kn := by omega
        have HS := hid (box4_set HSW.out.r.b1 (.int .u8 a.kind) (.int .i64 z) (.slice ep en ec) (.slice p' k c'))
        have HEND := hid (swap_end (l := l) HSW.out HNW.out (by rw [hkn]; exact HN.out.kids.len.symm) HN.out.own H2.out.ok (by omega) HER.out HS.out.2)
        obtain ⟨x0, x1, x2, x3, x4, x5, x6, x7⟩ := HSW.out.b2.cells
        obtain ⟨y0, y1, y2, y3, y4, y5, y6, y7⟩ := HSW.out.r.b1.cells
        clear hrow hkn
        go_wp2_with fail
        (try simp only [Exit.inBlock, Exit.then])
        refine bodyPost_ret (results_cell_row rfl _ _ _ _ _ _ _ rfl HS.out.1.blk Tryz.underlying28 rfl (by kernel_rfl)) rfl ?_
        exact HEND.out
theorem swapAt_any {w0 : World} {p1 : Option Addr} {n1 c1 : Nat} {f : List Int} {p2 : Option Addr} {n2 c2 : Nat} {t : List Int} (h2 : Two w0 p1 n1 c1 f p2 n2 c2 t) (x : PT) :
    LR.lies w0 x → effsOK x.er = true → x.size ≤ 1000 → ∀ W, Below w0.heap.size w0 W → SwapAt w0.heap.size p1 n1 c1 f p2 n2 c2 t x W := by
  refine Rose.ind (P := fun (x : PT) => LR.lies w0 x → effsOK x.er = true → x.size ≤ 1000 → ∀ W, Below w0.heap.size w0 W → SwapAt w0.heap.size p1 n1 c1 f p2 n2 c2 t x W) (fun a l ih => ?_) x
  intro hl he hs W hW
  have HN := nodeIn hl
  rw [PT.er_node, effsOK_node, Bool.and_eq_true, List.all_map, List.all_eq_true] at he
  have hsz : sizes l + 1 = (Rose.node a l).size := sizes_kids (.node a l)
  have hlen := greatB_len' (show greatB a.eff = false by simpa [RH.plain] using he.1)
  refine rtype_Swap_of (HN.below hW) hW.size (fun hne ad hp => ?_) (by have := HN.own.eff.len; omega) (h2.below hW) ?_ (fun x hx W' hW' => ih x hx (HN.each x hx) (he.2 x hx) ?_ W' (hW.trans (hW'.mono hW.size)))
  · rcases HN.own.eff.row with h | ⟨b, o, hp', hb, _⟩
    · exact absurd h hne
    · rw [hp'] at hp; cases hp; exact hb
  · have h1 := kids_le l
    have h2 := HN.kids.len
    omega
  · have h2 : x.size ≤ sizes l := le_sum_of_mem (List.mem_map_of_mem hx)
    omega
end
end Go.Proofs.YtkdjnegfnhldpaaGreatDoor
