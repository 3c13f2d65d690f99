/- Part 8 of the texts: Eff22, OpenA, OpenB, OpenC, OpenG, RT, Rt1, Rt2. -/
import Derived.Test.YtkdjnegfnhldpaaGreatDoorG07
import Derived.Test.YtkdjnegfnhldpaaGreatDoorG03
import Derived.ProofKit
import Derived.OpenShut
import Derived.Deep.Slices
import Derived.Deep.SlicePairs
import Derived.Lib.SmallJoins
import Derived.ChangeOld
import Derived.Test.YtkdjnegfnhldpaaGreatDoorG06
set_option linter.unusedVariables false
set_option maxRecDepth 100000
set_option linter.unusedSimpArgs false
section
namespace Go.Proofs.YtkdjnegfnhldpaaGreatDoor
open Go.RowKit Go.Sort Go.Lib
def hasR (x : Atom) : Bool := atomB x && decide (x.kind ≠ 3)
def rhosOf (l : List Atom) : List Int := sortI ((l.filter hasR).map (·.rho))
theorem foldI : ∀ (l : List Int) (e : List Int), Rising ltI e → Rising ltI (l.foldl (fun e a => putI a e) e) ∧ ∀ x, x ∈ l.foldl (fun e a => putI a e) e ↔ x ∈ e ∨ x ∈ l
  | [], e, h => ⟨h, fun x => by simp⟩
  | a :: l, e, h => by
    obtain ⟨h1, h2⟩ := foldI l (putI a e) (rising_putI a e h)
    refine ⟨h1, fun x => ?_⟩
    rw [List.foldl_cons, h2, mem_putI, List.mem_cons]
    constructor
    · rintro ((rfl | h) | h)
      · exact .inr (.inl rfl)
      · exact .inl h
      · exact .inr (.inr h)
    · rintro (h | rfl | h)
      · exact .inl (.inr h)
      · exact .inl (.inl rfl)
      · exact .inr h
theorem insertR_length {α : Type} (lt : α → α → Bool) (a : α) : ∀ l : List α, (insertR lt a l).length ≤ l.length + 1
  | [] => by simp [insertR]
  | b :: l => by
    unfold insertR
    split
    · simp
    · split
      · have := insertR_length lt a l; simp; omega
      · simp
theorem sortR_length {α : Type} (lt : α → α → Bool) : ∀ l : List α, (sortR lt l).length ≤ l.length
  | [] => by simp [sortR]
  | a :: l => by
    have h1 := insertR_length lt a (sortR lt l)
    have h2 := sortR_length lt l
    simp only [sortR, List.length_cons]; omega
theorem rhosOf_length (l : List Atom) : (rhosOf l).length ≤ l.length := by
  have h1 := sortR_length ltI ((l.filter hasR).map (·.rho))
  have h2 := List.length_filter_le hasR l
  rw [List.length_map] at h1
  exact Nat.le_trans h1 h2
theorem mem_rhosOf (l : List Atom) (r : Int) : r ∈ rhosOf l ↔ ∃ x ∈ l, atomB x = true ∧ x.kind ≠ 3 ∧ x.rho = r := by
  unfold rhosOf
  rw [mem_sortI, List.mem_map]
  constructor
  · rintro ⟨x, hx, rfl⟩
    rw [List.mem_filter] at hx
    have h := hx.2
    unfold hasR at h
    rw [Bool.and_eq_true] at h
    exact ⟨x, hx.1, h.1, of_decide_eq_true h.2, rfl⟩
  · rintro ⟨x, hx, h1, h2, rfl⟩
    exact ⟨x, List.mem_filter.2 ⟨hx, by unfold hasR; rw [h1, decide_eq_true h2]; rfl⟩, rfl⟩
theorem rhosOf_congr {l m : List Atom} (h : ∀ x, atomB x = true → (x ∈ l ↔ x ∈ m)) : rhosOf l = rhosOf m := by
  refine sortI_congr (fun r => ?_)
  have h1 := mem_rhosOf l r
  have h2 := mem_rhosOf m r
  unfold rhosOf at h1 h2
  rw [mem_sortI] at h1 h2
  rw [h1, h2]
  constructor
  · rintro ⟨x, hx, ha, hk, hr⟩; exact ⟨x, (h x ha).1 hx, ha, hk, hr⟩
  · rintro ⟨x, hx, ha, hk, hr⟩; exact ⟨x, (h x ha).2 hx, ha, hk, hr⟩
theorem rhosOf_effL (l : List Atom) : rhosOf (effL l) = rhosOf l := rhosOf_congr (fun x hx => by rw [mem_sortA, List.mem_filter]; simp [hx])
set_option maxHeartbeats 1000000 in
theorem effect_Rhos_any (p : Option Addr) (n cap : Nat) (rows : List (SlE Atom)) (w : World) (hn : rows.length = n) (hm : n ≤ 1000000) (hr : RowE encSl 1 w p rows) (hok : ∀ r ∈ rows, r.Ok encA 3 w) (htot : (rows.map (·.n)).sum ≤ 1000000) :
    Calls Tryz.prog 132 #[.slice p n cap] w fun e w' => ∃ q m c, e = .returned (.slice q m c) ∧ m ≤ 1000000 ∧ IsRow encN 1 w' q m c (rhosOf (rows.flatMap (·.l))) ∧ Below w.heap.size w w' := by
  have HU := Lib.hid (effect_Union_any p n cap rows w hn hm hr hok htot)
  have HT := Lib.hid htot
  have HRE : Hid (sortI (((sortA ((rows.flatMap (·.l)).filter atomB)).filter (fun x => decide (x.kind ≠ 3))).map (·.rho)) = rhosOf (rows.flatMap (·.l))) := by
    show _ = _
    rw [← rhosOf_effL]
    unfold rhosOf
    congr 2
    apply List.filter_congr
    intro x hx
    rw [mem_sortA, List.mem_filter] at hx
    simp [hasR, hx.2]
  clear hn hr hok htot
  go_enter Tryz.func132, Tryz.ntmps132
  go_wp2_with fail
  refine HU.out.mono ?_
  rintro e w1 ⟨v, m, rfl, hmn, hown, hb⟩
  obtain ⟨q, mc, rfl, hrow⟩ := hown.isRow encA_len (by omega)
  have hm1 : m ≤ 1000000 := by have := HT.out; omega
  generalize hS : sortA ((rows.flatMap (·.l)).filter atomB) = S at hrow HRE
  have HS := Lib.hid hS
  have HR := Lib.hid hrow
  have HB := Lib.hid hb
  clear hrow hb
  clear hown hS hmn
  go_wp2_with fail
  go_loopw [3, 5, 9] (fun u _ i wr => ∃ k t : Nat, k ≤ m ∧ i = .int .i64 k ∧ t ≤ k ∧ OwnE encN 1 wr w1.heap.size 3 u t (((S.take k).filter (fun x => decide (x.kind ≠ 3))).map (·.rho)) ∧ Below w1.heap.size w1 wr) (fun _ _ i _ => m - (intOf i).toNat)
  case atStart => exact ⟨0, 0, by omega, rfl, by omega, OwnE.nil _ _ _ _ _, Below.refl _ _⟩
  case round =>
    obtain ⟨k, t, hk, rfl, htk, hown, hb⟩ := hrel
    have HOWN := Lib.hid hown
    have HBW := Lib.hid hb
    clear hown hb
    by_cases hlt : k < m
    · obtain ⟨x, hx⟩ := get_of_lt (l := S) (j := k) (by rw [HR.out.len]; exact hlt)
      have HE := Lib.hid hx
      obtain ⟨b, o, rfl, hbl, d0, d1, d2⟩ := RowA.atom (HR.out.below HBW.out).row hx
      obtain ⟨kd, rr, ss⟩ := x
      simp only at d0 d1 d2
      clear hx hbl
      have HBX := Lib.hid (HBW.out.alloc HBW.out.size (.cells #[.int .u8 kd, .int .i64 rr, .string ss] 59))
      have HO2 := Lib.hid (HOWN.out.below ((Below.refl _ wr).alloc (Nat.le_refl _) (.cells #[.int .u8 kd, .int .i64 rr, .string ss] 59)))
      by_cases h3 : kd = 3
      · have h3' : (kd != 3) = false := by simp [h3]
        have HN3 := Lib.hid h3
        clear h3
        go_wp2_with fail
        go_roundw
        case rel => exact ⟨k + 1, t, by omega, by go_num, by omega, by rw [take_succ_get HE.out, List.filter_append, List.map_append]; simpa [HN3.out] using HO2.out, HBX.out⟩
        case measure => simp [intOf]; omega
      · have h3' : (kd != 3) = true := by simpa using h3
        have HN3 := Lib.hid h3
        clear h3
        go_wp2_with (at_builtin; refine wpList_append1 rfl _ _ 24 rfl w1.heap.size 3 _ 1 8 Tryz.underlying24 infoN rfl (by decide) encN encN_len encN_one rr _ _ _ HO2.out rfl (by refine Eq.trans (b := Value.slice (some ⟨wr.heap.size + 1, 0, none⟩) 1 1) rfl ?_; simp) ?c1 ?c2 ?c3 ?_)
        case c1 => omega
        case c2 => omega
        case c3 => have := HBX.out.size; simp at this ⊢; omega
        · intro v' w4 hown' hg
          have HO4 := Lib.hid hown'
          have HB4 := Lib.hid (Below.own HBX.out hg (by have := HBX.out.size; simp at this ⊢; omega) HO2.out)
          clear hown' hg d0 d1 d2
          go_wp2_with fail
          go_roundw
          case rel => exact ⟨k + 1, t + 1, by omega, by go_num, by omega, by rw [take_succ_get HE.out, List.filter_append, List.map_append]; simpa [HN3.out] using HO4.out, HB4.out⟩
          case measure => simp [intOf]; omega
    · have hkm : k = m := by omega
      subst hkm
      have h1 := HOWN.out
      rw [take_full (by rw [HR.out.len]; omega)] at h1
      have HO := Lib.hid h1
      clear h1
      rcases HO.out.split encN_len (by omega) with ⟨rfl, rfl, hnil⟩ | ⟨g, cp, rfl, hcp, hbg⟩
      · have HNIL := Lib.hid hnil
        clear hnil
        go_wp2_with fail
        refine (Tryz.slices_Sort_int_none none 0 _).mono ?_
        rintro e w2 ⟨rfl, rfl⟩
        go_wp2_with fail
        refine (Tryz.slices_Compact_int_empty none 0 _).mono ?_
        rintro e w3 ⟨rfl, rfl⟩
        go_wp2_with fail
        go_ret
        exact ⟨none, 0, 0, rfl, by omega, by rw [← HRE.out, HNIL.out]; exact IsRow.none _ _ _, HB.out.trans (HBW.out.mono HB.out.size)⟩
      · go_wp2_with fail
        refine (sortN_any g cp t _ w1.heap.size wr HO.out (by omega)).mono ?_
        rintro e w2 ⟨rfl, ho1, hg1⟩
        have HB1 := Lib.hid (OwnE.drop_base (enc := encN) (k := 1) hg1 hbg HBW.out HBW.out.size)
        have HO1 := Lib.hid ho1
        clear ho1 hg1
        go_wp2_with fail
        refine (compactN_any g cp t _ w1.heap.size w2 HO1.out hcp (by omega)).mono ?_
        rintro e w3 ⟨m', rfl, hm', ho2, hg2⟩
        have HB2 := Lib.hid (OwnE.drop_base (enc := encN) (k := 1) hg2 hbg HB1.out HB1.out.size)
        rw [compact_msortI, HRE.out] at ho2
        obtain ⟨p', c', hv, hrow⟩ := ho2.isRow encN_len (by omega)
        cases hv
        have HO2 := Lib.hid hrow
        clear ho2 hg2 hrow
        go_wp2_with fail
        go_ret
        exact ⟨_, m', _, rfl, by omega, HO2.out, HB.out.trans (HB2.out.mono HB.out.size)⟩
end Go.Proofs.YtkdjnegfnhldpaaGreatDoor
end
section
namespace Go.Proofs.YtkdjnegfnhldpaaGreatDoor
open Go.ChangeShapes Go.WideShapes Go.ChangeAt Go.RowKit Go.Deep
variable {H : Type} {enc : TypeId × Value → H} {W : World} {base : Nat} {t e : TypeId} {v : Value} {d : DataW H} {ps : List MemPlace}
theorem row_of_gets {α : Type} {encE : α → List Value} {k : Nat} (w : World) (b o : Nat) (hb : b < w.heap.size) (n : Nat) (q : Nat → α) (h : ∀ j, j < n → ∀ i u, (encE (q j))[i]? = some u → w.cell? ⟨b, o + j * k + i, none⟩ = some u) :
    RowE encE k w (some ⟨b, o, none⟩) ((List.range n).map q) := by
  refine .inr ⟨b, o, rfl, hb, fun j x hx i u hu => ?_⟩
  rw [List.getElem?_map] at hx
  have hj : j < n := by
    have := (Option.map_eq_some_iff.1 hx).choose_spec.1
    have := (List.getElem?_eq_some_iff.1 this).1
    simpa using this
  rw [List.getElem?_range hj] at hx
  cases hx
  exact h j hj i u hu
end Go.Proofs.YtkdjnegfnhldpaaGreatDoor
end
section
namespace Go.Proofs.YtkdjnegfnhldpaaGreatDoor
open Go.ChangeShapes Go.WideShapes Go.ChangeAt Go.RowKit Go.Deep
section
variable {H : Type} {enc : TypeId × Value → H} {W : World} {base : Nat} {t e : TypeId} {v : Value} {d : DataW H} {ps : List MemPlace}
end
end Go.Proofs.YtkdjnegfnhldpaaGreatDoor
end
section
namespace Go.Proofs.YtkdjnegfnhldpaaGreatDoor
open Go.ChangeShapes Go.WideShapes Go.ChangeAt Go.RowKit Go.Deep
variable {H : Type} {enc : TypeId × Value → H} {W : World} {base : Nat} {t e : TypeId} {v : Value} {d : DataW H} {ps : List MemPlace}
structure okAt (x : Atom) : Prop where
  k0 : 0 ≤ x.kind
  k1 : x.kind ≤ 255
  r0 : -9223372036854775808 ≤ x.rho
  r1 : x.rho ≤ 9223372036854775807
  s1 : x.exn.size ≤ 9223372036854775807
end Go.Proofs.YtkdjnegfnhldpaaGreatDoor
end
section
namespace Go.Proofs.YtkdjnegfnhldpaaGreatDoor
open Go.ChangeShapes Go.WideShapes Go.ChangeAt Go.RowKit Go.Deep
section
variable {H : Type} {enc : TypeId × Value → H} {W : World} {base : Nat} {t e : TypeId} {v : Value} {d : DataW H} {ps : List MemPlace}
def Elem (enc : TypeId × Value → H) (W : World) (e : TypeId) (n : Nat) {α : Type} (enc1 : α → List Value) (Q : α → Prop) : Prop :=
  ∀ cs' x, DataW.trod enc Tryz.prog W 0 (fun _ => true) true n e cs' = some x → cs'.length = Tryz.prog.cellsOf e → ∃ y : α, cs' = enc1 y ∧ Q y
theorem open_row_at {α : Type} {k fuel : Nat} {cs : List Value} {x : DataW H × List MemPlace} (enc1 : α → List Value) (Q : α → Prop) (ht : Tryz.prog.underlying t = some (.slice e)) (hc : Tryz.prog.cellsOf e = k) (hk0 : 0 < k) (henc : ∀ y, (enc1 y).length = k)
    (hf : DataW.trod enc Tryz.prog W 0 (fun _ => true) true fuel t cs = some x) (he : ∀ n, n < fuel → Elem enc W e n enc1 Q) :
    ∃ p n cap, ∃ l : List α, cs = [.slice p n cap] ∧ IsRow enc1 k W p n cap l ∧ ∀ y ∈ l, Q y := by
  rcases DataW.trod_slice ht hf with ⟨hcs, _⟩ | ⟨a, len, cap, elems, rest, n, hfu, hcs, _, _, hl, hm, hlen, hel, _, _⟩
  · exact ⟨none, 0, 0, [], hcs, IsRow.none _ _ _, fun y hy => by cases hy⟩
  · unfold maxLen at hm
    have each : ∀ i, i < len → ∃ y : α, Q y ∧ ∀ j u, (enc1 y)[j]? = some u → W.cell? ((a.add (i * k)).add j) = some u := by
      intro i hi
      have h := hel i hi
      rw [List.getElem?_eq_getElem (by omega)] at h
      obtain ⟨cs', h1, h2⟩ := Option.bind_eq_some_iff.1 h
      rw [hc] at h1
      obtain ⟨_, hlen', hcell⟩ := World.cells?_some h1
      obtain ⟨y, rfl, hq⟩ := he n (by omega) cs' _ h2 (by rw [hc]; exact hlen')
      refine ⟨y, hq, fun j u hu => ?_⟩
      have hj : j < k := by rw [← henc y]; exact get_lt hu
      rw [hcell j hj]; exact hu
    by_cases hn0 : len = 0
    · subst hn0
      exact ⟨_, 0, cap, [], hcs, ⟨rfl, by omega, hl, (fun h => by cases h), .inl rfl⟩, fun y hy => by cases hy⟩
    · obtain ⟨y0, _⟩ := each 0 (by omega)
      haveI : Inhabited α := ⟨y0⟩
      obtain ⟨q, hq⟩ := choose_lt each
      obtain ⟨b, off, spot⟩ := a
      obtain ⟨u0, hu0⟩ : ∃ u, (enc1 (q 0))[0]? = some u := get_of_lt (by rw [henc]; omega)
      have c0 := (hq 0 (by omega)).2 0 u0 hu0
      have hspot : spot = none := by simpa [Addr.add] using World.cell?_spot c0
      subst hspot
      have hbl : b < W.heap.size := by simpa [Addr.add] using cell_block c0
      refine ⟨_, len, cap, (List.range len).map q, hcs, ⟨by simp, by omega, hl, (fun h => by cases h), row_of_gets W b off hbl len q (fun j hj i u hu => ?_)⟩, fun y hy => ?_⟩
      · have := (hq j hj).2 i u hu
        rw [add_lit', add_lit'] at this
        exact this
      · obtain ⟨j, hj, rfl⟩ := List.mem_map.1 hy
        exact (hq j (List.mem_range.1 hj)).1
theorem elem_num (n : Nat) : Elem enc W 3 n encN (fun z : Int => -9223372036854775808 ≤ z ∧ z ≤ 9223372036854775807) := by
  intro cs' x h _
  obtain ⟨z, rfl, _, hz⟩ := DataW.trod_int Tryz.underlying3 h
  exact ⟨z, rfl, by simpa [Lit.wf, IntKind.min, IntKind.max, IntKind.signed, IntKind.bits] using hz⟩
theorem elem_atom (n : Nat) : Elem enc W 59 n encA okAt := by
  intro cs' x h hlen
  have he : Tryz.prog.underlying 59 = some (.struct (Tryz.prog.fieldsOf 59)) := by kernel_rfl
  have ce : Tryz.prog.cellsOf 59 = 3 := by kernel_rfl
  have F0 : ((Tryz.prog.fieldsOf 59)[0]?).map (fun f => (f.type, f.offset)) = some (5, 0) := by kernel_rfl
  have F1 : ((Tryz.prog.fieldsOf 59)[1]?).map (fun f => (f.type, f.offset)) = some (3, 1) := by kernel_rfl
  have F2 : ((Tryz.prog.fieldsOf 59)[2]?).map (fun f => (f.type, f.offset)) = some (9, 2) := by kernel_rfl
  have C0 : Tryz.prog.cellsOf 5 = 1 := by kernel_rfl
  have C1 : Tryz.prog.cellsOf 3 = 1 := by kernel_rfl
  have C2 : Tryz.prog.cellsOf 9 = 1 := by kernel_rfl
  rw [ce] at hlen
  obtain ⟨xs, k, hk, hxy, _, hxl, hf'⟩ := DataW.trod_struct he h
  obtain ⟨f0, e0, p0⟩ := Option.map_eq_some_iff.1 F0
  obtain ⟨f1, e1, p1⟩ := Option.map_eq_some_iff.1 F1
  obtain ⟨f2, e2, p2⟩ := Option.map_eq_some_iff.1 F2
  simp only [Prod.mk.injEq] at p0 p1 p2
  have g0 := hf' 0 f0 e0
  have g1 := hf' 1 f1 e1
  have g2 := hf' 2 f2 e2
  rw [p0.1, p0.2, C0] at g0
  rw [p1.1, p1.2, C1] at g1
  rw [p2.1, p2.2, C2] at g2
  have b0 := (Array.getElem?_eq_some_iff.1 e0).1
  have b1 := (Array.getElem?_eq_some_iff.1 e1).1
  have b2 := (Array.getElem?_eq_some_iff.1 e2).1
  match cs', hlen with
  | [v0, v1, v2], _ =>
    rw [List.getElem?_eq_getElem (show 0 < xs.length by omega)] at g0
    rw [List.getElem?_eq_getElem (show 1 < xs.length by omega)] at g1
    rw [List.getElem?_eq_getElem (show 2 < xs.length by omega)] at g2
    obtain ⟨z0, q0, _, b0'⟩ := DataW.trod_int Tryz.underlying5 g0
    obtain ⟨z1, q1, _, b1'⟩ := DataW.trod_int Tryz.underlying3 g1
    obtain ⟨z2, q2, _, b2'⟩ := DataW.trod_string Tryz.underlying9 g2
    simp at q0 q1 q2
    have h0 : 0 ≤ z0 ∧ z0 ≤ 255 := by simpa [Lit.wf, IntKind.min, IntKind.max, IntKind.signed, IntKind.bits] using b0'
    have h1 : -9223372036854775808 ≤ z1 ∧ z1 ≤ 9223372036854775807 := by simpa [Lit.wf, IntKind.min, IntKind.max, IntKind.signed, IntKind.bits] using b1'
    unfold maxLen at b2'
    exact ⟨⟨z0, z1, z2⟩, by rw [q0, q1, q2]; rfl, h0.1, h0.2, h1.1, h1.2, by omega⟩
end
end Go.Proofs.YtkdjnegfnhldpaaGreatDoor
end
section
namespace Go.Proofs.YtkdjnegfnhldpaaGreatDoor
open Go.RowKit
structure LH where
  kind : Int
  rho : Int
  eff : List Atom
structure RH where
  kind : Int
  rho : Int
  ep : Option Addr
  en : Nat
  ec : Nat
  eff : List Atom
  kp : Option Addr
  kn : Nat
  kc : Nat
abbrev PT := Rose RH
abbrev RT := Rose LH
def RH.plain (a : RH) : LH := ⟨a.kind, a.rho, a.eff⟩
def PT.er (t : PT) : RT := Rose.map RH.plain t
theorem PT.er_node (a : RH) (l : List PT) : PT.er (.node a l) = .node a.plain (l.map PT.er) := Rose.map_node _ a l
def encRH (a : RH) : List Value := [.int .u8 a.kind, .int .i64 a.rho, .slice a.ep a.en a.ec, .slice a.kp a.kn a.kc]
structure RH.Own (w : World) (a : RH) : Prop where
  eff : IsRow encA 3 w a.ep a.en a.ec a.eff
  ok : ∀ x ∈ a.eff, okAt x
  k0 : 0 ≤ a.kind
  k1 : a.kind ≤ 255
  r0 : -9223372036854775808 ≤ a.rho
  r1 : a.rho ≤ 9223372036854775807
  kmax : a.kn ≤ 9223372036854775807
  kle : a.kn ≤ a.kc
  knil : a.kp = none → a.kc = 0
def LR : Laid RH where
  enc := encRH
  k := 4
  own := RH.Own
  kp := RH.kp
  kn := RH.kn
  len := fun _ => rfl
  below := fun h hb => ⟨h.eff.below hb, h.ok, h.k0, h.k1, h.r0, h.r1, h.kmax, h.kle, h.knil⟩
theorem encT_LR (t : PT) : LR.encT t = encRH t.head := rfl
theorem LRlen : ∀ t : PT, (LR.encT t).length = 4 := fun _ => rfl
abbrev aggR (a : RH) : Value := .agg #[.int .u8 a.kind, .int .i64 a.rho, .slice a.ep a.en a.ec, .slice a.kp a.kn a.kc]
structure NodeIn (w : World) (a : RH) (l : List PT) : Prop where
  own : RH.Own w a
  kids : IsRow LR.encT 4 w a.kp a.kn a.kc l
  each : ∀ t ∈ l, LR.lies w t
theorem nodeIn {w : World} {a : RH} {l : List PT} (h : LR.lies w (.node a l)) : NodeIn w a l := by
  rw [Laid.lies_node] at h
  exact ⟨h.1, ⟨h.2.1, h.1.kmax, h.1.kle, h.1.knil, h.2.2.1⟩, h.2.2.2⟩
theorem NodeIn.lies {w : World} {a : RH} {l : List PT} (h : NodeIn w a l) : LR.lies w (.node a l) := by
  rw [Laid.lies_node]
  exact ⟨h.own, h.kids.len, h.kids.row, h.each⟩
theorem NodeIn.below {w w' : World} {a : RH} {l : List PT} (h : NodeIn w a l) (hb : Below w.heap.size w w') : NodeIn w' a l := nodeIn (LR.lies_below hb _ h.lies)
theorem NodeIn.alloc {w : World} {a : RH} {l : List PT} (h : NodeIn w a l) (o : Obj) : NodeIn (w.alloc o) a l := h.below ((Below.refl _ _).alloc (Nat.le_refl _) _)
structure RowT (w : World) (p : Option Addr) (n cap : Nat) (l : List PT) : Prop where
  row : IsRow LR.encT 4 w p n cap l
  each : ∀ t ∈ l, LR.lies w t
theorem NodeIn.rowT {w : World} {a : RH} {l : List PT} (h : NodeIn w a l) : RowT w a.kp a.kn a.kc l := ⟨h.kids, h.each⟩
theorem RowT.below {w w' : World} {p : Option Addr} {n cap : Nat} {l : List PT} (h : RowT w p n cap l) (hb : Below w.heap.size w w') : RowT w' p n cap l := ⟨h.row.below hb, fun t ht => LR.lies_below hb t (h.each t ht)⟩
theorem RowT.alloc {w : World} {p : Option Addr} {n cap : Nat} {l : List PT} (h : RowT w p n cap l) (o : Obj) : RowT (w.alloc o) p n cap l := h.below ((Below.refl _ _).alloc (Nat.le_refl _) _)
theorem RowT.kid {w : World} {p : Option Addr} {n cap : Nat} {l : List PT} (h : RowT w p n cap l) {j : Nat} {t : PT} (hx : l[j]? = some t) :
    ∃ b o, p = some ⟨b, o, none⟩ ∧ b < w.heap.size ∧ w.cell? ⟨b, o + j * 4, none⟩ = some (.int .u8 t.head.kind) ∧ w.cell? ⟨b, o + j * 4 + 1, none⟩ = some (.int .i64 t.head.rho) ∧
      w.cell? ⟨b, o + j * 4 + 2, none⟩ = some (.slice t.head.ep t.head.en t.head.ec) ∧ w.cell? ⟨b, o + j * 4 + 3, none⟩ = some (.slice t.head.kp t.head.kn t.head.kc) := by
  obtain ⟨b, o, hp, hb, hc⟩ := h.row.row.elem hx
  exact ⟨b, o, hp, hb, by simpa using hc 0 _ rfl, hc 1 _ rfl, hc 2 _ rfl, hc 3 _ rfl⟩
theorem RowT.at {w : World} {p : Option Addr} {n cap : Nat} {l : List PT} (h : RowT w p n cap l) {j : Nat} (hj : j < n) : ∃ t, l[j]? = some t := get_of_lt (by rw [h.row.len]; exact hj)
theorem RowT.lies {w : World} {p : Option Addr} {n cap : Nat} {l : List PT} (h : RowT w p n cap l) {j : Nat} {t : PT} (hx : l[j]? = some t) : LR.lies w t := h.each t (List.mem_of_getElem? hx)
theorem le_sum_of_mem : ∀ {l : List Nat} {x : Nat}, x ∈ l → x ≤ l.sum
  | [], _, h => by cases h
  | y :: l, x, h => by
    rcases List.mem_cons.1 h with rfl | h
    · simp
    · have := le_sum_of_mem h; simp; omega
def effsOK : RT → Bool := Rose.all (fun a _ => !greatB a.eff)
theorem effsOK_node (a : LH) (l : List RT) : effsOK (.node a l) = (!greatB a.eff && l.all effsOK) := Rose.all_node _ a l
structure SmallT (t : RT) (n : Nat) : Prop where
  size : t.size ≤ n
  effs : effsOK t = true
theorem SmallT.kid {a : LH} {l : List RT} {n : Nat} (h : SmallT (.node a l) n) {t : RT} (ht : t ∈ l) : SmallT t n := by
  refine ⟨?_, ?_⟩
  · have h1 := h.size
    rw [Rose.size_node] at h1
    have h2 : t.size ≤ (l.map Rose.size).sum := by
      have : t.size ∈ l.map Rose.size := List.mem_map_of_mem ht
      exact le_sum_of_mem this
    omega
  · have h1 := h.effs
    rw [effsOK_node, Bool.and_eq_true, List.all_eq_true] at h1
    exact h1.2 t ht
theorem SmallT.kids {a : LH} {l : List RT} {n : Nat} (h : SmallT (.node a l) n) : l.length ≤ n := by
  have h1 := h.size
  rw [Rose.size_node] at h1
  have : ∀ l : List RT, l.length ≤ (l.map Rose.size).sum := by
    intro l
    induction l with
    | nil => simp
    | cons x l ih => have := Rose.size_pos x; simp only [List.length_cons, List.map_cons, List.sum_cons]; omega
  have := this l
  omega
theorem SmallT.eff {a : LH} {l : List RT} {n : Nat} (h : SmallT (.node a l) n) : greatB a.eff = false := by
  have h1 := h.effs
  rw [effsOK_node, Bool.and_eq_true] at h1
  simpa using h1.1
end Go.Proofs.YtkdjnegfnhldpaaGreatDoor
end
section
namespace Go.Proofs.YtkdjnegfnhldpaaGreatDoor
open Go.RowKit
theorem ref_Great_eff {a : RH} {w : World} {r : Bool} (h : greatB a.eff = r) (ho : RH.Own w a) :
    Calls Tryz.prog 86 #[.slice a.ep a.en a.ec] w fun e w' => e = .returned (.bool r) ∧ w = w' := by
  subst h; exact ref_Great_any _ _ _ _ w ho.eff.len ho.eff.max ho.eff.row
def LeftOK (t : RT) (n r : Int) : Prop := -1 ≤ r ∧ r ≤ n ∧ (0 ≤ r → (t.size : Int) + r = n ∧ effsOK t = true)
def LeftTo (l : List RT) (n r : Int) : Prop := -1 ≤ r ∧ r ≤ n ∧ (0 ≤ r → ((l.map Rose.size).sum : Int) + r = n ∧ l.all effsOK = true)
theorem LeftTo.step {l : List RT} {n r r' : Int} {t : RT} (h : LeftTo l n r) (h0 : 0 ≤ r) (h' : LeftOK t r r') : LeftTo (l ++ [t]) n r' := by
  refine ⟨h'.1, by have := h.2.1; have := h'.2.1; omega, fun hr => ?_⟩
  obtain ⟨h1, h2⟩ := h.2.2 h0
  obtain ⟨h3, h4⟩ := h'.2.2 hr
  refine ⟨?_, by simp [h2, h4]⟩
  simp only [List.map_append, List.map_cons, List.map_nil, List.sum_append, List.sum_cons, List.sum_nil]
  omega
set_option maxHeartbeats 1000000 in
theorem ref_left_any (t : PT) : ∀ w, LR.lies w t → ∀ n : Int, 0 ≤ n → n ≤ 1000000 →
    Calls Tryz.prog 119 #[aggR t.head, .int .i64 n] w fun e w' => (∃ r : Int, e = .returned (.int .i64 r) ∧ LeftOK t.er n r) ∧ Below w.heap.size w w' := by
  refine Rose.ind (P := fun (t : PT) => ∀ w, LR.lies w t → ∀ n : Int, 0 ≤ n → n ≤ 1000000 → Calls Tryz.prog 119 #[aggR t.head, .int .i64 n] w fun e w' => (∃ r : Int, e = .returned (.int .i64 r) ∧ LeftOK t.er n r) ∧ Below w.heap.size w w') (fun a l ih => ?_) t
  intro w hl n h0 hn
  have HN := Lib.hid (nodeIn hl)
  have IH := Lib.hid ih
  have hkm := HN.out.own.kmax
  have HBX := Lib.hid ((Below.refl w.heap.size w).alloc (Nat.le_refl _) (.cells #[.int .u8 a.kind, .int .i64 a.rho, .slice a.ep a.en a.ec, .slice a.kp a.kn a.kc] 28))
  show Calls _ _ #[aggR a, .int .i64 n] w _
  clear hl ih
  cases hg : greatB a.eff
  · have HG := Lib.hid hg
    clear hg
    obtain ⟨kd, rr, ep, en, ec, eff, kp, kn, kc⟩ := a
    simp only at hkm
    go_enter Tryz.func119, Tryz.ntmps119
    go_wp2_with fail
    refine (ref_Great_eff HG.out (HN.out.alloc _).own).mono ?_
    rintro e w1 ⟨rfl, rfl⟩
    generalize hW : w.alloc (.cells #[.int .u8 kd, .int .i64 rr, .slice ep en ec, .slice kp kn kc] 28) = W at *
    have HC3 : Hid (∀ wr, Below W.heap.size W wr → wr.cell? ⟨w.heap.size, 3, none⟩ = some (.slice kp kn kc)) := by
      show ∀ wr, _
      intro wr hb
      rw [← hW] at hb
      rw [hb.cell (by simp), cell_new]; rfl
    have HNW : Hid (NodeIn W ⟨kd, rr, ep, en, ec, eff, kp, kn, kc⟩ l) := by show NodeIn _ _ _; rw [← hW]; exact HN.out.alloc _
    clear hW
    have hW3 := HC3.out W (Below.refl _ _)
    go_wp2_with fail
    clear hW3
    go_loopw [1, 5] (fun u i wr => ∃ (k : Nat) (r : Int), k ≤ kn ∧ i = .int .i64 k ∧ u = .int .i64 r ∧ LeftTo ((l.take k).map PT.er) (n - 1) r ∧ Below W.heap.size W wr) (fun _ i _ => kn - (intOf i).toNat)
    case atStart => exact ⟨0, n - 1, by omega, rfl, rfl, ⟨by omega, by omega, fun _ => ⟨by simp, by simp⟩⟩, Below.refl _ _⟩
    case round =>
      obtain ⟨k, r, hk, rfl, rfl, hto, hb⟩ := hrel
      have hr1 := hto.1
      have hr2 := hto.2.1
      have HTO := Lib.hid hto
      have HB := Lib.hid hb
      clear hto hb
      have hc3 := HC3.out wr HB.out
      by_cases hlt : k < kn
      · by_cases hr0 : 0 ≤ r
        · obtain ⟨x, hx⟩ := (HNW.out.rowT).at (j := k) hlt
          have HE := Lib.hid hx
          obtain ⟨b, o, rfl, hbl, d0, d1, d2, d3⟩ := (HNW.out.rowT.below HB.out).kid hx
          clear hx hbl
          go_wp2_with fail
          refine (IH.out x (List.mem_of_getElem? HE.out) wr ((HNW.out.rowT.below HB.out).lies HE.out) r hr0 (by omega)).mono ?_
          rintro e w2 ⟨⟨r', rfl, hok⟩, hb⟩
          have HOK := Lib.hid hok
          have HB2 := Lib.hid (HB.out.trans (hb.mono HB.out.size))
          clear hok hb d0 d1 d2 d3 hc3
          go_wp2_with fail
          go_roundw
          case rel => exact ⟨k + 1, r', by omega, by go_num, rfl, by rw [take_succ_get HE.out, List.map_append]; exact HTO.out.step hr0 HOK.out, HB2.out⟩
          case measure => simp [intOf]; omega
        · have hd : decide (0 ≤ r) = false := by simpa using hr0
          go_wp2_with fail
          go_ret
          exact ⟨⟨r, rfl, by have := HTO.out; refine ⟨this.1, by omega, fun h => absurd h (by omega)⟩⟩, HBX.out.trans (HB.out.mono HBX.out.size)⟩
      · have hkn : k = kn := by omega
        subst hkn
        go_wp2_with fail
        go_ret
        have h := HTO.out
        rw [take_full (by rw [HNW.out.kids.len]; omega)] at h
        refine ⟨⟨r, rfl, h.1, by omega, fun h0 => ?_⟩, HBX.out.trans (HB.out.mono HBX.out.size)⟩
        obtain ⟨h1, h2⟩ := h.2.2 h0
        rw [PT.er_node, Rose.size_node, effsOK_node]
        refine ⟨by omega, ?_⟩
        rw [h2, Bool.and_true]
        show (!greatB eff) = true
        rw [HG.out]; rfl
  · have HG := Lib.hid hg
    clear hg
    go_enter Tryz.func119, Tryz.ntmps119
    go_wp2_with fail
    refine (ref_Great_eff HG.out (HN.out.alloc _).own).mono ?_
    rintro e w1 ⟨rfl, rfl⟩
    go_wp2_with fail
    go_ret
    refine ⟨⟨-1, rfl, by omega, by omega, fun h => by omega⟩, HBX.out⟩
theorem ref_Great12_any {t : PT} {w : World} (hl : LR.lies w t) :
    Calls Tryz.prog 87 #[aggR t.head] w fun e w' => (∃ r, e = .returned (.bool r) ∧ (r = false → SmallT t.er 100)) ∧ Below w.heap.size w w' := by
  have HL := Lib.hid (fun o => ref_left_any t (w.alloc o) (LR.lies_below ((Below.refl _ _).alloc (Nat.le_refl _) _) t hl) 100 (by omega) (by omega))
  obtain ⟨a, l⟩ := t
  show Calls _ _ #[aggR a] w _
  obtain ⟨kd, rr, ep, en, ec, eff, kp, kn, kc⟩ := a
  clear hl
  go_enter Tryz.func87, Tryz.ntmps87
  go_wp2_with fail
  refine (HL.out _).mono ?_
  rintro e w1 ⟨⟨r, rfl, hok⟩, hb⟩
  have HOK := Lib.hid hok
  have HB := Lib.hid (((Below.refl w.heap.size w).alloc (Nat.le_refl _) (.cells #[.int .u8 kd, .int .i64 rr, .slice ep en ec, .slice kp kn kc] 28)).trans (hb.mono (by simp)))
  clear hok hb
  go_wp2_with fail
  go_ret
  refine ⟨⟨_, rfl, fun h => ?_⟩, HB.out⟩
  have h0 : 0 ≤ r := by simpa using h
  obtain ⟨h1, h2⟩ := HOK.out.2.2 h0
  exact ⟨by omega, h2⟩
end Go.Proofs.YtkdjnegfnhldpaaGreatDoor
end
section
namespace Go.Proofs.YtkdjnegfnhldpaaGreatDoor
open Go.RowKit
theorem mayB_iff : ∀ l : List Atom, mayB l = true ↔ MayTo l l.length
  | [] => by simp [mayB, MayTo]
  | [a] => by
    simp only [mayB, MayTo]
    constructor
    · intro h
      refine ⟨by simp [h], fun j x y hj => ?_⟩
      simp at hj
    · intro h
      have := h.1
      simpa using this
  | a :: b :: l => by
    have ih := mayB_iff (b :: l)
    simp only [mayB, Bool.and_eq_true, ih]
    constructor
    · rintro ⟨⟨h1, h2⟩, h3, h4⟩
      refine ⟨?_, fun j x y hj hx hy => ?_⟩
      · rw [take_full (Nat.le_refl _)] at h3 ⊢
        rw [List.all_cons, h1, h3]; rfl
      · cases j with
        | zero => simp at hx hy; subst hx; subst hy; exact h2
        | succ j => exact h4 j x y (by simpa using hj) (by simpa using hx) (by simpa using hy)
    · rintro ⟨h1, h2⟩
      rw [take_full (Nat.le_refl _), List.all_cons, Bool.and_eq_true] at h1
      refine ⟨⟨h1.1, h2 0 a b (by simp) rfl rfl⟩, ?_, fun j x y hj hx hy => h2 (j + 1) x y (by simpa using hj) (by simpa using hx) (by simpa using hy)⟩
      rw [take_full (Nat.le_refl _)]; exact h1.2
theorem eff_May_is {p : Option Addr} {n cap : Nat} {l : List Atom} {w : World} {r : Bool} (h : mayB l = r) (hr : IsRow encA 3 w p n cap l) :
    Calls Tryz.prog 93 #[.slice p n cap] w fun e w' => e = .returned (.bool r) ∧ Below w.heap.size w w' := by
  refine (effect_May_any p n cap l w hr.len hr.max hr.row).mono ?_
  rintro e w' ⟨⟨r', rfl, hr'⟩, hb⟩
  have : r' = r := by rw [← h, Bool.eq_iff_iff, hr', mayB_iff, hr.len]
  subst this
  exact ⟨rfl, hb⟩
def nodeB (a : LH) (n : Nat) : Bool :=
  if a.kind = 1 then decide (a.rho = 0) && decide (a.eff = []) && decide (n = 0)
  else if a.kind = 2 then decide (0 ≤ a.rho) && decide (a.eff = []) && decide (n = 2)
  else if a.kind = 3 then decide (0 ≤ a.rho) && decide (a.eff = []) && decide (n = 1)
  else if a.kind = 4 then decide (0 ≤ a.rho) && mayB a.eff && decide (n = 2)
  else false
def mayT : RT → Bool := Rose.all nodeB
theorem mayT_node (a : LH) (l : List RT) : mayT (.node a l) = (nodeB a l.length && l.all mayT) := Rose.all_node _ a l
theorem mayT_er (a : RH) (l : List PT) : mayT (PT.er (.node a l)) = (nodeB a.plain l.length && l.all (fun t => mayT (PT.er t))) := by
  rw [PT.er_node, mayT_node, List.length_map, List.all_map]; rfl
end Go.Proofs.YtkdjnegfnhldpaaGreatDoor
end
