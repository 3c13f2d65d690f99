/- Part 9: RT, Rt1, Rt2, Rt3, Dig, Tab, Rt4. -/
import Derived.Test.YtkdjnegfnhldpaaGreatDoorH04
import Derived.Test.YtkdjnegfnhldpaaGreatDoorH08
import Derived.Test.YtkdjnegfnhldpaaGreatDoorH07
import Derived.WalkSmall
import Derived.Lib.ItoaLen
import Derived.Lib.ItoaMem
import Derived.Lib.LaidTab
import Derived.Test.YtkdjnegfnhldpaaGreatDoorRows
import Derived.LaidLaws
import Derived.Stop.LaidErr
set_option linter.unusedVariables false
set_option maxRecDepth 100000
set_option linter.unusedSimpArgs false
namespace Go.Proofs.YtkdjnegfnhldpaaGreatDoor
open Go.Lib (hid)
section
open Go.RowKit
structure LH where
  kind : Int
  rho : Int
  eff : List Atom
structure RH where
  kind : Int
  rho : Int
  ep : Option Addr
  en : Nat
  ec : Nat
  eff : List Atom
  kp : Option Addr
  kn : Nat
  kc : Nat
abbrev PT := Rose RH
abbrev RT := Rose LH
def RH.plain (a : RH) : LH := ⟨a.kind, a.rho, a.eff⟩
def PT.er (t : PT) : RT := Rose.map RH.plain t
theorem PT.er_node (a : RH) (l : List PT) : PT.er (.node a l) = .node a.plain (l.map PT.er) := Rose.map_node _ a l
def encRH (a : RH) : List Value := [.int .u8 a.kind, .int .i64 a.rho, .slice a.ep a.en a.ec, .slice a.kp a.kn a.kc]
structure RH.Own (w : World) (a : RH) : Prop where
  eff : IsRow encA 3 w a.ep a.en a.ec a.eff
  ok : ∀ x ∈ a.eff, okAt x
  k0 : 0 ≤ a.kind
  k1 : a.kind ≤ 255
  r0 : -9223372036854775808 ≤ a.rho
  r1 : a.rho ≤ 9223372036854775807
  kmax : a.kn ≤ 9223372036854775807
  kle : a.kn ≤ a.kc
  knil : a.kp = none → a.kc = 0
def LR : Laid RH where
  enc := encRH
  k := 4
  own := RH.Own
  kp := RH.kp
  kn := RH.kn
  len := fun _ => rfl
  below := fun h hb => ⟨h.eff.below hb, h.ok, h.k0, h.k1, h.r0, h.r1, h.kmax, h.kle, h.knil⟩
theorem encT_LR (t : PT) : LR.encT t = encRH t.head := rfl
theorem LRlen : ∀ t : PT, (LR.encT t).length = 4 := fun _ => rfl
abbrev aggR (a : RH) : Value := .agg #[.int .u8 a.kind, .int .i64 a.rho, .slice a.ep a.en a.ec, .slice a.kp a.kn a.kc]
structure NodeIn (w : World) (a : RH) (l : List PT) : Prop where
  own : RH.Own w a
  kids : IsRow LR.encT 4 w a.kp a.kn a.kc l
  each : ∀ t ∈ l, LR.lies w t
theorem nodeIn {w : World} {a : RH} {l : List PT} (h : LR.lies w (.node a l)) : NodeIn w a l := by
  rw [Laid.lies_node] at h
  exact ⟨h.1, ⟨h.2.1, h.1.kmax, h.1.kle, h.1.knil, h.2.2.1⟩, h.2.2.2⟩
theorem NodeIn.lies {w : World} {a : RH} {l : List PT} (h : NodeIn w a l) : LR.lies w (.node a l) := by
  rw [Laid.lies_node]
  exact ⟨h.own, h.kids.len, h.kids.row, h.each⟩
theorem NodeIn.below {w w' : World} {a : RH} {l : List PT} (h : NodeIn w a l) (hb : Below w.heap.size w w') : NodeIn w' a l := nodeIn (LR.lies_below hb _ h.lies)
theorem NodeIn.alloc {w : World} {a : RH} {l : List PT} (h : NodeIn w a l) (o : Obj) : NodeIn (w.alloc o) a l := h.below ((Below.refl _ _).alloc (Nat.le_refl _) _)
structure RowT (w : World) (p : Option Addr) (n cap : Nat) (l : List PT) : Prop where
  row : IsRow LR.encT 4 w p n cap l
  each : ∀ t ∈ l, LR.lies w t
theorem NodeIn.rowT {w : World} {a : RH} {l : List PT} (h : NodeIn w a l) : RowT w a.kp a.kn a.kc l := ⟨h.kids, h.each⟩
theorem RowT.below {w w' : World} {p : Option Addr} {n cap : Nat} {l : List PT} (h : RowT w p n cap l) (hb : Below w.heap.size w w') : RowT w' p n cap l := ⟨h.row.below hb, fun t ht => LR.lies_below hb t (h.each t ht)⟩
theorem RowT.alloc {w : World} {p : Option Addr} {n cap : Nat} {l : List PT} (h : RowT w p n cap l) (o : Obj) : RowT (w.alloc o) p n cap l := h.below ((Below.refl _ _).alloc (Nat.le_refl _) _)
theorem RowT.kid {w : World} {p : Option Addr} {n cap : Nat} {l : List PT} (h : RowT w p n cap l) {j : Nat} {t : PT} (hx : l[j]? = some t) :
    ∃ b o, p = some ⟨b, o, none⟩ ∧ b < w.heap.size ∧ w.cell? ⟨b, o + j * 4, none⟩ = some (.int .u8 t.head.kind) ∧ w.cell? ⟨b, o + j * 4 + 1, none⟩ = some (.int .i64 t.head.rho) ∧
      w.cell? ⟨b, o + j * 4 + 2, none⟩ = some (.slice t.head.ep t.head.en t.head.ec) ∧ w.cell? ⟨b, o + j * 4 + 3, none⟩ = some (.slice t.head.kp t.head.kn t.head.kc) := by
  obtain ⟨b, o, hp, hb, hc⟩ := h.row.row.elem hx
  exact ⟨b, o, hp, hb, by simpa using hc 0 _ rfl, hc 1 _ rfl, hc 2 _ rfl, hc 3 _ rfl⟩
theorem RowT.at {w : World} {p : Option Addr} {n cap : Nat} {l : List PT} (h : RowT w p n cap l) {j : Nat} (hj : j < n) : ∃ t, l[j]? = some t := get_of_lt (by rw [h.row.len]; exact hj)
theorem RowT.lies {w : World} {p : Option Addr} {n cap : Nat} {l : List PT} (h : RowT w p n cap l) {j : Nat} {t : PT} (hx : l[j]? = some t) : LR.lies w t := h.each t (List.mem_of_getElem? hx)
theorem le_sum_of_mem : ∀ {l : List Nat} {x : Nat}, x ∈ l → x ≤ l.sum
  | [], _, h => by cases h
  | y :: l, x, h => by
    rcases List.mem_cons.1 h with rfl | h
    · simp
    · have := le_sum_of_mem h; simp; omega
def effsOK : RT → Bool := Rose.all (fun a _ => !greatB a.eff)
theorem effsOK_node (a : LH) (l : List RT) : effsOK (.node a l) = (!greatB a.eff && l.all effsOK) := Rose.all_node _ a l
structure SmallT (t : RT) (n : Nat) : Prop where
  size : t.size ≤ n
  effs : effsOK t = true
theorem SmallT.kid {a : LH} {l : List RT} {n : Nat} (h : SmallT (.node a l) n) {t : RT} (ht : t ∈ l) : SmallT t n := by
  refine ⟨?_, ?_⟩
  · have h1 := h.size
    rw [Rose.size_node] at h1
    have h2 : t.size ≤ (l.map Rose.size).sum := by
      have : t.size ∈ l.map Rose.size := List.mem_map_of_mem ht
      exact le_sum_of_mem this
    omega
  · have h1 := h.effs
    rw [effsOK_node, Bool.and_eq_true, List.all_eq_true] at h1
    exact h1.2 t ht
theorem SmallT.kids {a : LH} {l : List RT} {n : Nat} (h : SmallT (.node a l) n) : l.length ≤ n := by
  have h1 := h.size
  rw [Rose.size_node] at h1
  have : ∀ l : List RT, l.length ≤ (l.map Rose.size).sum := by
    intro l
    induction l with
    | nil => simp
    | cons x l ih => have := Rose.size_pos x; simp only [List.length_cons, List.map_cons, List.sum_cons]; omega
  have := this l
  omega
theorem SmallT.eff {a : LH} {l : List RT} {n : Nat} (h : SmallT (.node a l) n) : greatB a.eff = false := by
  have h1 := h.effs
  rw [effsOK_node, Bool.and_eq_true] at h1
  simpa using h1.1
end
section
open Go.RowKit
theorem ref_Great_eff {a : RH} {w : World} {r : Bool} (h : greatB a.eff = r) (ho : RH.Own w a) :
    Calls Tryz.prog 86 #[.slice a.ep a.en a.ec] w fun e w' => e = .returned (.bool r) ∧ w = w' := by
  subst h; exact ref_Great_any _ _ _ _ w ho.eff.len ho.eff.max ho.eff.row
def LeftOK (t : RT) (n r : Int) : Prop := -1 ≤ r ∧ r ≤ n ∧ (0 ≤ r → (t.size : Int) + r = n ∧ effsOK t = true)
def LeftTo (l : List RT) (n r : Int) : Prop := -1 ≤ r ∧ r ≤ n ∧ (0 ≤ r → ((l.map Rose.size).sum : Int) + r = n ∧ l.all effsOK = true)
theorem LeftTo.step {l : List RT} {n r r' : Int} {t : RT} (h : LeftTo l n r) (h0 : 0 ≤ r) (h' : LeftOK t r r') : LeftTo (l ++ [t]) n r' := by
  refine ⟨h'.1, by have := h.2.1; have := h'.2.1; omega, fun hr => ?_⟩
  obtain ⟨h1, h2⟩ := h.2.2 h0
  obtain ⟨h3, h4⟩ := h'.2.2 hr
  refine ⟨?_, by simp [h2, h4]⟩
  simp only [List.map_append, List.map_cons, List.map_nil, List.sum_append, List.sum_cons, List.sum_nil]
  omega
set_option maxHeartbeats 1000000 in
theorem ref_left_any (t : PT) : ∀ w, LR.lies w t → ∀ n : Int, 0 ≤ n → n ≤ 1000000 →
    Calls Tryz.prog 119 #[aggR t.head, .int .i64 n] w fun e w' => (∃ r : Int, e = .returned (.int .i64 r) ∧ LeftOK t.er n r) ∧ Below w.heap.size w w' := by
  refine Rose.ind (P := fun (t : PT) => ∀ w, LR.lies w t → ∀ n : Int, 0 ≤ n → n ≤ 1000000 → Calls Tryz.prog 119 #[aggR t.head, .int .i64 n] w fun e w' => (∃ r : Int, e = .returned (.int .i64 r) ∧ LeftOK t.er n r) ∧ Below w.heap.size w w') (fun a l ih => ?_) t
  intro w hl n h0 hn
  have HN := hid (nodeIn hl)
  have IH := hid ih
  have hkm := HN.out.own.kmax
  have HBX := hid ((Below.refl w.heap.size w).alloc (Nat.le_refl _) (.cells #[.int .u8 a.kind, .int .i64 a.rho, .slice a.ep a.en a.ec, .slice a.kp a.kn a.kc] 28))
  show Calls _ _ #[aggR a, .int .i64 n] w _
  clear hl ih
  cases hg : greatB a.eff
  · have HG := hid hg
    clear hg
    obtain ⟨kd, rr, ep, en, ec, eff, kp, kn, kc⟩ := a
    simp only at hkm
    go_enter Tryz.func119, Tryz.ntmps119
    go_wp2_with fail
    refine (ref_Great_eff HG.out (HN.out.alloc _).own).mono ?_
    rintro e w1 ⟨rfl, rfl⟩
    generalize hW : w.alloc (.cells #[.int .u8 kd, .int .i64 rr, .slice ep en ec, .slice kp kn kc] 28) = W at *
    have HC3 : Hid (∀ wr, Below W.heap.size W wr → wr.cell? ⟨w.heap.size, 3, none⟩ = some (.slice kp kn kc)) := by
      show ∀ wr, _
      intro wr hb
      rw [← hW] at hb
      rw [hb.cell (by simp), cell_new]; rfl
    have HNW : Hid (NodeIn W ⟨kd, rr, ep, en, ec, eff, kp, kn, kc⟩ l) := by show NodeIn _ _ _; rw [← hW]; exact HN.out.alloc _
    clear hW
    have hW3 := HC3.out W (Below.refl _ _)
    go_wp2_with fail
    clear hW3
    go_loopw [1, 5] (fun u i wr => ∃ (k : Nat) (r : Int), k ≤ kn ∧ i = .int .i64 k ∧ u = .int .i64 r ∧ LeftTo ((l.take k).map PT.er) (n - 1) r ∧ Below W.heap.size W wr) (fun _ i _ => kn - (intOf i).toNat)
    case atStart => exact ⟨0, n - 1, by omega, rfl, rfl, ⟨by omega, by omega, fun _ => ⟨by simp, by simp⟩⟩, Below.refl _ _⟩
    case round =>
      obtain ⟨k, r, hk, rfl, rfl, hto, hb⟩ := hrel
      have hr1 := hto.1
      have hr2 := hto.2.1
      have HTO := hid hto
      have HB := hid hb
      clear hto hb
      have hc3 := HC3.out wr HB.out
      by_cases hlt : k < kn
      · by_cases hr0 : 0 ≤ r
        · obtain ⟨x, hx⟩ := (HNW.out.rowT).at (j := k) hlt
          have HE := hid hx
          obtain ⟨b, o, rfl, hbl, d0, d1, d2, d3⟩ := (HNW.out.rowT.below HB.out).kid hx
          clear hx hbl
          go_wp2_with fail
          refine (IH.out x (List.mem_of_getElem? HE.out) wr ((HNW.out.rowT.below HB.out).lies HE.out) r hr0 (by omega)).mono ?_
          rintro e w2 ⟨⟨r', rfl, hok⟩, hb⟩
          have HOK := hid hok
          have HB2 := hid (HB.out.trans (hb.mono HB.out.size))
          clear hok hb d0 d1 d2 d3 hc3
          go_wp2_with fail
          go_roundw
          case rel => exact ⟨k + 1, r', by omega, by go_num, rfl, by rw [take_succ_get HE.out, List.map_append]; exact HTO.out.step hr0 HOK.out, HB2.out⟩
          case measure => simp [intOf]; omega
        · have hd : decide (0 ≤ r) = false := by simpa using hr0
          go_wp2_with fail
          go_ret
          exact ⟨⟨r, rfl, by have := HTO.out; refine ⟨this.1, by omega, fun h => absurd h (by omega)⟩⟩, HBX.out.trans (HB.out.mono HBX.out.size)⟩
      · have hkn : k = kn := by omega
        subst hkn
        go_wp2_with fail
        go_ret
        have h := HTO.out
        rw [take_full (by rw [HNW.out.kids.len]; omega)] at h
        refine ⟨⟨r, rfl, h.1, by omega, fun h0 => ?_⟩, HBX.out.trans (HB.out.mono HBX.out.size)⟩
        obtain ⟨h1, h2⟩ := h.2.2 h0
        rw [PT.er_node, Rose.size_node, effsOK_node]
        refine ⟨by omega, ?_⟩
        rw [h2, Bool.and_true]
        show (!greatB eff) = true
        rw [HG.out]; rfl
  · have HG := hid hg
    clear hg
    go_enter Tryz.func119, Tryz.ntmps119
    go_wp2_with fail
    refine (ref_Great_eff HG.out (HN.out.alloc _).own).mono ?_
    rintro e w1 ⟨rfl, rfl⟩
    go_wp2_with fail
    go_ret
    refine ⟨⟨-1, rfl, by omega, by omega, fun h => by omega⟩, HBX.out⟩
theorem ref_Great12_any {t : PT} {w : World} (hl : LR.lies w t) :
    Calls Tryz.prog 87 #[aggR t.head] w fun e w' => (∃ r, e = .returned (.bool r) ∧ (r = false → SmallT t.er 100)) ∧ Below w.heap.size w w' := by
  have HL := hid (fun o => ref_left_any t (w.alloc o) (LR.lies_below ((Below.refl _ _).alloc (Nat.le_refl _) _) t hl) 100 (by omega) (by omega))
  obtain ⟨a, l⟩ := t
  show Calls _ _ #[aggR a] w _
  obtain ⟨kd, rr, ep, en, ec, eff, kp, kn, kc⟩ := a
  clear hl
  go_enter Tryz.func87, Tryz.ntmps87
  go_wp2_with fail
  refine (HL.out _).mono ?_
  rintro e w1 ⟨⟨r, rfl, hok⟩, hb⟩
  have HOK := hid hok
  have HB := hid (((Below.refl w.heap.size w).alloc (Nat.le_refl _) (.cells #[.int .u8 kd, .int .i64 rr, .slice ep en ec, .slice kp kn kc] 28)).trans (hb.mono (by simp)))
  clear hok hb
  go_wp2_with fail
  go_ret
  refine ⟨⟨_, rfl, fun h => ?_⟩, HB.out⟩
  have h0 : 0 ≤ r := by simpa using h
  obtain ⟨h1, h2⟩ := HOK.out.2.2 h0
  exact ⟨by omega, h2⟩
end
section
open Go.RowKit
theorem mayB_iff : ∀ l : List Atom, mayB l = true ↔ MayTo l l.length
  | [] => by simp [mayB, MayTo]
  | [a] => by
    simp only [mayB, MayTo]
    constructor
    · intro h
      refine ⟨by simp [h], fun j x y hj => ?_⟩
      simp at hj
    · intro h
      have := h.1
      simpa using this
  | a :: b :: l => by
    have ih := mayB_iff (b :: l)
    simp only [mayB, Bool.and_eq_true, ih]
    constructor
    · rintro ⟨⟨h1, h2⟩, h3, h4⟩
      refine ⟨?_, fun j x y hj hx hy => ?_⟩
      · rw [take_full (Nat.le_refl _)] at h3 ⊢
        rw [List.all_cons, h1, h3]; rfl
      · cases j with
        | zero => simp at hx hy; subst hx; subst hy; exact h2
        | succ j => exact h4 j x y (by simpa using hj) (by simpa using hx) (by simpa using hy)
    · rintro ⟨h1, h2⟩
      rw [take_full (Nat.le_refl _), List.all_cons, Bool.and_eq_true] at h1
      refine ⟨⟨h1.1, h2 0 a b (by simp) rfl rfl⟩, ?_, fun j x y hj hx hy => h2 (j + 1) x y (by simpa using hj) (by simpa using hx) (by simpa using hy)⟩
      rw [take_full (Nat.le_refl _)]; exact h1.2
theorem eff_May_is {p : Option Addr} {n cap : Nat} {l : List Atom} {w : World} {r : Bool} (h : mayB l = r) (hr : IsRow encA 3 w p n cap l) :
    Calls Tryz.prog 93 #[.slice p n cap] w fun e w' => e = .returned (.bool r) ∧ Below w.heap.size w w' := by
  refine (effect_May_any p n cap l w hr.len hr.max hr.row).mono ?_
  rintro e w' ⟨⟨r', rfl, hr'⟩, hb⟩
  have : r' = r := by rw [← h, Bool.eq_iff_iff, hr', mayB_iff, hr.len]
  subst this
  exact ⟨rfl, hb⟩
def nodeB (a : LH) (n : Nat) : Bool :=
  if a.kind = 1 then decide (a.rho = 0) && decide (a.eff = []) && decide (n = 0)
  else if a.kind = 2 then decide (0 ≤ a.rho) && decide (a.eff = []) && decide (n = 2)
  else if a.kind = 3 then decide (0 ≤ a.rho) && decide (a.eff = []) && decide (n = 1)
  else if a.kind = 4 then decide (0 ≤ a.rho) && mayB a.eff && decide (n = 2)
  else false
def mayT : RT → Bool := Rose.all nodeB
theorem mayT_node (a : LH) (l : List RT) : mayT (.node a l) = (nodeB a l.length && l.all mayT) := Rose.all_node _ a l
theorem mayT_er (a : RH) (l : List PT) : mayT (PT.er (.node a l)) = (nodeB a.plain l.length && l.all (fun t => mayT (PT.er t))) := by
  rw [PT.er_node, mayT_node, List.length_map, List.all_map]; rfl
end
section
open Go.RowKit
def PredT (fid : FuncId) (caps : Array Value) (w : World) (l : List PT) (q : PT → Bool) : Prop :=
  ∀ x ∈ l, ∀ W, Below w.heap.size w W → Calls Tryz.prog fid (#[aggR x.head] ++ caps) W fun e w' => e = .returned (.bool (q x)) ∧ Below W.heap.size W w'
theorem PredT.is {fid : FuncId} {caps : Array Value} {w : World} {l : List PT} {q : PT → Bool} (h : PredT fid caps w l q) {x : PT} (hx : x ∈ l) {r : Bool} (hq : q x = r) {W : World} (hb : Below w.heap.size w W) :
    Calls Tryz.prog fid (#[aggR x.head] ++ caps) W fun e w' => e = .returned (.bool r) ∧ Below W.heap.size W w' := by subst hq; exact h x hx W hb
set_option maxHeartbeats 400000 in
theorem t_indexFunc_any (fid : FuncId) (caps : Array Value) (q : PT → Bool) (hent : Enters fid) {p : Option Addr} {n cap : Nat} {l : List PT} {w : World} (hr : RowT w p n cap l) (hf : PredT fid caps w l q) :
    Calls Tryz.prog 216 #[.slice p n cap, .func (.func fid) #[] caps] w fun e w' =>
      (∃ r : Int, e = .returned (.int .i64 r) ∧ IdxOf q l r) ∧ Below w.heap.size w w' := by
  unfold Enters at hent
  have hm := hr.row.max
  have HR := hid hr
  have HF := hid hf
  clear hr hf
  go_enter Tryz.func216, Tryz.ntmps216
  go_wp2_with fail
  go_loopw [5, 8] (fun _ i wr => ∃ k : Nat, k ≤ n ∧ i = .int .i64 k ∧ (l.take k).any q = false ∧ Below w.heap.size w wr) (fun _ i _ => n - (intOf i).toNat)
  case atStart => exact ⟨0, by omega, rfl, by simp, Below.refl _ _⟩
  case round =>
    obtain ⟨k, hk, rfl, hno, hb⟩ := hrel
    have HNO := hid hno
    have HB := hid hb
    clear hno hb
    by_cases hlt : k < n
    · obtain ⟨x, hx⟩ := HR.out.at (j := k) hlt
      have HE := hid hx
      obtain ⟨b, o, rfl, hbl, d0, d1, d2, d3⟩ := (HR.out.below HB.out).kid hx
      clear hx hbl
      cases hq : q x
      · have HQ := hid hq
        clear hq
        go_wp2_with fail
        refine (HF.out.is (List.mem_of_getElem? HE.out) HQ.out HB.out).mono ?_
        rintro e w1 ⟨rfl, hb⟩
        have HB1 := hid (HB.out.trans (hb.mono HB.out.size))
        clear hb
        clear d0 d1 d2 d3
        go_wp2_with fail
        go_roundw
        case rel => exact ⟨k + 1, by omega, by go_num, by rw [any_take_get HE.out, HNO.out, HQ.out]; rfl, HB1.out⟩
        case measure => simp [intOf]; omega
      · have HQ := hid hq
        clear hq
        go_wp2_with fail
        refine (HF.out.is (List.mem_of_getElem? HE.out) HQ.out HB.out).mono ?_
        rintro e w1 ⟨rfl, hb⟩
        have HB1 := hid (HB.out.trans (hb.mono HB.out.size))
        clear hb
        clear d0 d1 d2 d3
        go_wp2_with fail
        go_ret
        exact ⟨⟨k, rfl, .inr ⟨k, x, rfl, HE.out, HQ.out, HNO.out⟩⟩, HB1.out⟩
    · go_wp2_with fail
      go_ret
      have h := HNO.out
      rw [take_full (by rw [HR.out.row.len]; omega)] at h
      exact ⟨⟨-1, rfl, .inl ⟨rfl, h⟩⟩, HB.out⟩
theorem t_containsFunc_any (fid : FuncId) (caps : Array Value) (q : PT → Bool) (hent : Enters fid) {p : Option Addr} {n cap : Nat} {l : List PT} {w : World} (hr : RowT w p n cap l) (hf : PredT fid caps w l q) :
    Calls Tryz.prog 179 #[.slice p n cap, .func (.func fid) #[] caps] w fun e w' => e = .returned (.bool (l.any q)) ∧ Below w.heap.size w w' := by
  have hc : Calls Tryz.prog 216 #[.slice p n cap, .func (.func fid) #[] caps] w fun e w' =>
      (∃ r : Int, e = .returned (.int .i64 r) ∧ l.any q = decide (0 ≤ r)) ∧ Below w.heap.size w w' :=
    (t_indexFunc_any fid caps q hent hr hf).mono fun _ _ ⟨⟨r, he, hr⟩, hb⟩ => ⟨⟨r, he, hr.any⟩, hb⟩
  generalize l.any q = r at hc ⊢
  clear hr hf hent
  go_enter Tryz.func179, Tryz.ntmps179
  go_wp2_with fail
  refine hc.mono ?_
  rintro e w1 ⟨⟨r, rfl, hr⟩, hb⟩
  have HR := hid hr
  have HB := hid hb
  clear hr hb hc
  go_wp2_with fail
  go_ret
  exact ⟨ret_bool HR.out.symm, HB.out⟩
set_option maxHeartbeats 4000000 in
theorem rtype_node_any {a : RH} {w : World} (ho : RH.Own w a) : Calls Tryz.prog 181 #[aggR a] w fun e w' => e = .returned (.bool (nodeB a.plain a.kn)) ∧ Below w.heap.size w w' := by
  have HBX := hid ((Below.refl w.heap.size w).alloc (Nat.le_refl _) (.cells #[.int .u8 a.kind, .int .i64 a.rho, .slice a.ep a.en a.ec, .slice a.kp a.kn a.kc] 28))
  have hkm := ho.kmax
  have hem := ho.eff.max
  have HO := hid ho
  obtain ⟨kd, rr, ep, en, ec, eff, kp, kn, kc⟩ := a
  simp only at hkm hem
  have hle : eff.length = en := ho.eff.len
  have hnil : en = 0 → eff = [] := fun h => List.length_eq_zero_iff.1 (by omega)
  have hne : 0 < en → eff ≠ [] := fun h e => by rw [e] at hle; simp at hle; omega
  clear ho hle
  by_cases h1 : kd = 1
  · subst h1
    by_cases hr : rr = 0
    · subst hr
      by_cases he : en = 0
      · subst he
        obtain rfl := hnil rfl
        by_cases hk : kn = 0
        · subst hk
          have HF : Hid (nodeB (RH.plain ⟨1, 0, ep, 0, ec, [], kp, 0, kc⟩) 0 = true) := by show _ = _; simp [nodeB, RH.plain]
          clear hne hnil
          go_enter Tryz.func181, Tryz.ntmps181
          go_wp2_with fail
          go_ret
          exact ⟨ret_bool HF.out.symm, HBX.out⟩
        · have hb : ((kn : Int) == 0) = false := by rw [beq_eq_false_iff_ne]; omega
          have HF : Hid (nodeB (RH.plain ⟨1, 0, ep, 0, ec, [], kp, kn, kc⟩) kn = false) := by show _ = _; simp [nodeB, RH.plain, hk]
          clear hne hnil hk
          go_enter Tryz.func181, Tryz.ntmps181
          go_wp2_with fail
          go_ret
          exact ⟨ret_bool HF.out.symm, HBX.out⟩
      · have hb : ((en : Int) == 0) = false := by rw [beq_eq_false_iff_ne]; omega
        have hne' := hne (by omega)
        have HF : Hid (nodeB (RH.plain ⟨1, 0, ep, en, ec, eff, kp, kn, kc⟩) kn = false) := by show _ = _; simp [nodeB, RH.plain, hne']
        clear hne hnil hne' he
        go_enter Tryz.func181, Tryz.ntmps181
        go_wp2_with fail
        go_ret
        exact ⟨ret_bool HF.out.symm, HBX.out⟩
    · have hb : (rr == 0) = false := by rw [beq_eq_false_iff_ne]; exact hr
      have HF : Hid (nodeB (RH.plain ⟨1, rr, ep, en, ec, eff, kp, kn, kc⟩) kn = false) := by show _ = _; simp [nodeB, RH.plain, hr]
      clear hne hnil hr
      go_enter Tryz.func181, Tryz.ntmps181
      go_wp2_with fail
      go_ret
      exact ⟨ret_bool HF.out.symm, HBX.out⟩
  by_cases h2 : kd = 2
  · subst h2
    by_cases hr : 0 ≤ rr
    · by_cases he : en = 0
      · subst he
        obtain rfl := hnil rfl
        by_cases hk : kn = 2
        · subst hk
          have HF : Hid (nodeB (RH.plain ⟨2, rr, ep, 0, ec, [], kp, 2, kc⟩) 2 = true) := by show _ = _; simp [nodeB, RH.plain, hr]
          clear hne hnil
          go_enter Tryz.func181, Tryz.ntmps181
          go_wp2_with fail
          go_ret
          exact ⟨ret_bool HF.out.symm, HBX.out⟩
        · have hb : ((kn : Int) == 2) = false := by rw [beq_eq_false_iff_ne]; omega
          have HF : Hid (nodeB (RH.plain ⟨2, rr, ep, 0, ec, [], kp, kn, kc⟩) kn = false) := by show _ = _; simp [nodeB, RH.plain, hk]
          clear hne hnil hk
          go_enter Tryz.func181, Tryz.ntmps181
          go_wp2_with fail
          go_ret
          exact ⟨ret_bool HF.out.symm, HBX.out⟩
      · have hb : ((en : Int) == 0) = false := by rw [beq_eq_false_iff_ne]; omega
        have hne' := hne (by omega)
        have HF : Hid (nodeB (RH.plain ⟨2, rr, ep, en, ec, eff, kp, kn, kc⟩) kn = false) := by show _ = _; simp [nodeB, RH.plain, hne']
        clear hne hnil hne' he
        go_enter Tryz.func181, Tryz.ntmps181
        go_wp2_with fail
        go_ret
        exact ⟨ret_bool HF.out.symm, HBX.out⟩
    · have HF : Hid (nodeB (RH.plain ⟨2, rr, ep, en, ec, eff, kp, kn, kc⟩) kn = false) := by show _ = _; simp [nodeB, RH.plain, hr]
      clear hne hnil
      go_enter Tryz.func181, Tryz.ntmps181
      go_wp2_with fail
      go_ret
      exact ⟨ret_bool HF.out.symm, HBX.out⟩
  by_cases h3 : kd = 3
  · subst h3
    by_cases hr : 0 ≤ rr
    · by_cases he : en = 0
      · subst he
        obtain rfl := hnil rfl
        by_cases hk : kn = 1
        · subst hk
          have HF : Hid (nodeB (RH.plain ⟨3, rr, ep, 0, ec, [], kp, 1, kc⟩) 1 = true) := by show _ = _; simp [nodeB, RH.plain, hr]
          clear hne hnil
          go_enter Tryz.func181, Tryz.ntmps181
          go_wp2_with fail
          go_ret
          exact ⟨ret_bool HF.out.symm, HBX.out⟩
        · have hb : ((kn : Int) == 1) = false := by rw [beq_eq_false_iff_ne]; omega
          have HF : Hid (nodeB (RH.plain ⟨3, rr, ep, 0, ec, [], kp, kn, kc⟩) kn = false) := by show _ = _; simp [nodeB, RH.plain, hk]
          clear hne hnil hk
          go_enter Tryz.func181, Tryz.ntmps181
          go_wp2_with fail
          go_ret
          exact ⟨ret_bool HF.out.symm, HBX.out⟩
      · have hb : ((en : Int) == 0) = false := by rw [beq_eq_false_iff_ne]; omega
        have hne' := hne (by omega)
        have HF : Hid (nodeB (RH.plain ⟨3, rr, ep, en, ec, eff, kp, kn, kc⟩) kn = false) := by show _ = _; simp [nodeB, RH.plain, hne']
        clear hne hnil hne' he
        go_enter Tryz.func181, Tryz.ntmps181
        go_wp2_with fail
        go_ret
        exact ⟨ret_bool HF.out.symm, HBX.out⟩
    · have HF : Hid (nodeB (RH.plain ⟨3, rr, ep, en, ec, eff, kp, kn, kc⟩) kn = false) := by show _ = _; simp [nodeB, RH.plain, hr]
      clear hne hnil
      go_enter Tryz.func181, Tryz.ntmps181
      go_wp2_with fail
      go_ret
      exact ⟨ret_bool HF.out.symm, HBX.out⟩
  by_cases h4 : kd = 4
  · subst h4
    by_cases hr : 0 ≤ rr
    · cases hm : mayB eff
      · have HF : Hid (nodeB (RH.plain ⟨4, rr, ep, en, ec, eff, kp, kn, kc⟩) kn = false) := by show _ = _; simp [nodeB, RH.plain, hm]
        have HM := hid hm
        clear hm hne hnil
        go_enter Tryz.func181, Tryz.ntmps181
        go_wp2_with fail
        refine (eff_May_is HM.out (HO.out.eff.alloc _)).mono ?_
        rintro e w1 ⟨rfl, hb⟩
        have HB1 := hid (HBX.out.trans (hb.mono HBX.out.size))
        clear hb
        go_wp2_with fail
        go_ret
        exact ⟨ret_bool HF.out.symm, HB1.out⟩
      · have HM := hid hm
        by_cases hk : kn = 2
        · subst hk
          have HF : Hid (nodeB (RH.plain ⟨4, rr, ep, en, ec, eff, kp, 2, kc⟩) 2 = true) := by show _ = _; simp [nodeB, RH.plain, hm, hr]
          clear hm hne hnil
          go_enter Tryz.func181, Tryz.ntmps181
          go_wp2_with fail
          refine (eff_May_is HM.out (HO.out.eff.alloc _)).mono ?_
          rintro e w1 ⟨rfl, hb⟩
          have HB1 := hid (HBX.out.trans (hb.mono HBX.out.size))
          have hc3 : w1.cell? ⟨w.heap.size, 3, none⟩ = some (.slice kp 2 kc) := by rw [hb.cell (by simp), cell_new]; rfl
          clear hb
          go_wp2_with fail
          go_ret
          exact ⟨ret_bool HF.out.symm, HB1.out⟩
        · have hb2 : ((kn : Int) == 2) = false := by rw [beq_eq_false_iff_ne]; omega
          have HF : Hid (nodeB (RH.plain ⟨4, rr, ep, en, ec, eff, kp, kn, kc⟩) kn = false) := by show _ = _; simp [nodeB, RH.plain, hk]
          clear hm hne hnil hk
          go_enter Tryz.func181, Tryz.ntmps181
          go_wp2_with fail
          refine (eff_May_is HM.out (HO.out.eff.alloc _)).mono ?_
          rintro e w1 ⟨rfl, hb⟩
          have HB1 := hid (HBX.out.trans (hb.mono HBX.out.size))
          have hc3 : w1.cell? ⟨w.heap.size, 3, none⟩ = some (.slice kp kn kc) := by rw [hb.cell (by simp), cell_new]; rfl
          clear hb
          go_wp2_with fail
          go_ret
          exact ⟨ret_bool HF.out.symm, HB1.out⟩
    · have HF : Hid (nodeB (RH.plain ⟨4, rr, ep, en, ec, eff, kp, kn, kc⟩) kn = false) := by show _ = _; simp [nodeB, RH.plain, hr]
      clear hne hnil
      go_enter Tryz.func181, Tryz.ntmps181
      go_wp2_with fail
      go_ret
      exact ⟨ret_bool HF.out.symm, HBX.out⟩
  · have b1 : (kd == 1) = false := by rw [beq_eq_false_iff_ne]; exact h1
    have b2 : (kd == 2) = false := by rw [beq_eq_false_iff_ne]; exact h2
    have b3 : (kd == 3) = false := by rw [beq_eq_false_iff_ne]; exact h3
    have b4 : (kd == 4) = false := by rw [beq_eq_false_iff_ne]; exact h4
    have HF : Hid (nodeB (RH.plain ⟨kd, rr, ep, en, ec, eff, kp, kn, kc⟩) kn = false) := by show _ = _; simp [nodeB, RH.plain, h1, h2, h3, h4]
    clear hne hnil h1 h2 h3 h4
    go_enter Tryz.func181, Tryz.ntmps181
    go_wp2_with fail
    go_ret
    exact ⟨ret_bool HF.out.symm, HBX.out⟩
theorem rtype_node_is {a : RH} {w : World} {r : Bool} (h : nodeB a.plain a.kn = r) (ho : RH.Own w a) : Calls Tryz.prog 181 #[aggR a] w fun e w' => e = .returned (.bool r) ∧ Below w.heap.size w w' := by
  subst h; exact rtype_node_any ho
theorem rtype_May_of {p : Option Addr} {n cap : Nat} {l : List PT} {w : World} (hr : RowT w p n cap l) (hf : PredT 180 #[] w l (fun t => !mayT (PT.er t))) :
    Calls Tryz.prog 129 #[.slice p n cap] w fun e w' => e = .returned (.bool (l.all (fun t => mayT (PT.er t)))) ∧ Below w.heap.size w w' := by
  have hc := t_containsFunc_any 180 #[] _ (fun a w => Tryz.call180 a w) hr hf
  have he : Hid (l.all (fun t => mayT (PT.er t)) = !l.any (fun t => !mayT (PT.er t))) := by show _ = _; rw [List.all_eq_not_any_not]
  generalize l.any (fun t => !mayT (PT.er t)) = q at hc he
  have HC := hid hc
  clear hr hf hc
  go_enter Tryz.func129, Tryz.ntmps129
  go_wp2_with fail
  refine HC.out.mono ?_
  rintro e w1 ⟨rfl, hb⟩
  have HB := hid hb
  clear hb
  go_wp2_with fail
  go_ret
  exact ⟨ret_bool he.out.symm, HB.out⟩
set_option maxHeartbeats 400000 in
theorem rtype_May1_any (t : PT) : ∀ w, LR.lies w t → Calls Tryz.prog 180 #[aggR t.head] w fun e w' => e = .returned (.bool (!mayT t.er)) ∧ Below w.heap.size w w' := by
  refine Rose.ind (P := fun (t : PT) => ∀ w, LR.lies w t → Calls Tryz.prog 180 #[aggR t.head] w fun e w' => e = .returned (.bool (!mayT t.er)) ∧ Below w.heap.size w w') (fun a l ih => ?_) t
  intro w hl
  have HN := hid (nodeIn hl)
  have HK := hid (fun W (hW : Below w.heap.size w W) => rtype_May_of ((HN.out.below hW).rowT) (fun x hx W' hW' => by simpa using ih x hx W' (LR.lies_below hW' x ((HN.out.below hW).each x hx))))
  have HBX := hid ((Below.refl w.heap.size w).alloc (Nat.le_refl _) (.cells #[.int .u8 a.kind, .int .i64 a.rho, .slice a.ep a.en a.ec, .slice a.kp a.kn a.kc] 28))
  show Calls _ _ #[aggR a] w _
  clear hl ih
  cases hn : nodeB a.plain a.kn
  · have HF : Hid (mayT (PT.er (.node a l)) = false) := by show _ = _; rw [mayT_er, HN.out.kids.len, hn]; rfl
    have HNB := hid hn
    clear hn
    go_enter Tryz.func180, Tryz.ntmps180
    go_wp2_with fail
    refine (rtype_node_is HNB.out (HN.out.alloc _).own).mono ?_
    rintro e w1 ⟨rfl, hb⟩
    have HB1 := hid (HBX.out.trans (hb.mono HBX.out.size))
    clear hb
    go_wp2_with fail
    go_ret
    exact ⟨by rw [HF.out]; rfl, HB1.out⟩
  · have HF : Hid (mayT (PT.er (.node a l)) = l.all (fun t => mayT (PT.er t))) := by show _ = _; rw [mayT_er, HN.out.kids.len, hn]; rfl
    have HNB := hid hn
    clear hn
    go_enter Tryz.func180, Tryz.ntmps180
    go_wp2_with fail
    refine (rtype_node_is HNB.out (HN.out.alloc _).own).mono ?_
    rintro e w1 ⟨rfl, hb⟩
    have HB1 := hid (HBX.out.trans (hb.mono HBX.out.size))
    have hc3 : w1.cell? ⟨w.heap.size, 3, none⟩ = some (.slice a.kp a.kn a.kc) := by rw [hb.cell (by simp), cell_new]; rfl
    clear hb
    go_wp2_with fail
    refine (HK.out w1 HB1.out).mono ?_
    rintro e w2 ⟨rfl, hb⟩
    have HB2 := hid (HB1.out.trans (hb.mono HB1.out.size))
    clear hb
    go_wp2_with fail
    go_ret
    exact ⟨by rw [HF.out]; rfl, HB2.out⟩
theorem rtype_May_any {p : Option Addr} {n cap : Nat} {l : List PT} {w : World} (hr : RowT w p n cap l) :
    Calls Tryz.prog 129 #[.slice p n cap] w fun e w' => e = .returned (.bool (l.all (fun t => mayT (PT.er t)))) ∧ Below w.heap.size w w' :=
  rtype_May_of hr (fun x hx W hW => by simpa using rtype_May1_any x W (LR.lies_below hW x (hr.each x hx)))
end
section
open Go.RowKit Go.Sort Go.Lib
end
section

end
section
open Go.RowKit
def sizes (l : List PT) : Nat := (l.map Rose.size).sum
theorem sizes_take {l : List PT} {k : Nat} {x : PT} (h : l[k]? = some x) : sizes (l.take (k + 1)) = sizes (l.take k) + x.size ∧ sizes (l.take k) + x.size ≤ sizes l := sum_take_get Rose.size l k x h
theorem sizes_kids (t : PT) : sizes t.kids + 1 = t.size := by
  obtain ⟨a, l⟩ := t
  rw [Rose.size_node]
  show sizes l + 1 = _
  unfold sizes; omega
def SizeAt (x : PT) (W : World) : Prop := Calls Tryz.prog 65 #[.slice x.head.kp x.head.kn x.head.kc] W fun e w' => e = .returned (.int .i64 (sizes x.kids)) ∧ Below W.heap.size W w'
set_option maxHeartbeats 1000000 in
theorem rtype_Size_of {p : Option Addr} {n cap : Nat} {l : List PT} {w : World} (hr : RowT w p n cap l) (hs : sizes l ≤ 1000000) (hf : ∀ x ∈ l, ∀ W, Below w.heap.size w W → SizeAt x W) :
    Calls Tryz.prog 65 #[.slice p n cap] w fun e w' => e = .returned (.int .i64 (sizes l)) ∧ Below w.heap.size w w' := by
  have hm := hr.row.max
  have HR := hid hr
  have HF := hid hf
  have HS := hid hs
  clear hr hf hs
  go_enter Tryz.func65, Tryz.ntmps65
  go_wp2_with fail
  go_loopw [3, 5, 8] (fun s _ i wr => ∃ k S : Nat, k ≤ n ∧ i = .int .i64 k ∧ sizes (l.take k) = S ∧ S ≤ 1000000 ∧ s = .int .i64 S ∧ Below w.heap.size w wr) (fun _ _ i _ => n - (intOf i).toNat)
  case atStart => exact ⟨0, 0, by omega, rfl, rfl, by omega, rfl, Below.refl _ _⟩
  case round =>
    obtain ⟨k, S, hk, rfl, hS, hS1, rfl, hb⟩ := hrel
    have HSk := hid hS
    have HB := hid hb
    clear hS hb
    by_cases hlt : k < n
    · obtain ⟨x, hx⟩ := HR.out.at (j := k) hlt
      have HE := hid hx
      obtain ⟨b, o, rfl, hbl, d0, d1, d2, d3⟩ := (HR.out.below HB.out).kid hx
      have HST := hid (sizes_take hx)
      have HSK := hid (sizes_kids x)
      have hb1 : S + x.size ≤ 1000000 := by have := HST.out.2; have := HS.out; have := HSk.out; omega
      have hb2 : sizes x.kids ≤ 1000000 := by have := HSK.out; omega
      have hwr := HB.out.size
      clear hx hbl
      go_wp2_with fail
      refine (HF.out x (List.mem_of_getElem? HE.out) _ (HB.out.alloc hwr _)).mono ?_
      rintro e w1 ⟨rfl, hb⟩
      have HB1 := hid ((HB.out.alloc hwr (.cells #[.int .u8 x.head.kind, .int .i64 x.head.rho, .slice x.head.ep x.head.en x.head.ec, .slice x.head.kp x.head.kn x.head.kc] 28)).trans (hb.mono (by simp; omega)))
      clear hb d0 d1 d2 d3
      generalize hz : sizes x.kids = z at *
      have hz3 : S + z ≤ 1000000 := by have := HSK.out; omega
      have HSK2 : Hid (z + 1 = x.size) := HSK.out
      have hzz := hid hz
      clear hz
      go_wp2_with fail
      go_roundw
      case rel => exact ⟨k + 1, S + x.size, by omega, by go_num, by have := HST.out.1; have := HSk.out; omega, hb1, by have := HSK2.out; rw [show ((S + x.size : Nat) : Int) = (S : Int) + ((1 : Int) + (z : Int)) by omega], HB1.out⟩
      case measure => simp [intOf]; omega
    · have hkn : k = n := by omega
      subst hkn
      go_wp2_with fail
      go_ret
      have h := HSk.out
      rw [take_full (by rw [HR.out.row.len]; omega)] at h
      subst h
      exact ⟨rfl, HB.out⟩
theorem sizeAt_any (t : PT) : ∀ w, LR.lies w t → t.size ≤ 1000000 → SizeAt t w := by
  refine Rose.ind (P := fun (t : PT) => ∀ w, LR.lies w t → t.size ≤ 1000000 → SizeAt t w) (fun a l ih => ?_) t
  intro w hl hs
  have HN := nodeIn hl
  have hk : sizes l + 1 = (Rose.node a l).size := sizes_kids (.node a l)
  exact rtype_Size_of (l := l) HN.rowT (by omega) (fun x hx W hW => ih x hx W (LR.lies_below hW x (HN.each x hx)) (by
    have h2 : x.size ≤ sizes l := le_sum_of_mem (List.mem_map_of_mem hx)
    omega))
theorem rtype_Size_any {p : Option Addr} {n cap : Nat} {l : List PT} {w : World} (hr : RowT w p n cap l) (hs : sizes l ≤ 1000000) :
    Calls Tryz.prog 65 #[.slice p n cap] w fun e w' => e = .returned (.int .i64 (sizes l)) ∧ Below w.heap.size w w' :=
  rtype_Size_of hr hs (fun x hx W hW => sizeAt_any x W (LR.lies_below hW x (hr.each x hx)) (by
    have : x.size ≤ sizes l := le_sum_of_mem (List.mem_map_of_mem hx)
    omega))
set_option maxHeartbeats 1000000 in
theorem ref_Size12_any (t : PT) : ∀ w, LR.lies w t → t.size ≤ 1000000 → Calls Tryz.prog 27 #[aggR t.head] w fun e w' => e = .returned (.int .i64 t.size) ∧ Below w.heap.size w w' := by
  refine Rose.ind (P := fun (t : PT) => ∀ w, LR.lies w t → t.size ≤ 1000000 → Calls Tryz.prog 27 #[aggR t.head] w fun e w' => e = .returned (.int .i64 t.size) ∧ Below w.heap.size w w') (fun a l ih => ?_) t
  intro w hl hs
  have HN := hid (nodeIn hl)
  have IH := hid ih
  have HSK := hid (sizes_kids (.node a l))
  change Hid (sizes l + 1 = (Rose.node a l).size) at HSK
  generalize hz : (Rose.node a l).size = z at *
  have HZ := hid hz
  have hkm := HN.out.own.kmax
  have hc3 : (w.alloc (.cells #[.int .u8 a.kind, .int .i64 a.rho, .slice a.ep a.en a.ec, .slice a.kp a.kn a.kc] 28)).cell? ⟨w.heap.size, 3, none⟩ = some (.slice a.kp a.kn a.kc) := by rw [cell_new]; rfl
  have HBX := hid ((Below.refl w.heap.size w).alloc (Nat.le_refl _) (.cells #[.int .u8 a.kind, .int .i64 a.rho, .slice a.ep a.en a.ec, .slice a.kp a.kn a.kc] 28))
  have HNW := hid (HN.out.alloc (.cells #[.int .u8 a.kind, .int .i64 a.rho, .slice a.ep a.en a.ec, .slice a.kp a.kn a.kc] 28))
  show Calls _ _ #[aggR a] w _
  clear hl ih hz
  obtain ⟨kd, rr, ep, en, ec, eff, kp, kn, kc⟩ := a
  simp only at hkm hc3 HBX HNW
  go_enter Tryz.func27, Tryz.ntmps27
  go_wp2_with fail
  generalize w.alloc (.cells #[.int .u8 kd, .int .i64 rr, .slice ep en ec, .slice kp kn kc] 28) = W at *
  have HC3 : Hid (∀ wr, Below W.heap.size W wr → wr.cell? ⟨w.heap.size, 3, none⟩ = some (.slice kp kn kc)) := fun wr hb => by rw [hb.cell (cell_block hc3)]; exact hc3
  clear hc3
  go_loopw [3, 4, 8] (fun s _ i wr => ∃ k S : Nat, k ≤ kn ∧ i = .int .i64 k ∧ sizes (l.take k) + 1 = S ∧ S ≤ 1000000 ∧ s = .int .i64 S ∧ Below W.heap.size W wr) (fun _ _ i _ => kn - (intOf i).toNat)
  case atStart => exact ⟨0, 1, by omega, rfl, rfl, by omega, rfl, Below.refl _ _⟩
  case round =>
    obtain ⟨k, S, hk, rfl, hS, hS1, rfl, hb⟩ := hrel
    have HSk := hid hS
    have HB := hid hb
    clear hS hb
    have hc3 := HC3.out wr HB.out
    by_cases hlt : k < kn
    · obtain ⟨x, hx⟩ := HNW.out.rowT.at (j := k) hlt
      have HE := hid hx
      obtain ⟨b, o, hbo, hbl, d0, d1, d2, d3⟩ := (HNW.out.rowT.below HB.out).kid hx
      simp only at hbo
      subst hbo
      have HX := hid ((HNW.out.rowT.below HB.out).lies hx)
      have HST := hid (sizes_take hx)
      have hb1 : S + x.size ≤ 1000000 := by have := HST.out.2; have := HSK.out; have := HSk.out; omega
      clear hx hbl
      go_wp2_with fail
      refine (IH.out x (List.mem_of_getElem? HE.out) wr HX.out (by omega)).mono ?_
      rintro e w1 ⟨rfl, hb⟩
      have HB1 := hid (HB.out.trans (hb.mono HB.out.size))
      clear hb d0 d1 d2 d3 hc3
      generalize hxz : x.size = xz at *
      have HXZ := hid hxz
      clear hxz
      go_wp2_with fail
      go_roundw
      case rel => exact ⟨k + 1, S + xz, by omega, by go_num, by have := HST.out.1; have := HSk.out; omega, hb1, by go_num, HB1.out⟩
      case measure => simp [intOf]; omega
    · have hkn : k = kn := by omega
      subst hkn
      go_wp2_with fail
      go_ret
      have h := HSk.out
      rw [take_full (by have := HNW.out.kids.len; simp only at this; omega)] at h
      have hz : S = z := by have := HSK.out; omega
      subst hz
      exact ⟨rfl, HBX.out.trans (HB.out.mono HBX.out.size)⟩
end
end Go.Proofs.YtkdjnegfnhldpaaGreatDoor
