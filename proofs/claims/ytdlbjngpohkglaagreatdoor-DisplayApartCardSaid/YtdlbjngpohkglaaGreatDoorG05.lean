/- Part 5 of the texts: Eff5, Class, Eff6, Concat, Rose. -/
import Derived.Test.YtdlbjngpohkglaaGreatDoorG04
import Derived.Test.YtdlbjngpohkglaaGreatDoorG01
import Derived.Deep.QuietTactic
import Derived.Lib.AppendZerosOnto
import Derived.Laws.AppendOwnNone
import Derived.Test.YtdlbjngpohkglaaGreatDoorG02
section
set_option linter.unusedVariables false
set_option maxRecDepth 100000
set_option linter.unusedSimpArgs false
namespace Go.Proofs.YtdlbjngpohkglaaGreatDoor
open Go.RowKit

/-- a slice of those elements -/
def Sl {α : Type} (enc : α → List Value) (k : Nat) (w : World) (v : Value) (l : List α) : Prop := ∃ p n cap, v = .slice p n cap ∧ l.length = n ∧ n ≤ cap ∧ RowE enc k w p l
theorem Sl.below {α : Type} {enc : α → List Value} {k : Nat} {w w' : World} {v : Value} {l : List α} (h : Sl enc k w v l) (hb : Below w.heap.size w w') : Sl enc k w' v l := by
  obtain ⟨p, n, cap, hv, hl, hc, hr⟩ := h
  exact ⟨p, n, cap, hv, hl, hc, hr.below hb⟩
theorem OwnE.sl {α : Type} {enc : α → List Value} {k : Nat} {w : World} {base e n : Nat} {v : Value} {l : List α} (hk : ∀ x, (enc x).length = k) (hk0 : 0 < k) (h : OwnE enc k w base e v n l) : Sl enc k w v l := by
  obtain ⟨p, cap, hv, hl, hc, hr, _⟩ := h.row hk hk0
  exact ⟨p, n, cap, hv, hl, hc, hr⟩

theorem ref_put_any (p : Option Addr) (n cap : Nat) (l : List Atom) (a : Atom) (w : World) (hn : l.length = n) (hcap : n ≤ cap) (hm : n ≤ 1000000) (hr : RowA w p l) :
    Calls Tryz.prog 63 #[.slice p n cap, .agg #[.int .u8 a.kind, .int .i64 a.rho, .string a.exn]] w fun e w' =>
      ∃ v, e = .returned v ∧ Sl encA 3 w' v (putA a l) ∧ Below w.heap.size w w' := by
  by_cases ha : atomB a = true
  · by_cases hi : inA l a = true
    · have hp : Hid (putA a l = l) := by show putA a l = l; simp [putA, ha, hi]
      have HR := Lib.hid hr
      have HN := Lib.hid hn
      clear hr hn
      go_enter Tryz.func63, Tryz.ntmps63
      go_wp2_with fail
      refine (ref_Atom_any a _).mono ?_
      rintro e w1 ⟨rfl, hb⟩
      have H1 : Hid (Below w.heap.size w w1) := ((Below.refl _ w).alloc (Nat.le_refl _) _).trans (hb.mono (by simp))
      have c0 : w1.cell? ⟨w.heap.size, 0, none⟩ = some (.int .u8 a.kind) := by rw [hb.cell (by simp), cell_new]; rfl
      have c1 : w1.cell? ⟨w.heap.size, 1, none⟩ = some (.int .i64 a.rho) := by rw [hb.cell (by simp), cell_new]; rfl
      have c2 : w1.cell? ⟨w.heap.size, 2, none⟩ = some (.string a.exn) := by rw [hb.cell (by simp), cell_new]; rfl
      rw [ha]
      clear hb ha
      go_wp2_with fail
      refine (ref_In_any p n cap l a w1 HN.out (by omega) (HR.out.below H1.out)).mono ?_
      rintro e w2 ⟨rfl, hb⟩
      have H2 := Lib.hid (H1.out.trans (hb.mono H1.out.size))
      rw [hi]
      clear hb hi
      go_wp2_with fail
      go_ret
      exact ⟨_, rfl, by rw [hp.out]; exact ⟨p, n, cap, rfl, HN.out, hcap, HR.out.below H2.out⟩, H2.out⟩
    · have hi' : inA l a = false := by simpa using hi
      refine (ref_put_main p n cap l a w hn hm hr ha hi').mono ?_
      rintro e w' ⟨v, he, ho, hb⟩
      exact ⟨v, he, by rw [show putA a l = putPos a l from by simp [putA, ha, hi']]; exact ho.sl encA_len (by omega), hb⟩
  · have ha' : atomB a = false := by simpa using ha
    have hp : Hid (putA a l = l) := by show putA a l = l; simp [putA, ha']
    have HR := Lib.hid hr
    have HN := Lib.hid hn
    clear hr hn ha
    go_enter Tryz.func63, Tryz.ntmps63
    go_wp2_with fail
    refine (ref_Atom_any a _).mono ?_
    rintro e w1 ⟨rfl, hb⟩
    have H1 : Hid (Below w.heap.size w w1) := ((Below.refl _ w).alloc (Nat.le_refl _) _).trans (hb.mono (by simp))
    rw [ha']
    clear hb ha'
    go_wp2_with fail
    go_ret
    exact ⟨_, rfl, by rw [hp.out]; exact ⟨p, n, cap, rfl, HN.out, hcap, HR.out.below H1.out⟩, H1.out⟩

theorem putA_length (a : Atom) (l : List Atom) : (putA a l).length ≤ l.length + 1 := by
  unfold putA; split
  · rw [putPos_length]; omega
  · omega

/-- the reference's effect of some atoms -/
def refOf (l : List Atom) : List Atom := l.foldl (fun e a => putA a e) []
theorem refOf_snoc (l : List Atom) (x : Atom) : refOf (l ++ [x]) = putA x (refOf l) := by simp [refOf, List.foldl_append]
theorem refOf_length (l : List Atom) : (refOf l).length ≤ l.length := by
  suffices h : ∀ (l e : List Atom), (l.foldl (fun e a => putA a e) e).length ≤ e.length + l.length by simpa [refOf] using h l []
  intro l
  induction l with
  | nil => intro e; simp
  | cons a l ih =>
    intro e
    have h1 := ih (putA a e)
    have h2 := putA_length a e
    simp only [List.foldl_cons, List.length_cons]
    omega

set_option maxHeartbeats 400000 in
theorem ref_Of_any (p : Option Addr) (n cap : Nat) (l : List Atom) (w : World) (hn : l.length = n) (hm : n ≤ 1000000) (hr : RowA w p l) :
    Calls Tryz.prog 49 #[.slice p n cap] w fun e w' => ∃ v, e = .returned v ∧ Sl encA 3 w' v (refOf l) ∧ Below w.heap.size w w' := by
  have HR := Lib.hid hr
  have HN := Lib.hid hn
  clear hr hn
  go_enter Tryz.func49, Tryz.ntmps49
  go_wp2_with fail
  go_loopw [3, 8] (fun u i wr => ∃ (k : Nat) (q : Option Addr) (m mc : Nat), k ≤ n ∧ i = .int .i64 k ∧ u = .slice q m mc ∧ (refOf (l.take k)).length = m ∧ m ≤ mc ∧ RowA wr q (refOf (l.take k)) ∧ Below w.heap.size w wr) (fun _ i _ => n - (intOf i).toNat)
  case atStart => exact ⟨0, _, _, _, by omega, rfl, rfl, rfl, by omega, .inl rfl, (Below.refl _ _).alloc (Nat.le_refl _) _⟩
  case round =>
    obtain ⟨k, q, m, mc, hk, rfl, rfl, hlen, hmc, hrow, hb⟩ := hrel
    have HLEN := Lib.hid hlen
    have HROW := Lib.hid hrow
    have HB := Lib.hid hb
    have hmk : m ≤ k := by
      have := refOf_length (l.take k)
      rw [hlen, List.length_take] at this; omega
    clear hlen hrow hb
    by_cases hlt : k < n
    · obtain ⟨x, hx⟩ := get_of_lt (l := l) (j := k) (by rw [HN.out]; exact hlt)
      have HE := Lib.hid hx
      obtain ⟨b, o, rfl, hbl, d0, d1, d2⟩ := RowA.atom (HR.out.below HB.out) hx
      clear hx hbl
      go_wp2_with fail
      refine (ref_put_any q m mc (refOf (l.take k)) x wr HLEN.out hmc (by omega) HROW.out).mono ?_
      rintro e w1 ⟨v, rfl, ⟨q', m', mc', rfl, hl', hc', hr'⟩, hb⟩
      have HB1 := Lib.hid (HB.out.trans (hb.mono HB.out.size))
      have HL' := Lib.hid hl'
      have HR' := Lib.hid hr'
      clear hb d0 d1 d2 hl' hr'
      go_wp2_with fail
      go_roundw
      case rel => exact ⟨k + 1, q', m', mc', by omega, by go_num, rfl, by rw [take_succ_get HE.out, refOf_snoc]; exact HL'.out, hc', by rw [take_succ_get HE.out, refOf_snoc]; exact HR'.out, HB1.out⟩
      case measure => simp [intOf]; omega
    · have hkn : k = n := by omega
      subst hkn
      go_wp2_with fail
      go_ret
      have h1 := HLEN.out
      have h2 := HROW.out
      rw [take_full (by rw [HN.out]; omega)] at h1 h2
      exact ⟨_, rfl, ⟨q, m, mc, rfl, h1, hmc, h2⟩, HB.out⟩

/-- are all atoms of one the other one's? -/
def withinB (a b : List Atom) : Bool := a.all (fun x => !atomB x || inA b x)

set_option maxHeartbeats 400000 in
theorem ref_Within_any (p : Option Addr) (n cap : Nat) (l : List Atom) (q : Option Addr) (m mc : Nat) (l' : List Atom) (w : World) (hn : l.length = n) (hm : n ≤ 9223372036854775807) (hr : RowA w p l)
    (hn' : l'.length = m) (hm' : m ≤ 9223372036854775807) (hr' : RowA w q l') :
    Calls Tryz.prog 26 #[.slice p n cap, .slice q m mc] w fun e w' => e = .returned (.bool (withinB l l')) ∧ Below w.heap.size w w' := by
  have HR := Lib.hid hr
  have HN := Lib.hid hn
  have HR' := Lib.hid hr'
  have HN' := Lib.hid hn'
  clear hr hn hr' hn'
  go_enter Tryz.func26, Tryz.ntmps26
  go_wp2_with fail
  go_loopw [5, 8] (fun _ i wr => ∃ k : Nat, k ≤ n ∧ i = .int .i64 k ∧ (l.take k).all (fun x => !atomB x || inA l' x) = true ∧ Below w.heap.size w wr) (fun _ i _ => n - (intOf i).toNat)
  case atStart => exact ⟨0, by omega, rfl, by simp, Below.refl _ _⟩
  case round =>
    obtain ⟨k, hk, rfl, hno, hb⟩ := hrel
    have HNO := Lib.hid hno
    have HB := Lib.hid hb
    clear hno hb
    by_cases hlt : k < n
    · obtain ⟨x, hx⟩ := get_of_lt (l := l) (j := k) (by rw [HN.out]; exact hlt)
      have HE := Lib.hid hx
      obtain ⟨b, o, rfl, hbl, d0, d1, d2⟩ := RowA.atom (HR.out.below HB.out) hx
      go_wp2_with fail
      refine (ref_Atom_any x wr).mono ?_
      rintro e w1 ⟨rfl, hb⟩
      have HB1 := Lib.hid (HB.out.trans (hb.mono HB.out.size))
      have f0 : w1.cell? ⟨b, o + k * 3, none⟩ = some (.int .u8 x.kind) := by rw [hb.cell hbl]; exact d0
      have f1 : w1.cell? ⟨b, o + k * 3 + 1, none⟩ = some (.int .i64 x.rho) := by rw [hb.cell hbl]; exact d1
      have f2 : w1.cell? ⟨b, o + k * 3 + 2, none⟩ = some (.string x.exn) := by rw [hb.cell hbl]; exact d2
      clear hb d0 d1 d2 hx hbl
      cases ha : atomB x
      · have HA := Lib.hid ha
        clear ha
        go_wp2_with fail
        go_roundw
        case rel => exact ⟨k + 1, by omega, by go_num, by rw [all_take_get HE.out, HNO.out, HA.out]; rfl, HB1.out⟩
        case measure => simp [intOf]; omega
      · have HA := Lib.hid ha
        clear ha
        go_wp2_with fail
        refine (ref_In_any q m mc l' x w1 HN'.out hm' (HR'.out.below HB1.out)).mono ?_
        rintro e w2 ⟨rfl, hb⟩
        have HB2 := Lib.hid (HB1.out.trans (hb.mono HB1.out.size))
        clear hb f0 f1 f2
        cases hi : inA l' x
        · have HI := Lib.hid hi
          clear hi
          go_wp2_with fail
          go_ret
          exact ⟨ret_bool (by unfold withinB; rw [all_get HE.out (by rw [HA.out, HI.out]; rfl)]), HB2.out⟩
        · have HI := Lib.hid hi
          clear hi
          go_wp2_with fail
          go_roundw
          case rel => exact ⟨k + 1, by omega, by go_num, by rw [all_take_get HE.out, HNO.out, HA.out, HI.out]; rfl, HB2.out⟩
          case measure => simp [intOf]; omega
    · go_wp2_with fail
      go_ret
      have h := HNO.out
      rw [take_full (by rw [HN.out]; omega)] at h
      exact ⟨ret_bool h.symm, HB.out⟩

/-- does a row have a number? -/
def inN (l : List Int) (x : Int) : Bool := l.any (· == x)
theorem ref_Ints_any (p : Option Addr) (n cap : Nat) (l : List Int) (x : Int) (w : World) (hn : l.length = n) (hm : n ≤ 9223372036854775807) (hr : RowE encN 1 w p l) :
    Calls Tryz.prog 37 #[.slice p n cap, .int .i64 x] w fun e w' => e = .returned (.bool (inN l x)) ∧ w = w' := by
  have HR := Lib.hid hr
  have HN := Lib.hid hn
  clear hr hn
  go_enter Tryz.func37, Tryz.ntmps37
  go_wp2_with fail
  go_loop [5, 8] (fun _ i => ∃ k : Nat, k ≤ n ∧ i = .int .i64 k ∧ (l.take k).any (· == x) = false) (fun _ i => n - (intOf i).toNat)
  case atStart => exact ⟨0, by omega, rfl, by simp⟩
  case round =>
    obtain ⟨k, hk, rfl, hno⟩ := hrel
    have HNO := Lib.hid hno
    clear hno
    by_cases hlt : k < n
    · obtain ⟨y, hy⟩ := get_of_lt (l := l) (j := k) (by rw [HN.out]; exact hlt)
      have HE := Lib.hid hy
      obtain ⟨b, o, rfl, d0⟩ := HR.out.num hy
      clear hy
      cases hq : (y == x)
      · go_wp2_with fail
        go_round
        case rel => exact ⟨k + 1, by omega, by go_num, by rw [any_take_get HE.out, HNO.out, hq]; rfl⟩
        case measure => simp [intOf]; omega
      · go_wp2_with fail
        go_ret
        exact ⟨ret_bool (by unfold inN; rw [any_get HE.out hq]), rfl⟩
    · go_wp2_with fail
      go_ret
      have h := HNO.out
      rw [take_full (by rw [HN.out]; omega)] at h
      exact ⟨ret_bool h.symm, rfl⟩
end Go.Proofs.YtdlbjngpohkglaaGreatDoor
end
section
set_option linter.unusedVariables false
set_option maxRecDepth 100000
set_option linter.unusedSimpArgs false
namespace Go.Proofs.YtdlbjngpohkglaaGreatDoor
open Go.RowKit

/-- w with some draws and some new blocks -/
structure Later where
  drawn : Nat
  blocks : Array Obj
deriving Inhabited
def gw (w : World) (g : Later) : World := { w with heap := w.heap ++ g.blocks, drawn := g.drawn }

theorem gw_below (w : World) (g : Later) : Below w.heap.size w (gw w g) := by
  refine ⟨rfl, rfl, rfl, by simp [gw], fun k hk => ?_⟩
  simp [gw, Array.getElem?_append_left hk]

theorem below_gw {w w' : World} (h : Below w.heap.size w w') : ∃ g, w' = gw w g := by
  refine ⟨⟨w'.drawn, w'.heap.extract w.heap.size w'.heap.size⟩, ?_⟩
  obtain ⟨heap, tape, drawn, os, output⟩ := w
  obtain ⟨heap', tape', drawn', os', output'⟩ := w'
  obtain ⟨h1, h2, h3, h4, h5⟩ := h
  simp only at h1 h2 h3 h4 h5
  subst h1; subst h2; subst h3
  simp only [gw, World.mk.injEq, true_and, and_true]
  apply Array.ext_getElem?
  intro i
  rcases Nat.lt_or_ge i heap.size with hi | hi
  · rw [Array.getElem?_append_left hi]; exact h5 i hi
  · rw [Array.getElem?_append_right hi, Array.getElem?_extract]
    simp only [Nat.add_sub_cancel' hi]
    split
    · rfl
    · rw [Array.getElem?_eq_none (by omega)]

theorem gw_cell {w : World} {a : Addr} {v : Value} (h : w.cell? a = some v) (g : Later) : (gw w g).cell? a = some v := by
  rw [(gw_below w g).cell (cell_block h)]; exact h

/-- a callee's contract, in the class -/
theorem calls_gw {P : Program} {f : FuncId} {args : Array Value} {w : World} {g : Later} {v : Value}
    (h : Calls P f args (gw w g) fun e w' => e = .returned v ∧ Below (gw w g).heap.size (gw w g) w') : Calls P f args (gw w g) fun e w' => e = .returned v ∧ ∃ g', w' = gw w g' :=
  h.mono fun _ _ ⟨he, hb⟩ => ⟨he, below_gw ((gw_below w g).trans (hb.mono (gw_below w g).size))⟩

theorem wp_region_gw {P : Program} {id : Nat} {Q : Exit → Act → World → Prop} {a : Act} {w : World} {l : List Oper} (hm : P.follows .mixedOrders = true) (hB : Region.lexB .any l.toArray = true)
    (h : wpQuiet P l.toArray (fun w' => ∃ g, w' = gw w g) (fun a' => ∀ w', (∃ g, w' = gw w g) → Q .normal a' w') l a) : (Code.region id l.toArray true).wp P Q a w :=
  wp_region_quiet (C := fun w' => ∃ g, w' = gw w g) hm hB ⟨⟨w.drawn + 1, #[]⟩, by simp [gw]⟩ (by simpa using h)
end Go.Proofs.YtdlbjngpohkglaaGreatDoor
end
section
set_option linter.unusedVariables false
set_option maxRecDepth 100000
set_option linter.unusedSimpArgs false
namespace Go.Proofs.YtdlbjngpohkglaaGreatDoor
open Go.RowKit

/-- is it an effect? -/
def mayB : List Atom → Bool
  | [] => true
  | [a] => atomB a
  | a :: b :: l => atomB a && Atom.lt a b && mayB (b :: l)
/-- so far -/
def MayTo (e : List Atom) (k : Nat) : Prop := (e.take k).all atomB = true ∧ ∀ j x y, j + 1 < k → e[j]? = some x → e[j + 1]? = some y → Atom.lt x y = true

theorem ref_Atom_is {a : Atom} {r : Bool} (h : atomB a = r) (w : World) :
    Calls Tryz.prog 46 #[.agg #[.int .u8 a.kind, .int .i64 a.rho, .string a.exn]] w fun e w' => e = .returned (.bool r) ∧ Below w.heap.size w w' := by
  subst h; exact ref_Atom_any a w
theorem ref_Less_is {a b : Atom} {r : Bool} (h : Atom.lt a b = r) (w : World) : Calls Tryz.prog 53 #[.agg #[.int .u8 a.kind, .int .i64 a.rho, .string a.exn], .agg #[.int .u8 b.kind, .int .i64 b.rho, .string b.exn]] w fun e w' =>
    e = .returned (.bool r) ∧ Below w.heap.size w w' := by
  subst h; exact ref_Less_any a b w

set_option maxHeartbeats 1000000 in
theorem ref_May_any (p : Option Addr) (n cap : Nat) (l : List Atom) (w : World) (hn : l.length = n) (hm : n ≤ 9223372036854775807) (hr : RowA w p l) :
    Calls Tryz.prog 38 #[.slice p n cap] w fun e w' => (∃ r, e = .returned (.bool r) ∧ (r = true ↔ MayTo l n)) ∧ Below w.heap.size w w' := by
  have HR := Lib.hid hr
  have HN := Lib.hid hn
  clear hr hn
  go_enter Tryz.func38, Tryz.ntmps38
  go_wp2_with fail
  go_loopw [3, 6] (fun _ i wr => ∃ k : Nat, k ≤ n ∧ i = .int .i64 k ∧ MayTo l k ∧ Below w.heap.size w wr) (fun _ i _ => n - (intOf i).toNat)
  case atStart => exact ⟨0, by omega, rfl, ⟨by simp, fun j _ _ h => by omega⟩, Below.refl _ _⟩
  case round =>
    obtain ⟨k, hk, rfl, hno, hb⟩ := hrel
    have HNO := Lib.hid hno
    have HB := Lib.hid hb
    clear hno hb
    by_cases hlt : k < n
    · obtain ⟨x, hx⟩ := get_of_lt (l := l) (j := k) (by rw [HN.out]; exact hlt)
      have HE := Lib.hid hx
      obtain ⟨b, o, rfl, hbl, d0, d1, d2⟩ := RowA.atom (HR.out.below HB.out) hx
      have HBL := Lib.hid hbl
      clear hx hbl
      have hc0 := fun g => gw_cell d0 g
      have hc1 := fun g => gw_cell d1 g
      have hc2 := fun g => gw_cell d2 g
      cases ha : atomB x
      · have HA := Lib.hid ha
        clear ha
        have hW := gw_below wr
        go_wp2_with fail
        refine wp_region_gw (by kernel_rfl) (by kernel_rfl) ?_
        repeat ((with_reducible refine wpQuiet_step (fun K hK => ?_)); go_simp; refine hK _ ?_; clear hK K)
        refine wpQuiet_step (fun K hK => ?_); go_simp; refine ⟨.bool false, fun _ => calls_gw (ref_Atom_is HA.out _), hK _ ?_⟩; clear hK K
        repeat ((with_reducible refine wpQuiet_step (fun K hK => ?_)); go_simp; refine hK _ ?_; clear hK K)
        refine wpQuiet_nil ?_
        rintro w3 ⟨g, rfl⟩
        have HB3 := Lib.hid (HB.out.trans ((hW g).mono HB.out.size))
        clear hW
        go_wp2_with fail
        go_ret
        exact ⟨⟨false, rfl, by
          constructor
          · intro h; cases h
          · intro h
            have h1 := h.1
            rw [take_full (by rw [HN.out]; omega), all_get HE.out HA.out] at h1
            cases h1⟩, HB3.out⟩
      · have HA := Lib.hid ha
        clear ha
        have hW := gw_below wr
        by_cases hk0 : k = 0
        · have hd : decide ((0 : Int) < (k : Int)) = false := by simp; omega
          have hd' : decide (0 < k) = false := by simp; omega
          have HK0 := Lib.hid hk0
          clear hk0
          go_wp2_with fail
          refine wp_region_gw (by kernel_rfl) (by kernel_rfl) ?_
          repeat ((with_reducible refine wpQuiet_step (fun K hK => ?_)); go_simp; refine hK _ ?_; clear hK K)
          refine wpQuiet_step (fun K hK => ?_); go_simp; refine ⟨.bool true, fun _ => calls_gw (ref_Atom_is HA.out _), hK _ ?_⟩; clear hK K
          repeat ((with_reducible refine wpQuiet_step (fun K hK => ?_)); go_simp; refine hK _ ?_; clear hK K)
          refine wpQuiet_nil ?_
          rintro w3 ⟨g, rfl⟩
          have HB3 := Lib.hid (HB.out.trans ((hW g).mono HB.out.size))
          clear hW
          go_wp2_with fail
          go_roundw
          case rel => exact ⟨k + 1, by omega, by go_num, ⟨by rw [all_take_get HE.out, HNO.out.1, HA.out]; rfl, fun j _ _ h => by have := HK0.out; omega⟩, HB3.out⟩
          case measure => simp [intOf]; omega
        · obtain ⟨y, hy⟩ := get_of_lt (l := l) (j := k - 1) (by rw [HN.out]; omega)
          have HY := Lib.hid hy
          obtain ⟨b', o', hbo, _, e0, e1, e2⟩ := RowA.atom (HR.out.below HB.out) hy
          cases hbo
          have he0 := fun g => gw_cell e0 g
          have he1 := fun g => gw_cell e1 g
          have he2 := fun g => gw_cell e2 g
          have hk1 : Hid (0 < k) := show 0 < k by omega
          have hd : decide ((0 : Int) < (k : Int)) = true := by simp; omega
          have hd' : decide (0 < k) = true := by simp; omega
          have hkp : 0 < k := hk1.out
          have a1 : IntKind.i64.wrap ((k : Int) - 1) = (k : Int) - 1 := IntWalk.i64_in _ (by omega)
          have a2 : (0 : Int) ≤ (k : Int) - 1 := by omega
          have a3 : ((k : Int) - 1).toNat = k - 1 := by omega
          have a4 : (k : Int) - 1 < (n : Int) := by omega
          have a5 : (1 : Int) ≤ (k : Int) := by omega
          clear hy hk0
          cases hl : Atom.lt y x
          · have HL := Lib.hid hl
            clear hl
            go_wp2_with fail
            refine wp_region_gw (by kernel_rfl) (by kernel_rfl) ?_
            repeat ((with_reducible refine wpQuiet_step (fun K hK => ?_)); go_simp; refine hK _ ?_; clear hK K)
            refine wpQuiet_step (fun K hK => ?_); go_simp; refine ⟨.bool true, fun _ => calls_gw (ref_Atom_is HA.out _), hK _ ?_⟩; clear hK K
            repeat ((with_reducible refine wpQuiet_step (fun K hK => ?_)); go_simp; refine hK _ ?_; clear hK K)
            refine wpQuiet_step (fun K hK => ?_); go_simp; refine ⟨.bool false, fun _ => calls_gw (ref_Less_is HL.out _), hK _ ?_⟩; clear hK K
            repeat ((with_reducible refine wpQuiet_step (fun K hK => ?_)); go_simp; refine hK _ ?_; clear hK K)
            refine wpQuiet_nil ?_
            rintro w3 ⟨g, rfl⟩
            have HB3 := Lib.hid (HB.out.trans ((hW g).mono HB.out.size))
            clear hW
            go_wp2_with fail
            go_ret
            exact ⟨⟨false, rfl, by
              constructor
              · intro h; cases h
              · intro h
                have h1 := h.2 (k - 1) y x (by have := hk1.out; omega) HY.out (by rw [show k - 1 + 1 = k from by have := hk1.out; omega]; exact HE.out)
                rw [HL.out] at h1
                cases h1⟩, HB3.out⟩
          · have HL := Lib.hid hl
            clear hl
            go_wp2_with fail
            refine wp_region_gw (by kernel_rfl) (by kernel_rfl) ?_
            repeat ((with_reducible refine wpQuiet_step (fun K hK => ?_)); go_simp; refine hK _ ?_; clear hK K)
            refine wpQuiet_step (fun K hK => ?_); go_simp; refine ⟨.bool true, fun _ => calls_gw (ref_Atom_is HA.out _), hK _ ?_⟩; clear hK K
            repeat ((with_reducible refine wpQuiet_step (fun K hK => ?_)); go_simp; refine hK _ ?_; clear hK K)
            refine wpQuiet_step (fun K hK => ?_); go_simp; refine ⟨.bool true, fun _ => calls_gw (ref_Less_is HL.out _), hK _ ?_⟩; clear hK K
            repeat ((with_reducible refine wpQuiet_step (fun K hK => ?_)); go_simp; refine hK _ ?_; clear hK K)
            refine wpQuiet_nil ?_
            rintro w3 ⟨g, rfl⟩
            have HB3 := Lib.hid (HB.out.trans ((hW g).mono HB.out.size))
            clear hW
            go_wp2_with fail
            go_roundw
            case rel => exact ⟨k + 1, by omega, by go_num, ⟨by rw [all_take_get HE.out, HNO.out.1, HA.out]; rfl, fun i u v hi hu hv => by
              have hk1 := hk1.out
              rcases (by omega : i = k - 1 ∨ i + 1 < k) with rfl | hlt'
              · rw [HY.out] at hu; cases hu; rw [show k - 1 + 1 = k from by omega, HE.out] at hv; cases hv; exact HL.out
              · exact HNO.out.2 i u v hlt' hu hv⟩, HB3.out⟩
            case measure => simp [intOf]; omega
    · go_wp2_with fail
      go_ret
      obtain rfl : k = n := by omega
      exact ⟨⟨true, rfl, by simp [HNO.out]⟩, HB.out⟩
end Go.Proofs.YtdlbjngpohkglaaGreatDoor
end
section
set_option linter.unusedVariables false
set_option maxRecDepth 100000
set_option linter.unusedSimpArgs false
namespace Go.Proofs.YtdlbjngpohkglaaGreatDoor
open Go.RowKit

/-- append of a row, nil or not, to a row of the call's own -/
theorem wpList_appendR {P : Program} {α : Type} {ops : Array Oper} {rest : List Oper} {o : Oper} {a : Act} {Q : Exit → Act → World → Prop} (hgd : o.guard = none) (s x : Operand) (t : TypeId)
    (ho : o.op = .call { callee := .builtin .append, args := #[s, x], argTypes := #[t, t] })
    (base : Nat) (e : TypeId) (z : Value) (k bytes : Nat) (ht : P.underlying t = some (.slice e)) (hinfo : (P.info? e).map (fun i => (i.zero, i.size, i.bytes)) = some (some z, k, bytes))
    (hzs : z.cells.size = k) (hsz : 0 < k)
    (enc : α → List Value) (hk : ∀ x, (enc x).length = k) (h1 : ∀ y, ∀ u ∈ enc y, u.oneCell' = true) (l' l : List α) (n : Nat) {w : World} (v : Value) (hown : OwnE enc k w base e v n l)
    (p : Option Addr) (m c : Nat) (hs : a.eval s = v) (hx : a.eval x = .slice p m c) (hl : l'.length = m) (hp : p = none → c = 0) (hr : RowE enc k w p l')
    (hbytes : (n + m) * bytes ≤ 140737488355328) (h63 : n + m ≤ 9223372036854775807) (hbase : base ≤ w.heap.size)
    (h : ∀ v' w', OwnE enc k w' base e v' (n + m) (l ++ l') → w.grownBy w' v.ownBlock → wpList P ops Q rest (a.put o.dst v') w') :
    wpList P ops Q (o :: rest) a w := by
  obtain ⟨i, hi, hz, hsize, hby⟩ := info_parts hinfo
  rcases p with _ | ad
  · have hl0 : l' = [] := by
      rcases hr with h | ⟨_, _, h, _⟩
      · exact h
      · cases h
    subst hl0
    obtain rfl : m = 0 := by simpa using hl.symm
    obtain rfl := hp rfl
    refine wpList_append_own_none hgd s x t ho base e i k ht hi v n _ hs hown hx ?_
    have := h v w (by simpa using hown) (World.grownBy.refl _ _)
    exact this
  · refine wpList_append_own _ hgd s x t ho base e i z k bytes ht hi hz hsize hby hzs hsz v n _ hs hown ad m c (l'.flatMap enc) hx (by rw [flat_length hk, hl]) ?_ ?_ (by unfold maxLen; omega) hbytes hbase ?_
    · intro j u hj
      rcases hr with h0 | ⟨b, o', hb, hlt, hc⟩
      · subst h0; simp at hj
      · cases hb
        have hjl : j < l'.length * k := by rw [← flat_length hk]; exact get_lt hj
        have hq : j / k < l'.length := Nat.div_lt_of_lt_mul (by rw [Nat.mul_comm]; exact hjl)
        have hm : j % k < k := Nat.mod_lt _ hsz
        have hf := flat_get hk l' (j / k) _ (j % k) (List.getElem?_eq_getElem hq) hm
        rw [Nat.div_add_mod' j k, hj] at hf
        have := hc (j / k) _ (List.getElem?_eq_getElem hq) (j % k) u hf.symm
        rw [add_lit', ← Nat.div_add_mod' j k, ← Nat.add_assoc]
        exact this
    · intro u hu
      rw [List.mem_flatMap] at hu
      obtain ⟨y, _, hu⟩ := hu
      exact h1 y u hu
    · intro v' w' hown' hg _
      refine h v' w' ?_ hg
      unfold OwnE
      rw [List.flatMap_append]
      exact hown'

/-- a slice, as an element of a row -/
structure SlE (α : Type) where
  p : Option Addr
  n : Nat
  cap : Nat
  l : List α
def encSl {α : Type} (r : SlE α) : List Value := [.slice r.p r.n r.cap]
theorem encSl_len {α : Type} (r : SlE α) : (encSl r).length = 1 := rfl
/-- It is what it says. -/
structure SlE.Ok {α : Type} (enc : α → List Value) (k : Nat) (w : World) (r : SlE α) : Prop where
  len : r.l.length = r.n
  cap : r.n ≤ r.cap
  nil : r.p = none → r.cap = 0
  row : RowE enc k w r.p r.l
theorem SlE.Ok.below {α : Type} {enc : α → List Value} {k : Nat} {w w' : World} {r : SlE α} (h : r.Ok enc k w) (hb : Below w.heap.size w w') : r.Ok enc k w' := ⟨h.1, h.2, h.3, h.4.below hb⟩

theorem sum_take_get {α : Type} (f : α → Nat) : ∀ (l : List α) (k : Nat) (x : α), l[k]? = some x → ((l.take (k + 1)).map f).sum = ((l.take k).map f).sum + f x ∧ ((l.take k).map f).sum + f x ≤ (l.map f).sum
  | [], k, x, h => by simp at h
  | y :: l, 0, x, h => by simp at h; subst h; simp
  | y :: l, k + 1, x, h => by
    obtain ⟨h1, h2⟩ := sum_take_get f l k x (by simpa using h)
    constructor
    · simp only [List.take_succ_cons, List.map_cons, List.sum_cons] at h1 ⊢; rw [h1]; omega
    · simp only [List.take_succ_cons, List.map_cons, List.sum_cons]; omega

end Go.Proofs.YtdlbjngpohkglaaGreatDoor
end
section
set_option linter.unusedVariables false
set_option maxRecDepth 100000
set_option linter.unusedSimpArgs false
namespace Go.Proofs.YtdlbjngpohkglaaGreatDoor
open Go.RowKit

/-- A node, and its kids. -/
inductive Rose (α : Type) where
  | node (a : α) (kids : List (Rose α))

namespace Rose
variable {α β : Type}
def head : Rose α → α
  | node a _ => a
def kids : Rose α → List (Rose α)
  | node _ l => l
theorem eta (t : Rose α) : t = node t.head t.kids := by cases t; rfl

mutual
theorem ind {P : Rose α → Prop} (h : ∀ a l, (∀ t ∈ l, P t) → P (node a l)) : ∀ t, P t
  | node a l => h a l (indL h l)
theorem indL {P : Rose α → Prop} (h : ∀ a l, (∀ t ∈ l, P t) → P (node a l)) : ∀ l : List (Rose α), ∀ t ∈ l, P t
  | [], _, hm => absurd hm List.not_mem_nil
  | t :: l, x, hm => by
    rcases List.mem_cons.1 hm with e | hm
    · rw [e]; exact ind h t
    · exact indL h l x hm
end

mutual
/-- from the leaves up -/
def fold (f : α → List β → β) : Rose α → β
  | node a l => f a (foldL f l)
def foldL (f : α → List β → β) : List (Rose α) → List β
  | [] => []
  | t :: l => fold f t :: foldL f l
end
theorem foldL_eq (f : α → List β → β) : ∀ l : List (Rose α), foldL f l = l.map (fold f)
  | [] => by simp [foldL]
  | t :: l => by simp [foldL, foldL_eq f l]
theorem fold_node (f : α → List β → β) (a : α) (l : List (Rose α)) : fold f (node a l) = f a (l.map (fold f)) := by
  rw [fold, foldL_eq]

/-- how many nodes -/
def size : Rose α → Nat := fold (fun _ l => 1 + l.sum)
theorem size_node (a : α) (l : List (Rose α)) : size (node a l) = 1 + (l.map size).sum := fold_node _ a l
theorem size_pos (t : Rose α) : 0 < size t := by cases t; rw [size_node]; omega

/-- node by node -/
def map (g : α → β) : Rose α → Rose β := fold (fun a l => node (g a) l)
theorem map_node (g : α → β) (a : α) (l : List (Rose α)) : map g (node a l) = node (g a) (l.map (map g)) := fold_node _ a l
theorem size_map (g : α → β) (t : Rose α) : size (map g t) = size t := by
  refine ind (P := fun t => size (map g t) = size t) (fun a l ih => ?_) t
  rw [map_node, size_node, size_node, List.map_map]
  congr 2
  exact List.map_congr_left ih

/-- all nodes, each ahead of its kids -/
def nodes : Rose α → List α := fold (fun a l => a :: l.flatten)
theorem nodes_node (a : α) (l : List (Rose α)) : nodes (node a l) = a :: (l.map nodes).flatten := fold_node _ a l

/-- do all nodes meet p, which knows how many kids there are? -/
def all (p : α → Nat → Bool) : Rose α → Bool := fold (fun a l => p a l.length && l.all id)
theorem all_node (p : α → Nat → Bool) (a : α) (l : List (Rose α)) : all p (node a l) = (p a l.length && l.all (all p)) := by
  show fold _ _ = _
  rw [fold_node, List.length_map, List.all_map]
  rfl

mutual
/-- the same shape, and nodes that are alike -/
def same (r : α → β → Bool) : Rose α → Rose β → Bool
  | node a l, node b m => r a b && sameL r l m
def sameL (r : α → β → Bool) : List (Rose α) → List (Rose β) → Bool
  | [], [] => true
  | t :: l, u :: m => same r t u && sameL r l m
  | [], _ :: _ => false
  | _ :: _, [] => false
end
theorem same_node (r : α → β → Bool) (a : α) (b : β) (l : List (Rose α)) (m : List (Rose β)) : same r (node a l) (node b m) = (r a b && sameL r l m) := by rw [same]
theorem sameL_length (r : α → β → Bool) : ∀ (l : List (Rose α)) (m : List (Rose β)), sameL r l m = true → List.length l = List.length m
  | [], [], _ => rfl
  | t :: l, u :: m, h => by
    simp only [sameL, Bool.and_eq_true] at h
    simp [sameL_length r l m h.2]
  | [], _ :: _, h => by simp [sameL] at h
  | _ :: _, [], h => by simp [sameL] at h
theorem sameL_get (r : α → β → Bool) : ∀ (l : List (Rose α)) (m : List (Rose β)), sameL r l m = true ↔ l.length = m.length ∧ ∀ (j : Nat) (t : Rose α) (u : Rose β), l[j]? = some t → m[j]? = some u → same r t u = true
  | [], [] => by simp [sameL]
  | t :: l, u :: m => by
    simp only [sameL, Bool.and_eq_true, sameL_get r l m, List.length_cons, Nat.add_right_cancel_iff]
    constructor
    · rintro ⟨h, hl, hj⟩
      refine ⟨hl, fun j x y hx hy => ?_⟩
      cases j with
      | zero => simp at hx hy; subst hx; subst hy; exact h
      | succ j => exact hj j x y (by simpa using hx) (by simpa using hy)
    · rintro ⟨hl, hj⟩
      exact ⟨hj 0 t u rfl rfl, hl, fun j x y hx hy => hj (j + 1) x y (by simpa using hx) (by simpa using hy)⟩
  | [], _ :: _ => by simp [sameL]
  | _ :: _, [] => by simp [sameL]
end Rose

/-- How nodes of a kind lie: their cells, how many, what a node's cells lead to beside the kids, and where the kids lie. -/
structure Laid (α : Type) where
  enc : α → List Value
  k : Nat
  own : World → α → Prop
  kp : α → Option Addr
  kn : α → Nat
  len : ∀ a, (enc a).length = k
  below : ∀ {w w' : World} {a : α}, own w a → Below w.heap.size w w' → own w' a

namespace Laid
variable {α : Type}
/-- a tree's cells -/
def encT (L : Laid α) (t : Rose α) : List Value := L.enc t.head
theorem encT_len (L : Laid α) (t : Rose α) : (L.encT t).length = L.k := L.len _
mutual
/-- The tree lies in w. -/
def lies (L : Laid α) (w : World) : Rose α → Prop
  | .node a l => L.own w a ∧ l.length = L.kn a ∧ RowE L.encT L.k w (L.kp a) l ∧ liesL L w l
def liesL (L : Laid α) (w : World) : List (Rose α) → Prop
  | [] => True
  | t :: l => lies L w t ∧ liesL L w l
end
theorem liesL_iff (L : Laid α) (w : World) : ∀ l : List (Rose α), L.liesL w l ↔ ∀ t ∈ l, L.lies w t
  | [] => by simp [liesL]
  | t :: l => by simp [liesL, liesL_iff L w l]
theorem lies_node (L : Laid α) (w : World) (a : α) (l : List (Rose α)) : L.lies w (.node a l) ↔ L.own w a ∧ l.length = L.kn a ∧ RowE L.encT L.k w (L.kp a) l ∧ ∀ t ∈ l, L.lies w t := by
  rw [lies, liesL_iff]
theorem lies_below (L : Laid α) {w w' : World} (hb : Below w.heap.size w w') (t : Rose α) : L.lies w t → L.lies w' t := by
  refine Rose.ind (P := fun t => L.lies w t → L.lies w' t) (fun a l ih h => ?_) t
  rw [lies_node] at h ⊢
  exact ⟨L.below h.1 hb, h.2.1, h.2.2.1.below hb, fun t ht => ih t ht (h.2.2.2 t ht)⟩
theorem lies_drewN (L : Laid α) {w : World} (n : Nat) {t : Rose α} (h : L.lies w t) : L.lies (w.drewN n) t :=
  L.lies_below (w := w) (w' := w.drewN n) ⟨rfl, rfl, rfl, Nat.le_refl _, fun _ _ => rfl⟩ t h
end Laid
end Go.Proofs.YtdlbjngpohkglaaGreatDoor
end
