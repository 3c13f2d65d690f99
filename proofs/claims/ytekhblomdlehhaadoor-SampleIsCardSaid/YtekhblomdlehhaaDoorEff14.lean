/- slices.IndexFunc, ContainsFunc at atoms, whatever the predicate. -/
import Derived.Test.YtekhblomdlehhaaDoorEff6
set_option linter.unusedVariables false
set_option maxRecDepth 100000
set_option linter.unusedSimpArgs false
namespace Go.Proofs.YtekhblomdlehhaaDoor
open Go.RowKit

/-- an atom by value -/
abbrev aggA (x : Atom) : Value := .agg #[.int .u8 x.kind, .int .i64 x.rho, .string x.exn]
/-- a call of function value f enters f -/
def Enters (fid : FuncId) : Prop := ∀ args w, (callFunc fid args).run Tryd.prog w = .ok (.enter fid args) w
/-- The predicate answers q, in every world behind w. -/
def PredA (fid : FuncId) (caps : Array Value) (w : World) (l : List Atom) (q : Atom → Bool) : Prop :=
  ∀ x ∈ l, ∀ W, Below w.heap.size w W → Calls Tryd.prog fid (#[aggA x] ++ caps) W fun e w' => e = .returned (.bool (q x)) ∧ Below W.heap.size W w'
theorem PredA.is {fid : FuncId} {caps : Array Value} {w : World} {l : List Atom} {q : Atom → Bool} (h : PredA fid caps w l q) {x : Atom} (hx : x ∈ l) {r : Bool} (hq : q x = r) {W : World} (hb : Below w.heap.size w W) :
    Calls Tryd.prog fid (#[aggA x] ++ caps) W fun e w' => e = .returned (.bool r) ∧ Below W.heap.size W w' := by subst hq; exact h x hx W hb

/-- r is the place of the first that meets q, or -1 -/
def IdxOf {α : Type} (q : α → Bool) (l : List α) (r : Int) : Prop := (r = -1 ∧ l.any q = false) ∨ ∃ (k : Nat) (x : α), r = (k : Int) ∧ l[k]? = some x ∧ q x = true ∧ (l.take k).any q = false
theorem IdxOf.any {α : Type} {q : α → Bool} {l : List α} {r : Int} (h : IdxOf q l r) : l.any q = decide (0 ≤ r) := by
  rcases h with ⟨rfl, h⟩ | ⟨k, x, rfl, hx, hq, _⟩
  · rw [h]; rfl
  · rw [any_get hx hq]; simp
/-- The predicate answers q, in every world that is w below B. -/
def PredB (fid : FuncId) (caps : Array Value) (B : Nat) (w : World) (l : List Atom) (q : Atom → Bool) : Prop :=
  ∀ x ∈ l, ∀ W, Below B w W → Calls Tryd.prog fid (#[aggA x] ++ caps) W fun e w' => e = .returned (.bool (q x)) ∧ Below W.heap.size W w'
theorem PredB.a {fid : FuncId} {caps : Array Value} {B : Nat} {w w' : World} {l : List Atom} {q : Atom → Bool} (h : PredB fid caps B w l q) (hb : Below B w w') (hB : B ≤ w'.heap.size) : PredA fid caps w' l q :=
  fun x hx W hW => h x hx W (hb.trans (hW.mono hB))
theorem PredB.is {fid : FuncId} {caps : Array Value} {B : Nat} {w : World} {l : List Atom} {q : Atom → Bool} (h : PredB fid caps B w l q) {x : Atom} (hx : x ∈ l) {r : Bool} (hq : q x = r) {W : World} (hb : Below B w W) :
    Calls Tryd.prog fid (#[aggA x] ++ caps) W fun e w' => e = .returned (.bool r) ∧ Below W.heap.size W w' := by subst hq; exact h x hx W hb

set_option maxHeartbeats 400000 in
theorem a_indexFunc_any (fid : FuncId) (caps : Array Value) (q : Atom → Bool) (hent : Enters fid) (p : Option Addr) (n cap : Nat) (l : List Atom) (w : World) (hn : l.length = n) (hm : n ≤ 9223372036854775807) (hr : RowA w p l)
    (hf : PredA fid caps w l q) :
    Calls Tryd.prog 80 #[.slice p n cap, .func (.func fid) #[] caps] w fun e w' =>
      (∃ r : Int, e = .returned (.int .i64 r) ∧ IdxOf q l r) ∧ Below w.heap.size w w' := by
  unfold Enters at hent
  have HR := Lib.hid hr
  have HN := Lib.hid hn
  have HF := Lib.hid hf
  clear hr hn hf
  go_enter Tryd.func80, Tryd.ntmps80
  go_wp2_with fail
  go_loopw [5, 8] (fun _ i wr => ∃ k : Nat, k ≤ n ∧ i = .int .i64 k ∧ (l.take k).any q = false ∧ Below w.heap.size w wr) (fun _ i _ => n - (intOf i).toNat)
  case atStart => exact ⟨0, by omega, rfl, by simp, Below.refl _ _⟩
  case round =>
    obtain ⟨k, hk, rfl, hno, hb⟩ := hrel
    have HNO := Lib.hid hno
    have HB := Lib.hid hb
    clear hno hb
    by_cases hlt : k < n
    · obtain ⟨x, hx⟩ := get_of_lt (l := l) (j := k) (by rw [HN.out]; exact hlt)
      have HE := Lib.hid hx
      obtain ⟨b, o, rfl, hbl, d0, d1, d2⟩ := RowA.atom (HR.out.below HB.out) hx
      clear hx hbl
      cases hq : q x
      · have HQ := Lib.hid hq
        clear hq
        go_wp2_with fail
        refine (HF.out.is (List.mem_of_getElem? HE.out) HQ.out HB.out).mono ?_
        rintro e w1 ⟨rfl, hb⟩
        have HB1 := Lib.hid (HB.out.trans (hb.mono HB.out.size))
        clear hb
        clear d0 d1 d2
        go_wp2_with fail
        go_roundw
        case rel => exact ⟨k + 1, by omega, by go_num, by rw [any_take_get HE.out, HNO.out, HQ.out]; rfl, HB1.out⟩
        case measure => simp [intOf]; omega
      · have HQ := Lib.hid hq
        clear hq
        go_wp2_with fail
        refine (HF.out.is (List.mem_of_getElem? HE.out) HQ.out HB.out).mono ?_
        rintro e w1 ⟨rfl, hb⟩
        have HB1 := Lib.hid (HB.out.trans (hb.mono HB.out.size))
        clear hb
        clear d0 d1 d2
        go_wp2_with fail
        go_ret
        exact ⟨⟨k, rfl, .inr ⟨k, x, rfl, HE.out, HQ.out, HNO.out⟩⟩, HB1.out⟩
    · go_wp2_with fail
      go_ret
      have h := HNO.out
      rw [take_full (by rw [HN.out]; omega)] at h
      exact ⟨⟨-1, rfl, .inl ⟨rfl, h⟩⟩, HB.out⟩

theorem a_containsFunc_any (fid : FuncId) (caps : Array Value) (q : Atom → Bool) (hent : Enters fid) (p : Option Addr) (n cap : Nat) (l : List Atom) (w : World) (hn : l.length = n) (hm : n ≤ 9223372036854775807) (hr : RowA w p l)
    (hf : PredA fid caps w l q) :
    Calls Tryd.prog 45 #[.slice p n cap, .func (.func fid) #[] caps] w fun e w' =>
      e = .returned (.bool (l.any q)) ∧ Below w.heap.size w w' := by
  have hc : Calls Tryd.prog 80 #[.slice p n cap, .func (.func fid) #[] caps] w fun e w' =>
      (∃ r : Int, e = .returned (.int .i64 r) ∧ l.any q = decide (0 ≤ r)) ∧ Below w.heap.size w w' :=
    (a_indexFunc_any fid caps q hent p n cap l w hn hm hr hf).mono fun _ _ ⟨⟨r, he, hr⟩, hb⟩ => ⟨⟨r, he, hr.any⟩, hb⟩
  generalize l.any q = r at hc ⊢
  clear hr hn hf hent
  go_enter Tryd.func45, Tryd.ntmps45
  go_wp2_with fail
  refine hc.mono ?_
  rintro e w1 ⟨⟨r, rfl, hr⟩, hb⟩
  have HR := Lib.hid hr
  have HB := Lib.hid hb
  clear hr hb hc
  go_wp2_with fail
  go_ret
  exact ⟨ret_bool HR.out.symm, HB.out⟩
end Go.Proofs.YtekhblomdlehhaaDoor
