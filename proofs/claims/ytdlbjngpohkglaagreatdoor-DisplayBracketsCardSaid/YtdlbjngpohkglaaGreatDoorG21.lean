/- Part 21 of the texts: Tm, Hd, Nd. -/
import Derived.Test.YtdlbjngpohkglaaGreatDoorG20
import Derived.Test.YtdlbjngpohkglaaGreatDoorG11
import Derived.Test.YtdlbjngpohkglaaGreatDoorG08
import Derived.Deep.CutRange
import Derived.Deep.RegionHeld3
import Derived.Test.YtdlbjngpohkglaaGreatDoorG18
import Derived.Test.YtdlbjngpohkglaaGreatDoorG10
section
set_option linter.unusedVariables false
set_option maxRecDepth 100000
set_option linter.unusedSimpArgs false
namespace Go.Proofs.YtdlbjngpohkglaaGreatDoor
open Go.RowKit

/-- how many kids a kind has; -1: there is no such kind -/
def kidsI (k : Int) : Int :=
  if k = 1 ∨ k = 2 then 0 else if k = 4 ∨ k = 5 ∨ k = 6 ∨ k = 7 ∨ k = 11 ∨ k = 15 then 1
  else if k = 3 ∨ k = 8 ∨ k = 9 ∨ k = 10 ∨ k = 12 ∨ k = 13 ∨ k = 16 then 2 else if k = 14 then 3 else -1
set_option maxHeartbeats 2000000 in
theorem ref04_Kids_any (k : Int) (w : World) : Calls Tryz.prog 66 #[.int .u8 k] w fun e w' => e = .returned (.int .i64 (kidsI k)) ∧ w' = w := by
  by_cases h1 : k = 1
  · subst h1
    go_enter Tryz.func66, Tryz.ntmps66
    go_wp2_with fail
    go_ret
    exact ⟨rfl, rfl⟩
  have b1 : (k == 1) = false := by simpa using h1
  by_cases h2 : k = 2
  · subst h2
    go_enter Tryz.func66, Tryz.ntmps66
    go_wp2_with fail
    go_ret
    exact ⟨rfl, rfl⟩
  have b2 : (k == 2) = false := by simpa using h2
  by_cases h3 : k = 3
  · subst h3
    go_enter Tryz.func66, Tryz.ntmps66
    go_wp2_with fail
    go_ret
    exact ⟨rfl, rfl⟩
  have b3 : (k == 3) = false := by simpa using h3
  by_cases h4 : k = 4
  · subst h4
    go_enter Tryz.func66, Tryz.ntmps66
    go_wp2_with fail
    go_ret
    exact ⟨rfl, rfl⟩
  have b4 : (k == 4) = false := by simpa using h4
  by_cases h5 : k = 5
  · subst h5
    go_enter Tryz.func66, Tryz.ntmps66
    go_wp2_with fail
    go_ret
    exact ⟨rfl, rfl⟩
  have b5 : (k == 5) = false := by simpa using h5
  by_cases h6 : k = 6
  · subst h6
    go_enter Tryz.func66, Tryz.ntmps66
    go_wp2_with fail
    go_ret
    exact ⟨rfl, rfl⟩
  have b6 : (k == 6) = false := by simpa using h6
  by_cases h7 : k = 7
  · subst h7
    go_enter Tryz.func66, Tryz.ntmps66
    go_wp2_with fail
    go_ret
    exact ⟨rfl, rfl⟩
  have b7 : (k == 7) = false := by simpa using h7
  by_cases h8 : k = 8
  · subst h8
    go_enter Tryz.func66, Tryz.ntmps66
    go_wp2_with fail
    go_ret
    exact ⟨rfl, rfl⟩
  have b8 : (k == 8) = false := by simpa using h8
  by_cases h9 : k = 9
  · subst h9
    go_enter Tryz.func66, Tryz.ntmps66
    go_wp2_with fail
    go_ret
    exact ⟨rfl, rfl⟩
  have b9 : (k == 9) = false := by simpa using h9
  by_cases h10 : k = 10
  · subst h10
    go_enter Tryz.func66, Tryz.ntmps66
    go_wp2_with fail
    go_ret
    exact ⟨rfl, rfl⟩
  have b10 : (k == 10) = false := by simpa using h10
  by_cases h11 : k = 11
  · subst h11
    go_enter Tryz.func66, Tryz.ntmps66
    go_wp2_with fail
    go_ret
    exact ⟨rfl, rfl⟩
  have b11 : (k == 11) = false := by simpa using h11
  by_cases h12 : k = 12
  · subst h12
    go_enter Tryz.func66, Tryz.ntmps66
    go_wp2_with fail
    go_ret
    exact ⟨rfl, rfl⟩
  have b12 : (k == 12) = false := by simpa using h12
  by_cases h13 : k = 13
  · subst h13
    go_enter Tryz.func66, Tryz.ntmps66
    go_wp2_with fail
    go_ret
    exact ⟨rfl, rfl⟩
  have b13 : (k == 13) = false := by simpa using h13
  by_cases h14 : k = 14
  · subst h14
    go_enter Tryz.func66, Tryz.ntmps66
    go_wp2_with fail
    go_ret
    exact ⟨rfl, rfl⟩
  have b14 : (k == 14) = false := by simpa using h14
  by_cases h15 : k = 15
  · subst h15
    go_enter Tryz.func66, Tryz.ntmps66
    go_wp2_with fail
    go_ret
    exact ⟨rfl, rfl⟩
  have b15 : (k == 15) = false := by simpa using h15
  by_cases h16 : k = 16
  · subst h16
    go_enter Tryz.func66, Tryz.ntmps66
    go_wp2_with fail
    go_ret
    exact ⟨rfl, rfl⟩
  have b16 : (k == 16) = false := by simpa using h16
  have hz : Hid (kidsI k = -1) := by
    show _ = _
    unfold kidsI
    rw [if_neg (by omega), if_neg (by omega), if_neg (by omega), if_neg (by omega)]
  clear h1 h2 h3 h4 h5 h6 h7 h8 h9 h10 h11 h12 h13 h14 h15 h16
  go_enter Tryz.func66, Tryz.ntmps66
  go_wp2_with fail
  go_ret
  exact ⟨ret_int hz.out.symm, rfl⟩
/-- a text is there just where it should be -/
def fitsB (there : Bool) (s : ByteArray) (ok : Bool) : Bool := there && ok || !there && decide (s.size = 0)
set_option maxHeartbeats 1000000 in
theorem ref04_fits_any (there : Bool) (s : ByteArray) (ok : Bool) (w : World) : Calls Tryz.prog 67 #[.bool there, .string s, .bool ok] w fun e w' => e = .returned (.bool (fitsB there s ok)) ∧ w' = w := by
  by_cases hs : s.size = 0
  · have he : s = ⟨#[]⟩ := by apply ByteArray.ext; exact Array.eq_empty_of_size_eq_zero hs
    subst he
    cases there <;> cases ok
    all_goals
      go_enter Tryz.func67, Tryz.ntmps67
      go_wp2_with fail
      go_ret
      exact ⟨rfl, rfl⟩
  · have hb : s.toList.isEmpty = false := by
      rw [Lib.toList_data]
      cases h : s.data.toList with
      | nil => exact absurd (by show s.data.size = 0; rw [← Array.length_toList, h]; rfl) hs
      | cons x l => rfl
    have HS : Hid (decide (s.size = 0) = false) := by show _ = _; simp [hs]
    clear hs
    cases there <;> cases ok
    all_goals
      go_enter Tryz.func67, Tryz.ntmps67
      go_wp2_with fail
      go_ret
      refine ⟨ret_bool ?_, rfl⟩
      unfold fitsB
      rw [HS.out]
      rfl

/-- a term without regions, by value -/
abbrev aggTm (h : HeadV) (p : Option Addr) (n c : Nat) : Value := .agg #[.int .u8 h.kind, .int .u8 h.op, .int .i64 h.at_, .int .i64 h.n, .string h.name, .string h.arg, .string h.exn, .slice p n c]
theorem ref04_Kids_b (k m : Int) (hm : kidsI k = m) (w : World) : Calls Tryz.prog 66 #[.int .u8 k] w fun e w' => e = .returned (.int .i64 m) ∧ Below w.heap.size w w' := by
  subst hm; exact (ref04_Kids_any k w).mono (fun _ _ ⟨h1, h2⟩ => ⟨h1, h2 ▸ Below.refl _ _⟩)
theorem ref04_fits_b (there : Bool) (s : ByteArray) (ok : Bool) (w : World) : Calls Tryz.prog 67 #[.bool there, .string s, .bool ok] w fun e w' => e = .returned (.bool (fitsB there s ok)) ∧ Below w.heap.size w w' :=
  (ref04_fits_any there s ok w).mono (fun _ _ ⟨h1, h2⟩ => ⟨h1, h2 ▸ Below.refl _ _⟩)
/-- the cells of a term in block b -/
def CellsTm (W : World) (b : Nat) (h : HeadV) (p : Option Addr) (n c : Nat) : Prop :=
  W.cell? ⟨b, 0, none⟩ = some (.int .u8 h.kind) ∧ W.cell? ⟨b, 1, none⟩ = some (.int .u8 h.op) ∧ W.cell? ⟨b, 2, none⟩ = some (.int .i64 h.at_) ∧ W.cell? ⟨b, 3, none⟩ = some (.int .i64 h.n) ∧
    W.cell? ⟨b, 4, none⟩ = some (.string h.name) ∧ W.cell? ⟨b, 5, none⟩ = some (.string h.arg) ∧ W.cell? ⟨b, 6, none⟩ = some (.string h.exn) ∧ W.cell? ⟨b, 7, none⟩ = some (.slice p n c)
theorem CellsTm.below {W W' : World} {b : Nat} {h : HeadV} {p : Option Addr} {n c : Nat} (hc : CellsTm W b h p n c) (hb : Below W.heap.size W W') : CellsTm W' b h p n c := by
  obtain ⟨h0, h1, h2, h3, h4, h5, h6, h7⟩ := hc
  have hlt : b < W.heap.size := cell_block h0
  exact ⟨by rw [hb.cell hlt]; exact h0, by rw [hb.cell hlt]; exact h1, by rw [hb.cell hlt]; exact h2, by rw [hb.cell hlt]; exact h3, by rw [hb.cell hlt]; exact h4, by rw [hb.cell hlt]; exact h5, by rw [hb.cell hlt]; exact h6, by rw [hb.cell hlt]; exact h7⟩
/-- is a name wanted? an argument's? an exception's? -/
def wName (k : Int) : Bool := k == 2 || k == 12 || k == 13
def wArg (k : Int) : Bool := k == 11 || k == 13 || k == 16
def wExn (k : Int) : Bool := k == 15 || k == 16
/-- may a head be, with so many kids? -/
def node4B (h : HeadV) (n : Nat) : Bool :=
  !(decide (kidsI h.kind < 0) || ((n : Int) != kidsI h.kind) || decide (h.at_ < 0)) && !((h.kind == 9) && (decide (h.op < 1) || decide (5 < h.op)) || (h.kind != 9) && (h.op != 0)) &&
  !(decide (h.n < 0) || decide (2147483647 < h.n) || (h.kind != 1) && (h.n != 0)) && (fitsB (wName h.kind) h.name (nameB h.name) && fitsB (wArg h.kind) h.arg (nameB h.arg) && fitsB (wExn h.kind) h.exn (exnB h.exn))
end Go.Proofs.YtdlbjngpohkglaaGreatDoor
end
section
set_option linter.unusedVariables false
set_option maxRecDepth 100000
set_option linter.unusedSimpArgs false
namespace Go.Proofs.YtdlbjngpohkglaaGreatDoor
open Go.RowKit

def AH.hd (a : AH) : HeadV := ⟨a.kind, a.op, a.at_, a.n, a.name, a.arg, a.exn⟩
/-- nothing but a kind, a place, a name -/
def bareB (h : HeadV) : Bool := (h.op == 0) && (h.n == 0) && h.arg.toList.isEmpty && h.exn.toList.isEmpty
/-- may a node's head be, and how many kids it has? -/
def headB (h : HeadV) (n : Nat) : Bool :=
  if h.kind = 17 then bareB h && h.name.toList.isEmpty && decide (0 ≤ h.at_) && ((n : Int) == 1)
  else if h.kind = 18 then bareB h && nameB h.name && decide (0 ≤ h.at_) && ((n : Int) == 0)
  else node4B h (min n 4)
abbrev boxHd (h : HeadV) : Obj := .cells #[.int .u8 h.kind, .int .u8 h.op, .int .i64 h.at_, .int .i64 h.n, .string h.name, .string h.arg, .string h.exn] 23
abbrev zTm : List Value := [.int .u8 0, .int .u8 0, .int .i64 0, .int .i64 0, .string ⟨#[]⟩, .string ⟨#[]⟩, .string ⟨#[]⟩, .slice none 0 0]
def encZ (_ : Unit) : List Value := zTm
theorem encZ_len : ∀ x, (encZ x).length = 8 := fun _ => rfl
theorem encZ_one : ∀ y, ∀ u ∈ encZ y, u.oneCell' = true := by
  intro y u hu
  simp [encZ] at hu
  rcases hu with rfl | rfl | rfl | rfl | rfl <;> rfl
/-- the two boxes -/
structure HdIn (w W : World) (a : AH) : Prop where
  h : W.cell? ⟨w.heap.size + 1, 0, none⟩ = some (.int .u8 a.kind) ∧ W.cell? ⟨w.heap.size + 1, 1, none⟩ = some (.int .u8 a.op) ∧ W.cell? ⟨w.heap.size + 1, 2, none⟩ = some (.int .i64 a.at_) ∧ W.cell? ⟨w.heap.size + 1, 3, none⟩ = some (.int .i64 a.n) ∧
    W.cell? ⟨w.heap.size + 1, 4, none⟩ = some (.string a.name) ∧ W.cell? ⟨w.heap.size + 1, 5, none⟩ = some (.string a.arg) ∧ W.cell? ⟨w.heap.size + 1, 6, none⟩ = some (.string a.exn)
  t : W.cell? ⟨w.heap.size, 0, none⟩ = some (.int .u8 a.kind) ∧ W.cell? ⟨w.heap.size, 18, none⟩ = some (.slice a.kp a.kn a.kc)
  below : Below w.heap.size w W
  size : W.heap.size = w.heap.size + 2
theorem hdIn (w : World) (a : AH) : HdIn w ((w.alloc (.cells #[.int .u8 a.kind, .int .u8 a.op, .int .i64 a.at_, .int .i64 a.n, .string a.name, .string a.arg, .string a.exn, .int .i64 a.rho, .slice a.rp a.rn a.rc, .slice a.ep a.en a.ec, .int .u8 a.ty.head.kind, .int .i64 a.ty.head.rho, .slice a.ty.head.ep a.ty.head.en a.ty.head.ec, .slice a.ty.head.kp a.ty.head.kn a.ty.head.kc, .int .u8 a.res.head.kind, .int .i64 a.res.head.rho, .slice a.res.head.ep a.res.head.en a.res.head.ec, .slice a.res.head.kp a.res.head.kn a.res.head.kc, .slice a.kp a.kn a.kc] 31)).alloc (.cells #[.int .u8 a.kind, .int .u8 a.op, .int .i64 a.at_, .int .i64 a.n, .string a.name, .string a.arg, .string a.exn] 23)) a := by
  refine ⟨⟨?_, ?_, ?_, ?_, ?_, ?_, ?_⟩, ⟨?_, ?_⟩, ((Below.refl w.heap.size w).alloc (Nat.le_refl _) _).alloc (by simp) _, by simp⟩ <;> go_simp
theorem HdIn.drop {w W W' : World} {a : AH} (h : HdIn w W a) (hb : Below W.heap.size W W') : (W'.cell? ⟨w.heap.size + 1, 2, none⟩ = some (.int .i64 a.at_)) ∧ (W'.cell? ⟨w.heap.size, 18, none⟩ = some (.slice a.kp a.kn a.kc)) ∧ Below w.heap.size w W' :=
  ⟨by rw [hb.cell (by rw [h.size]; simp)]; exact h.h.2.2.1, by rw [hb.cell (by rw [h.size]; simp)]; exact h.t.2, h.below.trans (hb.mono (by rw [h.size]; omega))⟩
end Go.Proofs.YtdlbjngpohkglaaGreatDoor
end
section
set_option linter.unusedVariables false
set_option maxRecDepth 100000
set_option linter.unusedSimpArgs false
namespace Go.Proofs.YtdlbjngpohkglaaGreatDoor
open Go.RowKit

def encU (x : Int) : List Value := [.int .u8 x]
theorem encU_len (x : Int) : (encU x).length = 1 := rfl
theorem RowE.u8 {w : World} {p : Option Addr} {l : List Int} (h : RowE encU 1 w p l) {j : Nat} {x : Int} (hx : l[j]? = some x) : ∃ b o, p = some ⟨b, o, none⟩ ∧ w.cell? ⟨b, o + j, none⟩ = some (.int .u8 x) := by
  obtain ⟨b, o, hp, _, hc⟩ := h.elem hx
  exact ⟨b, o, hp, by simpa using hc 0 _ rfl⟩
def inB (l : List Int) (k : Int) : Bool := l.any (· == k)
set_option maxHeartbeats 1000000 in
theorem ref13_in_any {p : Option Addr} {n cap : Nat} {l : List Int} {w : World} (hn : l.length = n) (hm : n ≤ 1000000) (hr : RowE encU 1 w p l) (k : Int) :
    Calls Tryz.prog 36 #[.slice p n cap, .int .u8 k] w fun e w' => e = .returned (.bool (inB l k)) ∧ w = w' := by
  have HR := Lib.hid hr
  have HN := Lib.hid hn
  clear hr hn
  go_enter Tryz.func36, Tryz.ntmps36
  go_wp2_with fail
  go_loop [5, 8] (fun _ i => ∃ j : Nat, j ≤ n ∧ i = .int .i64 j ∧ (l.take j).any (· == k) = false) (fun _ i => n - (intOf i).toNat)
  case atStart => exact ⟨0, by omega, rfl, by simp⟩
  case round =>
    obtain ⟨j, hj, rfl, hno⟩ := hrel
    have HNO := Lib.hid hno
    clear hno
    by_cases hlt : j < n
    · obtain ⟨y, hy⟩ := get_of_lt (l := l) (j := j) (by rw [HN.out]; exact hlt)
      have HE := Lib.hid hy
      obtain ⟨b, o, rfl, d0⟩ := HR.out.u8 hy
      clear hy
      cases hq : (y == k)
      · have HQ := Lib.hid hq
        go_wp2_with fail
        go_round
        case rel => exact ⟨j + 1, by omega, by go_num, by rw [any_take_get HE.out, HNO.out, HQ.out]; rfl⟩
        case measure => simp [intOf]; omega
      · have HQ := Lib.hid hq
        go_wp2_with fail
        go_ret
        exact ⟨ret_bool (any_get HE.out HQ.out).symm, rfl⟩
    · go_wp2_with fail
      go_ret
      have h := HNO.out
      rw [take_full (by rw [HN.out]; omega)] at h
      exact ⟨ret_bool h.symm, rfl⟩
/-- is a type none? -/
def plainB (a : RH) : Bool := (a.kind == 0) && (a.rho == 0) && ((a.en : Int) == 0) && ((a.kn : Int) == 0)
set_option maxHeartbeats 1000000 in
theorem ref13_plain_any (a : RH) (h1 : a.en ≤ 9223372036854775807) (h2 : a.kn ≤ 9223372036854775807) (w : World) : Calls Tryz.prog 40 #[aggR a] w fun e w' => e = .returned (.bool (plainB a)) ∧ Below w.heap.size w w' := by
  have HBX := Lib.hid ((Below.refl w.heap.size w).alloc (Nat.le_refl _) (.cells #[.int .u8 a.kind, .int .i64 a.rho, .slice a.ep a.en a.ec, .slice a.kp a.kn a.kc] 28))
  have HV : Hid (plainB a = ((a.kind == 0) && (a.rho == 0) && ((a.en : Int) == 0) && ((a.kn : Int) == 0))) := rfl
  cases e1 : (a.kind == 0)
  · go_enter Tryz.func40, Tryz.ntmps40
    go_wp2_with fail
    go_ret
    exact ⟨ret_bool (by rw [HV.out, e1]; rfl), HBX.out⟩
  · cases e2 : (a.rho == 0)
    · go_enter Tryz.func40, Tryz.ntmps40
      go_wp2_with fail
      go_ret
      exact ⟨ret_bool (by rw [HV.out, e1, e2]; rfl), HBX.out⟩
    · cases e3 : ((a.en : Int) == 0)
      · go_enter Tryz.func40, Tryz.ntmps40
        go_wp2_with fail
        go_ret
        exact ⟨ret_bool (by rw [HV.out, e1, e2, e3]; rfl), HBX.out⟩
      · go_enter Tryz.func40, Tryz.ntmps40
        go_wp2_with fail
        go_ret
        exact ⟨ret_bool (by rw [HV.out, e1, e2, e3]; rfl), HBX.out⟩
/-- the block of a term's box -/
structure BoxA (W : World) (b : Nat) (a : AH) : Prop where
  blk : W.heap[b]? = some (.cells #[.int .u8 a.kind, .int .u8 a.op, .int .i64 a.at_, .int .i64 a.n, .string a.name, .string a.arg, .string a.exn, .int .i64 a.rho, .slice a.rp a.rn a.rc, .slice a.ep a.en a.ec, .int .u8 a.ty.head.kind, .int .i64 a.ty.head.rho, .slice a.ty.head.ep a.ty.head.en a.ty.head.ec, .slice a.ty.head.kp a.ty.head.kn a.ty.head.kc, .int .u8 a.res.head.kind, .int .i64 a.res.head.rho, .slice a.res.head.ep a.res.head.en a.res.head.ec, .slice a.res.head.kp a.res.head.kn a.res.head.kc, .slice a.kp a.kn a.kc] 31 (0, 0))
theorem BoxA.c {W : World} {b : Nat} {a : AH} (h : BoxA W b a) (i : Nat) (u : Value) (hu : (encAH a)[i]? = some u) : W.cell? ⟨b, i, none⟩ = some u := by
  rw [Lib.cell_of_heap h.blk]
  have : (encAH a).toArray[i]? = some u := by simpa using hu
  exact this
theorem BoxA.below {w w' : World} {b : Nat} {a : AH} (h : BoxA w b a) (hb : Below w.heap.size w w') : BoxA w' b a := ⟨by rw [hb.block b (Array.getElem?_eq_some_iff.1 h.blk).1]; exact h.blk⟩
theorem boxA_new (w : World) (a : AH) : BoxA (w.alloc (boxA a)) w.heap.size a := ⟨heap_alloc_new w _⟩
theorem BoxA.all {W : World} {b : Nat} {a : AH} (h : BoxA W b a) : W.cell? ⟨b, 0, none⟩ = some (Value.int .u8 a.kind) ∧ W.cell? ⟨b, 1, none⟩ = some (Value.int .u8 a.op) ∧ W.cell? ⟨b, 2, none⟩ = some (Value.int .i64 a.at_) ∧ W.cell? ⟨b, 3, none⟩ = some (Value.int .i64 a.n) ∧ W.cell? ⟨b, 4, none⟩ = some (Value.string a.name) ∧ W.cell? ⟨b, 5, none⟩ = some (Value.string a.arg) ∧ W.cell? ⟨b, 6, none⟩ = some (Value.string a.exn) ∧ W.cell? ⟨b, 7, none⟩ = some (Value.int .i64 a.rho) ∧ W.cell? ⟨b, 8, none⟩ = some (Value.slice a.rp a.rn a.rc) ∧ W.cell? ⟨b, 9, none⟩ = some (Value.slice a.ep a.en a.ec) ∧ W.cell? ⟨b, 10, none⟩ = some (Value.int .u8 a.ty.head.kind) ∧ W.cell? ⟨b, 11, none⟩ = some (Value.int .i64 a.ty.head.rho) ∧ W.cell? ⟨b, 12, none⟩ = some (Value.slice a.ty.head.ep a.ty.head.en a.ty.head.ec) ∧ W.cell? ⟨b, 13, none⟩ = some (Value.slice a.ty.head.kp a.ty.head.kn a.ty.head.kc) ∧ W.cell? ⟨b, 14, none⟩ = some (Value.int .u8 a.res.head.kind) ∧ W.cell? ⟨b, 15, none⟩ = some (Value.int .i64 a.res.head.rho) ∧ W.cell? ⟨b, 16, none⟩ = some (Value.slice a.res.head.ep a.res.head.en a.res.head.ec) ∧ W.cell? ⟨b, 17, none⟩ = some (Value.slice a.res.head.kp a.res.head.kn a.res.head.kc) ∧ W.cell? ⟨b, 18, none⟩ = some (Value.slice a.kp a.kn a.kc) :=
  ⟨h.c 0 _ rfl, h.c 1 _ rfl, h.c 2 _ rfl, h.c 3 _ rfl, h.c 4 _ rfl, h.c 5 _ rfl, h.c 6 _ rfl, h.c 7 _ rfl, h.c 8 _ rfl, h.c 9 _ rfl, h.c 10 _ rfl, h.c 11 _ rfl, h.c 12 _ rfl, h.c 13 _ rfl, h.c 14 _ rfl, h.c 15 _ rfl, h.c 16 _ rfl, h.c 17 _ rfl, h.c 18 _ rfl⟩
/-- is the i-th region of a node well? -/
def rhoB (k : Int) (l : List Int) (i : Nat) (x : Int) : Bool := !(decide (x < 0) || (k == 13) && ((x == 0) || inN (l.take i) x))
def rhosB (k : Int) (l : List Int) (n : Nat) : Bool := (List.range n).all (fun i => match l[i]? with | some x => rhoB k l i x | none => true)
theorem nodeIn' {w : World} {t : PT} (h : LR.lies w t) : NodeIn w t.head t.kids := by
  rw [Rose.eta t] at h; exact nodeIn h
theorem rhosB_step (k : Int) (l : List Int) (j : Nat) (x : Int) (hx : l[j]? = some x) : rhosB k l (j + 1) = (rhosB k l j && rhoB k l j x) := by
  unfold rhosB
  rw [List.range_succ, List.all_append]
  simp [hx]
theorem rhosB_mono (k : Int) (l : List Int) (i n : Nat) (h : i ≤ n) (hf : rhosB k l i = false) : rhosB k l n = false := by
  unfold rhosB at hf ⊢
  rw [List.all_eq_false] at hf ⊢
  obtain ⟨x, hx, hq⟩ := hf
  exact ⟨x, by rw [List.mem_range] at hx ⊢; omega, hq⟩
theorem rhosB_no (k : Int) (l : List Int) {j n : Nat} (h : j < n) (hf : rhosB k l (j + 1) = false) : rhosB k l n = false := rhosB_mono k l (j + 1) n h hf
theorem ref_Ints_b {p : Option Addr} {n cap : Nat} {l : List Int} {x : Int} {w : World} {r : Bool} (hq : inN l x = r) (h : IsRow encN 1 w p n cap l) :
    Calls Tryz.prog 37 #[.slice p n cap, .int .i64 x] w fun e w' => e = .returned (.bool r) ∧ Below w.heap.size w w' :=
  (ref_Ints_of hq h).mono (fun _ _ ⟨h1, h2⟩ => ⟨h1, h2 ▸ Below.refl _ _⟩)
/-- may a node alone be? -/
def node13 (a : AH) : Bool := !(!(headB a.hd a.kn) || decide (a.rho < 0) || ((a.kind == 17) && (a.rho == 0)) || (!(inB [3, 6, 11, 13, 17, 18] a.kind) && (a.rho != 0))) && !((a.kind != 13) && (a.kind != 18) && decide (0 < a.rn)) && rhosB a.kind a.rhos a.rn && !(!(inB [11, 13, 18] a.kind) && decide (0 < a.en) || !(mayB a.eff)) && !(inB [11, 13, 15] a.kind && !(mayT a.ty.er) || !(inB [11, 13, 15] a.kind) && !(plainB a.ty.head)) && ((a.kind == 13) && mayT a.res.er || (a.kind != 13) && plainB a.res.head)
def rowU (W : World) (b : Nat) (l : List Int) : Prop := RowE encU 1 W (some ⟨b, 0, none⟩) l
end Go.Proofs.YtdlbjngpohkglaaGreatDoor
end
