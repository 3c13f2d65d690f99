/- Part 4 of the texts: Eff1, Eff2, Eff3. -/
import Derived.Test.YtdlbjngpohkglaaGreatDoorG03
import Derived.StillTailTactics
import Derived.Sort.Grow
import Derived.Deep.QuietTactic
import Derived.BigQuiet
import Derived.Laws.StructEq
section
set_option linter.unusedVariables false
set_option maxRecDepth 100000
set_option linter.unusedSimpArgs false
namespace Go.Proofs.YtdlbjngpohkglaaGreatDoor
open Go.RowKit

/-- an atom's three cells -/
def encA (a : Atom) : List Value := [.int .u8 a.kind, .int .i64 a.rho, .string a.exn]
theorem encA_len (a : Atom) : (encA a).length = 3 := rfl
/-- Is it an atom? -/
def atomB (a : Atom) : Bool :=
  if a.kind = 1 ∨ a.kind = 2 then decide (0 ≤ a.rho) && a.exn.toList.isEmpty else if a.kind = 3 then decide (a.rho = 0) && exnB a.exn else false

set_option maxHeartbeats 400000 in
theorem atom_any (a : Atom) (w : World) :
    Calls Tryz.prog 91 #[.agg #[.int .u8 a.kind, .int .i64 a.rho, .string a.exn]] w fun e w' => e = .returned (.bool (atomB a)) ∧ Below w.heap.size w w' := by
  obtain ⟨k, r, s⟩ := a
  by_cases h12 : k = 1 ∨ k = 2
  · have hr : Hid (atomB ⟨k, r, s⟩ = (decide (0 ≤ r) && s.toList.isEmpty)) := by show atomB ⟨k, r, s⟩ = _; simp [atomB, h12]
    by_cases h0 : 0 ≤ r
    · cases he : s.toList.isEmpty
      · have he' : (s.toList == []) = false := by rw [beq_eq_false_iff_ne]; intro e; rw [e] at he; cases he
        rcases h12 with rfl | rfl
        all_goals
          go_enter Tryz.func91, Tryz.ntmps91
          go_wp2_with fail
          go_ret
          exact ⟨ret_bool (by rw [hr.out]; simp [h0, he]), (Below.refl _ _).alloc (Nat.le_refl _) _⟩
      · have he' : s.toList = [] := by simpa using he
        rcases h12 with rfl | rfl
        all_goals
          go_enter Tryz.func91, Tryz.ntmps91
          go_wp2_with fail
          go_ret
          exact ⟨ret_bool (by rw [hr.out]; simp [h0, he]), (Below.refl _ _).alloc (Nat.le_refl _) _⟩
    · rcases h12 with rfl | rfl
      all_goals
        go_enter Tryz.func91, Tryz.ntmps91
        go_wp2_with fail
        go_ret
        exact ⟨ret_bool (by rw [hr.out]; simp; omega), (Below.refl _ _).alloc (Nat.le_refl _) _⟩
  · have k1 : (k == 1) = false := by rw [beq_eq_false_iff_ne]; omega
    have k2 : (k == 2) = false := by rw [beq_eq_false_iff_ne]; omega
    by_cases h3 : k = 3
    · subst h3
      by_cases h0 : r = 0
      · subst h0
        have hr : Hid (atomB ⟨3, 0, s⟩ = exnB s) := by show atomB ⟨3, 0, s⟩ = _; simp [atomB]
        have hc := fun W hrow => words_Exn_any (some ⟨w.heap.size + 1, 0, none⟩) 1 1 [s] W rfl (by omega) hrow
        have he : Hid ([s].all exnB = exnB s) := by show [s].all exnB = exnB s; simp
        have HC := Lib.hid hc
        clear hc
        go_enter Tryz.func91, Tryz.ntmps91
        go_wp2_with fail
        refine (HC.out _ (RowE.newAt encS_len _ [s] _ rfl _ (0, 0) _ (by simp))).mono ?_
        rintro e w1 ⟨rfl, hb⟩
        have HB : Hid (Below w.heap.size w w1) := (((Below.refl _ w).alloc (Nat.le_refl _) _).alloc (by simp) _).trans (hb.mono (by simp; omega))
        clear hb
        rw [he.out]
        go_wp2_with fail
        go_ret
        exact ⟨ret_bool hr.out.symm, HB.out⟩
      · have hr : Hid (atomB ⟨3, r, s⟩ = false) := by show atomB ⟨3, r, s⟩ = _; simp [atomB, h0]
        have r0 : (r == 0) = false := by rw [beq_eq_false_iff_ne]; exact h0
        go_enter Tryz.func91, Tryz.ntmps91
        go_wp2_with fail
        go_ret
        exact ⟨ret_bool hr.out.symm, (Below.refl _ _).alloc (Nat.le_refl _) _⟩
    · have hr : Hid (atomB ⟨k, r, s⟩ = false) := by show atomB ⟨k, r, s⟩ = _; simp [atomB, h12, h3]
      have k3 : (k == 3) = false := by rw [beq_eq_false_iff_ne]; exact h3
      go_enter Tryz.func91, Tryz.ntmps91
      go_wp2_with fail
      go_ret
      exact ⟨ret_bool hr.out.symm, (Below.refl _ _).alloc (Nat.le_refl _) _⟩

set_option maxHeartbeats 400000 in
theorem ref_Atom_any (a : Atom) (w : World) :
    Calls Tryz.prog 46 #[.agg #[.int .u8 a.kind, .int .i64 a.rho, .string a.exn]] w fun e w' => e = .returned (.bool (atomB a)) ∧ Below w.heap.size w w' := by
  obtain ⟨k, r, s⟩ := a
  by_cases h3 : k = 3
  · subst h3
    by_cases h0 : r = 0
    · subst h0
      have hr : Hid (atomB ⟨3, 0, s⟩ = exnB s) := by show atomB ⟨3, 0, s⟩ = _; simp [atomB]
      go_enter Tryz.func46, Tryz.ntmps46
      go_wp2_with fail
      refine (ref_Exn_any s _).mono ?_
      rintro e w1 ⟨rfl, hb⟩
      have HB : Hid (Below w.heap.size w w1) := ((Below.refl _ w).alloc (Nat.le_refl _) _).trans (hb.mono (by simp))
      clear hb
      go_wp2_with fail
      go_ret
      exact ⟨ret_bool hr.out.symm, HB.out⟩
    · have hr : Hid (atomB ⟨3, r, s⟩ = false) := by show atomB ⟨3, r, s⟩ = _; simp [atomB, h0]
      have r0 : (r == 0) = false := by rw [beq_eq_false_iff_ne]; exact h0
      go_enter Tryz.func46, Tryz.ntmps46
      go_wp2_with fail
      go_ret
      exact ⟨ret_bool hr.out.symm, (Below.refl _ _).alloc (Nat.le_refl _) _⟩
  · have k3 : (k == 3) = false := by rw [beq_eq_false_iff_ne]; exact h3
    by_cases h12 : k = 1 ∨ k = 2
    · have hr : Hid (atomB ⟨k, r, s⟩ = (decide (0 ≤ r) && s.toList.isEmpty)) := by show atomB ⟨k, r, s⟩ = _; simp [atomB, h12]
      by_cases h0 : 0 ≤ r
      · cases he : s.toList.isEmpty
        · have he' : (s.toList == []) = false := by rw [beq_eq_false_iff_ne]; intro e; rw [e] at he; cases he
          rcases h12 with rfl | rfl
          all_goals
            go_enter Tryz.func46, Tryz.ntmps46
            go_wp2_with fail
            go_ret
            exact ⟨ret_bool (by rw [hr.out]; simp [h0, he]), (Below.refl _ _).alloc (Nat.le_refl _) _⟩
        · have he' : s.toList = [] := by simpa using he
          rcases h12 with rfl | rfl
          all_goals
            go_enter Tryz.func46, Tryz.ntmps46
            go_wp2_with fail
            go_ret
            exact ⟨ret_bool (by rw [hr.out]; simp [h0, he]), (Below.refl _ _).alloc (Nat.le_refl _) _⟩
      · rcases h12 with rfl | rfl
        all_goals
          go_enter Tryz.func46, Tryz.ntmps46
          go_wp2_with fail
          go_ret
          exact ⟨ret_bool (by rw [hr.out]; simp; omega), (Below.refl _ _).alloc (Nat.le_refl _) _⟩
    · have k1 : (k == 1) = false := by rw [beq_eq_false_iff_ne]; omega
      have k2 : (k == 2) = false := by rw [beq_eq_false_iff_ne]; omega
      have hr : Hid (atomB ⟨k, r, s⟩ = false) := by show atomB ⟨k, r, s⟩ = _; simp [atomB, h12, h3]
      go_enter Tryz.func46, Tryz.ntmps46
      go_wp2_with fail
      go_ret
      exact ⟨ret_bool hr.out.symm, (Below.refl _ _).alloc (Nat.le_refl _) _⟩
end Go.Proofs.YtdlbjngpohkglaaGreatDoor
end
section
set_option linter.unusedVariables false
set_option maxRecDepth 100000
set_option linter.unusedSimpArgs false
namespace Go.Proofs.YtdlbjngpohkglaaGreatDoor
open Go.RowKit Go.Sort

def cmpZ (a b : Int) : Int := if a < b then -1 else if b < a then 1 else 0
def cmpS (s t : ByteArray) : Int := if Op.bytesLess s.toList t.toList then -1 else if Op.bytesLess t.toList s.toList then 1 else 0
def cmpA (a b : Atom) : Int := if cmpZ a.kind b.kind ≠ 0 then cmpZ a.kind b.kind else if cmpZ a.rho b.rho ≠ 0 then cmpZ a.rho b.rho else cmpS a.exn b.exn

theorem cmp8_any (a b : Int) (w : World) : Calls Tryz.prog 110 #[.int .u8 a, .int .u8 b] w fun e w' => e = .returned (.int .i64 (cmpZ a b)) ∧ w' = w := by
  rcases (by omega : a < b ∨ b < a ∨ a = b) with h | h | rfl
  · have hr : Hid (cmpZ a b = -1) := by show cmpZ a b = -1; simp [cmpZ, h]
    go_enter Tryz.func110, Tryz.ntmps110
    go_wp2
    go_ret
    exact ⟨ret_int hr.out.symm, rfl⟩
  · have h' : ¬ a < b := by omega
    have hr : Hid (cmpZ a b = 1) := by show cmpZ a b = 1; simp [cmpZ, h, h']
    clear h'
    have h'' : b ≤ a := by omega
    go_enter Tryz.func110, Tryz.ntmps110
    go_wp2
    go_ret
    exact ⟨ret_int hr.out.symm, rfl⟩
  · have hr : Hid (cmpZ a a = 0) := by show cmpZ a a = 0; simp [cmpZ]
    go_enter Tryz.func110, Tryz.ntmps110
    go_wp2
    go_ret
    exact ⟨ret_int hr.out.symm, rfl⟩

theorem cmp64_any (a b : Int) (w : World) : Calls Tryz.prog 111 #[.int .i64 a, .int .i64 b] w fun e w' => e = .returned (.int .i64 (cmpZ a b)) ∧ w' = w := by
  rcases (by omega : a < b ∨ b < a ∨ a = b) with h | h | rfl
  · have hr : Hid (cmpZ a b = -1) := by show cmpZ a b = -1; simp [cmpZ, h]
    go_enter Tryz.func111, Tryz.ntmps111
    go_wp2
    go_ret
    exact ⟨ret_int hr.out.symm, rfl⟩
  · have h' : ¬ a < b := by omega
    have hr : Hid (cmpZ a b = 1) := by show cmpZ a b = 1; simp [cmpZ, h, h']
    clear h'
    have h'' : b ≤ a := by omega
    go_enter Tryz.func111, Tryz.ntmps111
    go_wp2
    go_ret
    exact ⟨ret_int hr.out.symm, rfl⟩
  · have hr : Hid (cmpZ a a = 0) := by show cmpZ a a = 0; simp [cmpZ]
    go_enter Tryz.func111, Tryz.ntmps111
    go_wp2
    go_ret
    exact ⟨ret_int hr.out.symm, rfl⟩

theorem bl_asymm {x y : List UInt8} (h : Op.bytesLess x y = true) : Op.bytesLess y x = false := by
  cases hb : Op.bytesLess y x with
  | false => rfl
  | true => have := bl_trans _ _ _ h hb; rw [bl_irrefl] at this; cases this
theorem bl_ne {x y : List UInt8} (h : Op.bytesLess x y = true) : (x == y) = false := by
  rw [beq_eq_false_iff_ne]; intro e; subst e; rw [bl_irrefl] at h; cases h

theorem cmpStr_any (s t : ByteArray) (w : World) : Calls Tryz.prog 112 #[.string s, .string t] w fun e w' => e = .returned (.int .i64 (cmpS s t)) ∧ w' = w := by
  cases h : Op.bytesLess s.toList t.toList
  · cases h' : Op.bytesLess t.toList s.toList
    · have he : s = t := toList_inj (bl_tri _ _ h h')
      subst he
      have hr : Hid (cmpS s s = 0) := by show cmpS s s = 0; simp [cmpS, bl_irrefl]
      clear h'
      go_enter Tryz.func112, Tryz.ntmps112
      go_wp2
      go_ret
      exact ⟨ret_int hr.out.symm, rfl⟩
    · have hne := bl_ne h'
      have hne' : (s.toList == t.toList) = false := by rw [BEq.comm]; exact hne
      have hr : Hid (cmpS s t = 1) := by show cmpS s t = 1; simp [cmpS, h, h']
      go_enter Tryz.func112, Tryz.ntmps112
      go_wp2
      go_ret
      exact ⟨ret_int hr.out.symm, rfl⟩
  · have hr : Hid (cmpS s t = -1) := by show cmpS s t = -1; simp [cmpS, h]
    go_enter Tryz.func112, Tryz.ntmps112
    go_wp2
    go_ret
    exact ⟨ret_int hr.out.symm, rfl⟩

/-- cmp.Or of three numbers. -/
def or3 (a b c : Int) : Int := if a ≠ 0 then a else if b ≠ 0 then b else c
theorem or3_any (a b c : Int) (B : Nat) (w : World) (h0 : w.cell? ⟨B, 0, none⟩ = some (.int .i64 a)) (h1 : w.cell? ⟨B, 1, none⟩ = some (.int .i64 b)) (h2 : w.cell? ⟨B, 2, none⟩ = some (.int .i64 c)) :
    Calls Tryz.prog 109 #[.slice (some ⟨B, 0, none⟩) 3 3] w fun e w' => e = .returned (.int .i64 (or3 a b c)) ∧ w' = w := by
  by_cases ha : a = 0
  · subst ha
    by_cases hb : b = 0
    · subst hb
      have hr : Hid (or3 0 0 c = c) := by show or3 0 0 c = c; simp [or3]
      go_enter Tryz.func109, Tryz.ntmps109
      go_wp2_with fail
      go_loop [5, 8] (fun _ i => ∃ k : Nat, k ≤ 3 ∧ i = .int .i64 k ∧ (3 ≤ k → c = 0)) (fun _ i => 3 - (intOf i).toNat)
      case atStart => exact ⟨0, by omega, rfl, by omega⟩
      case round =>
        obtain ⟨k, hk, rfl, hc⟩ := hrel
        rcases (by omega : k = 0 ∨ k = 1 ∨ k = 2 ∨ k = 3) with rfl | rfl | rfl | rfl
        · clear hc
          go_wp2_with fail
          go_round
          case rel => exact ⟨1, by omega, rfl, by omega⟩
          case measure => simp [intOf]
        · clear hc
          go_wp2_with fail
          go_round
          case rel => exact ⟨2, by omega, rfl, by omega⟩
          case measure => simp [intOf]
        · clear hc
          by_cases hc : c = 0
          · subst hc
            go_wp2_with fail
            go_round
            case rel => exact ⟨3, by omega, rfl, by simp⟩
            case measure => simp [intOf]
          · have hcb : (c != 0) = true := by simpa using hc
            have HC := Lib.hid hc
            clear hc
            go_wp2_with fail
            go_ret
            exact ⟨ret_int hr.out.symm, rfl⟩
        · have hc0 : c = 0 := hc (by omega)
          subst hc0
          go_wp2_with fail
          go_ret
          exact ⟨ret_int hr.out.symm, rfl⟩
    · have hr : Hid (or3 0 b c = b) := by show or3 0 b c = b; simp [or3, hb]
      have hbb : (b != 0) = true := by simpa using hb
      have HB := Lib.hid hb
      clear hb
      go_enter Tryz.func109, Tryz.ntmps109
      go_wp2_with fail
      go_loop [5, 8] (fun _ i => ∃ k : Nat, k ≤ 1 ∧ i = .int .i64 k) (fun _ i => 3 - (intOf i).toNat)
      case atStart => exact ⟨0, by omega, rfl⟩
      case round =>
        obtain ⟨k, hk, rfl⟩ := hrel
        rcases (by omega : k = 0 ∨ k = 1) with rfl | rfl
        · go_wp2_with fail
          go_round
          case rel => exact ⟨1, by omega, rfl⟩
          case measure => simp [intOf]
        · go_wp2_with fail
          go_ret
          exact ⟨ret_int hr.out.symm, rfl⟩
  · have hr : Hid (or3 a b c = a) := by show or3 a b c = a; simp [or3, ha]
    have hab : (a != 0) = true := by simpa using ha
    have HA := Lib.hid ha
    clear ha
    go_enter Tryz.func109, Tryz.ntmps109
    go_wp2_with fail
    go_loop [5, 8] (fun _ i => i = .int .i64 0) (fun _ i => 0)
    case atStart => rfl
    case round =>
      subst hrel
      go_wp2_with fail
      go_ret
      exact ⟨ret_int hr.out.symm, rfl⟩

theorem cell_newB (W : World) (cs : Array Value) (t : TypeId) (k : Nat) (fr : Nat × Nat) (B : Nat) (h : W.heap.size = B) : (W.alloc (.cells cs t fr)).cell? ⟨B, k, none⟩ = cs[k]? := by
  subst h; exact cell_new W cs t k fr

theorem compare_any (a b : Atom) (W : World) : Calls Tryz.prog 92 #[.agg #[.int .u8 a.kind, .int .i64 a.rho, .string a.exn], .agg #[.int .u8 b.kind, .int .i64 b.rho, .string b.exn]] W fun e w' =>
    e = .returned (.int .i64 (cmpA a b)) ∧ ∃ q os', w' = grow (W.drewN q) os' := by
  go_enter Tryz.func92, Tryz.ntmps92
  go_wp2_with fail
  refine wp_region_still_tail 15 (by kernel_rfl) (by kernel_rfl) ?_
  change wpStill _ _ (World.drew _) _ _ _
  simp only [List.take_succ_cons, List.take_zero, List.drop_succ_cons, List.drop_zero]
  repeat still_step
  still_call (cmp8_any _ _ _)
  repeat still_step
  still_call (cmp64_any _ _ _)
  repeat still_step
  still_call (cmpStr_any _ _ _)
  repeat still_step
  refine wpStill_nil ?_
  change wpList _ _ _ _ _ (World.drew _)
  go_wp2_with fail
  refine (or3_any (cmpZ a.kind b.kind) (cmpZ a.rho b.rho) (cmpS a.exn b.exn) (W.heap.size + 2) _ ?_ ?_ ?_).mono ?_
  · change (World.alloc _ _).cell? _ = _; rw [cell_newB _ _ _ _ (0, 0) _ (by simp)]; rfl
  · change (World.alloc _ _).cell? _ = _; rw [cell_newB _ _ _ _ (0, 0) _ (by simp)]; rfl
  · change (World.alloc _ _).cell? _ = _; rw [cell_newB _ _ _ _ (0, 0) _ (by simp)]; rfl
  · rintro e w' ⟨rfl, rfl⟩
    go_wp2_with fail
    go_ret
    exact ⟨rfl, 1, _, by rw [alloc_eq_grow, alloc_eq_grow, alloc_eq_grow, grow_grow, grow_grow]; rfl⟩
end Go.Proofs.YtdlbjngpohkglaaGreatDoor
end
section
set_option linter.unusedVariables false
set_option maxRecDepth 100000
set_option linter.unusedSimpArgs false
namespace Go.Proofs.YtdlbjngpohkglaaGreatDoor
open Go.RowKit

abbrev RowA := RowE encA 3

/-- what is known of atom j -/
theorem RowA.atom {w : World} {p : Option Addr} {l : List Atom} (h : RowA w p l) {j : Nat} {x : Atom} (hx : l[j]? = some x) :
    ∃ b o, p = some ⟨b, o, none⟩ ∧ b < w.heap.size ∧ w.cell? ⟨b, o + j * 3, none⟩ = some (.int .u8 x.kind) ∧ w.cell? ⟨b, o + j * 3 + 1, none⟩ = some (.int .i64 x.rho) ∧ w.cell? ⟨b, o + j * 3 + 2, none⟩ = some (.string x.exn) := by
  obtain ⟨b, o, rfl, hb, hc⟩ := h.elem hx
  exact ⟨b, o, rfl, hb, by simpa using hc 0 _ rfl, hc 1 _ rfl, hc 2 _ rfl⟩

/-- '==' of two atoms. -/
def eqA (x y : Atom) : Bool := decide (x = y)
theorem eqA_parts (x y : Atom) : eqA x y = (x.kind == y.kind && x.rho == y.rho && (x.exn.toList == y.exn.toList)) := by
  unfold eqA
  obtain ⟨xk, xr, xe⟩ := x
  obtain ⟨yk, yr, ye⟩ := y
  rw [Bool.eq_iff_iff]
  simp only [decide_eq_true_eq, Atom.mk.injEq, Bool.and_eq_true, beq_iff_eq]
  constructor
  · rintro ⟨h1, h2, h3⟩; subst h3; exact ⟨⟨h1, h2⟩, rfl⟩
  · rintro ⟨⟨h1, h2⟩, h3⟩; exact ⟨h1, h2, toList_inj h3⟩

theorem run_eqA (x y : Atom) (w : World) : (binOp .eql 78 (.agg #[.int .u8 x.kind, .int .i64 x.rho, .string x.exn]) (.agg #[.int .u8 y.kind, .int .i64 y.rho, .string y.exn])).run Tryz.prog w = .ok (.bool (eqA x y)) w := by
  have u3 := Tryz.underlying3
  have u5 := Tryz.underlying5
  have u9 := Tryz.underlying9
  have hS : Tryz.prog.underlying 78 = some (.struct (Tryz.prog.fieldsOf 78)) := by kernel_rfl
  have hp : Tryz.prog.stoodInHeld 78 = false := by kernel_rfl
  rw [run_eql_struct, show (10000 : Nat) = 9999 + 1 from rfl, run_equalIn_agg w 9999 78 _ _ hS hp, eqA_parts]
  simp only [Program.fieldsOf, Tryz.underlying78]
  go_simp
  by_cases h1 : x.kind = y.kind <;> by_cases h2 : x.rho = y.rho <;> by_cases h3 : x.exn.toList = y.exn.toList <;> simp [h1, h2, h3]

theorem run_neA (x y : Atom) (w : World) : (binOp .neq 78 (.agg #[.int .u8 x.kind, .int .i64 x.rho, .string x.exn]) (.agg #[.int .u8 y.kind, .int .i64 y.rho, .string y.exn])).run Tryz.prog w = .ok (.bool (!eqA x y)) w := by
  have u3 := Tryz.underlying3
  have u5 := Tryz.underlying5
  have u9 := Tryz.underlying9
  have hS : Tryz.prog.underlying 78 = some (.struct (Tryz.prog.fieldsOf 78)) := by kernel_rfl
  have hp : Tryz.prog.stoodInHeld 78 = false := by kernel_rfl
  rw [run_neq_struct, show (10000 : Nat) = 9999 + 1 from rfl, run_equalIn_agg w 9999 78 _ _ hS hp, eqA_parts]
  simp only [Program.fieldsOf, Tryz.underlying78]
  go_simp
  by_cases h1 : x.kind = y.kind <;> by_cases h2 : x.rho = y.rho <;> by_cases h3 : x.exn.toList = y.exn.toList <;> simp [h1, h2, h3]

set_option maxHeartbeats 400000 in
theorem ref_Less_any (a b : Atom) (w : World) : Calls Tryz.prog 53 #[.agg #[.int .u8 a.kind, .int .i64 a.rho, .string a.exn], .agg #[.int .u8 b.kind, .int .i64 b.rho, .string b.exn]] w fun e w' =>
    e = .returned (.bool (Atom.lt a b)) ∧ Below w.heap.size w w' := by
  by_cases hk : a.kind = b.kind
  · have hkb : (a.kind != b.kind) = false := by rw [hk]; simp
    by_cases hr : a.rho = b.rho
    · have hrb : (a.rho != b.rho) = false := by rw [hr]; simp
      have hh : Hid (Atom.lt a b = Op.bytesLess a.exn.toList b.exn.toList) := by show Atom.lt a b = _; simp [Atom.lt, hk, hr]
      clear hk hr
      go_enter Tryz.func53, Tryz.ntmps53
      go_wp2_with fail
      go_ret
      exact ⟨ret_bool hh.out.symm, ((Below.refl _ _).alloc (Nat.le_refl _) _).alloc (by simp) _⟩
    · have hrb : (a.rho != b.rho) = true := by simpa using hr
      have hh : Hid (Atom.lt a b = decide (a.rho < b.rho)) := by show Atom.lt a b = _; simp [Atom.lt, hk, hr]
      clear hk hr
      go_enter Tryz.func53, Tryz.ntmps53
      go_wp2_with fail
      go_ret
      exact ⟨ret_bool hh.out.symm, ((Below.refl _ _).alloc (Nat.le_refl _) _).alloc (by simp) _⟩
  · have hkb : (a.kind != b.kind) = true := by simpa using hk
    have hh : Hid (Atom.lt a b = decide (a.kind < b.kind)) := by show Atom.lt a b = _; simp [Atom.lt, hk]
    clear hk
    go_enter Tryz.func53, Tryz.ntmps53
    go_wp2_with fail
    go_ret
    exact ⟨ret_bool hh.out.symm, ((Below.refl _ _).alloc (Nat.le_refl _) _).alloc (by simp) _⟩

/-- does a row have an atom? -/
def inA (l : List Atom) (a : Atom) : Bool := l.any (fun x => eqA x a)

theorem ref_In_any (p : Option Addr) (n cap : Nat) (l : List Atom) (a : Atom) (w : World) (hn : l.length = n) (hm : n ≤ 9223372036854775807) (hr : RowA w p l) :
    Calls Tryz.prog 47 #[.slice p n cap, .agg #[.int .u8 a.kind, .int .i64 a.rho, .string a.exn]] w fun e w' => e = .returned (.bool (inA l a)) ∧ Below w.heap.size w w' := by
  have HR := Lib.hid (hr.alloc (.cells #[.int .u8 a.kind, .int .i64 a.rho, .string a.exn] 78))
  have HN := Lib.hid hn
  clear hr hn
  go_enter Tryz.func47, Tryz.ntmps47
  go_wp2_with fail
  go_loopw [5, 8] (fun _ i wr => ∃ k : Nat, k ≤ n ∧ i = .int .i64 k ∧ (l.take k).any (fun x => eqA x a) = false ∧ ∃ q, wr = (w.alloc (.cells #[.int .u8 a.kind, .int .i64 a.rho, .string a.exn] 78)).drewN q) (fun _ i _ => n - (intOf i).toNat)
  case atStart => exact ⟨0, by omega, rfl, by simp, 0, rfl⟩
  case round =>
    obtain ⟨k, hk, rfl, hno, q, rfl⟩ := hrel
    have HNO := Lib.hid hno
    clear hno
    by_cases hlt : k < n
    · obtain ⟨x, hx⟩ := get_of_lt (l := l) (j := k) (by rw [HN.out]; exact hlt)
      obtain ⟨b, o, rfl, hb, c0, c1, c2⟩ := RowA.atom HR.out hx
      have HE := Lib.hid hx
      clear hx hb
      have he := fun W => run_eqA x a W
      cases hq : eqA x a
      · go_wp2_with fail
        go_quiet (fail)
        go_wp2_with fail
        go_roundw
        case rel => exact ⟨k + 1, by omega, by go_num, by rw [any_take_get HE.out, HNO.out, hq]; rfl, _, rfl⟩
        case measure => simp [intOf]; omega
      · go_wp2_with fail
        go_quiet (fail)
        go_wp2_with fail
        go_ret
        exact ⟨ret_bool (any_get HE.out hq).symm, below_drewN (below_drewN ((Below.refl _ _).alloc (Nat.le_refl _) _) _) _⟩
    · go_wp2_with fail
      go_ret
      have h := HNO.out
      rw [take_full (by rw [HN.out]; omega)] at h
      exact ⟨ret_bool h.symm, below_drewN ((Below.refl _ _).alloc (Nat.le_refl _) _) _⟩

/-- are two rows the same? -/
def eqL (l m : List Atom) : Bool := decide (l = m)

theorem eq_of_take {α : Type} {l m : List α} {n : Nat} (hl : l.length = n) (hm : m.length = n) (h : l.take n = m.take n) : l = m := by
  rwa [take_full (by omega), take_full (by omega)] at h
theorem take_eq_succ {α : Type} {l m : List α} {k : Nat} {x y : α} (hx : l[k]? = some x) (hy : m[k]? = some y) (h : l.take k = m.take k) (e : x = y) : l.take (k + 1) = m.take (k + 1) := by
  rw [take_succ_get hx, take_succ_get hy, h, e]

/-- more than 100 atoms, or a text of more than 100 bytes? -/
def greatB (l : List Atom) : Bool := decide (100 < l.length) || l.any (fun a => decide (100 < a.exn.size))

theorem ref_Great_any (p : Option Addr) (n cap : Nat) (l : List Atom) (w : World) (hn : l.length = n) (hm : n ≤ 9223372036854775807) (hr : RowA w p l) :
    Calls Tryz.prog 33 #[.slice p n cap] w fun e w' => e = .returned (.bool (greatB l)) ∧ w = w' := by
  by_cases h100 : 100 < n
  · have hg : Hid (greatB l = true) := by show greatB l = true; simp [greatB, hn, h100]
    clear hr hn
    go_enter Tryz.func33, Tryz.ntmps33
    go_wp2_with fail
    go_ret
    exact ⟨ret_bool hg.out.symm, rfl⟩
  · have hg : Hid (greatB l = l.any (fun a => decide (100 < a.exn.size))) := by show greatB l = _; simp [greatB, hn, h100]
    have h100' : n ≤ 100 := by omega
    have HR := Lib.hid hr
    have HN := Lib.hid hn
    clear hr hn h100
    go_enter Tryz.func33, Tryz.ntmps33
    go_wp2_with fail
    go_loop [3, 9] (fun _ i => ∃ k : Nat, k ≤ n ∧ i = .int .i64 k ∧ (l.take k).any (fun a => decide (100 < a.exn.size)) = false) (fun _ i => n - (intOf i).toNat)
    case atStart => exact ⟨0, by omega, rfl, by simp⟩
    case round =>
      obtain ⟨k, hk, rfl, hno⟩ := hrel
      have HNO := Lib.hid hno
      clear hno
      by_cases hlt : k < n
      · obtain ⟨x, hx⟩ := get_of_lt (l := l) (j := k) (by rw [HN.out]; exact hlt)
        obtain ⟨b, o, rfl, hb, c0, c1, c2⟩ := RowA.atom HR.out hx
        have HE := Lib.hid hx
        clear hx hb c0 c1
        by_cases hq : 100 < x.exn.size
        · go_wp2_with fail
          go_ret
          exact ⟨ret_bool (by rw [hg.out, any_get HE.out (by simpa using hq)]), rfl⟩
        · have hq' : x.exn.size ≤ 100 := by omega
          clear hq
          go_wp2_with fail
          go_round
          case rel => exact ⟨k + 1, by omega, by go_num, by rw [any_take_get HE.out, HNO.out, Bool.false_or]; simpa using hq'⟩
          case measure => simp [intOf]; omega
      · go_wp2_with fail
        go_ret
        have h := HNO.out
        rw [take_full (by rw [HN.out]; omega)] at h
        exact ⟨ret_bool (by rw [hg.out, h]), rfl⟩
end Go.Proofs.YtdlbjngpohkglaaGreatDoor
end
