/- the order of atoms: cmp.Compare, cmp.Or, effect.compare, enclaveref11.Less. -/
import Derived.Test.YtekhblomdlehhaaDoorEff1
import Derived.Deep.QuietTactic
import Derived.BigQuiet
set_option linter.unusedVariables false
set_option maxRecDepth 100000
set_option linter.unusedSimpArgs false
namespace Go.Proofs.YtekhblomdlehhaaDoor
open Go.RowKit Go.Sort

def cmpZ (a b : Int) : Int := if a < b then -1 else if b < a then 1 else 0
def cmpS (s t : ByteArray) : Int := if Op.bytesLess s.toList t.toList then -1 else if Op.bytesLess t.toList s.toList then 1 else 0
def cmpA (a b : Atom) : Int := if cmpZ a.kind b.kind ≠ 0 then cmpZ a.kind b.kind else if cmpZ a.rho b.rho ≠ 0 then cmpZ a.rho b.rho else cmpS a.exn b.exn

theorem cmp8_any (a b : Int) (w : World) : Calls Tryd.prog 77 #[.int .u8 a, .int .u8 b] w fun e w' => e = .returned (.int .i64 (cmpZ a b)) ∧ w' = w := by
  rcases (by omega : a < b ∨ b < a ∨ a = b) with h | h | rfl
  · have hr : Hid (cmpZ a b = -1) := by show cmpZ a b = -1; simp [cmpZ, h]
    go_enter Tryd.func77, Tryd.ntmps77
    go_wp2
    go_ret
    exact ⟨ret_int hr.out.symm, rfl⟩
  · have h' : ¬ a < b := by omega
    have hr : Hid (cmpZ a b = 1) := by show cmpZ a b = 1; simp [cmpZ, h, h']
    clear h'
    have h'' : b ≤ a := by omega
    go_enter Tryd.func77, Tryd.ntmps77
    go_wp2
    go_ret
    exact ⟨ret_int hr.out.symm, rfl⟩
  · have hr : Hid (cmpZ a a = 0) := by show cmpZ a a = 0; simp [cmpZ]
    go_enter Tryd.func77, Tryd.ntmps77
    go_wp2
    go_ret
    exact ⟨ret_int hr.out.symm, rfl⟩

theorem cmp64_any (a b : Int) (w : World) : Calls Tryd.prog 78 #[.int .i64 a, .int .i64 b] w fun e w' => e = .returned (.int .i64 (cmpZ a b)) ∧ w' = w := by
  rcases (by omega : a < b ∨ b < a ∨ a = b) with h | h | rfl
  · have hr : Hid (cmpZ a b = -1) := by show cmpZ a b = -1; simp [cmpZ, h]
    go_enter Tryd.func78, Tryd.ntmps78
    go_wp2
    go_ret
    exact ⟨ret_int hr.out.symm, rfl⟩
  · have h' : ¬ a < b := by omega
    have hr : Hid (cmpZ a b = 1) := by show cmpZ a b = 1; simp [cmpZ, h, h']
    clear h'
    have h'' : b ≤ a := by omega
    go_enter Tryd.func78, Tryd.ntmps78
    go_wp2
    go_ret
    exact ⟨ret_int hr.out.symm, rfl⟩
  · have hr : Hid (cmpZ a a = 0) := by show cmpZ a a = 0; simp [cmpZ]
    go_enter Tryd.func78, Tryd.ntmps78
    go_wp2
    go_ret
    exact ⟨ret_int hr.out.symm, rfl⟩

theorem bl_asymm {x y : List UInt8} (h : Op.bytesLess x y = true) : Op.bytesLess y x = false := by
  cases hb : Op.bytesLess y x with
  | false => rfl
  | true => have := bl_trans _ _ _ h hb; rw [bl_irrefl] at this; cases this
theorem bl_ne {x y : List UInt8} (h : Op.bytesLess x y = true) : (x == y) = false := by
  rw [beq_eq_false_iff_ne]; intro e; subst e; rw [bl_irrefl] at h; cases h

theorem cmpStr_any (s t : ByteArray) (w : World) : Calls Tryd.prog 79 #[.string s, .string t] w fun e w' => e = .returned (.int .i64 (cmpS s t)) ∧ w' = w := by
  cases h : Op.bytesLess s.toList t.toList
  · cases h' : Op.bytesLess t.toList s.toList
    · have he : s = t := toList_inj (bl_tri _ _ h h')
      subst he
      have hr : Hid (cmpS s s = 0) := by show cmpS s s = 0; simp [cmpS, bl_irrefl]
      clear h'
      go_enter Tryd.func79, Tryd.ntmps79
      go_wp2
      go_ret
      exact ⟨ret_int hr.out.symm, rfl⟩
    · have hne := bl_ne h'
      have hne' : (s.toList == t.toList) = false := by rw [BEq.comm]; exact hne
      have hr : Hid (cmpS s t = 1) := by show cmpS s t = 1; simp [cmpS, h, h']
      go_enter Tryd.func79, Tryd.ntmps79
      go_wp2
      go_ret
      exact ⟨ret_int hr.out.symm, rfl⟩
  · have hr : Hid (cmpS s t = -1) := by show cmpS s t = -1; simp [cmpS, h]
    go_enter Tryd.func79, Tryd.ntmps79
    go_wp2
    go_ret
    exact ⟨ret_int hr.out.symm, rfl⟩

/-- cmp.Or of three numbers. -/
def or3 (a b c : Int) : Int := if a ≠ 0 then a else if b ≠ 0 then b else c
theorem or3_any (a b c : Int) (B : Nat) (w : World) (h0 : w.cell? ⟨B, 0, none⟩ = some (.int .i64 a)) (h1 : w.cell? ⟨B, 1, none⟩ = some (.int .i64 b)) (h2 : w.cell? ⟨B, 2, none⟩ = some (.int .i64 c)) :
    Calls Tryd.prog 76 #[.slice (some ⟨B, 0, none⟩) 3 3] w fun e w' => e = .returned (.int .i64 (or3 a b c)) ∧ w' = w := by
  by_cases ha : a = 0
  · subst ha
    by_cases hb : b = 0
    · subst hb
      have hr : Hid (or3 0 0 c = c) := by show or3 0 0 c = c; simp [or3]
      go_enter Tryd.func76, Tryd.ntmps76
      go_wp2_with fail
      go_loop [5, 8] (fun _ i => ∃ k : Nat, k ≤ 3 ∧ i = .int .i64 k ∧ (3 ≤ k → c = 0)) (fun _ i => 3 - (intOf i).toNat)
      case atStart => exact ⟨0, by omega, rfl, by omega⟩
      case round =>
        obtain ⟨k, hk, rfl, hc⟩ := hrel
        rcases (by omega : k = 0 ∨ k = 1 ∨ k = 2 ∨ k = 3) with rfl | rfl | rfl | rfl
        · clear hc
          go_wp2_with fail
          go_round
          case rel => exact ⟨1, by omega, rfl, by omega⟩
          case measure => simp [intOf]
        · clear hc
          go_wp2_with fail
          go_round
          case rel => exact ⟨2, by omega, rfl, by omega⟩
          case measure => simp [intOf]
        · clear hc
          by_cases hc : c = 0
          · subst hc
            go_wp2_with fail
            go_round
            case rel => exact ⟨3, by omega, rfl, by simp⟩
            case measure => simp [intOf]
          · have hcb : (c != 0) = true := by simpa using hc
            have HC := Lib.hid hc
            clear hc
            go_wp2_with fail
            go_ret
            exact ⟨ret_int hr.out.symm, rfl⟩
        · have hc0 : c = 0 := hc (by omega)
          subst hc0
          go_wp2_with fail
          go_ret
          exact ⟨ret_int hr.out.symm, rfl⟩
    · have hr : Hid (or3 0 b c = b) := by show or3 0 b c = b; simp [or3, hb]
      have hbb : (b != 0) = true := by simpa using hb
      have HB := Lib.hid hb
      clear hb
      go_enter Tryd.func76, Tryd.ntmps76
      go_wp2_with fail
      go_loop [5, 8] (fun _ i => ∃ k : Nat, k ≤ 1 ∧ i = .int .i64 k) (fun _ i => 3 - (intOf i).toNat)
      case atStart => exact ⟨0, by omega, rfl⟩
      case round =>
        obtain ⟨k, hk, rfl⟩ := hrel
        rcases (by omega : k = 0 ∨ k = 1) with rfl | rfl
        · go_wp2_with fail
          go_round
          case rel => exact ⟨1, by omega, rfl⟩
          case measure => simp [intOf]
        · go_wp2_with fail
          go_ret
          exact ⟨ret_int hr.out.symm, rfl⟩
  · have hr : Hid (or3 a b c = a) := by show or3 a b c = a; simp [or3, ha]
    have hab : (a != 0) = true := by simpa using ha
    have HA := Lib.hid ha
    clear ha
    go_enter Tryd.func76, Tryd.ntmps76
    go_wp2_with fail
    go_loop [5, 8] (fun _ i => i = .int .i64 0) (fun _ i => 0)
    case atStart => rfl
    case round =>
      subst hrel
      go_wp2_with fail
      go_ret
      exact ⟨ret_int hr.out.symm, rfl⟩

theorem cell_newB (W : World) (cs : Array Value) (t : TypeId) (k : Nat) (fr : Nat × Nat) (B : Nat) (h : W.heap.size = B) : (W.alloc (.cells cs t fr)).cell? ⟨B, k, none⟩ = cs[k]? := by
  subst h; exact cell_new W cs t k fr

theorem compare_any (a b : Atom) (W : World) : Calls Tryd.prog 43 #[.agg #[.int .u8 a.kind, .int .i64 a.rho, .string a.exn], .agg #[.int .u8 b.kind, .int .i64 b.rho, .string b.exn]] W fun e w' =>
    e = .returned (.int .i64 (cmpA a b)) ∧ ∃ q os', w' = grow (W.drewN q) os' := by
  go_enter Tryd.func43, Tryd.ntmps43
  go_wp2_with fail
  refine wp_region_still_tail 15 (by kernel_rfl) (by kernel_rfl) ?_
  change wpStill _ _ (World.drew _) _ _ _
  simp only [List.take_succ_cons, List.take_zero, List.drop_succ_cons, List.drop_zero]
  repeat still_step
  still_call (cmp8_any _ _ _)
  repeat still_step
  still_call (cmp64_any _ _ _)
  repeat still_step
  still_call (cmpStr_any _ _ _)
  repeat still_step
  refine wpStill_nil ?_
  change wpList _ _ _ _ _ (World.drew _)
  go_wp2_with fail
  refine (or3_any (cmpZ a.kind b.kind) (cmpZ a.rho b.rho) (cmpS a.exn b.exn) (W.heap.size + 2) _ ?_ ?_ ?_).mono ?_
  · change (World.alloc _ _).cell? _ = _; rw [cell_newB _ _ _ _ (0, 0) _ (by simp)]; rfl
  · change (World.alloc _ _).cell? _ = _; rw [cell_newB _ _ _ _ (0, 0) _ (by simp)]; rfl
  · change (World.alloc _ _).cell? _ = _; rw [cell_newB _ _ _ _ (0, 0) _ (by simp)]; rfl
  · rintro e w' ⟨rfl, rfl⟩
    go_wp2_with fail
    go_ret
    exact ⟨rfl, 1, _, by rw [alloc_eq_grow, alloc_eq_grow, alloc_eq_grow, grow_grow, grow_grow]; rfl⟩
end Go.Proofs.YtekhblomdlehhaaDoor
