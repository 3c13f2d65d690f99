/- rows of atoms in the references: Less, In, Equal, Great, Within, May. -/
import Derived.Test.YtekhblomdlehhaaDoorEff2
import Derived.Laws.StructEq
set_option linter.unusedVariables false
set_option maxRecDepth 100000
set_option linter.unusedSimpArgs false
namespace Go.Proofs.YtekhblomdlehhaaDoor
open Go.RowKit

abbrev RowA := RowE encA 3

/-- what is known of atom j -/
theorem RowA.atom {w : World} {p : Option Addr} {l : List Atom} (h : RowA w p l) {j : Nat} {x : Atom} (hx : l[j]? = some x) :
    ∃ b o, p = some ⟨b, o, none⟩ ∧ b < w.heap.size ∧ w.cell? ⟨b, o + j * 3, none⟩ = some (.int .u8 x.kind) ∧ w.cell? ⟨b, o + j * 3 + 1, none⟩ = some (.int .i64 x.rho) ∧ w.cell? ⟨b, o + j * 3 + 2, none⟩ = some (.string x.exn) := by
  obtain ⟨b, o, rfl, hb, hc⟩ := h.elem hx
  exact ⟨b, o, rfl, hb, by simpa using hc 0 _ rfl, hc 1 _ rfl, hc 2 _ rfl⟩

/-- '==' of two atoms. -/
def eqA (x y : Atom) : Bool := decide (x = y)
theorem eqA_parts (x y : Atom) : eqA x y = (x.kind == y.kind && x.rho == y.rho && (x.exn.toList == y.exn.toList)) := by
  unfold eqA
  obtain ⟨xk, xr, xe⟩ := x
  obtain ⟨yk, yr, ye⟩ := y
  rw [Bool.eq_iff_iff]
  simp only [decide_eq_true_eq, Atom.mk.injEq, Bool.and_eq_true, beq_iff_eq]
  constructor
  · rintro ⟨h1, h2, h3⟩; subst h3; exact ⟨⟨h1, h2⟩, rfl⟩
  · rintro ⟨⟨h1, h2⟩, h3⟩; exact ⟨h1, h2, toList_inj h3⟩

theorem run_eqA (x y : Atom) (w : World) : (binOp .eql 34 (.agg #[.int .u8 x.kind, .int .i64 x.rho, .string x.exn]) (.agg #[.int .u8 y.kind, .int .i64 y.rho, .string y.exn])).run Tryd.prog w = .ok (.bool (eqA x y)) w := by
  have u3 := Tryd.underlying3
  have u5 := Tryd.underlying5
  have u9 := Tryd.underlying9
  have hS : Tryd.prog.underlying 34 = some (.struct (Tryd.prog.fieldsOf 34)) := by kernel_rfl
  have hp : Tryd.prog.stoodInHeld 34 = false := by kernel_rfl
  rw [run_eql_struct, show (10000 : Nat) = 9999 + 1 from rfl, run_equalIn_agg w 9999 34 _ _ hS hp, eqA_parts]
  simp only [Program.fieldsOf, Tryd.underlying34]
  go_simp
  by_cases h1 : x.kind = y.kind <;> by_cases h2 : x.rho = y.rho <;> by_cases h3 : x.exn.toList = y.exn.toList <;> simp [h1, h2, h3]

theorem run_neA (x y : Atom) (w : World) : (binOp .neq 34 (.agg #[.int .u8 x.kind, .int .i64 x.rho, .string x.exn]) (.agg #[.int .u8 y.kind, .int .i64 y.rho, .string y.exn])).run Tryd.prog w = .ok (.bool (!eqA x y)) w := by
  have u3 := Tryd.underlying3
  have u5 := Tryd.underlying5
  have u9 := Tryd.underlying9
  have hS : Tryd.prog.underlying 34 = some (.struct (Tryd.prog.fieldsOf 34)) := by kernel_rfl
  have hp : Tryd.prog.stoodInHeld 34 = false := by kernel_rfl
  rw [run_neq_struct, show (10000 : Nat) = 9999 + 1 from rfl, run_equalIn_agg w 9999 34 _ _ hS hp, eqA_parts]
  simp only [Program.fieldsOf, Tryd.underlying34]
  go_simp
  by_cases h1 : x.kind = y.kind <;> by_cases h2 : x.rho = y.rho <;> by_cases h3 : x.exn.toList = y.exn.toList <;> simp [h1, h2, h3]

set_option maxHeartbeats 400000 in
theorem ref_Less_any (a b : Atom) (w : World) : Calls Tryd.prog 47 #[.agg #[.int .u8 a.kind, .int .i64 a.rho, .string a.exn], .agg #[.int .u8 b.kind, .int .i64 b.rho, .string b.exn]] w fun e w' =>
    e = .returned (.bool (Atom.lt a b)) ∧ Below w.heap.size w w' := by
  by_cases hk : a.kind = b.kind
  · have hkb : (a.kind != b.kind) = false := by rw [hk]; simp
    by_cases hr : a.rho = b.rho
    · have hrb : (a.rho != b.rho) = false := by rw [hr]; simp
      have hh : Hid (Atom.lt a b = Op.bytesLess a.exn.toList b.exn.toList) := by show Atom.lt a b = _; simp [Atom.lt, hk, hr]
      clear hk hr
      go_enter Tryd.func47, Tryd.ntmps47
      go_wp2_with fail
      go_ret
      exact ⟨ret_bool hh.out.symm, ((Below.refl _ _).alloc (Nat.le_refl _) _).alloc (by simp) _⟩
    · have hrb : (a.rho != b.rho) = true := by simpa using hr
      have hh : Hid (Atom.lt a b = decide (a.rho < b.rho)) := by show Atom.lt a b = _; simp [Atom.lt, hk, hr]
      clear hk hr
      go_enter Tryd.func47, Tryd.ntmps47
      go_wp2_with fail
      go_ret
      exact ⟨ret_bool hh.out.symm, ((Below.refl _ _).alloc (Nat.le_refl _) _).alloc (by simp) _⟩
  · have hkb : (a.kind != b.kind) = true := by simpa using hk
    have hh : Hid (Atom.lt a b = decide (a.kind < b.kind)) := by show Atom.lt a b = _; simp [Atom.lt, hk]
    clear hk
    go_enter Tryd.func47, Tryd.ntmps47
    go_wp2_with fail
    go_ret
    exact ⟨ret_bool hh.out.symm, ((Below.refl _ _).alloc (Nat.le_refl _) _).alloc (by simp) _⟩

/-- does a row have an atom? -/
def inA (l : List Atom) (a : Atom) : Bool := l.any (fun x => eqA x a)

theorem ref_In_any (p : Option Addr) (n cap : Nat) (l : List Atom) (a : Atom) (w : World) (hn : l.length = n) (hm : n ≤ 9223372036854775807) (hr : RowA w p l) :
    Calls Tryd.prog 54 #[.slice p n cap, .agg #[.int .u8 a.kind, .int .i64 a.rho, .string a.exn]] w fun e w' => e = .returned (.bool (inA l a)) ∧ Below w.heap.size w w' := by
  have HR := Lib.hid (hr.alloc (.cells #[.int .u8 a.kind, .int .i64 a.rho, .string a.exn] 34))
  have HN := Lib.hid hn
  clear hr hn
  go_enter Tryd.func54, Tryd.ntmps54
  go_wp2_with fail
  go_loopw [5, 8] (fun _ i wr => ∃ k : Nat, k ≤ n ∧ i = .int .i64 k ∧ (l.take k).any (fun x => eqA x a) = false ∧ ∃ q, wr = (w.alloc (.cells #[.int .u8 a.kind, .int .i64 a.rho, .string a.exn] 34)).drewN q) (fun _ i _ => n - (intOf i).toNat)
  case atStart => exact ⟨0, by omega, rfl, by simp, 0, rfl⟩
  case round =>
    obtain ⟨k, hk, rfl, hno, q, rfl⟩ := hrel
    have HNO := Lib.hid hno
    clear hno
    by_cases hlt : k < n
    · obtain ⟨x, hx⟩ := get_of_lt (l := l) (j := k) (by rw [HN.out]; exact hlt)
      obtain ⟨b, o, rfl, hb, c0, c1, c2⟩ := RowA.atom HR.out hx
      have HE := Lib.hid hx
      clear hx hb
      have he := fun W => run_eqA x a W
      cases hq : eqA x a
      · go_wp2_with fail
        go_quiet (fail)
        go_wp2_with fail
        go_roundw
        case rel => exact ⟨k + 1, by omega, by go_num, by rw [any_take_get HE.out, HNO.out, hq]; rfl, _, rfl⟩
        case measure => simp [intOf]; omega
      · go_wp2_with fail
        go_quiet (fail)
        go_wp2_with fail
        go_ret
        exact ⟨ret_bool (any_get HE.out hq).symm, below_drewN (below_drewN ((Below.refl _ _).alloc (Nat.le_refl _) _) _) _⟩
    · go_wp2_with fail
      go_ret
      have h := HNO.out
      rw [take_full (by rw [HN.out]; omega)] at h
      exact ⟨ret_bool h.symm, below_drewN ((Below.refl _ _).alloc (Nat.le_refl _) _) _⟩

/-- are two rows the same? -/
def eqL (l m : List Atom) : Bool := decide (l = m)

theorem eq_of_take {α : Type} {l m : List α} {n : Nat} (hl : l.length = n) (hm : m.length = n) (h : l.take n = m.take n) : l = m := by
  rwa [take_full (by omega), take_full (by omega)] at h
theorem take_eq_succ {α : Type} {l m : List α} {k : Nat} {x y : α} (hx : l[k]? = some x) (hy : m[k]? = some y) (h : l.take k = m.take k) (e : x = y) : l.take (k + 1) = m.take (k + 1) := by
  rw [take_succ_get hx, take_succ_get hy, h, e]

theorem ref_Equal_any (p : Option Addr) (n cap : Nat) (l : List Atom) (q : Option Addr) (m mc : Nat) (l' : List Atom) (w : World) (hn : l.length = n) (hm : n ≤ 9223372036854775807) (hr : RowA w p l)
    (hn' : l'.length = m) (hm' : m ≤ 9223372036854775807) (hr' : RowA w q l') :
    Calls Tryd.prog 16 #[.slice p n cap, .slice q m mc] w fun e w' => e = .returned (.bool (eqL l l')) ∧ ∃ j, w' = w.drewN j := by
  by_cases hnm : n = m
  · subst hnm
    have HR := Lib.hid hr
    have HN := Lib.hid hn
    have HR' := Lib.hid hr'
    have HN' := Lib.hid hn'
    clear hr hn hr' hn'
    go_enter Tryd.func16, Tryd.ntmps16
    go_wp2_with fail
    go_loopw [5, 13] (fun _ i wr => ∃ k : Nat, k ≤ n ∧ i = .int .i64 k ∧ l.take k = l'.take k ∧ ∃ j, wr = w.drewN j) (fun _ i _ => n - (intOf i).toNat)
    case atStart => exact ⟨0, by omega, rfl, by simp, 0, rfl⟩
    case round =>
      obtain ⟨k, hk, rfl, hno, j, rfl⟩ := hrel
      have HNO := Lib.hid hno
      clear hno
      by_cases hlt : k < n
      · obtain ⟨x, hx⟩ := get_of_lt (l := l) (j := k) (by rw [HN.out]; exact hlt)
        obtain ⟨y, hy⟩ := get_of_lt (l := l') (j := k) (by rw [HN'.out]; exact hlt)
        obtain ⟨b, o, rfl, hb, c0, c1, c2⟩ := RowA.atom HR.out hx
        obtain ⟨b', o', rfl, hb', d0, d1, d2⟩ := RowA.atom HR'.out hy
        have HE := Lib.hid hx
        have HE' := Lib.hid hy
        clear hx hb hy hb'
        have he := fun W => run_neA x y W
        cases hq : eqA x y
        · have hne : Hid (eqL l l' = false) := by
            show eqL l l' = false
            unfold eqL
            rw [decide_eq_false_iff_not]
            intro e
            have h1 := HE.out
            rw [e, HE'.out] at h1
            cases h1
            simp [eqA] at hq
          go_wp2_with fail
          go_quiet (fail)
          go_wp2_with fail
          go_ret
          exact ⟨ret_bool hne.out.symm, _, World.drewN_drewN _ _ _⟩
        · have hxy : Hid (x = y) := by show x = y; simpa [eqA] using hq
          go_wp2_with fail
          go_quiet (fail)
          go_wp2_with fail
          go_roundw
          case rel => exact ⟨k + 1, by omega, by go_num, take_eq_succ HE.out HE'.out HNO.out hxy.out, _, rfl⟩
          case measure => simp [intOf]; omega
      · have hkn : k = n := by omega
        subst hkn
        go_wp2_with fail
        go_ret
        exact ⟨ret_bool (by unfold eqL; rw [eq_of_take HN.out HN'.out HNO.out]; simp), _, rfl⟩
  · have hne : Hid (eqL l l' = false) := by
      show eqL l l' = false
      unfold eqL
      rw [decide_eq_false_iff_not]
      intro e
      subst e
      omega
    have hb : ((n : Int) != (m : Int)) = true := by rw [bne_iff_ne]; omega
    clear hr hr' hn hn' hnm
    go_enter Tryd.func16, Tryd.ntmps16
    go_wp2_with fail
    go_ret
    exact ⟨ret_bool hne.out.symm, 0, rfl⟩

/-- more than 100 atoms, or a text of more than 100 bytes? -/
def greatB (l : List Atom) : Bool := decide (100 < l.length) || l.any (fun a => decide (100 < a.exn.size))

theorem ref_Great_any (p : Option Addr) (n cap : Nat) (l : List Atom) (w : World) (hn : l.length = n) (hm : n ≤ 9223372036854775807) (hr : RowA w p l) :
    Calls Tryd.prog 12 #[.slice p n cap] w fun e w' => e = .returned (.bool (greatB l)) ∧ w = w' := by
  by_cases h100 : 100 < n
  · have hg : Hid (greatB l = true) := by show greatB l = true; simp [greatB, hn, h100]
    clear hr hn
    go_enter Tryd.func12, Tryd.ntmps12
    go_wp2_with fail
    go_ret
    exact ⟨ret_bool hg.out.symm, rfl⟩
  · have hg : Hid (greatB l = l.any (fun a => decide (100 < a.exn.size))) := by show greatB l = _; simp [greatB, hn, h100]
    have h100' : n ≤ 100 := by omega
    have HR := Lib.hid hr
    have HN := Lib.hid hn
    clear hr hn h100
    go_enter Tryd.func12, Tryd.ntmps12
    go_wp2_with fail
    go_loop [3, 9] (fun _ i => ∃ k : Nat, k ≤ n ∧ i = .int .i64 k ∧ (l.take k).any (fun a => decide (100 < a.exn.size)) = false) (fun _ i => n - (intOf i).toNat)
    case atStart => exact ⟨0, by omega, rfl, by simp⟩
    case round =>
      obtain ⟨k, hk, rfl, hno⟩ := hrel
      have HNO := Lib.hid hno
      clear hno
      by_cases hlt : k < n
      · obtain ⟨x, hx⟩ := get_of_lt (l := l) (j := k) (by rw [HN.out]; exact hlt)
        obtain ⟨b, o, rfl, hb, c0, c1, c2⟩ := RowA.atom HR.out hx
        have HE := Lib.hid hx
        clear hx hb c0 c1
        by_cases hq : 100 < x.exn.size
        · go_wp2_with fail
          go_ret
          exact ⟨ret_bool (by rw [hg.out, any_get HE.out (by simpa using hq)]), rfl⟩
        · have hq' : x.exn.size ≤ 100 := by omega
          clear hq
          go_wp2_with fail
          go_round
          case rel => exact ⟨k + 1, by omega, by go_num, by rw [any_take_get HE.out, HNO.out, Bool.false_or]; simpa using hq'⟩
          case measure => simp [intOf]; omega
      · go_wp2_with fail
        go_ret
        have h := HNO.out
        rw [take_full (by rw [HN.out]; omega)] at h
        exact ⟨ret_bool (by rw [hg.out, h]), rfl⟩
end Go.Proofs.YtekhblomdlehhaaDoor
