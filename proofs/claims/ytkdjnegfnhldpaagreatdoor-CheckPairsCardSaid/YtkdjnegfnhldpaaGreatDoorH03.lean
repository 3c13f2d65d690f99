/- Part 3: Eff3, Own, Eff4, Eff5, Class, Eff6. -/
import Derived.Test.YtkdjnegfnhldpaaGreatDoorH02
import Derived.Laws.StructEq
import Derived.Test.YtkdjnegfnhldpaaGreatDoorH01
import Derived.Deep.QuietTactic
set_option linter.unusedVariables false
set_option maxRecDepth 100000
set_option linter.unusedSimpArgs false
namespace Go.Proofs.YtkdjnegfnhldpaaGreatDoor
open Go.Lib (hid)
section
open Go.RowKit
abbrev RowA := RowE encA 3
theorem RowA.atom {w : World} {p : Option Addr} {l : List Atom} (h : RowA w p l) {j : Nat} {x : Atom} (hx : l[j]? = some x) :
    ∃ b o, p = some ⟨b, o, none⟩ ∧ b < w.heap.size ∧ w.cell? ⟨b, o + j * 3, none⟩ = some (.int .u8 x.kind) ∧ w.cell? ⟨b, o + j * 3 + 1, none⟩ = some (.int .i64 x.rho) ∧ w.cell? ⟨b, o + j * 3 + 2, none⟩ = some (.string x.exn) := by
  obtain ⟨b, o, rfl, hb, hc⟩ := h.elem hx
  exact ⟨b, o, rfl, hb, by simpa using hc 0 _ rfl, hc 1 _ rfl, hc 2 _ rfl⟩
def eqA (x y : Atom) : Bool := decide (x = y)
theorem eqA_parts (x y : Atom) : eqA x y = (x.kind == y.kind && x.rho == y.rho && (x.exn.toList == y.exn.toList)) := by
  unfold eqA
  obtain ⟨xk, xr, xe⟩ := x
  obtain ⟨yk, yr, ye⟩ := y
  rw [Bool.eq_iff_iff]
  simp only [decide_eq_true_eq, Atom.mk.injEq, Bool.and_eq_true, beq_iff_eq]
  constructor
  · rintro ⟨h1, h2, h3⟩; subst h3; exact ⟨⟨h1, h2⟩, rfl⟩
  · rintro ⟨⟨h1, h2⟩, h3⟩; exact ⟨h1, h2, toList_inj h3⟩
theorem run_eqA (x y : Atom) (w : World) : (binOp .eql 59 (.agg #[.int .u8 x.kind, .int .i64 x.rho, .string x.exn]) (.agg #[.int .u8 y.kind, .int .i64 y.rho, .string y.exn])).run Tryz.prog w = .ok (.bool (eqA x y)) w := by
  have u3 := Tryz.underlying3
  have u5 := Tryz.underlying5
  have u9 := Tryz.underlying9
  have hS : Tryz.prog.underlying 59 = some (.struct (Tryz.prog.fieldsOf 59)) := by kernel_rfl
  have hp : Tryz.prog.stoodInHeld 59 = false := by kernel_rfl
  rw [run_eql_struct, show (10000 : Nat) = 9999 + 1 from rfl, run_equalIn_agg w 9999 59 _ _ hS hp, eqA_parts]
  simp only [Program.fieldsOf, Tryz.underlying59]
  go_simp
  by_cases h1 : x.kind = y.kind <;> by_cases h2 : x.rho = y.rho <;> by_cases h3 : x.exn.toList = y.exn.toList <;> simp [h1, h2, h3]
theorem run_neA (x y : Atom) (w : World) : (binOp .neq 59 (.agg #[.int .u8 x.kind, .int .i64 x.rho, .string x.exn]) (.agg #[.int .u8 y.kind, .int .i64 y.rho, .string y.exn])).run Tryz.prog w = .ok (.bool (!eqA x y)) w := by
  have u3 := Tryz.underlying3
  have u5 := Tryz.underlying5
  have u9 := Tryz.underlying9
  have hS : Tryz.prog.underlying 59 = some (.struct (Tryz.prog.fieldsOf 59)) := by kernel_rfl
  have hp : Tryz.prog.stoodInHeld 59 = false := by kernel_rfl
  rw [run_neq_struct, show (10000 : Nat) = 9999 + 1 from rfl, run_equalIn_agg w 9999 59 _ _ hS hp, eqA_parts]
  simp only [Program.fieldsOf, Tryz.underlying59]
  go_simp
  by_cases h1 : x.kind = y.kind <;> by_cases h2 : x.rho = y.rho <;> by_cases h3 : x.exn.toList = y.exn.toList <;> simp [h1, h2, h3]
set_option maxHeartbeats 400000 in
theorem ref_Less_any (a b : Atom) (w : World) : Calls Tryz.prog 42 #[.agg #[.int .u8 a.kind, .int .i64 a.rho, .string a.exn], .agg #[.int .u8 b.kind, .int .i64 b.rho, .string b.exn]] w fun e w' =>
    e = .returned (.bool (Atom.lt a b)) ∧ Below w.heap.size w w' := by
  by_cases hk : a.kind = b.kind
  · have hkb : (a.kind != b.kind) = false := by rw [hk]; simp
    by_cases hr : a.rho = b.rho
    · have hrb : (a.rho != b.rho) = false := by rw [hr]; simp
      have hh : Hid (Atom.lt a b = Op.bytesLess a.exn.toList b.exn.toList) := by show Atom.lt a b = _; simp [Atom.lt, hk, hr]
      clear hk hr
      go_enter Tryz.func42, Tryz.ntmps42
      go_wp2_with fail
      go_ret
      exact ⟨ret_bool hh.out.symm, ((Below.refl _ _).alloc (Nat.le_refl _) _).alloc (by simp) _⟩
    · have hrb : (a.rho != b.rho) = true := by simpa using hr
      have hh : Hid (Atom.lt a b = decide (a.rho < b.rho)) := by show Atom.lt a b = _; simp [Atom.lt, hk, hr]
      clear hk hr
      go_enter Tryz.func42, Tryz.ntmps42
      go_wp2_with fail
      go_ret
      exact ⟨ret_bool hh.out.symm, ((Below.refl _ _).alloc (Nat.le_refl _) _).alloc (by simp) _⟩
  · have hkb : (a.kind != b.kind) = true := by simpa using hk
    have hh : Hid (Atom.lt a b = decide (a.kind < b.kind)) := by show Atom.lt a b = _; simp [Atom.lt, hk]
    clear hk
    go_enter Tryz.func42, Tryz.ntmps42
    go_wp2_with fail
    go_ret
    exact ⟨ret_bool hh.out.symm, ((Below.refl _ _).alloc (Nat.le_refl _) _).alloc (by simp) _⟩
def inA (l : List Atom) (a : Atom) : Bool := l.any (fun x => eqA x a)
theorem ref_In_any (p : Option Addr) (n cap : Nat) (l : List Atom) (a : Atom) (w : World) (hn : l.length = n) (hm : n ≤ 9223372036854775807) (hr : RowA w p l) :
    Calls Tryz.prog 51 #[.slice p n cap, .agg #[.int .u8 a.kind, .int .i64 a.rho, .string a.exn]] w fun e w' => e = .returned (.bool (inA l a)) ∧ Below w.heap.size w w' := by
  have HR := hid (hr.alloc (.cells #[.int .u8 a.kind, .int .i64 a.rho, .string a.exn] 59))
  have HN := hid hn
  clear hr hn
  go_enter Tryz.func51, Tryz.ntmps51
  go_wp2_with fail
  go_loopw [5, 8] (fun _ i wr => ∃ k : Nat, k ≤ n ∧ i = .int .i64 k ∧ (l.take k).any (fun x => eqA x a) = false ∧ ∃ q, wr = (w.alloc (.cells #[.int .u8 a.kind, .int .i64 a.rho, .string a.exn] 59)).drewN q) (fun _ i _ => n - (intOf i).toNat)
  case atStart => exact ⟨0, by omega, rfl, by simp, 0, rfl⟩
  case round =>
    obtain ⟨k, hk, rfl, hno, q, rfl⟩ := hrel
    have HNO := hid hno
    clear hno
    by_cases hlt : k < n
    · obtain ⟨x, hx⟩ := get_of_lt (l := l) (j := k) (by rw [HN.out]; exact hlt)
      obtain ⟨b, o, rfl, hb, c0, c1, c2⟩ := RowA.atom HR.out hx
      have HE := hid hx
      clear hx hb
      have he := fun W => run_eqA x a W
      cases hq : eqA x a
      · go_wp2_with fail
        go_quiet (fail)
        go_wp2_with fail
        go_roundw
        case rel => exact ⟨k + 1, by omega, by go_num, by rw [any_take_get HE.out, HNO.out, hq]; rfl, _, rfl⟩
        case measure => simp [intOf]; omega
      · go_wp2_with fail
        go_quiet (fail)
        go_wp2_with fail
        go_ret
        exact ⟨ret_bool (any_get HE.out hq).symm, below_drewN (below_drewN ((Below.refl _ _).alloc (Nat.le_refl _) _) _) _⟩
    · go_wp2_with fail
      go_ret
      have h := HNO.out
      rw [take_full (by rw [HN.out]; omega)] at h
      exact ⟨ret_bool h.symm, below_drewN ((Below.refl _ _).alloc (Nat.le_refl _) _) _⟩
def eqL (l m : List Atom) : Bool := decide (l = m)
theorem eq_of_take {α : Type} {l m : List α} {n : Nat} (hl : l.length = n) (hm : m.length = n) (h : l.take n = m.take n) : l = m := by
  rwa [take_full (by omega), take_full (by omega)] at h
theorem take_eq_succ {α : Type} {l m : List α} {k : Nat} {x y : α} (hx : l[k]? = some x) (hy : m[k]? = some y) (h : l.take k = m.take k) (e : x = y) : l.take (k + 1) = m.take (k + 1) := by
  rw [take_succ_get hx, take_succ_get hy, h, e]
theorem ref_Equal_any (p : Option Addr) (n cap : Nat) (l : List Atom) (q : Option Addr) (m mc : Nat) (l' : List Atom) (w : World) (hn : l.length = n) (hm : n ≤ 9223372036854775807) (hr : RowA w p l)
    (hn' : l'.length = m) (hm' : m ≤ 9223372036854775807) (hr' : RowA w q l') :
    Calls Tryz.prog 14 #[.slice p n cap, .slice q m mc] w fun e w' => e = .returned (.bool (eqL l l')) ∧ ∃ j, w' = w.drewN j := by
  by_cases hnm : n = m
  · subst hnm
    have HR := hid hr
    have HN := hid hn
    have HR' := hid hr'
    have HN' := hid hn'
    clear hr hn hr' hn'
    go_enter Tryz.func14, Tryz.ntmps14
    go_wp2_with fail
    go_loopw [5, 13] (fun _ i wr => ∃ k : Nat, k ≤ n ∧ i = .int .i64 k ∧ l.take k = l'.take k ∧ ∃ j, wr = w.drewN j) (fun _ i _ => n - (intOf i).toNat)
    case atStart => exact ⟨0, by omega, rfl, by simp, 0, rfl⟩
    case round =>
      obtain ⟨k, hk, rfl, hno, j, rfl⟩ := hrel
      have HNO := hid hno
      clear hno
      by_cases hlt : k < n
      · obtain ⟨x, hx⟩ := get_of_lt (l := l) (j := k) (by rw [HN.out]; exact hlt)
        obtain ⟨y, hy⟩ := get_of_lt (l := l') (j := k) (by rw [HN'.out]; exact hlt)
        obtain ⟨b, o, rfl, hb, c0, c1, c2⟩ := RowA.atom HR.out hx
        obtain ⟨b', o', rfl, hb', d0, d1, d2⟩ := RowA.atom HR'.out hy
        have HE := hid hx
        have HE' := hid hy
        clear hx hb hy hb'
        have he := fun W => run_neA x y W
        cases hq : eqA x y
        · have hne : Hid (eqL l l' = false) := by
            show eqL l l' = false
            unfold eqL
            rw [decide_eq_false_iff_not]
            intro e
            have h1 := HE.out
            rw [e, HE'.out] at h1
            cases h1
            simp [eqA] at hq
          go_wp2_with fail
          go_quiet (fail)
          go_wp2_with fail
          go_ret
          exact ⟨ret_bool hne.out.symm, _, World.drewN_drewN _ _ _⟩
        · have hxy : Hid (x = y) := by show x = y; simpa [eqA] using hq
          go_wp2_with fail
          go_quiet (fail)
          go_wp2_with fail
          go_roundw
          case rel => exact ⟨k + 1, by omega, by go_num, take_eq_succ HE.out HE'.out HNO.out hxy.out, _, rfl⟩
          case measure => simp [intOf]; omega
      · have hkn : k = n := by omega
        subst hkn
        go_wp2_with fail
        go_ret
        exact ⟨ret_bool (by unfold eqL; rw [eq_of_take HN.out HN'.out HNO.out]; simp), _, rfl⟩
  · have hne : Hid (eqL l l' = false) := by
      show eqL l l' = false
      unfold eqL
      rw [decide_eq_false_iff_not]
      intro e
      subst e
      omega
    have hb : ((n : Int) != (m : Int)) = true := by rw [bne_iff_ne]; omega
    clear hr hr' hn hn' hnm
    go_enter Tryz.func14, Tryz.ntmps14
    go_wp2_with fail
    go_ret
    exact ⟨ret_bool hne.out.symm, 0, rfl⟩
def greatB (l : List Atom) : Bool := decide (100 < l.length) || l.any (fun a => decide (100 < a.exn.size))
theorem ref_Great_any (p : Option Addr) (n cap : Nat) (l : List Atom) (w : World) (hn : l.length = n) (hm : n ≤ 9223372036854775807) (hr : RowA w p l) :
    Calls Tryz.prog 86 #[.slice p n cap] w fun e w' => e = .returned (.bool (greatB l)) ∧ w = w' := by
  by_cases h100 : 100 < n
  · have hg : Hid (greatB l = true) := by show greatB l = true; simp [greatB, hn, h100]
    clear hr hn
    go_enter Tryz.func86, Tryz.ntmps86
    go_wp2_with fail
    go_ret
    exact ⟨ret_bool hg.out.symm, rfl⟩
  · have hg : Hid (greatB l = l.any (fun a => decide (100 < a.exn.size))) := by show greatB l = _; simp [greatB, hn, h100]
    have h100' : n ≤ 100 := by omega
    have HR := hid hr
    have HN := hid hn
    clear hr hn h100
    go_enter Tryz.func86, Tryz.ntmps86
    go_wp2_with fail
    go_loop [3, 9] (fun _ i => ∃ k : Nat, k ≤ n ∧ i = .int .i64 k ∧ (l.take k).any (fun a => decide (100 < a.exn.size)) = false) (fun _ i => n - (intOf i).toNat)
    case atStart => exact ⟨0, by omega, rfl, by simp⟩
    case round =>
      obtain ⟨k, hk, rfl, hno⟩ := hrel
      have HNO := hid hno
      clear hno
      by_cases hlt : k < n
      · obtain ⟨x, hx⟩ := get_of_lt (l := l) (j := k) (by rw [HN.out]; exact hlt)
        obtain ⟨b, o, rfl, hb, c0, c1, c2⟩ := RowA.atom HR.out hx
        have HE := hid hx
        clear hx hb c0 c1
        by_cases hq : 100 < x.exn.size
        · go_wp2_with fail
          go_ret
          exact ⟨ret_bool (by rw [hg.out, any_get HE.out (by simpa using hq)]), rfl⟩
        · have hq' : x.exn.size ≤ 100 := by omega
          clear hq
          go_wp2_with fail
          go_round
          case rel => exact ⟨k + 1, by omega, by go_num, by rw [any_take_get HE.out, HNO.out, Bool.false_or]; simpa using hq'⟩
          case measure => simp [intOf]; omega
      · go_wp2_with fail
        go_ret
        have h := HNO.out
        rw [take_full (by rw [HN.out]; omega)] at h
        exact ⟨ret_bool (by rw [hg.out, h]), rfl⟩
end
section
open Go.RowKit
theorem grown_alloc {w w' : World} {o : Obj} {row : Option Nat} (h : (w.alloc o).grownBy w' row) : w.grownBy w' row :=
  ⟨h.os, h.tape, h.output, Nat.le_trans (by simp) h.size, fun k hk hne => (h.block k (by simp; omega) hne).trans (Below.heap_alloc w o k hk)⟩
def OwnE {α : Type} (enc : α → List Value) (k : Nat) (w : World) (base : Nat) (e : TypeId) (v : Value) (n : Nat) (l : List α) : Prop := w.ownsRow base e k v n (l.flatMap enc)
theorem wpList_append1 {P : Program} {α : Type} {ops : Array Oper} {rest : List Oper} {o : Oper} {a : Act} {Q : Exit → Act → World → Prop} (hgd : o.guard = none) (s x : Operand) (t : TypeId)
    (ho : o.op = .call { callee := .builtin .append, args := #[s, x], argTypes := #[t, t] })
    (base : Nat) (e : TypeId) (z : Value) (k bytes : Nat) (ht : P.underlying t = some (.slice e)) (hinfo : (P.info? e).map (fun i => (i.zero, i.size, i.bytes)) = some (some z, k, bytes))
    (hzs : z.cells.size = k) (hsz : 0 < k)
    (enc : α → List Value) (hk : ∀ x, (enc x).length = k) (h1 : ∀ y, ∀ u ∈ enc y, u.oneCell' = true) (y : α) (l : List α) (n : Nat) {w : World} (v : Value) (hown : OwnE enc k w base e v n l)
    (hs : a.eval s = v) (hx : a.eval x = .slice (some ⟨w.heap.size, 0, none⟩) 1 1)
    (hbytes : (n + 1) * bytes ≤ 140737488355328) (h63 : n + 1 ≤ 9223372036854775807) (hbase : base ≤ w.heap.size)
    (h : ∀ v' w', OwnE enc k w' base e v' (n + 1) (l ++ [y]) → w.grownBy w' v.ownBlock → wpList P ops Q rest (a.put o.dst v') w') :
    wpList P ops Q (o :: rest) a (w.alloc (.cells (enc y).toArray e)) := by
  obtain ⟨i, hi, hz, hsize, hby⟩ := info_parts hinfo
  refine wpList_append_own _ hgd s x t ho base e i z k bytes ht hi hz hsize hby hzs hsz v n _ hs (World.ownsRow.alloc hown _) ⟨w.heap.size, 0, none⟩ 1 1 (enc y) hx (by rw [hk]; omega) ?_ (h1 y) (by unfold maxLen; omega) hbytes (by simp; omega) ?_
  · intro j u hj
    rw [add_lit', cell_new w _ _ _ (0, 0), Nat.zero_add]
    simpa using hj
  · intro v' w' hown' hg _
    refine h v' w' ?_ (grown_alloc hg)
    unfold OwnE
    rw [List.flatMap_append, List.flatMap_singleton]
    exact hown'
section
variable {α : Type} {enc : α → List Value} {k : Nat} {w w' : World} {base base' e n : Nat} {v : Value} {l : List α}
theorem OwnE.lit (enc : α → List Value) (w : World) (base : Nat) (e : TypeId) (k : Nat) (hb : base ≤ w.heap.size) : OwnE enc k (w.alloc (.cells #[] e)) base e (.slice (some ⟨w.heap.size, 0, none⟩) 0 0) 0 [] :=
  World.ownsRow_made w #[] 0 hb (by simp [maxLen]) (by simp)
theorem OwnE.nil (enc : α → List Value) (w : World) (base : Nat) (e : TypeId) (k : Nat) : OwnE enc k w base e (.slice none 0 0) 0 [] := World.ownsRow_nil w base e k
theorem OwnE.below (h : OwnE enc k w base e v n l) (hb : Below w.heap.size w w') : OwnE enc k w' base e v n l := by
  refine ⟨h.1, ?_⟩
  rcases h.2 with hn | ⟨g, cap, cur, rfl, hb', hg, rest⟩
  · exact .inl hn
  · refine .inr ⟨g, cap, cur, rfl, hb', ?_, rest⟩
    rw [hb.block g (Array.getElem?_eq_some_iff.1 hg).1]; exact hg
theorem OwnE.lower (h : OwnE enc k w base e v n l) (hb : base' ≤ base) : OwnE enc k w base' e v n l := by
  refine ⟨h.1, ?_⟩
  rcases h.2 with hn | ⟨g, cap, cur, rfl, hb', hg, rest⟩
  · exact .inl hn
  · exact .inr ⟨g, cap, cur, rfl, Nat.le_trans hb hb', hg, rest⟩
theorem OwnE.drew (h : OwnE enc k w base e v n l) : OwnE enc k w.drew base e v n l := h
theorem OwnE.drewN (h : OwnE enc k w base e v n l) (m : Nat) : OwnE enc k (w.drewN m) base e v n l := h
theorem OwnE.row (hk : ∀ x, (enc x).length = k) (h : OwnE enc k w base e v n l) (hk0 : 0 < k) :
    ∃ p cap, v = .slice p n cap ∧ l.length = n ∧ n ≤ cap ∧ RowE enc k w p l ∧ cap ≤ maxLen ∧ (p = none → n = 0 ∧ cap = 0) ∧ (∀ a, p = some a → base ≤ a.block ∧ a.off = 0 ∧ a.spot = none ∧ a.block < w.heap.size) := own_row hk h hk0
theorem OwnE.len (hk : ∀ x, (enc x).length = k) (h : OwnE enc k w base e v n l) (hk0 : 0 < k) : l.length = n := by
  obtain ⟨_, _, _, h, _⟩ := h.row hk hk0; exact h
theorem Below.own {B : Nat} {w0 : World} (h : Below B w0 w) (hg : w.grownBy w' v.ownBlock) (hB : B ≤ w.heap.size) (ho : OwnE enc k w B e v n l) : Below B w0 w' :=
  h.grown hg hB (fun k hk => (World.ownsRow.lt ho k hk).1)
end
end
section
open Go.RowKit
theorem encA_one (y : Atom) : ∀ u ∈ encA y, u.oneCell' = true := by
  intro u hu
  simp only [encA, List.mem_cons, List.not_mem_nil, or_false] at hu
  rcases hu with rfl | rfl | rfl <;> rfl
theorem infoA : (Tryz.prog.info? 59).map (fun i => (i.zero, i.size, i.bytes)) = some (some (.agg #[.int .u8 0, .int .i64 0, .string .empty]), 3, 32) := by kernel_rfl
def putPos (a : Atom) : List Atom → List Atom
  | [] => [a]
  | b :: l => if Atom.lt a b then a :: b :: l else b :: putPos a l
def putA (a : Atom) (e : List Atom) : List Atom := if atomB a && !inA e a then putPos a e else e
theorem putPos_hit (a : Atom) : ∀ (l : List Atom) (x : Atom), l.any (Atom.lt a) = true → putPos a (l ++ [x]) = putPos a l ++ [x]
  | [], x, h => by simp at h
  | b :: l, x, h => by
    simp only [List.cons_append, putPos]
    by_cases hb : Atom.lt a b = true
    · simp [hb]
    · rw [if_neg hb, if_neg hb, putPos_hit a l x (by simpa [hb] using h)]; rfl
theorem putPos_first (a : Atom) : ∀ (l : List Atom) (x : Atom), l.any (Atom.lt a) = false → Atom.lt a x = true → putPos a (l ++ [x]) = l ++ [a, x]
  | [], x, _, hx => by simp [putPos, hx]
  | b :: l, x, h, hx => by
    simp only [List.any_cons, Bool.or_eq_false_iff] at h
    simp only [List.cons_append, putPos]
    rw [if_neg (by simp [h.1]), putPos_first a l x h.2 hx]
theorem putPos_none (a : Atom) : ∀ (l : List Atom), l.any (Atom.lt a) = false → putPos a l = l ++ [a]
  | [], _ => rfl
  | b :: l, h => by
    simp only [List.any_cons, Bool.or_eq_false_iff] at h
    simp only [putPos, List.cons_append]
    rw [if_neg (by simp [h.1]), putPos_none a l h.2]
theorem putPos_length (a : Atom) : ∀ l : List Atom, (putPos a l).length = l.length + 1
  | [] => rfl
  | b :: l => by
    simp only [putPos]
    split
    · rfl
    · simp [putPos_length a l]
def outA (a : Atom) (l : List Atom) : List Atom := if l.any (Atom.lt a) then putPos a l else l
theorem outA_done (a : Atom) (l : List Atom) (x : Atom) (h : l.any (Atom.lt a) = true) : outA a (l ++ [x]) = outA a l ++ [x] := by
  unfold outA
  rw [if_pos h, if_pos (by rw [List.any_append, h]; rfl), putPos_hit a l x h]
theorem outA_first (a : Atom) (l : List Atom) (x : Atom) (h : l.any (Atom.lt a) = false) (hx : Atom.lt a x = true) : outA a (l ++ [x]) = (outA a l ++ [a]) ++ [x] := by
  have e1 : (l ++ [x]).any (Atom.lt a) = true := by rw [List.any_append]; simp [hx]
  unfold outA
  rw [if_pos e1, if_neg (by rw [h]; exact Bool.false_ne_true), putPos_first a l x h hx]
  simp
theorem outA_not (a : Atom) (l : List Atom) (x : Atom) (h : l.any (Atom.lt a) = false) (hx : Atom.lt a x = false) : outA a (l ++ [x]) = outA a l ++ [x] := by
  have e1 : (l ++ [x]).any (Atom.lt a) = false := by rw [List.any_append, h]; simp [hx]
  unfold outA
  rw [if_neg (by rw [e1]; exact Bool.false_ne_true), if_neg (by rw [h]; exact Bool.false_ne_true)]
set_option maxHeartbeats 1000000 in
theorem ref_put_main (p : Option Addr) (n cap : Nat) (l : List Atom) (a : Atom) (w : World) (hn : l.length = n) (hm : n ≤ 1000000) (hr : RowA w p l) (ha : atomB a = true) (hi : inA l a = false) :
    Calls Tryz.prog 52 #[.slice p n cap, .agg #[.int .u8 a.kind, .int .i64 a.rho, .string a.exn]] w fun e w' =>
      ∃ v, e = .returned v ∧ OwnE encA 3 w' w.heap.size 59 v (n + 1) (putPos a l) ∧ Below w.heap.size w w' := by
  have HR := hid hr
  have HN := hid hn
  clear hr hn
  go_enter Tryz.func52, Tryz.ntmps52
  go_wp2_with fail
  refine (ref_Atom_any a _).mono ?_
  rintro e w1 ⟨rfl, hb⟩
  have H1 : Hid (Below w.heap.size w w1) := ((Below.refl _ w).alloc (Nat.le_refl _) _).trans (hb.mono (by simp))
  have c0 : w1.cell? ⟨w.heap.size, 0, none⟩ = some (.int .u8 a.kind) := by rw [hb.cell (by simp), cell_new]; rfl
  have c1 : w1.cell? ⟨w.heap.size, 1, none⟩ = some (.int .i64 a.rho) := by rw [hb.cell (by simp), cell_new]; rfl
  have c2 : w1.cell? ⟨w.heap.size, 2, none⟩ = some (.string a.exn) := by rw [hb.cell (by simp), cell_new]; rfl
  have hs : w.heap.size < w1.heap.size := by have := hb.size; simp at this; omega
  rw [ha]
  clear hb
  go_wp2_with fail
  refine (ref_In_any p n cap l a w1 HN.out (by omega) (HR.out.below H1.out)).mono ?_
  rintro e w2 ⟨rfl, hb⟩
  have H2 := hid (H1.out.trans (hb.mono H1.out.size))
  have hbox : Hid (∀ wr, Below w1.heap.size w1 wr → wr.cell? ⟨w.heap.size, 0, none⟩ = some (.int .u8 a.kind) ∧ wr.cell? ⟨w.heap.size, 1, none⟩ = some (.int .i64 a.rho) ∧ wr.cell? ⟨w.heap.size, 2, none⟩ = some (.string a.exn)) :=
    fun wr hb => ⟨by rw [hb.cell (by simpa using hs)]; exact c0, by rw [hb.cell (by simpa using hs)]; exact c1, by rw [hb.cell (by simpa using hs)]; exact c2⟩
  have H12 := hid hb
  rw [hi]
  clear hb c0 c1 c2 H1
  go_wp2_with fail
  have hown0 := OwnE.lit encA w2 w2.heap.size 59 3 (Nat.le_refl _)
  have HOWN0 := hid hown0
  clear hown0
  go_loopw [5, 6, 7, 20] (fun u d _ i wr => ∃ k m : Nat, k ≤ n ∧ m ≤ 2 * k ∧ i = .int .i64 k ∧ d = .bool ((l.take k).any (Atom.lt a)) ∧ OwnE encA 3 wr w2.heap.size 59 u m (outA a (l.take k)) ∧ Below w2.heap.size w2 wr) (fun _ _ _ i _ => n - (intOf i).toNat)
  case atStart => exact ⟨0, 0, by omega, by omega, rfl, by simp, HOWN0.out, (Below.refl _ _).alloc (Nat.le_refl _) _⟩
  case round =>
    obtain ⟨k, m, hk, hmk, rfl, rfl, hown, hb⟩ := hrel
    have HOWN := hid hown
    have HB := hid hb
    clear hown hb
    by_cases hlt : k < n
    · obtain ⟨x, hx⟩ := get_of_lt (l := l) (j := k) (by rw [HN.out]; exact hlt)
      have HE := hid hx
      obtain ⟨b, o, rfl, hbl, d0, d1, d2⟩ := RowA.atom (HR.out.below H2.out) hx
      have HEL : Hid (∀ W, Below w2.heap.size w2 W → W.cell? ⟨b, o + k * 3, none⟩ = some (.int .u8 x.kind) ∧ W.cell? ⟨b, o + k * 3 + 1, none⟩ = some (.int .i64 x.rho) ∧ W.cell? ⟨b, o + k * 3 + 2, none⟩ = some (.string x.exn)) :=
        fun W h => ⟨by rw [h.cell hbl]; exact d0, by rw [h.cell hbl]; exact d1, by rw [h.cell hbl]; exact d2⟩
      clear hx hbl d0 d1 d2
      cases hany : (l.take k).any (Atom.lt a)
      · have HANY := hid hany
        clear hany
        obtain ⟨e0, e1, e2⟩ := HEL.out wr HB.out
        obtain ⟨f0, f1, f2⟩ := hbox.out wr (H12.out.trans (HB.out.mono H12.out.size))
        go_wp2_with fail
        refine wp_region_still_tail 8 (by kernel_rfl) (by kernel_rfl) ?_
        change wpStill _ _ (World.drew _) _ _ _
        simp only [List.take_succ_cons, List.take_zero, List.drop_succ_cons, List.drop_zero]
        repeat still_step
        refine wpStill_nil ?_
        change wpList _ _ _ _ _ (World.drew _)
        go_wp2_with fail
        refine (ref_Less_any a x _).mono ?_
        rintro e w3 ⟨rfl, hb⟩
        have HB3 : Hid (Below w2.heap.size w2 w3) := HB.out.drew.trans (hb.mono HB.out.size)
        have HOWN3 := hid (OwnE.below HOWN.out.drew hb)
        clear hb e0 e1 e2 f0 f1 f2
        obtain ⟨e0, e1, e2⟩ := HEL.out w3 HB3.out
        obtain ⟨f0, f1, f2⟩ := hbox.out w3 (H12.out.trans (HB3.out.mono H12.out.size))
        cases hla : Atom.lt a x
        · have HLA := hid hla
          clear hla
          go_wp2_with (at_builtin; refine wpList_append1 rfl _ _ 25 rfl w2.heap.size 59 _ 3 32 Tryz.underlying25 infoA rfl (by decide) encA encA_len encA_one x _ _ _ HOWN3.out rfl rfl ?c1 ?c2 ?c3 ?_)
          case c1 => omega
          case c2 => omega
          case c3 => exact HB3.out.size
          · intro v' w4 hown' hg
            have HO := hid hown'
            have HB4 := hid (Below.own HB3.out hg HB3.out.size HOWN3.out)
            clear hown' hg e0 e1 e2 f0 f1 f2
            go_wp2_with fail
            go_roundw
            case rel => exact ⟨k + 1, m + 1, by omega, by omega, by go_num, by rw [any_take_get HE.out, HANY.out, HLA.out]; rfl, by rw [take_succ_get HE.out, outA_not a _ _ HANY.out HLA.out]; exact HO.out, HB4.out⟩
            case measure => simp [intOf]; omega
        · have HLA := hid hla
          clear hla
          go_wp2_with (at_builtin; refine wpList_append1 rfl _ _ 25 rfl w2.heap.size 59 _ 3 32 Tryz.underlying25 infoA rfl (by decide) encA encA_len encA_one a _ _ _ HOWN3.out rfl rfl ?c1 ?c2 ?c3 ?_)
          case c1 => omega
          case c2 => omega
          case c3 => exact HB3.out.size
          · intro v' w4 hown' hg
            have HO := hid hown'
            have HB4 := hid (Below.own HB3.out hg HB3.out.size HOWN3.out)
            clear hown' hg e0 e1 e2 f0 f1 f2
            obtain ⟨e0, e1, e2⟩ := HEL.out w4 HB4.out
            go_wp2_with (at_builtin; refine wpList_append1 rfl _ _ 25 rfl w2.heap.size 59 _ 3 32 Tryz.underlying25 infoA rfl (by decide) encA encA_len encA_one x _ _ _ HO.out rfl rfl ?c1 ?c2 ?c3 ?_)
            case c1 => omega
            case c2 => omega
            case c3 => exact HB4.out.size
            · intro v'' w5 hown' hg
              have HO5 := hid hown'
              have HB5 := hid (Below.own HB4.out hg HB4.out.size HO.out)
              clear hown' hg e0 e1 e2
              go_wp2_with fail
              go_roundw
              case rel => exact ⟨k + 1, m + 2, by omega, by omega, by go_num, by rw [any_take_get HE.out, HANY.out, HLA.out]; rfl, by rw [take_succ_get HE.out, outA_first a _ _ HANY.out HLA.out, List.append_assoc]; exact HO5.out, HB5.out⟩
              case measure => simp [intOf]; omega
      · have HANY := hid hany
        clear hany
        obtain ⟨e0, e1, e2⟩ := HEL.out wr HB.out
        obtain ⟨f0, f1, f2⟩ := hbox.out wr (H12.out.trans (HB.out.mono H12.out.size))
        go_wp2_with fail
        go_quiet (fail)
        have HB3 : Hid (Below w2.heap.size w2 (wr.drewN nq)) := below_drewN HB.out nq
        have HOWN3 : Hid (OwnE encA 3 (wr.drewN nq) w2.heap.size 59 u5 m (outA a (l.take k))) := HOWN.out.drewN nq
        go_wp2_with (at_builtin; refine wpList_append1 rfl _ _ 25 rfl w2.heap.size 59 _ 3 32 Tryz.underlying25 infoA rfl (by decide) encA encA_len encA_one x _ _ _ HOWN3.out rfl rfl ?c1 ?c2 ?c3 ?_)
        case c1 => omega
        case c2 => omega
        case c3 => exact HB3.out.size
        · intro v' w4 hown' hg
          have HO := hid hown'
          have HB4 := hid (Below.own HB3.out hg HB3.out.size HOWN3.out)
          clear hown' hg e0 e1 e2 f0 f1 f2
          go_wp2_with fail
          go_roundw
          case rel => exact ⟨k + 1, m + 1, by omega, by omega, by go_num, by rw [any_take_get HE.out, HANY.out]; rfl, by rw [take_succ_get HE.out, outA_done a _ _ HANY.out]; exact HO.out, HB4.out⟩
          case measure => simp [intOf]; omega
    · have hkn : k = n := by omega
      subst hkn
      have ht : l.take k = l := take_full (by rw [HN.out]; omega)
      rw [ht]
      cases hany : l.any (Atom.lt a)
      · have HP : Hid (putPos a l = outA a l ++ [a]) := by
          show putPos a l = outA a l ++ [a]
          unfold outA; rw [if_neg (by rw [hany]; exact Bool.false_ne_true), putPos_none a l hany]
        have hl : Hid (m = k) := by
          show m = k
          have := HOWN.out.len encA_len (by omega)
          rw [ht] at this
          unfold outA at this
          rw [if_neg (by rw [hany]; exact Bool.false_ne_true)] at this
          rw [← this]; exact HN.out
        obtain ⟨f0, f1, f2⟩ := hbox.out wr (H12.out.trans (HB.out.mono H12.out.size))
        clear hany ht
        go_wp2_with (at_builtin; refine wpList_append1 rfl _ _ 25 rfl w2.heap.size 59 _ 3 32 Tryz.underlying25 infoA rfl (by decide) encA encA_len encA_one a _ _ _ HOWN.out rfl rfl ?c1 ?c2 ?c3 ?_)
        case c1 => omega
        case c2 => omega
        case c3 => exact HB.out.size
        · intro v' w4 hown' hg
          have HO := hid hown'
          have HB4 := hid (Below.own HB.out hg HB.out.size HOWN.out)
          clear hown' hg f0 f1 f2
          go_wp2_with fail
          go_ret
          refine ⟨_, rfl, ?_, H2.out.trans (HB4.out.mono H2.out.size)⟩
          have h := HO.out
          rw [take_full (by rw [HN.out]; omega), hl.out] at h
          rw [HP.out]
          exact h.lower H2.out.size
      · have HP : Hid (putPos a l = outA a l) := by show putPos a l = outA a l; unfold outA; rw [if_pos hany]
        have hl : Hid (m = k + 1) := by
          show m = k + 1
          have := HOWN.out.len encA_len (by omega)
          rw [ht] at this
          unfold outA at this
          rw [if_pos hany, putPos_length] at this
          rw [← this, HN.out]
        clear hany ht
        go_wp2_with fail
        go_ret
        refine ⟨_, rfl, ?_, H2.out.trans (HB.out.mono H2.out.size)⟩
        have h := HOWN.out
        rw [take_full (by rw [HN.out]; omega), hl.out] at h
        rw [HP.out]
        exact h.lower H2.out.size
end
section
open Go.RowKit
def Sl {α : Type} (enc : α → List Value) (k : Nat) (w : World) (v : Value) (l : List α) : Prop := ∃ p n cap, v = .slice p n cap ∧ l.length = n ∧ n ≤ cap ∧ RowE enc k w p l
theorem Sl.below {α : Type} {enc : α → List Value} {k : Nat} {w w' : World} {v : Value} {l : List α} (h : Sl enc k w v l) (hb : Below w.heap.size w w') : Sl enc k w' v l := by
  obtain ⟨p, n, cap, hv, hl, hc, hr⟩ := h
  exact ⟨p, n, cap, hv, hl, hc, hr.below hb⟩
theorem OwnE.sl {α : Type} {enc : α → List Value} {k : Nat} {w : World} {base e n : Nat} {v : Value} {l : List α} (hk : ∀ x, (enc x).length = k) (hk0 : 0 < k) (h : OwnE enc k w base e v n l) : Sl enc k w v l := by
  obtain ⟨p, cap, hv, hl, hc, hr, _⟩ := h.row hk hk0
  exact ⟨p, n, cap, hv, hl, hc, hr⟩
theorem putA_length (a : Atom) (l : List Atom) : (putA a l).length ≤ l.length + 1 := by
  unfold putA; split
  · rw [putPos_length]; omega
  · omega
def refOf (l : List Atom) : List Atom := l.foldl (fun e a => putA a e) []
theorem refOf_snoc (l : List Atom) (x : Atom) : refOf (l ++ [x]) = putA x (refOf l) := by simp [refOf, List.foldl_append]
def withinB (a b : List Atom) : Bool := a.all (fun x => !atomB x || inA b x)
set_option maxHeartbeats 400000 in
theorem ref_Within_any (p : Option Addr) (n cap : Nat) (l : List Atom) (q : Option Addr) (m mc : Nat) (l' : List Atom) (w : World) (hn : l.length = n) (hm : n ≤ 9223372036854775807) (hr : RowA w p l)
    (hn' : l'.length = m) (hm' : m ≤ 9223372036854775807) (hr' : RowA w q l') :
    Calls Tryz.prog 25 #[.slice p n cap, .slice q m mc] w fun e w' => e = .returned (.bool (withinB l l')) ∧ Below w.heap.size w w' := by
  have HR := hid hr
  have HN := hid hn
  have HR' := hid hr'
  have HN' := hid hn'
  clear hr hn hr' hn'
  go_enter Tryz.func25, Tryz.ntmps25
  go_wp2_with fail
  go_loopw [5, 8] (fun _ i wr => ∃ k : Nat, k ≤ n ∧ i = .int .i64 k ∧ (l.take k).all (fun x => !atomB x || inA l' x) = true ∧ Below w.heap.size w wr) (fun _ i _ => n - (intOf i).toNat)
  case atStart => exact ⟨0, by omega, rfl, by simp, Below.refl _ _⟩
  case round =>
    obtain ⟨k, hk, rfl, hno, hb⟩ := hrel
    have HNO := hid hno
    have HB := hid hb
    clear hno hb
    by_cases hlt : k < n
    · obtain ⟨x, hx⟩ := get_of_lt (l := l) (j := k) (by rw [HN.out]; exact hlt)
      have HE := hid hx
      obtain ⟨b, o, rfl, hbl, d0, d1, d2⟩ := RowA.atom (HR.out.below HB.out) hx
      go_wp2_with fail
      refine (ref_Atom_any x wr).mono ?_
      rintro e w1 ⟨rfl, hb⟩
      have HB1 := hid (HB.out.trans (hb.mono HB.out.size))
      have f0 : w1.cell? ⟨b, o + k * 3, none⟩ = some (.int .u8 x.kind) := by rw [hb.cell hbl]; exact d0
      have f1 : w1.cell? ⟨b, o + k * 3 + 1, none⟩ = some (.int .i64 x.rho) := by rw [hb.cell hbl]; exact d1
      have f2 : w1.cell? ⟨b, o + k * 3 + 2, none⟩ = some (.string x.exn) := by rw [hb.cell hbl]; exact d2
      clear hb d0 d1 d2 hx hbl
      cases ha : atomB x
      · have HA := hid ha
        clear ha
        go_wp2_with fail
        go_roundw
        case rel => exact ⟨k + 1, by omega, by go_num, by rw [all_take_get HE.out, HNO.out, HA.out]; rfl, HB1.out⟩
        case measure => simp [intOf]; omega
      · have HA := hid ha
        clear ha
        go_wp2_with fail
        refine (ref_In_any q m mc l' x w1 HN'.out hm' (HR'.out.below HB1.out)).mono ?_
        rintro e w2 ⟨rfl, hb⟩
        have HB2 := hid (HB1.out.trans (hb.mono HB1.out.size))
        clear hb f0 f1 f2
        cases hi : inA l' x
        · have HI := hid hi
          clear hi
          go_wp2_with fail
          go_ret
          exact ⟨ret_bool (by unfold withinB; rw [all_get HE.out (by rw [HA.out, HI.out]; rfl)]), HB2.out⟩
        · have HI := hid hi
          clear hi
          go_wp2_with fail
          go_roundw
          case rel => exact ⟨k + 1, by omega, by go_num, by rw [all_take_get HE.out, HNO.out, HA.out, HI.out]; rfl, HB2.out⟩
          case measure => simp [intOf]; omega
    · go_wp2_with fail
      go_ret
      have h := HNO.out
      rw [take_full (by rw [HN.out]; omega)] at h
      exact ⟨ret_bool h.symm, HB.out⟩
def inN (l : List Int) (x : Int) : Bool := l.any (· == x)
theorem ref_Ints_any (p : Option Addr) (n cap : Nat) (l : List Int) (x : Int) (w : World) (hn : l.length = n) (hm : n ≤ 9223372036854775807) (hr : RowE encN 1 w p l) :
    Calls Tryz.prog 21 #[.slice p n cap, .int .i64 x] w fun e w' => e = .returned (.bool (inN l x)) ∧ w = w' := by
  have HR := hid hr
  have HN := hid hn
  clear hr hn
  go_enter Tryz.func21, Tryz.ntmps21
  go_wp2_with fail
  go_loop [5, 8] (fun _ i => ∃ k : Nat, k ≤ n ∧ i = .int .i64 k ∧ (l.take k).any (· == x) = false) (fun _ i => n - (intOf i).toNat)
  case atStart => exact ⟨0, by omega, rfl, by simp⟩
  case round =>
    obtain ⟨k, hk, rfl, hno⟩ := hrel
    have HNO := hid hno
    clear hno
    by_cases hlt : k < n
    · obtain ⟨y, hy⟩ := get_of_lt (l := l) (j := k) (by rw [HN.out]; exact hlt)
      have HE := hid hy
      obtain ⟨b, o, rfl, d0⟩ := HR.out.num hy
      clear hy
      cases hq : (y == x)
      · go_wp2_with fail
        go_round
        case rel => exact ⟨k + 1, by omega, by go_num, by rw [any_take_get HE.out, HNO.out, hq]; rfl⟩
        case measure => simp [intOf]; omega
      · go_wp2_with fail
        go_ret
        exact ⟨ret_bool (by unfold inN; rw [any_get HE.out hq]), rfl⟩
    · go_wp2_with fail
      go_ret
      have h := HNO.out
      rw [take_full (by rw [HN.out]; omega)] at h
      exact ⟨ret_bool h.symm, rfl⟩
end
section
open Go.RowKit
structure Later where
  drawn : Nat
  blocks : Array Obj
deriving Inhabited
def gw (w : World) (g : Later) : World := { w with heap := w.heap ++ g.blocks, drawn := g.drawn }
theorem gw_below (w : World) (g : Later) : Below w.heap.size w (gw w g) := by
  refine ⟨rfl, rfl, rfl, by simp [gw], fun k hk => ?_⟩
  simp [gw, Array.getElem?_append_left hk]
theorem below_gw {w w' : World} (h : Below w.heap.size w w') : ∃ g, w' = gw w g := by
  refine ⟨⟨w'.drawn, w'.heap.extract w.heap.size w'.heap.size⟩, ?_⟩
  obtain ⟨heap, tape, drawn, os, output⟩ := w
  obtain ⟨heap', tape', drawn', os', output'⟩ := w'
  obtain ⟨h1, h2, h3, h4, h5⟩ := h
  simp only at h1 h2 h3 h4 h5
  subst h1; subst h2; subst h3
  simp only [gw, World.mk.injEq, true_and, and_true]
  apply Array.ext_getElem?
  intro i
  rcases Nat.lt_or_ge i heap.size with hi | hi
  · rw [Array.getElem?_append_left hi]; exact h5 i hi
  · rw [Array.getElem?_append_right hi, Array.getElem?_extract]
    simp only [Nat.add_sub_cancel' hi]
    split
    · rfl
    · rw [Array.getElem?_eq_none (by omega)]
theorem gw_cell {w : World} {a : Addr} {v : Value} (h : w.cell? a = some v) (g : Later) : (gw w g).cell? a = some v := by
  rw [(gw_below w g).cell (cell_block h)]; exact h
theorem calls_gw {P : Program} {f : FuncId} {args : Array Value} {w : World} {g : Later} {v : Value}
    (h : Calls P f args (gw w g) fun e w' => e = .returned v ∧ Below (gw w g).heap.size (gw w g) w') : Calls P f args (gw w g) fun e w' => e = .returned v ∧ ∃ g', w' = gw w g' :=
  h.mono fun _ _ ⟨he, hb⟩ => ⟨he, below_gw ((gw_below w g).trans (hb.mono (gw_below w g).size))⟩
theorem wp_region_gw {P : Program} {id : Nat} {Q : Exit → Act → World → Prop} {a : Act} {w : World} {l : List Oper} (hm : P.follows .mixedOrders = true) (hB : Region.lexB .any l.toArray = true)
    (h : wpQuiet P l.toArray (fun w' => ∃ g, w' = gw w g) (fun a' => ∀ w', (∃ g, w' = gw w g) → Q .normal a' w') l a) : (Code.region id l.toArray true).wp P Q a w :=
  wp_region_quiet (C := fun w' => ∃ g, w' = gw w g) hm hB ⟨⟨w.drawn + 1, #[]⟩, by simp [gw]⟩ (by simpa using h)
end
section
open Go.RowKit
def mayB : List Atom → Bool
  | [] => true
  | [a] => atomB a
  | a :: b :: l => atomB a && Atom.lt a b && mayB (b :: l)
def MayTo (e : List Atom) (k : Nat) : Prop := (e.take k).all atomB = true ∧ ∀ j x y, j + 1 < k → e[j]? = some x → e[j + 1]? = some y → Atom.lt x y = true
end
end Go.Proofs.YtkdjnegfnhldpaaGreatDoor
