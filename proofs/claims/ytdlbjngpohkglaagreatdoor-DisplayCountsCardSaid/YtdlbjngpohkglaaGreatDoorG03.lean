/- Part 3 of the texts: Exn, Atom. -/
import Derived.Test.YtdlbjngpohkglaaGreatDoorG02
import GoSem.Op.String
import Derived.Lib.Strings
section
set_option linter.unusedVariables false
set_option maxRecDepth 100000
set_option linter.unusedSimpArgs false
namespace Go.Proofs.YtdlbjngpohkglaaGreatDoor
open Go.RowKit

/-- Is it an exception's name? -/
def exnB (s : ByteArray) : Bool := shapedB s 4

theorem exn1_any (s : ByteArray) (w : World) :
    Calls Tryz.prog 134 #[.string s] w fun e w' => e = .returned (.bool (exnB s)) ∧ Below w.heap.size w w' := by
  go_enter Tryz.func134, Tryz.ntmps134
  go_wp2_with fail
  refine (shaped_any s 4 w).mono ?_
  rintro e w1 ⟨rfl, hb⟩
  have HB := Lib.hid hb
  clear hb
  go_wp2_with fail
  go_ret
  exact ⟨rfl, HB.out⟩

/-- the closure of words.all over words.Exn$1 -/
theorem all1_any (s : ByteArray) (a : Addr) (w : World) (hbox : w.cell? a = some (.func (.func 134) #[] #[])) :
    Calls Tryz.prog 165 #[.string s, .pointer (some a)] w fun e w' => e = .returned (.bool (!exnB s)) ∧ Below w.heap.size w w' := by
  go_enter Tryz.func165, Tryz.ntmps165
  go_wp2_with fail
  refine (exn1_any s w).mono ?_
  rintro e w1 ⟨rfl, hb⟩
  have HB := Lib.hid hb
  clear hb
  go_wp2_with fail
  go_ret
  exact ⟨rfl, HB.out⟩

theorem str_indexFunc_any (a : Addr) (p : Option Addr) (n cap : Nat) (l : List ByteArray) (w : World) (hn : l.length = n) (hm : n ≤ 9223372036854775807) (hr : RowE encS 1 w p l)
    (hbox : w.cell? a = some (.func (.func 134) #[] #[])) :
    Calls Tryz.prog 184 #[.slice p n cap, .func (.func 165) #[] #[.pointer (some a)]] w fun e w' =>
      (∃ r : Int, e = .returned (.int .i64 r) ∧ (l.any (fun s => !exnB s) = decide (0 ≤ r))) ∧ Below w.heap.size w w' := by
  have HR := Lib.hid hr
  have HN := Lib.hid hn
  have HX := Lib.hid hbox
  clear hr hn hbox
  go_enter Tryz.func184, Tryz.ntmps184
  go_wp2_with fail
  go_loopw [5, 8] (fun _ i wr => ∃ k : Nat, k ≤ n ∧ i = .int .i64 k ∧ (l.take k).any (fun s => !exnB s) = false ∧ Below w.heap.size w wr) (fun _ i _ => n - (intOf i).toNat)
  case atStart => exact ⟨0, by omega, rfl, by simp, Below.refl _ _⟩
  case round =>
    obtain ⟨k, hk, rfl, hno, hb⟩ := hrel
    have HNO := Lib.hid hno
    have HB := Lib.hid hb
    clear hno hb
    by_cases hlt : k < n
    · obtain ⟨x, hx⟩ := get_of_lt (l := l) (j := k) (by rw [HN.out]; exact hlt)
      obtain ⟨b, o, rfl, hcell⟩ := (HR.out.below HB.out).str hx
      have HE := Lib.hid hx
      have hbx : wr.cell? a = some (.func (.func 134) #[] #[]) := by rw [HB.out.cell (cell_block HX.out)]; exact HX.out
      clear hx
      by_cases hq : exnB x = true
      · go_wp2_with fail
        refine (all1_any x a wr hbx).mono ?_
        rintro e w1 ⟨rfl, hb⟩
        have HB1 := Lib.hid (HB.out.trans (hb.mono HB.out.size))
        clear hb hbx hcell
        go_wp2_with fail
        go_roundw
        case rel => exact ⟨k + 1, by omega, by go_num, by rw [any_take_get HE.out, HNO.out, hq]; rfl, HB1.out⟩
        case measure => simp [intOf]; omega
      · have hq' : exnB x = false := by simpa using hq
        clear hq
        go_wp2_with fail
        refine (all1_any x a wr hbx).mono ?_
        rintro e w1 ⟨rfl, hb⟩
        have HB1 := Lib.hid (HB.out.trans (hb.mono HB.out.size))
        clear hb hbx hcell
        go_wp2_with fail
        go_ret
        exact ⟨⟨k, rfl, by rw [any_get HE.out (by rw [hq']; rfl)]; simp⟩, HB1.out⟩
    · go_wp2_with fail
      go_ret
      have h := HNO.out
      rw [take_full (by rw [HN.out]; omega)] at h
      exact ⟨⟨-1, rfl, by rw [h]; simp⟩, HB.out⟩

theorem str_containsFunc_any (a : Addr) (p : Option Addr) (n cap : Nat) (l : List ByteArray) (w : World) (hn : l.length = n) (hm : n ≤ 9223372036854775807) (hr : RowE encS 1 w p l)
    (hbox : w.cell? a = some (.func (.func 134) #[] #[])) :
    Calls Tryz.prog 164 #[.slice p n cap, .func (.func 165) #[] #[.pointer (some a)]] w fun e w' =>
      e = .returned (.bool (l.any (fun s => !exnB s))) ∧ Below w.heap.size w w' := by
  have hc := str_indexFunc_any a p n cap l w hn hm hr hbox
  generalize l.any (fun s => !exnB s) = q at hc ⊢
  clear hr hn hbox
  go_enter Tryz.func164, Tryz.ntmps164
  go_wp2_with fail
  refine hc.mono ?_
  rintro e w1 ⟨⟨r, rfl, hr⟩, hb⟩
  have HR := Lib.hid hr
  have HB := Lib.hid hb
  clear hr hb hc
  go_wp2_with fail
  go_ret
  exact ⟨ret_bool HR.out.symm, HB.out⟩

theorem words_all_any (p : Option Addr) (n cap : Nat) (l : List ByteArray) (w : World) (hn : l.length = n) (hm : n ≤ 9223372036854775807) (hr : RowE encS 1 w p l) :
    Calls Tryz.prog 133 #[.func (.func 134) #[] #[], .slice p n cap] w fun e w' => e = .returned (.bool (l.all exnB)) ∧ Below w.heap.size w w' := by
  have hc := fun o => str_containsFunc_any ⟨w.heap.size, 0, none⟩ p n cap l (w.alloc o) hn hm (hr.alloc o)
  have he : Hid (l.all exnB = !l.any (fun s => !exnB s)) := by show l.all exnB = !l.any (fun s => !exnB s); rw [List.all_eq_not_any_not]
  have HC := Lib.hid hc
  clear hr hn hc
  go_enter Tryz.func133, Tryz.ntmps133
  go_wp2_with fail
  refine (HC.out _ (by rw [cell_new]; rfl)).mono ?_
  rintro e w1 ⟨rfl, hb⟩
  have HB : Hid (Below w.heap.size w w1) := ((Below.refl _ w).alloc (Nat.le_refl _) _).trans (hb.mono (by simp))
  clear hb
  generalize l.any (fun s => !exnB s) = q at *
  go_wp2_with fail
  go_ret
  exact ⟨ret_bool he.out.symm, HB.out⟩

theorem words_Exn_any (p : Option Addr) (n cap : Nat) (l : List ByteArray) (w : World) (hn : l.length = n) (hm : n ≤ 9223372036854775807) (hr : RowE encS 1 w p l) :
    Calls Tryz.prog 108 #[.slice p n cap] w fun e w' => e = .returned (.bool (l.all exnB)) ∧ Below w.heap.size w w' := by
  have hc := words_all_any p n cap l w hn hm hr
  generalize l.all exnB = q at *
  clear hr hn
  go_enter Tryz.func108, Tryz.ntmps108
  go_wp2_with fail
  refine hc.mono ?_
  rintro e w1 ⟨rfl, hb⟩
  have HB := Lib.hid hb
  clear hb hc
  go_wp2_with fail
  go_ret
  exact ⟨rfl, HB.out⟩

/-- enclaveref02.shape: first a class, then letters and digits. -/
def refShape (s : ByteArray) (first : Int) : Bool := shapedB s first

theorem inCls_word (c : Int) : inCls [3, 4, 2] c = decide (2 ≤ cls c ∧ cls c ≤ 4) := by
  unfold inCls cls
  repeat' split
  all_goals rfl

set_option maxHeartbeats 400000 in
theorem ref_shape_any (s : ByteArray) (first : Int) (w : World) :
    Calls Tryz.prog 64 #[.string s, .int .u8 first] w fun e w' => e = .returned (.bool (shapedB s first)) ∧ Below w.heap.size w w' := by
  by_cases h0 : s.size = 0
  · have hr : Hid (shapedB s first = false) := by show shapedB s first = false; simp [shapedB, h0]
    go_enter Tryz.func64, Tryz.ntmps64
    go_wp2_with fail
    go_ret
    exact ⟨ret_bool hr.out.symm, Below.refl _ _⟩
  · have hpos : 0 < s.size := by omega
    have hz : (((s.size : Nat) : Int) == 0) = false := by rw [beq_eq_false_iff_ne]; omega
    clear h0
    by_cases h16 : 16 < s.size
    · have hr : Hid (shapedB s first = false) := by show shapedB s first = false; simp [shapedB]; intro _ h; omega
      go_enter Tryz.func64, Tryz.ntmps64
      go_wp2_with fail
      go_ret
      exact ⟨ret_bool hr.out.symm, Below.refl _ _⟩
    · have h16' : s.size ≤ 16 := by omega
      clear h16
      have HH := Lib.hid (bytesI_head s hpos)
      have hc : (0 : Int) ≤ ((s[0].toNat : Nat) : Int) ∧ ((s[0].toNat : Nat) : Int) ≤ 255 := by have := s[0].toNat_lt; omega
      obtain ⟨c0, c1⟩ := hc
      by_cases hf : cls ((s[0].toNat : Nat) : Int) = first
      · have HF := Lib.hid hf
        have hbne : (cls ((s[0].toNat : Nat) : Int) != first) = false := by rw [hf]; simp
        clear hf
        have hr : Hid (shapedB s first = (bytesI s).all (inCls [3, 4, 2])) := by
          show shapedB s first = _
          unfold shapedB
          rw [HH.out, HF.out]
          simp [hpos, h16']
        go_enter Tryz.func64, Tryz.ntmps64
        go_wp2_with fail
        refine (ref_class_any _ c0 c1 _).mono ?_
        rintro e w1 ⟨rfl, hb⟩
        have HB := Lib.hid hb
        clear hb
        go_wp2_with fail
        go_loopw [5] (fun i wr => ∃ k : Nat, k ≤ s.size ∧ i = .int .i64 k ∧ ((bytesI s).take k).all (inCls [3, 4, 2]) = true ∧ Below w.heap.size w wr) (fun i _ => s.size - (intOf i).toNat)
        case atStart => exact ⟨0, by omega, rfl, by simp, HB.out⟩
        case round =>
          obtain ⟨k, hk, rfl, hall, hb⟩ := hrel
          have HA := Lib.hid hall
          have HB := Lib.hid hb
          clear hall hb
          by_cases hlt : k < s.size
          · have hx := Lib.hid (bytesI_get s k hlt)
            have hc : (0 : Int) ≤ ((s[k].toNat : Nat) : Int) ∧ ((s[k].toNat : Nat) : Int) ≤ 255 := by have := s[k].toNat_lt; omega
            obtain ⟨d0, d1⟩ := hc
            have hin := Lib.hid (inCls_word ((s[k].toNat : Nat) : Int))
            go_wp2_with fail
            refine (ref_class_any _ d0 d1 _).mono ?_
            rintro e w2 ⟨rfl, hb⟩
            have HB2 := Lib.hid (HB.out.trans (hb.mono HB.out.size))
            clear hb
            generalize cls ((s[k].toNat : Nat) : Int) = cc at *
            by_cases h2 : cc < 2
            · go_wp2_with fail
              go_ret
              refine ⟨ret_bool ?_, HB2.out⟩
              rw [hr.out, all_get hx.out (by rw [hin.out]; simp; omega)]
            · by_cases h4 : 4 < cc
              · have h2' : 2 ≤ cc := by omega
                go_wp2_with fail
                go_ret
                refine ⟨ret_bool ?_, HB2.out⟩
                rw [hr.out, all_get hx.out (by rw [hin.out]; simp; omega)]
              · have h2' : 2 ≤ cc := by omega
                have h4' : cc ≤ 4 := by omega
                clear h2 h4
                go_wp2_with fail
                go_roundw
                case rel => exact ⟨k + 1, by omega, by go_num, by rw [all_take_get hx.out, HA.out, hin.out]; simp; omega, HB2.out⟩
                case measure => simp [intOf]; omega
          · go_wp2_with fail
            go_ret
            refine ⟨ret_bool ?_, HB.out⟩
            have h := HA.out
            rw [take_full (by rw [bytesI_len]; omega)] at h
            rw [hr.out, h]
      · have hbne : (cls ((s[0].toNat : Nat) : Int) != first) = true := by simpa using hf
        have hr : Hid (shapedB s first = false) := by
          show shapedB s first = false
          unfold shapedB
          rw [HH.out]
          simp [hf]
        clear hf
        go_enter Tryz.func64, Tryz.ntmps64
        go_wp2_with fail
        refine (ref_class_any _ c0 c1 _).mono ?_
        rintro e w1 ⟨rfl, hb⟩
        have HB := Lib.hid hb
        clear hb
        go_wp2_with fail
        go_ret
        exact ⟨ret_bool hr.out.symm, HB.out⟩

theorem ref_Exn_any (s : ByteArray) (w : World) :
    Calls Tryz.prog 62 #[.string s] w fun e w' => e = .returned (.bool (exnB s)) ∧ Below w.heap.size w w' := by
  have hc := ref_shape_any s 4 w
  change Calls _ _ _ w fun e w' => e = .returned (.bool (exnB s)) ∧ Below w.heap.size w w' at hc
  generalize exnB s = q at hc ⊢
  go_enter Tryz.func62, Tryz.ntmps62
  go_wp2_with fail
  refine hc.mono ?_
  rintro e w1 ⟨rfl, hb⟩
  have HB := Lib.hid hb
  clear hb hc
  go_wp2_with fail
  go_ret
  exact ⟨rfl, HB.out⟩
end Go.Proofs.YtdlbjngpohkglaaGreatDoor
end
section
set_option linter.unusedVariables false
set_option maxRecDepth 100000
set_option linter.unusedSimpArgs false
namespace Go.Proofs.YtdlbjngpohkglaaGreatDoor

theorem bl_irrefl : ∀ x : List UInt8, Op.bytesLess x x = false
  | [] => rfl
  | a :: x => by simp [Op.bytesLess, bl_irrefl x]
theorem bl_trans : ∀ x y z : List UInt8, Op.bytesLess x y = true → Op.bytesLess y z = true → Op.bytesLess x z = true
  | _, _, [], _, h => by cases ‹List UInt8› <;> simp [Op.bytesLess] at h
  | _, [], _ :: _, h, _ => by cases ‹List UInt8› <;> simp [Op.bytesLess] at h
  | [], _ :: _, _ :: _, _, _ => rfl
  | a :: x, b :: y, c :: z, h, h' => by
    simp only [Op.bytesLess, Bool.or_eq_true, Bool.and_eq_true, decide_eq_true_eq, beq_iff_eq, UInt8.lt_iff_toNat_lt] at *
    rcases h with h | ⟨h, hx⟩ <;> rcases h' with h' | ⟨h', hy⟩
    · left; omega
    · subst h'; left; omega
    · subst h; left; omega
    · subst h; subst h'; exact .inr ⟨rfl, bl_trans x y z hx hy⟩
theorem bl_tri : ∀ x y : List UInt8, Op.bytesLess x y = false → Op.bytesLess y x = false → x = y
  | [], [], _, _ => rfl
  | [], _ :: _, h, _ => by simp [Op.bytesLess] at h
  | _ :: _, [], _, h => by simp [Op.bytesLess] at h
  | a :: x, b :: y, h, h' => by
    simp only [Op.bytesLess, Bool.or_eq_false_iff, Bool.and_eq_false_iff, decide_eq_false_iff_not, beq_eq_false_iff_ne, UInt8.lt_iff_toNat_lt] at *
    have e : a = b := by apply UInt8.toNat_inj.1; omega
    subst e
    rw [bl_tri x y (by simpa using h.2) (by simpa using h'.2)]

theorem toList_inj {s t : ByteArray} (h : s.toList = t.toList) : s = t := by
  rw [Lib.toList_data, Lib.toList_data] at h
  rw [← Lib.mk_data s, ← Lib.mk_data t, h]

/-- An atom, as it lies: three cells. -/
structure Atom where
  kind : Int
  rho : Int
  exn : ByteArray
deriving DecidableEq, Inhabited

/-- Is one ahead of another? -/
def Atom.lt (a b : Atom) : Bool :=
  if a.kind = b.kind then (if a.rho = b.rho then Op.bytesLess a.exn.toList b.exn.toList else decide (a.rho < b.rho)) else decide (a.kind < b.kind)

theorem Atom.lt_irrefl (a : Atom) : Atom.lt a a = false := by simp [Atom.lt, bl_irrefl]
theorem Atom.lt_trans {a b c : Atom} (h : Atom.lt a b = true) (h' : Atom.lt b c = true) : Atom.lt a c = true := by
  unfold Atom.lt at *
  by_cases k1 : a.kind = b.kind
  · by_cases k2 : b.kind = c.kind
    · rw [if_pos k1] at h; rw [if_pos k2] at h'; rw [if_pos (k1.trans k2)]
      by_cases r1 : a.rho = b.rho
      · by_cases r2 : b.rho = c.rho
        · rw [if_pos r1] at h; rw [if_pos r2] at h'; rw [if_pos (r1.trans r2)]
          exact bl_trans _ _ _ h h'
        · rw [if_neg r2] at h'; rw [if_neg (by omega)]
          simp at h' ⊢; omega
      · rw [if_neg r1] at h
        by_cases r2 : b.rho = c.rho
        · rw [if_neg (by omega)]; simp at h ⊢; omega
        · rw [if_neg r2] at h'; simp at h h'; rw [if_neg (by omega)]; simp; omega
    · rw [if_neg k2] at h'; rw [if_neg (by omega)]; simp at h' ⊢; omega
  · rw [if_neg k1] at h
    by_cases k2 : b.kind = c.kind
    · rw [if_neg (by omega)]; simp at h ⊢; omega
    · rw [if_neg k2] at h'; simp at h h'; rw [if_neg (by omega)]; simp; omega
theorem Atom.lt_tri {a b : Atom} (h : Atom.lt a b = false) (h' : Atom.lt b a = false) : a = b := by
  unfold Atom.lt at *
  by_cases k1 : a.kind = b.kind
  · rw [if_pos k1] at h; rw [if_pos k1.symm] at h'
    by_cases r1 : a.rho = b.rho
    · rw [if_pos r1] at h; rw [if_pos r1.symm] at h'
      obtain ⟨ak, ar, ae⟩ := a
      obtain ⟨bk, br, be⟩ := b
      simp only at k1 r1 h h'
      rw [k1, r1, toList_inj (bl_tri _ _ h h')]
    · rw [if_neg r1] at h; rw [if_neg (fun e => r1 e.symm)] at h'; simp at h h'; omega
  · rw [if_neg k1] at h; rw [if_neg (fun e => k1 e.symm)] at h'; simp at h h'; omega

/-- Strictly rising by lt. -/
def Rising {α : Type} (lt : α → α → Bool) (l : List α) : Prop := l.Pairwise (fun a b => lt a b = true)

/-- Two strictly rising lists of the same members are one. -/
theorem rising_unique {α : Type} {lt : α → α → Bool} (irr : ∀ a, lt a a = false) (tr : ∀ a b c, lt a b = true → lt b c = true → lt a c = true) :
    ∀ {l m : List α}, Rising lt l → Rising lt m → (∀ a, a ∈ l ↔ a ∈ m) → l = m
  | [], [], _, _, _ => rfl
  | [], b :: m, _, _, h => absurd ((h b).2 (List.mem_cons_self ..)) List.not_mem_nil
  | a :: l, [], _, _, h => absurd ((h a).1 (List.mem_cons_self ..)) List.not_mem_nil
  | a :: l, b :: m, hl, hm, h => by
    obtain ⟨ha, hl'⟩ := List.pairwise_cons.1 hl
    obtain ⟨hb, hm'⟩ := List.pairwise_cons.1 hm
    have e : a = b := by
      rcases List.mem_cons.1 ((h a).1 (List.mem_cons_self ..)) with e | e
      · exact e
      · rcases List.mem_cons.1 ((h b).2 (List.mem_cons_self ..)) with e' | e'
        · exact e'.symm
        · have := tr _ _ _ (ha b e') (hb a e)
          rw [irr] at this; cases this
    subst e
    rw [rising_unique irr tr hl' hm' (fun x => ?_)]
    constructor
    · intro hx
      rcases List.mem_cons.1 ((h x).1 (List.mem_cons_of_mem _ hx)) with e | e
      · subst e; have := ha _ hx; rw [irr] at this; cases this
      · exact e
    · intro hx
      rcases List.mem_cons.1 ((h x).2 (List.mem_cons_of_mem _ hx)) with e | e
      · subst e; have := hb _ hx; rw [irr] at this; cases this
      · exact e

/-- One more, put to its place; none twice. -/
def insertR {α : Type} (lt : α → α → Bool) (a : α) : List α → List α
  | [] => [a]
  | b :: l => if lt a b then a :: b :: l else if lt b a then b :: insertR lt a l else b :: l

theorem mem_insertR {α : Type} {lt : α → α → Bool} (tri : ∀ a b, lt a b = false → lt b a = false → a = b) (a x : α) : ∀ l : List α, x ∈ insertR lt a l ↔ x = a ∨ x ∈ l
  | [] => by simp [insertR]
  | b :: l => by
    unfold insertR
    by_cases h1 : lt a b = true
    · rw [if_pos h1]; simp
    · rw [if_neg h1]
      by_cases h2 : lt b a = true
      · rw [if_pos h2, List.mem_cons, mem_insertR tri a x l, List.mem_cons]
        constructor
        · rintro (h | h | h)
          · exact .inr (.inl h)
          · exact .inl h
          · exact .inr (.inr h)
        · rintro (h | h | h)
          · exact .inr (.inl h)
          · exact .inl h
          · exact .inr (.inr h)
      · rw [if_neg h2]
        have e : a = b := tri a b (by simpa using h1) (by simpa using h2)
        subst e
        simp

theorem rising_insertR {α : Type} {lt : α → α → Bool} (tr : ∀ a b c, lt a b = true → lt b c = true → lt a c = true) (tri : ∀ a b, lt a b = false → lt b a = false → a = b) (a : α) :
    ∀ {l : List α}, Rising lt l → Rising lt (insertR lt a l)
  | [], _ => by simp [insertR, Rising]
  | b :: l, h => by
    obtain ⟨hb, hl⟩ := List.pairwise_cons.1 h
    unfold insertR
    by_cases h1 : lt a b = true
    · rw [if_pos h1]
      refine List.pairwise_cons.2 ⟨fun x hx => ?_, h⟩
      rcases List.mem_cons.1 hx with e | e
      · subst e; exact h1
      · exact tr _ _ _ h1 (hb x e)
    · rw [if_neg h1]
      by_cases h2 : lt b a = true
      · rw [if_pos h2]
        refine List.pairwise_cons.2 ⟨fun x hx => ?_, rising_insertR tr tri a hl⟩
        rcases (mem_insertR tri a x l).1 hx with e | e
        · subst e; exact h2
        · exact hb x e
      · rw [if_neg h2]; exact h

/-- All, put to their places. -/
def sortR {α : Type} (lt : α → α → Bool) : List α → List α
  | [] => []
  | a :: l => insertR lt a (sortR lt l)

theorem mem_sortR {α : Type} {lt : α → α → Bool} (tri : ∀ a b, lt a b = false → lt b a = false → a = b) (x : α) : ∀ l : List α, x ∈ sortR lt l ↔ x ∈ l
  | [] => by simp [sortR]
  | a :: l => by rw [sortR, mem_insertR tri, mem_sortR tri x l, List.mem_cons]
theorem rising_sortR {α : Type} {lt : α → α → Bool} (tr : ∀ a b c, lt a b = true → lt b c = true → lt a c = true) (tri : ∀ a b, lt a b = false → lt b a = false → a = b) :
    ∀ l : List α, Rising lt (sortR lt l)
  | [] => by simp [sortR, Rising]
  | a :: l => rising_insertR tr tri a (rising_sortR tr tri l)

/-- A rising list of just those members is the sorted one. -/
theorem eq_sortR {α : Type} {lt : α → α → Bool} (irr : ∀ a, lt a a = false) (tr : ∀ a b c, lt a b = true → lt b c = true → lt a c = true) (tri : ∀ a b, lt a b = false → lt b a = false → a = b)
    {l m : List α} (hr : Rising lt m) (hm : ∀ a, a ∈ m ↔ a ∈ l) : m = sortR lt l :=
  rising_unique irr tr hr (rising_sortR tr tri l) (fun a => by rw [hm, mem_sortR tri])

abbrev sortA : List Atom → List Atom := sortR Atom.lt
def ltI (a b : Int) : Bool := decide (a < b)
abbrev sortI : List Int → List Int := sortR ltI
theorem ltI_irrefl (a : Int) : ltI a a = false := by simp [ltI]
theorem ltI_trans (a b c : Int) (h : ltI a b = true) (h' : ltI b c = true) : ltI a c = true := by simp [ltI] at *; omega
theorem ltI_tri (a b : Int) (h : ltI a b = false) (h' : ltI b a = false) : a = b := by simp [ltI] at *; omega
theorem Atom.lt_trans' (a b c : Atom) (h : Atom.lt a b = true) (h' : Atom.lt b c = true) : Atom.lt a c = true := Atom.lt_trans h h'
theorem Atom.lt_tri' (a b : Atom) (h : Atom.lt a b = false) (h' : Atom.lt b a = false) : a = b := Atom.lt_tri h h'
theorem eq_sortA {l m : List Atom} (hr : Rising Atom.lt m) (hm : ∀ a, a ∈ m ↔ a ∈ l) : m = sortA l :=
  eq_sortR Atom.lt_irrefl Atom.lt_trans' Atom.lt_tri' hr hm
theorem eq_sortI {l m : List Int} (hr : Rising ltI m) (hm : ∀ a, a ∈ m ↔ a ∈ l) : m = sortI l :=
  eq_sortR ltI_irrefl ltI_trans ltI_tri hr hm
theorem mem_sortA (x : Atom) (l : List Atom) : x ∈ sortA l ↔ x ∈ l := mem_sortR Atom.lt_tri' x l
theorem rising_sortA (l : List Atom) : Rising Atom.lt (sortA l) := rising_sortR Atom.lt_trans' Atom.lt_tri' l
theorem mem_sortI (x : Int) (l : List Int) : x ∈ sortI l ↔ x ∈ l := mem_sortR ltI_tri x l
theorem rising_sortI (l : List Int) : Rising ltI (sortI l) := rising_sortR ltI_trans ltI_tri l
/-- the same members, the same sorted -/
theorem sortA_congr {l m : List Atom} (h : ∀ a, a ∈ l ↔ a ∈ m) : sortA l = sortA m := eq_sortA (rising_sortA l) (fun a => by rw [mem_sortA, h])
theorem sortI_congr {l m : List Int} (h : ∀ a, a ∈ l ↔ a ∈ m) : sortI l = sortI m := eq_sortI (rising_sortI l) (fun a => by rw [mem_sortI, h])

/-- slices.Compact: of equal neighbours the first. -/
def compactL {α : Type} [DecidableEq α] : List α → List α
  | [] => []
  | [a] => [a]
  | a :: b :: l => if a = b then compactL (b :: l) else a :: compactL (b :: l)

theorem mem_compactL {α : Type} [DecidableEq α] (x : α) : ∀ l : List α, x ∈ compactL l ↔ x ∈ l
  | [] => Iff.rfl
  | [a] => Iff.rfl
  | a :: b :: l => by
    unfold compactL
    by_cases h : a = b
    · rw [if_pos h, mem_compactL x (b :: l), List.mem_cons (a := x) (b := a)]
      subst h; simp
    · rw [if_neg h, List.mem_cons, mem_compactL x (b :: l), List.mem_cons (a := x) (b := a)]

/-- not falling: none behind one is less -/
def NoFall {α : Type} (lt : α → α → Bool) (l : List α) : Prop := l.Pairwise (fun a b => lt b a = false)

theorem rising_compactL {α : Type} [DecidableEq α] {lt : α → α → Bool} (tr : ∀ a b c, lt a b = true → lt b c = true → lt a c = true) (tri : ∀ a b, lt a b = false → lt b a = false → a = b) :
    ∀ {l : List α}, NoFall lt l → Rising lt (compactL l)
  | [], _ => by simp [compactL, Rising]
  | [a], _ => by simp [compactL, Rising]
  | a :: b :: l, h => by
    obtain ⟨ha, hl⟩ := List.pairwise_cons.1 h
    unfold compactL
    by_cases e : a = b
    · rw [if_pos e]; exact rising_compactL tr tri hl
    · rw [if_neg e]
      refine List.pairwise_cons.2 ⟨fun x hx => ?_, rising_compactL tr tri hl⟩
      have hx' := (mem_compactL x (b :: l)).1 hx
      have hab : lt a b = true := by
        cases hab : lt a b with
        | true => rfl
        | false => exact absurd (tri a b hab (ha b (List.mem_cons_self ..))) e
      rcases List.mem_cons.1 hx' with e' | e'
      · subst e'; exact hab
      · cases hax : lt a x with
        | true => rfl
        | false =>
          have hxa : lt x a = false := ha x hx'
          have : a = x := tri a x hax hxa
          subst this
          have hb := (List.pairwise_cons.1 hl).1 a e'
          rw [hab] at hb; cases hb
end Go.Proofs.YtdlbjngpohkglaaGreatDoor
end
