/- Part 2: Exn, Atom, Eff1, Eff2. -/
import Derived.Test.YtkdjnegfnhldpaaGreatDoorH01
import GoSem.Op.String
import Derived.Lib.Strings
import Derived.StillTailTactics
import Derived.Sort.Grow
import Derived.Deep.QuietTactic
import Derived.BigQuiet
set_option linter.unusedVariables false
set_option maxRecDepth 100000
set_option linter.unusedSimpArgs false
namespace Go.Proofs.YtkdjnegfnhldpaaGreatDoor
open Go.Lib (hid)
section
open Go.RowKit
def exnB (s : ByteArray) : Bool := shapedB s 4
theorem exn1_any (s : ByteArray) (w : World) :
    Calls Tryz.prog 211 #[.string s] w fun e w' => e = .returned (.bool (exnB s)) ∧ Below w.heap.size w w' := by
  go_enter Tryz.func211, Tryz.ntmps211
  go_wp2_with fail
  refine (shaped_any s 4 w).mono ?_
  rintro e w1 ⟨rfl, hb⟩
  have HB := hid hb
  clear hb
  go_wp2_with fail
  go_ret
  exact ⟨rfl, HB.out⟩
theorem all1_any (s : ByteArray) (a : Addr) (w : World) (hbox : w.cell? a = some (.func (.func 211) #[] #[])) :
    Calls Tryz.prog 247 #[.string s, .pointer (some a)] w fun e w' => e = .returned (.bool (!exnB s)) ∧ Below w.heap.size w w' := by
  go_enter Tryz.func247, Tryz.ntmps247
  go_wp2_with fail
  refine (exn1_any s w).mono ?_
  rintro e w1 ⟨rfl, hb⟩
  have HB := hid hb
  clear hb
  go_wp2_with fail
  go_ret
  exact ⟨rfl, HB.out⟩
theorem str_indexFunc_any (a : Addr) (p : Option Addr) (n cap : Nat) (l : List ByteArray) (w : World) (hn : l.length = n) (hm : n ≤ 9223372036854775807) (hr : RowE encS 1 w p l)
    (hbox : w.cell? a = some (.func (.func 211) #[] #[])) :
    Calls Tryz.prog 262 #[.slice p n cap, .func (.func 247) #[] #[.pointer (some a)]] w fun e w' =>
      (∃ r : Int, e = .returned (.int .i64 r) ∧ (l.any (fun s => !exnB s) = decide (0 ≤ r))) ∧ Below w.heap.size w w' := by
  have HR := hid hr
  have HN := hid hn
  have HX := hid hbox
  clear hr hn hbox
  go_enter Tryz.func262, Tryz.ntmps262
  go_wp2_with fail
  go_loopw [5, 8] (fun _ i wr => ∃ k : Nat, k ≤ n ∧ i = .int .i64 k ∧ (l.take k).any (fun s => !exnB s) = false ∧ Below w.heap.size w wr) (fun _ i _ => n - (intOf i).toNat)
  case atStart => exact ⟨0, by omega, rfl, by simp, Below.refl _ _⟩
  case round =>
    obtain ⟨k, hk, rfl, hno, hb⟩ := hrel
    have HNO := hid hno
    have HB := hid hb
    clear hno hb
    by_cases hlt : k < n
    · obtain ⟨x, hx⟩ := get_of_lt (l := l) (j := k) (by rw [HN.out]; exact hlt)
      obtain ⟨b, o, rfl, hcell⟩ := (HR.out.below HB.out).str hx
      have HE := hid hx
      have hbx : wr.cell? a = some (.func (.func 211) #[] #[]) := by rw [HB.out.cell (cell_block HX.out)]; exact HX.out
      clear hx
      by_cases hq : exnB x = true
      · go_wp2_with fail
        refine (all1_any x a wr hbx).mono ?_
        rintro e w1 ⟨rfl, hb⟩
        have HB1 := hid (HB.out.trans (hb.mono HB.out.size))
        clear hb hbx hcell
        go_wp2_with fail
        go_roundw
        case rel => exact ⟨k + 1, by omega, by go_num, by rw [any_take_get HE.out, HNO.out, hq]; rfl, HB1.out⟩
        case measure => simp [intOf]; omega
      · have hq' : exnB x = false := by simpa using hq
        clear hq
        go_wp2_with fail
        refine (all1_any x a wr hbx).mono ?_
        rintro e w1 ⟨rfl, hb⟩
        have HB1 := hid (HB.out.trans (hb.mono HB.out.size))
        clear hb hbx hcell
        go_wp2_with fail
        go_ret
        exact ⟨⟨k, rfl, by rw [any_get HE.out (by rw [hq']; rfl)]; simp⟩, HB1.out⟩
    · go_wp2_with fail
      go_ret
      have h := HNO.out
      rw [take_full (by rw [HN.out]; omega)] at h
      exact ⟨⟨-1, rfl, by rw [h]; simp⟩, HB.out⟩
theorem str_containsFunc_any (a : Addr) (p : Option Addr) (n cap : Nat) (l : List ByteArray) (w : World) (hn : l.length = n) (hm : n ≤ 9223372036854775807) (hr : RowE encS 1 w p l)
    (hbox : w.cell? a = some (.func (.func 211) #[] #[])) :
    Calls Tryz.prog 246 #[.slice p n cap, .func (.func 247) #[] #[.pointer (some a)]] w fun e w' =>
      e = .returned (.bool (l.any (fun s => !exnB s))) ∧ Below w.heap.size w w' := by
  have hc := str_indexFunc_any a p n cap l w hn hm hr hbox
  generalize l.any (fun s => !exnB s) = q at hc ⊢
  clear hr hn hbox
  go_enter Tryz.func246, Tryz.ntmps246
  go_wp2_with fail
  refine hc.mono ?_
  rintro e w1 ⟨⟨r, rfl, hr⟩, hb⟩
  have HR := hid hr
  have HB := hid hb
  clear hr hb hc
  go_wp2_with fail
  go_ret
  exact ⟨ret_bool HR.out.symm, HB.out⟩
theorem words_all_any (p : Option Addr) (n cap : Nat) (l : List ByteArray) (w : World) (hn : l.length = n) (hm : n ≤ 9223372036854775807) (hr : RowE encS 1 w p l) :
    Calls Tryz.prog 210 #[.func (.func 211) #[] #[], .slice p n cap] w fun e w' => e = .returned (.bool (l.all exnB)) ∧ Below w.heap.size w w' := by
  have hc := fun o => str_containsFunc_any ⟨w.heap.size, 0, none⟩ p n cap l (w.alloc o) hn hm (hr.alloc o)
  have he : Hid (l.all exnB = !l.any (fun s => !exnB s)) := by show l.all exnB = !l.any (fun s => !exnB s); rw [List.all_eq_not_any_not]
  have HC := hid hc
  clear hr hn hc
  go_enter Tryz.func210, Tryz.ntmps210
  go_wp2_with fail
  refine (HC.out _ (by rw [cell_new]; rfl)).mono ?_
  rintro e w1 ⟨rfl, hb⟩
  have HB : Hid (Below w.heap.size w w1) := ((Below.refl _ w).alloc (Nat.le_refl _) _).trans (hb.mono (by simp))
  clear hb
  generalize l.any (fun s => !exnB s) = q at *
  go_wp2_with fail
  go_ret
  exact ⟨ret_bool he.out.symm, HB.out⟩
theorem words_Exn_any (p : Option Addr) (n cap : Nat) (l : List ByteArray) (w : World) (hn : l.length = n) (hm : n ≤ 9223372036854775807) (hr : RowE encS 1 w p l) :
    Calls Tryz.prog 174 #[.slice p n cap] w fun e w' => e = .returned (.bool (l.all exnB)) ∧ Below w.heap.size w w' := by
  have hc := words_all_any p n cap l w hn hm hr
  generalize l.all exnB = q at *
  clear hr hn
  go_enter Tryz.func174, Tryz.ntmps174
  go_wp2_with fail
  refine hc.mono ?_
  rintro e w1 ⟨rfl, hb⟩
  have HB := hid hb
  clear hb hc
  go_wp2_with fail
  go_ret
  exact ⟨rfl, HB.out⟩
theorem inCls_word (c : Int) : inCls [3, 4, 2] c = decide (2 ≤ cls c ∧ cls c ≤ 4) := by
  unfold inCls cls
  repeat' split
  all_goals rfl
set_option maxHeartbeats 400000 in
theorem ref_shape_any (s : ByteArray) (first : Int) (w : World) :
    Calls Tryz.prog 81 #[.string s, .int .u8 first] w fun e w' => e = .returned (.bool (shapedB s first)) ∧ Below w.heap.size w w' := by
  by_cases h0 : s.size = 0
  · have hr : Hid (shapedB s first = false) := by show shapedB s first = false; simp [shapedB, h0]
    go_enter Tryz.func81, Tryz.ntmps81
    go_wp2_with fail
    go_ret
    exact ⟨ret_bool hr.out.symm, Below.refl _ _⟩
  · have hpos : 0 < s.size := by omega
    have hz : (((s.size : Nat) : Int) == 0) = false := by rw [beq_eq_false_iff_ne]; omega
    clear h0
    by_cases h16 : 16 < s.size
    · have hr : Hid (shapedB s first = false) := by show shapedB s first = false; simp [shapedB]; intro _ h; omega
      go_enter Tryz.func81, Tryz.ntmps81
      go_wp2_with fail
      go_ret
      exact ⟨ret_bool hr.out.symm, Below.refl _ _⟩
    · have h16' : s.size ≤ 16 := by omega
      clear h16
      have HH := hid (bytesI_head s hpos)
      have hc : (0 : Int) ≤ ((s[0].toNat : Nat) : Int) ∧ ((s[0].toNat : Nat) : Int) ≤ 255 := by have := s[0].toNat_lt; omega
      obtain ⟨c0, c1⟩ := hc
      by_cases hf : cls ((s[0].toNat : Nat) : Int) = first
      · have HF := hid hf
        have hbne : (cls ((s[0].toNat : Nat) : Int) != first) = false := by rw [hf]; simp
        clear hf
        have hr : Hid (shapedB s first = (bytesI s).all (inCls [3, 4, 2])) := by
          show shapedB s first = _
          unfold shapedB
          rw [HH.out, HF.out]
          simp [hpos, h16']
        go_enter Tryz.func81, Tryz.ntmps81
        go_wp2_with fail
        refine (ref_class_any _ c0 c1 _).mono ?_
        rintro e w1 ⟨rfl, hb⟩
        have HB := hid hb
        clear hb
        go_wp2_with fail
        go_loopw [5] (fun i wr => ∃ k : Nat, k ≤ s.size ∧ i = .int .i64 k ∧ ((bytesI s).take k).all (inCls [3, 4, 2]) = true ∧ Below w.heap.size w wr) (fun i _ => s.size - (intOf i).toNat)
        case atStart => exact ⟨0, by omega, rfl, by simp, HB.out⟩
        case round =>
          obtain ⟨k, hk, rfl, hall, hb⟩ := hrel
          have HA := hid hall
          have HB := hid hb
          clear hall hb
          by_cases hlt : k < s.size
          · have hx := hid (bytesI_get s k hlt)
            have hc : (0 : Int) ≤ ((s[k].toNat : Nat) : Int) ∧ ((s[k].toNat : Nat) : Int) ≤ 255 := by have := s[k].toNat_lt; omega
            obtain ⟨d0, d1⟩ := hc
            have hin := hid (inCls_word ((s[k].toNat : Nat) : Int))
            go_wp2_with fail
            refine (ref_class_any _ d0 d1 _).mono ?_
            rintro e w2 ⟨rfl, hb⟩
            have HB2 := hid (HB.out.trans (hb.mono HB.out.size))
            clear hb
            generalize cls ((s[k].toNat : Nat) : Int) = cc at *
            by_cases h2 : cc < 2
            · go_wp2_with fail
              go_ret
              refine ⟨ret_bool ?_, HB2.out⟩
              rw [hr.out, all_get hx.out (by rw [hin.out]; simp; omega)]
            · by_cases h4 : 4 < cc
              · have h2' : 2 ≤ cc := by omega
                go_wp2_with fail
                go_ret
                refine ⟨ret_bool ?_, HB2.out⟩
                rw [hr.out, all_get hx.out (by rw [hin.out]; simp; omega)]
              · have h2' : 2 ≤ cc := by omega
                have h4' : cc ≤ 4 := by omega
                clear h2 h4
                go_wp2_with fail
                go_roundw
                case rel => exact ⟨k + 1, by omega, by go_num, by rw [all_take_get hx.out, HA.out, hin.out]; simp; omega, HB2.out⟩
                case measure => simp [intOf]; omega
          · go_wp2_with fail
            go_ret
            refine ⟨ret_bool ?_, HB.out⟩
            have h := HA.out
            rw [take_full (by rw [bytesI_len]; omega)] at h
            rw [hr.out, h]
      · have hbne : (cls ((s[0].toNat : Nat) : Int) != first) = true := by simpa using hf
        have hr : Hid (shapedB s first = false) := by
          show shapedB s first = false
          unfold shapedB
          rw [HH.out]
          simp [hf]
        clear hf
        go_enter Tryz.func81, Tryz.ntmps81
        go_wp2_with fail
        refine (ref_class_any _ c0 c1 _).mono ?_
        rintro e w1 ⟨rfl, hb⟩
        have HB := hid hb
        clear hb
        go_wp2_with fail
        go_ret
        exact ⟨ret_bool hr.out.symm, HB.out⟩
theorem ref_Exn_any (s : ByteArray) (w : World) :
    Calls Tryz.prog 48 #[.string s] w fun e w' => e = .returned (.bool (exnB s)) ∧ Below w.heap.size w w' := by
  have hc := ref_shape_any s 4 w
  change Calls _ _ _ w fun e w' => e = .returned (.bool (exnB s)) ∧ Below w.heap.size w w' at hc
  generalize exnB s = q at hc ⊢
  go_enter Tryz.func48, Tryz.ntmps48
  go_wp2_with fail
  refine hc.mono ?_
  rintro e w1 ⟨rfl, hb⟩
  have HB := hid hb
  clear hb hc
  go_wp2_with fail
  go_ret
  exact ⟨rfl, HB.out⟩
end
section
theorem bl_irrefl : ∀ x : List UInt8, Op.bytesLess x x = false
  | [] => rfl
  | a :: x => by simp [Op.bytesLess, bl_irrefl x]
theorem bl_trans : ∀ x y z : List UInt8, Op.bytesLess x y = true → Op.bytesLess y z = true → Op.bytesLess x z = true
  | _, _, [], _, h => by cases ‹List UInt8› <;> simp [Op.bytesLess] at h
  | _, [], _ :: _, h, _ => by cases ‹List UInt8› <;> simp [Op.bytesLess] at h
  | [], _ :: _, _ :: _, _, _ => rfl
  | a :: x, b :: y, c :: z, h, h' => by
    simp only [Op.bytesLess, Bool.or_eq_true, Bool.and_eq_true, decide_eq_true_eq, beq_iff_eq, UInt8.lt_iff_toNat_lt] at *
    rcases h with h | ⟨h, hx⟩ <;> rcases h' with h' | ⟨h', hy⟩
    · left; omega
    · subst h'; left; omega
    · subst h; left; omega
    · subst h; subst h'; exact .inr ⟨rfl, bl_trans x y z hx hy⟩
theorem bl_tri : ∀ x y : List UInt8, Op.bytesLess x y = false → Op.bytesLess y x = false → x = y
  | [], [], _, _ => rfl
  | [], _ :: _, h, _ => by simp [Op.bytesLess] at h
  | _ :: _, [], _, h => by simp [Op.bytesLess] at h
  | a :: x, b :: y, h, h' => by
    simp only [Op.bytesLess, Bool.or_eq_false_iff, Bool.and_eq_false_iff, decide_eq_false_iff_not, beq_eq_false_iff_ne, UInt8.lt_iff_toNat_lt] at *
    have e : a = b := by apply UInt8.toNat_inj.1; omega
    subst e
    rw [bl_tri x y (by simpa using h.2) (by simpa using h'.2)]
theorem toList_inj {s t : ByteArray} (h : s.toList = t.toList) : s = t := by
  rw [Lib.toList_data, Lib.toList_data] at h
  rw [← Lib.mk_data s, ← Lib.mk_data t, h]
structure Atom where
  kind : Int
  rho : Int
  exn : ByteArray
deriving DecidableEq, Inhabited
def Atom.lt (a b : Atom) : Bool :=
  if a.kind = b.kind then (if a.rho = b.rho then Op.bytesLess a.exn.toList b.exn.toList else decide (a.rho < b.rho)) else decide (a.kind < b.kind)
theorem Atom.lt_irrefl (a : Atom) : Atom.lt a a = false := by simp [Atom.lt, bl_irrefl]
theorem Atom.lt_trans {a b c : Atom} (h : Atom.lt a b = true) (h' : Atom.lt b c = true) : Atom.lt a c = true := by
  unfold Atom.lt at *
  by_cases k1 : a.kind = b.kind
  · by_cases k2 : b.kind = c.kind
    · rw [if_pos k1] at h; rw [if_pos k2] at h'; rw [if_pos (k1.trans k2)]
      by_cases r1 : a.rho = b.rho
      · by_cases r2 : b.rho = c.rho
        · rw [if_pos r1] at h; rw [if_pos r2] at h'; rw [if_pos (r1.trans r2)]
          exact bl_trans _ _ _ h h'
        · rw [if_neg r2] at h'; rw [if_neg (by omega)]
          simp at h' ⊢; omega
      · rw [if_neg r1] at h
        by_cases r2 : b.rho = c.rho
        · rw [if_neg (by omega)]; simp at h ⊢; omega
        · rw [if_neg r2] at h'; simp at h h'; rw [if_neg (by omega)]; simp; omega
    · rw [if_neg k2] at h'; rw [if_neg (by omega)]; simp at h' ⊢; omega
  · rw [if_neg k1] at h
    by_cases k2 : b.kind = c.kind
    · rw [if_neg (by omega)]; simp at h ⊢; omega
    · rw [if_neg k2] at h'; simp at h h'; rw [if_neg (by omega)]; simp; omega
theorem Atom.lt_tri {a b : Atom} (h : Atom.lt a b = false) (h' : Atom.lt b a = false) : a = b := by
  unfold Atom.lt at *
  by_cases k1 : a.kind = b.kind
  · rw [if_pos k1] at h; rw [if_pos k1.symm] at h'
    by_cases r1 : a.rho = b.rho
    · rw [if_pos r1] at h; rw [if_pos r1.symm] at h'
      obtain ⟨ak, ar, ae⟩ := a
      obtain ⟨bk, br, be⟩ := b
      simp only at k1 r1 h h'
      rw [k1, r1, toList_inj (bl_tri _ _ h h')]
    · rw [if_neg r1] at h; rw [if_neg (fun e => r1 e.symm)] at h'; simp at h h'; omega
  · rw [if_neg k1] at h; rw [if_neg (fun e => k1 e.symm)] at h'; simp at h h'; omega
def Rising {α : Type} (lt : α → α → Bool) (l : List α) : Prop := l.Pairwise (fun a b => lt a b = true)
theorem rising_unique {α : Type} {lt : α → α → Bool} (irr : ∀ a, lt a a = false) (tr : ∀ a b c, lt a b = true → lt b c = true → lt a c = true) :
    ∀ {l m : List α}, Rising lt l → Rising lt m → (∀ a, a ∈ l ↔ a ∈ m) → l = m
  | [], [], _, _, _ => rfl
  | [], b :: m, _, _, h => absurd ((h b).2 (List.mem_cons_self ..)) List.not_mem_nil
  | a :: l, [], _, _, h => absurd ((h a).1 (List.mem_cons_self ..)) List.not_mem_nil
  | a :: l, b :: m, hl, hm, h => by
    obtain ⟨ha, hl'⟩ := List.pairwise_cons.1 hl
    obtain ⟨hb, hm'⟩ := List.pairwise_cons.1 hm
    have e : a = b := by
      rcases List.mem_cons.1 ((h a).1 (List.mem_cons_self ..)) with e | e
      · exact e
      · rcases List.mem_cons.1 ((h b).2 (List.mem_cons_self ..)) with e' | e'
        · exact e'.symm
        · have := tr _ _ _ (ha b e') (hb a e)
          rw [irr] at this; cases this
    subst e
    rw [rising_unique irr tr hl' hm' (fun x => ?_)]
    constructor
    · intro hx
      rcases List.mem_cons.1 ((h x).1 (List.mem_cons_of_mem _ hx)) with e | e
      · subst e; have := ha _ hx; rw [irr] at this; cases this
      · exact e
    · intro hx
      rcases List.mem_cons.1 ((h x).2 (List.mem_cons_of_mem _ hx)) with e | e
      · subst e; have := hb _ hx; rw [irr] at this; cases this
      · exact e
def insertR {α : Type} (lt : α → α → Bool) (a : α) : List α → List α
  | [] => [a]
  | b :: l => if lt a b then a :: b :: l else if lt b a then b :: insertR lt a l else b :: l
theorem mem_insertR {α : Type} {lt : α → α → Bool} (tri : ∀ a b, lt a b = false → lt b a = false → a = b) (a x : α) : ∀ l : List α, x ∈ insertR lt a l ↔ x = a ∨ x ∈ l
  | [] => by simp [insertR]
  | b :: l => by
    unfold insertR
    by_cases h1 : lt a b = true
    · rw [if_pos h1]; simp
    · rw [if_neg h1]
      by_cases h2 : lt b a = true
      · rw [if_pos h2, List.mem_cons, mem_insertR tri a x l, List.mem_cons]
        constructor
        · rintro (h | h | h)
          · exact .inr (.inl h)
          · exact .inl h
          · exact .inr (.inr h)
        · rintro (h | h | h)
          · exact .inr (.inl h)
          · exact .inl h
          · exact .inr (.inr h)
      · rw [if_neg h2]
        have e : a = b := tri a b (by simpa using h1) (by simpa using h2)
        subst e
        simp
theorem rising_insertR {α : Type} {lt : α → α → Bool} (tr : ∀ a b c, lt a b = true → lt b c = true → lt a c = true) (tri : ∀ a b, lt a b = false → lt b a = false → a = b) (a : α) :
    ∀ {l : List α}, Rising lt l → Rising lt (insertR lt a l)
  | [], _ => by simp [insertR, Rising]
  | b :: l, h => by
    obtain ⟨hb, hl⟩ := List.pairwise_cons.1 h
    unfold insertR
    by_cases h1 : lt a b = true
    · rw [if_pos h1]
      refine List.pairwise_cons.2 ⟨fun x hx => ?_, h⟩
      rcases List.mem_cons.1 hx with e | e
      · subst e; exact h1
      · exact tr _ _ _ h1 (hb x e)
    · rw [if_neg h1]
      by_cases h2 : lt b a = true
      · rw [if_pos h2]
        refine List.pairwise_cons.2 ⟨fun x hx => ?_, rising_insertR tr tri a hl⟩
        rcases (mem_insertR tri a x l).1 hx with e | e
        · subst e; exact h2
        · exact hb x e
      · rw [if_neg h2]; exact h
def sortR {α : Type} (lt : α → α → Bool) : List α → List α
  | [] => []
  | a :: l => insertR lt a (sortR lt l)
theorem mem_sortR {α : Type} {lt : α → α → Bool} (tri : ∀ a b, lt a b = false → lt b a = false → a = b) (x : α) : ∀ l : List α, x ∈ sortR lt l ↔ x ∈ l
  | [] => by simp [sortR]
  | a :: l => by rw [sortR, mem_insertR tri, mem_sortR tri x l, List.mem_cons]
theorem rising_sortR {α : Type} {lt : α → α → Bool} (tr : ∀ a b c, lt a b = true → lt b c = true → lt a c = true) (tri : ∀ a b, lt a b = false → lt b a = false → a = b) :
    ∀ l : List α, Rising lt (sortR lt l)
  | [] => by simp [sortR, Rising]
  | a :: l => rising_insertR tr tri a (rising_sortR tr tri l)
theorem eq_sortR {α : Type} {lt : α → α → Bool} (irr : ∀ a, lt a a = false) (tr : ∀ a b c, lt a b = true → lt b c = true → lt a c = true) (tri : ∀ a b, lt a b = false → lt b a = false → a = b)
    {l m : List α} (hr : Rising lt m) (hm : ∀ a, a ∈ m ↔ a ∈ l) : m = sortR lt l :=
  rising_unique irr tr hr (rising_sortR tr tri l) (fun a => by rw [hm, mem_sortR tri])
abbrev sortA : List Atom → List Atom := sortR Atom.lt
def ltI (a b : Int) : Bool := decide (a < b)
abbrev sortI : List Int → List Int := sortR ltI
theorem ltI_irrefl (a : Int) : ltI a a = false := by simp [ltI]
theorem ltI_trans (a b c : Int) (h : ltI a b = true) (h' : ltI b c = true) : ltI a c = true := by simp [ltI] at *; omega
theorem ltI_tri (a b : Int) (h : ltI a b = false) (h' : ltI b a = false) : a = b := by simp [ltI] at *; omega
theorem Atom.lt_trans' (a b c : Atom) (h : Atom.lt a b = true) (h' : Atom.lt b c = true) : Atom.lt a c = true := Atom.lt_trans h h'
theorem Atom.lt_tri' (a b : Atom) (h : Atom.lt a b = false) (h' : Atom.lt b a = false) : a = b := Atom.lt_tri h h'
theorem eq_sortA {l m : List Atom} (hr : Rising Atom.lt m) (hm : ∀ a, a ∈ m ↔ a ∈ l) : m = sortA l :=
  eq_sortR Atom.lt_irrefl Atom.lt_trans' Atom.lt_tri' hr hm
theorem eq_sortI {l m : List Int} (hr : Rising ltI m) (hm : ∀ a, a ∈ m ↔ a ∈ l) : m = sortI l :=
  eq_sortR ltI_irrefl ltI_trans ltI_tri hr hm
theorem mem_sortA (x : Atom) (l : List Atom) : x ∈ sortA l ↔ x ∈ l := mem_sortR Atom.lt_tri' x l
theorem rising_sortA (l : List Atom) : Rising Atom.lt (sortA l) := rising_sortR Atom.lt_trans' Atom.lt_tri' l
theorem mem_sortI (x : Int) (l : List Int) : x ∈ sortI l ↔ x ∈ l := mem_sortR ltI_tri x l
theorem rising_sortI (l : List Int) : Rising ltI (sortI l) := rising_sortR ltI_trans ltI_tri l
theorem sortA_congr {l m : List Atom} (h : ∀ a, a ∈ l ↔ a ∈ m) : sortA l = sortA m := eq_sortA (rising_sortA l) (fun a => by rw [mem_sortA, h])
theorem sortI_congr {l m : List Int} (h : ∀ a, a ∈ l ↔ a ∈ m) : sortI l = sortI m := eq_sortI (rising_sortI l) (fun a => by rw [mem_sortI, h])
end
section
open Go.RowKit
def encA (a : Atom) : List Value := [.int .u8 a.kind, .int .i64 a.rho, .string a.exn]
theorem encA_len (a : Atom) : (encA a).length = 3 := rfl
def atomB (a : Atom) : Bool :=
  if a.kind = 1 ∨ a.kind = 2 then decide (0 ≤ a.rho) && a.exn.toList.isEmpty else if a.kind = 3 then decide (a.rho = 0) && exnB a.exn else false
set_option maxHeartbeats 400000 in
theorem atom_any (a : Atom) (w : World) :
    Calls Tryz.prog 127 #[.agg #[.int .u8 a.kind, .int .i64 a.rho, .string a.exn]] w fun e w' => e = .returned (.bool (atomB a)) ∧ Below w.heap.size w w' := by
  obtain ⟨k, r, s⟩ := a
  by_cases h12 : k = 1 ∨ k = 2
  · have hr : Hid (atomB ⟨k, r, s⟩ = (decide (0 ≤ r) && s.toList.isEmpty)) := by show atomB ⟨k, r, s⟩ = _; simp [atomB, h12]
    by_cases h0 : 0 ≤ r
    · cases he : s.toList.isEmpty
      · have he' : (s.toList == []) = false := by rw [beq_eq_false_iff_ne]; intro e; rw [e] at he; cases he
        rcases h12 with rfl | rfl
        all_goals
          go_enter Tryz.func127, Tryz.ntmps127
          go_wp2_with fail
          go_ret
          exact ⟨ret_bool (by rw [hr.out]; simp [h0, he]), (Below.refl _ _).alloc (Nat.le_refl _) _⟩
      · have he' : s.toList = [] := by simpa using he
        rcases h12 with rfl | rfl
        all_goals
          go_enter Tryz.func127, Tryz.ntmps127
          go_wp2_with fail
          go_ret
          exact ⟨ret_bool (by rw [hr.out]; simp [h0, he]), (Below.refl _ _).alloc (Nat.le_refl _) _⟩
    · rcases h12 with rfl | rfl
      all_goals
        go_enter Tryz.func127, Tryz.ntmps127
        go_wp2_with fail
        go_ret
        exact ⟨ret_bool (by rw [hr.out]; simp; omega), (Below.refl _ _).alloc (Nat.le_refl _) _⟩
  · have k1 : (k == 1) = false := by rw [beq_eq_false_iff_ne]; omega
    have k2 : (k == 2) = false := by rw [beq_eq_false_iff_ne]; omega
    by_cases h3 : k = 3
    · subst h3
      by_cases h0 : r = 0
      · subst h0
        have hr : Hid (atomB ⟨3, 0, s⟩ = exnB s) := by show atomB ⟨3, 0, s⟩ = _; simp [atomB]
        have hc := fun W hrow => words_Exn_any (some ⟨w.heap.size + 1, 0, none⟩) 1 1 [s] W rfl (by omega) hrow
        have he : Hid ([s].all exnB = exnB s) := by show [s].all exnB = exnB s; simp
        have HC := hid hc
        clear hc
        go_enter Tryz.func127, Tryz.ntmps127
        go_wp2_with fail
        refine (HC.out _ (RowE.newAt encS_len _ [s] _ rfl _ (0, 0) _ (by simp))).mono ?_
        rintro e w1 ⟨rfl, hb⟩
        have HB : Hid (Below w.heap.size w w1) := (((Below.refl _ w).alloc (Nat.le_refl _) _).alloc (by simp) _).trans (hb.mono (by simp; omega))
        clear hb
        rw [he.out]
        go_wp2_with fail
        go_ret
        exact ⟨ret_bool hr.out.symm, HB.out⟩
      · have hr : Hid (atomB ⟨3, r, s⟩ = false) := by show atomB ⟨3, r, s⟩ = _; simp [atomB, h0]
        have r0 : (r == 0) = false := by rw [beq_eq_false_iff_ne]; exact h0
        go_enter Tryz.func127, Tryz.ntmps127
        go_wp2_with fail
        go_ret
        exact ⟨ret_bool hr.out.symm, (Below.refl _ _).alloc (Nat.le_refl _) _⟩
    · have hr : Hid (atomB ⟨k, r, s⟩ = false) := by show atomB ⟨k, r, s⟩ = _; simp [atomB, h12, h3]
      have k3 : (k == 3) = false := by rw [beq_eq_false_iff_ne]; exact h3
      go_enter Tryz.func127, Tryz.ntmps127
      go_wp2_with fail
      go_ret
      exact ⟨ret_bool hr.out.symm, (Below.refl _ _).alloc (Nat.le_refl _) _⟩
set_option maxHeartbeats 400000 in
theorem ref_Atom_any (a : Atom) (w : World) :
    Calls Tryz.prog 23 #[.agg #[.int .u8 a.kind, .int .i64 a.rho, .string a.exn]] w fun e w' => e = .returned (.bool (atomB a)) ∧ Below w.heap.size w w' := by
  obtain ⟨k, r, s⟩ := a
  by_cases h3 : k = 3
  · subst h3
    by_cases h0 : r = 0
    · subst h0
      have hr : Hid (atomB ⟨3, 0, s⟩ = exnB s) := by show atomB ⟨3, 0, s⟩ = _; simp [atomB]
      go_enter Tryz.func23, Tryz.ntmps23
      go_wp2_with fail
      refine (ref_Exn_any s _).mono ?_
      rintro e w1 ⟨rfl, hb⟩
      have HB : Hid (Below w.heap.size w w1) := ((Below.refl _ w).alloc (Nat.le_refl _) _).trans (hb.mono (by simp))
      clear hb
      go_wp2_with fail
      go_ret
      exact ⟨ret_bool hr.out.symm, HB.out⟩
    · have hr : Hid (atomB ⟨3, r, s⟩ = false) := by show atomB ⟨3, r, s⟩ = _; simp [atomB, h0]
      have r0 : (r == 0) = false := by rw [beq_eq_false_iff_ne]; exact h0
      go_enter Tryz.func23, Tryz.ntmps23
      go_wp2_with fail
      go_ret
      exact ⟨ret_bool hr.out.symm, (Below.refl _ _).alloc (Nat.le_refl _) _⟩
  · have k3 : (k == 3) = false := by rw [beq_eq_false_iff_ne]; exact h3
    by_cases h12 : k = 1 ∨ k = 2
    · have hr : Hid (atomB ⟨k, r, s⟩ = (decide (0 ≤ r) && s.toList.isEmpty)) := by show atomB ⟨k, r, s⟩ = _; simp [atomB, h12]
      by_cases h0 : 0 ≤ r
      · cases he : s.toList.isEmpty
        · have he' : (s.toList == []) = false := by rw [beq_eq_false_iff_ne]; intro e; rw [e] at he; cases he
          rcases h12 with rfl | rfl
          all_goals
            go_enter Tryz.func23, Tryz.ntmps23
            go_wp2_with fail
            go_ret
            exact ⟨ret_bool (by rw [hr.out]; simp [h0, he]), (Below.refl _ _).alloc (Nat.le_refl _) _⟩
        · have he' : s.toList = [] := by simpa using he
          rcases h12 with rfl | rfl
          all_goals
            go_enter Tryz.func23, Tryz.ntmps23
            go_wp2_with fail
            go_ret
            exact ⟨ret_bool (by rw [hr.out]; simp [h0, he]), (Below.refl _ _).alloc (Nat.le_refl _) _⟩
      · rcases h12 with rfl | rfl
        all_goals
          go_enter Tryz.func23, Tryz.ntmps23
          go_wp2_with fail
          go_ret
          exact ⟨ret_bool (by rw [hr.out]; simp; omega), (Below.refl _ _).alloc (Nat.le_refl _) _⟩
    · have k1 : (k == 1) = false := by rw [beq_eq_false_iff_ne]; omega
      have k2 : (k == 2) = false := by rw [beq_eq_false_iff_ne]; omega
      have hr : Hid (atomB ⟨k, r, s⟩ = false) := by show atomB ⟨k, r, s⟩ = _; simp [atomB, h12, h3]
      go_enter Tryz.func23, Tryz.ntmps23
      go_wp2_with fail
      go_ret
      exact ⟨ret_bool hr.out.symm, (Below.refl _ _).alloc (Nat.le_refl _) _⟩
end
section
open Go.RowKit Go.Sort
def cmpZ (a b : Int) : Int := if a < b then -1 else if b < a then 1 else 0
def cmpS (s t : ByteArray) : Int := if Op.bytesLess s.toList t.toList then -1 else if Op.bytesLess t.toList s.toList then 1 else 0
def cmpA (a b : Atom) : Int := if cmpZ a.kind b.kind ≠ 0 then cmpZ a.kind b.kind else if cmpZ a.rho b.rho ≠ 0 then cmpZ a.rho b.rho else cmpS a.exn b.exn
theorem cmp8_any (a b : Int) (w : World) : Calls Tryz.prog 176 #[.int .u8 a, .int .u8 b] w fun e w' => e = .returned (.int .i64 (cmpZ a b)) ∧ w' = w := by
  rcases (by omega : a < b ∨ b < a ∨ a = b) with h | h | rfl
  · have hr : Hid (cmpZ a b = -1) := by show cmpZ a b = -1; simp [cmpZ, h]
    go_enter Tryz.func176, Tryz.ntmps176
    go_wp2
    go_ret
    exact ⟨ret_int hr.out.symm, rfl⟩
  · have h' : ¬ a < b := by omega
    have hr : Hid (cmpZ a b = 1) := by show cmpZ a b = 1; simp [cmpZ, h, h']
    clear h'
    have h'' : b ≤ a := by omega
    go_enter Tryz.func176, Tryz.ntmps176
    go_wp2
    go_ret
    exact ⟨ret_int hr.out.symm, rfl⟩
  · have hr : Hid (cmpZ a a = 0) := by show cmpZ a a = 0; simp [cmpZ]
    go_enter Tryz.func176, Tryz.ntmps176
    go_wp2
    go_ret
    exact ⟨ret_int hr.out.symm, rfl⟩
theorem cmp64_any (a b : Int) (w : World) : Calls Tryz.prog 177 #[.int .i64 a, .int .i64 b] w fun e w' => e = .returned (.int .i64 (cmpZ a b)) ∧ w' = w := by
  rcases (by omega : a < b ∨ b < a ∨ a = b) with h | h | rfl
  · have hr : Hid (cmpZ a b = -1) := by show cmpZ a b = -1; simp [cmpZ, h]
    go_enter Tryz.func177, Tryz.ntmps177
    go_wp2
    go_ret
    exact ⟨ret_int hr.out.symm, rfl⟩
  · have h' : ¬ a < b := by omega
    have hr : Hid (cmpZ a b = 1) := by show cmpZ a b = 1; simp [cmpZ, h, h']
    clear h'
    have h'' : b ≤ a := by omega
    go_enter Tryz.func177, Tryz.ntmps177
    go_wp2
    go_ret
    exact ⟨ret_int hr.out.symm, rfl⟩
  · have hr : Hid (cmpZ a a = 0) := by show cmpZ a a = 0; simp [cmpZ]
    go_enter Tryz.func177, Tryz.ntmps177
    go_wp2
    go_ret
    exact ⟨ret_int hr.out.symm, rfl⟩
theorem bl_ne {x y : List UInt8} (h : Op.bytesLess x y = true) : (x == y) = false := by
  rw [beq_eq_false_iff_ne]; intro e; subst e; rw [bl_irrefl] at h; cases h
theorem cmpStr_any (s t : ByteArray) (w : World) : Calls Tryz.prog 178 #[.string s, .string t] w fun e w' => e = .returned (.int .i64 (cmpS s t)) ∧ w' = w := by
  cases h : Op.bytesLess s.toList t.toList
  · cases h' : Op.bytesLess t.toList s.toList
    · have he : s = t := toList_inj (bl_tri _ _ h h')
      subst he
      have hr : Hid (cmpS s s = 0) := by show cmpS s s = 0; simp [cmpS, bl_irrefl]
      clear h'
      go_enter Tryz.func178, Tryz.ntmps178
      go_wp2
      go_ret
      exact ⟨ret_int hr.out.symm, rfl⟩
    · have hne := bl_ne h'
      have hne' : (s.toList == t.toList) = false := by rw [BEq.comm]; exact hne
      have hr : Hid (cmpS s t = 1) := by show cmpS s t = 1; simp [cmpS, h, h']
      go_enter Tryz.func178, Tryz.ntmps178
      go_wp2
      go_ret
      exact ⟨ret_int hr.out.symm, rfl⟩
  · have hr : Hid (cmpS s t = -1) := by show cmpS s t = -1; simp [cmpS, h]
    go_enter Tryz.func178, Tryz.ntmps178
    go_wp2
    go_ret
    exact ⟨ret_int hr.out.symm, rfl⟩
def or3 (a b c : Int) : Int := if a ≠ 0 then a else if b ≠ 0 then b else c
theorem or3_any (a b c : Int) (B : Nat) (w : World) (h0 : w.cell? ⟨B, 0, none⟩ = some (.int .i64 a)) (h1 : w.cell? ⟨B, 1, none⟩ = some (.int .i64 b)) (h2 : w.cell? ⟨B, 2, none⟩ = some (.int .i64 c)) :
    Calls Tryz.prog 175 #[.slice (some ⟨B, 0, none⟩) 3 3] w fun e w' => e = .returned (.int .i64 (or3 a b c)) ∧ w' = w := by
  by_cases ha : a = 0
  · subst ha
    by_cases hb : b = 0
    · subst hb
      have hr : Hid (or3 0 0 c = c) := by show or3 0 0 c = c; simp [or3]
      go_enter Tryz.func175, Tryz.ntmps175
      go_wp2_with fail
      go_loop [5, 8] (fun _ i => ∃ k : Nat, k ≤ 3 ∧ i = .int .i64 k ∧ (3 ≤ k → c = 0)) (fun _ i => 3 - (intOf i).toNat)
      case atStart => exact ⟨0, by omega, rfl, by omega⟩
      case round =>
        obtain ⟨k, hk, rfl, hc⟩ := hrel
        rcases (by omega : k = 0 ∨ k = 1 ∨ k = 2 ∨ k = 3) with rfl | rfl | rfl | rfl
        · clear hc
          go_wp2_with fail
          go_round
          case rel => exact ⟨1, by omega, rfl, by omega⟩
          case measure => simp [intOf]
        · clear hc
          go_wp2_with fail
          go_round
          case rel => exact ⟨2, by omega, rfl, by omega⟩
          case measure => simp [intOf]
        · clear hc
          by_cases hc : c = 0
          · subst hc
            go_wp2_with fail
            go_round
            case rel => exact ⟨3, by omega, rfl, by simp⟩
            case measure => simp [intOf]
          · have hcb : (c != 0) = true := by simpa using hc
            have HC := hid hc
            clear hc
            go_wp2_with fail
            go_ret
            exact ⟨ret_int hr.out.symm, rfl⟩
        · have hc0 : c = 0 := hc (by omega)
          subst hc0
          go_wp2_with fail
          go_ret
          exact ⟨ret_int hr.out.symm, rfl⟩
    · have hr : Hid (or3 0 b c = b) := by show or3 0 b c = b; simp [or3, hb]
      have hbb : (b != 0) = true := by simpa using hb
      have HB := hid hb
      clear hb
      go_enter Tryz.func175, Tryz.ntmps175
      go_wp2_with fail
      go_loop [5, 8] (fun _ i => ∃ k : Nat, k ≤ 1 ∧ i = .int .i64 k) (fun _ i => 3 - (intOf i).toNat)
      case atStart => exact ⟨0, by omega, rfl⟩
      case round =>
        obtain ⟨k, hk, rfl⟩ := hrel
        rcases (by omega : k = 0 ∨ k = 1) with rfl | rfl
        · go_wp2_with fail
          go_round
          case rel => exact ⟨1, by omega, rfl⟩
          case measure => simp [intOf]
        · go_wp2_with fail
          go_ret
          exact ⟨ret_int hr.out.symm, rfl⟩
  · have hr : Hid (or3 a b c = a) := by show or3 a b c = a; simp [or3, ha]
    have hab : (a != 0) = true := by simpa using ha
    have HA := hid ha
    clear ha
    go_enter Tryz.func175, Tryz.ntmps175
    go_wp2_with fail
    go_loop [5, 8] (fun _ i => i = .int .i64 0) (fun _ i => 0)
    case atStart => rfl
    case round =>
      subst hrel
      go_wp2_with fail
      go_ret
      exact ⟨ret_int hr.out.symm, rfl⟩
theorem cell_newB (W : World) (cs : Array Value) (t : TypeId) (k : Nat) (fr : Nat × Nat) (B : Nat) (h : W.heap.size = B) : (W.alloc (.cells cs t fr)).cell? ⟨B, k, none⟩ = cs[k]? := by
  subst h; exact cell_new W cs t k fr
theorem compare_any (a b : Atom) (W : World) : Calls Tryz.prog 128 #[.agg #[.int .u8 a.kind, .int .i64 a.rho, .string a.exn], .agg #[.int .u8 b.kind, .int .i64 b.rho, .string b.exn]] W fun e w' =>
    e = .returned (.int .i64 (cmpA a b)) ∧ ∃ q os', w' = grow (W.drewN q) os' := by
  go_enter Tryz.func128, Tryz.ntmps128
  go_wp2_with fail
  refine wp_region_still_tail 15 (by kernel_rfl) (by kernel_rfl) ?_
  change wpStill _ _ (World.drew _) _ _ _
  simp only [List.take_succ_cons, List.take_zero, List.drop_succ_cons, List.drop_zero]
  repeat still_step
  still_call (cmp8_any _ _ _)
  repeat still_step
  still_call (cmp64_any _ _ _)
  repeat still_step
  still_call (cmpStr_any _ _ _)
  repeat still_step
  refine wpStill_nil ?_
  change wpList _ _ _ _ _ (World.drew _)
  go_wp2_with fail
  refine (or3_any (cmpZ a.kind b.kind) (cmpZ a.rho b.rho) (cmpS a.exn b.exn) (W.heap.size + 2) _ ?_ ?_ ?_).mono ?_
  · change (World.alloc _ _).cell? _ = _; rw [cell_newB _ _ _ _ (0, 0) _ (by simp)]; rfl
  · change (World.alloc _ _).cell? _ = _; rw [cell_newB _ _ _ _ (0, 0) _ (by simp)]; rfl
  · change (World.alloc _ _).cell? _ = _; rw [cell_newB _ _ _ _ (0, 0) _ (by simp)]; rfl
  · rintro e w' ⟨rfl, rfl⟩
    go_wp2_with fail
    go_ret
    exact ⟨rfl, 1, _, by rw [alloc_eq_grow, alloc_eq_grow, alloc_eq_grow, grow_grow, grow_grow]; rfl⟩
end
end Go.Proofs.YtkdjnegfnhldpaaGreatDoor
