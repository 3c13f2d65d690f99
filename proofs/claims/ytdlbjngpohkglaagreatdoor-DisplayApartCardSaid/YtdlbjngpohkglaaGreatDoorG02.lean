/- Part 2 of the texts: RowE, Words, Exn. -/
import Derived.Test.YtdlbjngpohkglaaGreatDoorG01
import Derived.Laws.IdiomStrings
section
set_option linter.unusedVariables false
set_option maxRecDepth 100000
set_option linter.unusedSimpArgs false
namespace Go.Proofs.YtdlbjngpohkglaaGreatDoor
open Go.RowKit

variable {α : Type}

/-- The cells from p on hold the elements l, each of k cells. -/
def RowE (enc : α → List Value) (k : Nat) (w : World) (p : Option Addr) (l : List α) : Prop :=
  l = [] ∨ ∃ b o, p = some ⟨b, o, none⟩ ∧ b < w.heap.size ∧ ∀ j x, l[j]? = some x → ∀ i v, (enc x)[i]? = some v → w.cell? ⟨b, o + j * k + i, none⟩ = some v

theorem RowE.nil (enc : α → List Value) (k : Nat) (w : World) (p : Option Addr) : RowE enc k w p [] := .inl rfl

theorem RowE.below {enc : α → List Value} {k : Nat} {w w' : World} {p : Option Addr} {l : List α} (h : RowE enc k w p l) (hb : Below w.heap.size w w') : RowE enc k w' p l := by
  rcases h with h | ⟨b, o, hp, hlt, hc⟩
  · exact .inl h
  · exact .inr ⟨b, o, hp, Nat.lt_of_lt_of_le hlt hb.size, fun j x hx i v hv => by rw [hb.cell (p := ⟨b, o + j * k + i, none⟩) hlt]; exact hc j x hx i v hv⟩

theorem RowE.alloc {enc : α → List Value} {k : Nat} {w : World} {p : Option Addr} {l : List α} (h : RowE enc k w p l) (o : Obj) : RowE enc k (w.alloc o) p l := h.below ((Below.refl _ _).alloc (Nat.le_refl _) _)
theorem RowE.drewN {enc : α → List Value} {k : Nat} {w : World} {p : Option Addr} {l : List α} (h : RowE enc k w p l) (n : Nat) : RowE enc k (w.drewN n) p l := h

theorem RowE.at {enc : α → List Value} {k : Nat} {w : World} {p : Option Addr} {l : List α} (h : RowE enc k w p l) (hne : 0 < l.length) :
    ∃ b o, p = some ⟨b, o, none⟩ ∧ b < w.heap.size ∧ ∀ j x, l[j]? = some x → ∀ i v, (enc x)[i]? = some v → w.cell? ⟨b, o + j * k + i, none⟩ = some v := by
  rcases h with h | h
  · subst h; simp at hne
  · exact h

/-- what is known of element j -/
theorem RowE.elem {enc : α → List Value} {k : Nat} {w : World} {p : Option Addr} {l : List α} (h : RowE enc k w p l) {j : Nat} {x : α} (hx : l[j]? = some x) :
    ∃ b o, p = some ⟨b, o, none⟩ ∧ b < w.heap.size ∧ ∀ i v, (enc x)[i]? = some v → w.cell? ⟨b, o + j * k + i, none⟩ = some v := by
  rcases h with h | ⟨b, o, hp, hb, hc⟩
  · subst h; simp at hx
  · exact ⟨b, o, hp, hb, fun i v hv => hc j x hx i v hv⟩

theorem RowE.take {enc : α → List Value} {k : Nat} {w : World} {p : Option Addr} {l : List α} (h : RowE enc k w p l) (n : Nat) : RowE enc k w p (l.take n) := by
  rcases h with h | ⟨b, o, hp, hb, hc⟩
  · subst h; exact .inl (by simp)
  · refine .inr ⟨b, o, hp, hb, fun j x hx i v hv => hc j x ?_ i v hv⟩
    rw [List.getElem?_take] at hx
    split at hx
    · exact hx
    · cases hx

theorem get_lt {l : List α} {j : Nat} {x : α} (h : l[j]? = some x) : j < l.length := (List.getElem?_eq_some_iff.1 h).1
theorem get_of_lt {l : List α} {j : Nat} (h : j < l.length) : ∃ x, l[j]? = some x := ⟨l[j], List.getElem?_eq_getElem h⟩
theorem take_succ_get {l : List α} {j : Nat} {x : α} (h : l[j]? = some x) : l.take (j + 1) = l.take j ++ [x] := by
  obtain ⟨hj, rfl⟩ := List.getElem?_eq_some_iff.1 h
  exact List.take_succ_eq_append_getElem hj
theorem take_full {l : List α} {n : Nat} (h : l.length ≤ n) : l.take n = l := List.take_of_length_le h
theorem any_get {l : List α} {q : α → Bool} {j : Nat} {x : α} (h : l[j]? = some x) (hq : q x = true) : l.any q = true := by
  rw [List.any_eq_true]
  exact ⟨x, List.mem_of_getElem? h, hq⟩
theorem all_get {l : List α} {q : α → Bool} {j : Nat} {x : α} (h : l[j]? = some x) (hq : q x = false) : l.all q = false := by
  rw [List.all_eq_false]
  exact ⟨x, List.mem_of_getElem? h, by simp [hq]⟩
theorem any_take_get {l : List α} {q : α → Bool} {j : Nat} {x : α} (h : l[j]? = some x) : (l.take (j + 1)).any q = ((l.take j).any q || q x) := by
  rw [take_succ_get h, List.any_append]; simp
theorem all_take_get {l : List α} {q : α → Bool} {j : Nat} {x : α} (h : l[j]? = some x) : (l.take (j + 1)).all q = ((l.take j).all q && q x) := by
  rw [take_succ_get h, List.all_append]; simp

/-- elements of k cells, flattened -/
theorem flat_get {enc : α → List Value} {k : Nat} (hk : ∀ x, (enc x).length = k) : ∀ (l : List α) (j : Nat) (x : α) (i : Nat), l[j]? = some x → i < k → (l.flatMap enc)[j * k + i]? = (enc x)[i]?
  | [], j, x, i, h, _ => by simp at h
  | y :: l, 0, x, i, h, hi => by
    simp at h; subst h
    rw [List.flatMap_cons, List.getElem?_append_left (by rw [hk]; omega)]
    simp
  | y :: l, j + 1, x, i, h, hi => by
    simp only [List.getElem?_cons_succ] at h
    rw [List.flatMap_cons, List.getElem?_append_right (by rw [hk, Nat.add_mul]; omega), hk]
    rw [show (j + 1) * k + i - k = j * k + i from by rw [Nat.add_mul]; omega]
    exact flat_get hk l j x i h hi

theorem flat_length {enc : α → List Value} {k : Nat} (hk : ∀ x, (enc x).length = k) (l : List α) : (l.flatMap enc).length = l.length * k := by
  induction l with
  | nil => simp
  | cons a l ih => rw [List.flatMap_cons, List.length_append, hk, ih, List.length_cons, Nat.add_mul]; omega

theorem add_lit' (b o i : Nat) : (⟨b, o, none⟩ : Addr).add i = ⟨b, o + i, none⟩ := by unfold Addr.add; split <;> simp_all

/-- A row of the call's own, read. -/
theorem own_row {enc : α → List Value} {k : Nat} (hk : ∀ x, (enc x).length = k) {w : World} {base e n : Nat} {v : Value} {l : List α} (h : w.ownsRow base e k v n (l.flatMap enc)) (hk0 : 0 < k) :
    ∃ p cap, v = .slice p n cap ∧ l.length = n ∧ n ≤ cap ∧ RowE enc k w p l ∧ cap ≤ maxLen ∧ (p = none → n = 0 ∧ cap = 0) ∧ (∀ a, p = some a → base ≤ a.block ∧ a.off = 0 ∧ a.spot = none ∧ a.block < w.heap.size) := by
  have hl : l.length = n := by
    have := h.1
    rw [flat_length hk] at this
    exact Nat.eq_of_mul_eq_mul_right hk0 this
  rcases h.2 with ⟨rfl, h0⟩ | ⟨g, cap, cur, rfl, hb, hg, hnc, hcm, hsz, htk⟩
  · subst h0
    exact ⟨none, 0, rfl, hl, by omega, .inl (List.length_eq_zero_iff.1 hl), by simp [maxLen], (fun _ => ⟨rfl, rfl⟩), (fun a ha => by cases ha)⟩
  · have hlt : g < w.heap.size := (Array.getElem?_eq_some_iff.1 hg).1
    refine ⟨_, cap, rfl, hl, hnc, .inr ⟨g, 0, rfl, hlt, fun j x hx i v hv => ?_⟩, hcm, (fun e => by cases e), (fun a ha => by cases ha; exact ⟨hb, rfl, rfl, hlt⟩)⟩
    have hi : i < k := by rw [← hk x]; exact get_lt hv
    have hf := flat_get hk l j x i hx hi
    have := h.cells (g := g) rfl (j * k + i) v (by rw [hf]; exact hv)
    rw [add_lit'] at this
    simpa [Nat.add_assoc] using this

/-- strings: one cell each -/
def encS (s : ByteArray) : List Value := [.string s]
theorem encS_len (s : ByteArray) : (encS s).length = 1 := rfl
/-- numbers: one cell each -/
def encN (n : Int) : List Value := [.int .i64 n]
theorem encN_len (n : Int) : (encN n).length = 1 := rfl

theorem RowE.str {w : World} {p : Option Addr} {l : List ByteArray} (h : RowE encS 1 w p l) {j : Nat} {x : ByteArray} (hx : l[j]? = some x) :
    ∃ b o, p = some ⟨b, o, none⟩ ∧ w.cell? ⟨b, o + j, none⟩ = some (.string x) := by
  obtain ⟨b, o, rfl, _, hc⟩ := h.elem hx
  exact ⟨b, o, rfl, by simpa using hc 0 _ rfl⟩
theorem RowE.num {w : World} {p : Option Addr} {l : List Int} (h : RowE encN 1 w p l) {j : Nat} {x : Int} (hx : l[j]? = some x) :
    ∃ b o, p = some ⟨b, o, none⟩ ∧ w.cell? ⟨b, o + j, none⟩ = some (.int .i64 x) := by
  obtain ⟨b, o, rfl, _, hc⟩ := h.elem hx
  exact ⟨b, o, rfl, by simpa using hc 0 _ rfl⟩

/-- a new block of cells, as elements -/
theorem RowE.newAt {enc : α → List Value} {k : Nat} (hk : ∀ x, (enc x).length = k) (w : World) (l : List α) (cs : Array Value) (hcs : cs.toList = l.flatMap enc) (t : TypeId) (fr : Nat × Nat) (b : Nat) (h : w.heap.size = b) :
    RowE enc k (w.alloc (.cells cs t fr)) (some ⟨b, 0, none⟩) l := by
  subst h
  refine .inr ⟨_, 0, rfl, by simp, fun j x hx i v hv => ?_⟩
  rw [cell_new w _ t _ fr, ← Array.getElem?_toList, hcs]
  have hi : i < k := by rw [← hk x]; exact get_lt hv
  have := flat_get hk l j x i hx hi
  rw [Nat.zero_add, this]; exact hv
end Go.Proofs.YtdlbjngpohkglaaGreatDoor
end
section
set_option linter.unusedVariables false
set_option maxRecDepth 100000
set_option linter.unusedSimpArgs false
namespace Go.Proofs.YtdlbjngpohkglaaGreatDoor
open Go.RowKit

/-- a text's bytes, as numbers -/
def bytesI (s : ByteArray) : List Int := s.data.toList.map (fun b => (b.toNat : Int))
theorem bytesI_len (s : ByteArray) : (bytesI s).length = s.size := by simp [bytesI]
theorem bytesI_rng (s : ByteArray) : ∀ x ∈ bytesI s, 0 ≤ x ∧ x ≤ 255 := by
  intro x hx
  simp only [bytesI, List.mem_map] at hx
  obtain ⟨b, _, rfl⟩ := hx
  have := b.toNat_lt
  omega

/-- Is a text shaped so: a first byte of a class, then letters and digits, sixteen at most? -/
def shapedB (s : ByteArray) (first : Int) : Bool := decide (0 < s.size) && decide (s.size ≤ 16) && ((bytesI s).headD 0 |> cls |> (· == first)) && (bytesI s).all (inCls [3, 4, 2])

theorem bytesI_get (s : ByteArray) (j : Nat) (h : j < s.size) : (bytesI s)[j]? = some ((s[j].toNat : Nat) : Int) := by
  have hl : j < s.data.toList.length := by simpa using h
  simp only [bytesI, List.getElem?_map, List.getElem?_eq_getElem hl, Option.map_some]
  rfl
theorem bytesI_head (s : ByteArray) (h : 0 < s.size) : (bytesI s).headD 0 = ((s[0].toNat : Nat) : Int) := by
  have := bytesI_get s 0 h
  rw [List.headD_eq_head?_getD, List.head?_eq_getElem?, this]
  rfl

/-- '[]byte(s)': a new row that holds the text's bytes. -/
theorem bytes_conv (s : ByteArray) (w : World) : ∃ cap C, s.size ≤ cap ∧ Row ((w.alloc (.cells C 5 (C.size, C.size + 1))).drew) (some ⟨w.heap.size, 0, none⟩) (u8s (bytesI s)) ∧
    (convert 9 55 (.string s)).run Tryz.prog w = .ok (.slice (some ⟨w.heap.size, 0, none⟩) s.size cap) ((w.alloc (.cells C 5 (C.size, C.size + 1))).drew) := by
  refine ⟨grownCap w s.size 0 5, bytesRow s (grownCap w s.size 0 5), grownCap_ge _ _ _ _, ?_, run_bytes_of_string w 9 55 5 s Tryz.underlying9 Tryz.underlying55 Tryz.underlying5⟩
  refine .inr ⟨_, _, rfl, fun j hj => ?_⟩
  rw [u8s_length, bytesI_len] at hj
  rw [u8s_getD _ _ (by rw [bytesI_len]; exact hj)]
  show (w.alloc _).cell? _ = _
  rw [cell_new w _ _ _ (_, _), Nat.zero_add, bytesRow_at s _ j hj, List.getD_eq_getElem?_getD, bytesI_get s j hj]
  rfl

theorem tw_all_of {l : List Int} {p : Int → Bool} (h : (l.takeWhile p).length = l.length) : l.all p = true := by
  induction l with
  | nil => rfl
  | cons x r ih =>
    rw [List.takeWhile_cons] at h
    cases hx : p x with
    | false => rw [hx] at h; simp at h
    | true => rw [hx] at h; simp at h; simp [hx, ih h]

theorem spanOf_eq_len (xs cl : List Int) : (spanOf xs cl 0 = xs.length) ↔ xs.all (inCls cl) = true := by
  unfold spanOf
  rw [if_neg (by omega)]
  simp only [Int.toNat_zero, List.drop_zero]
  constructor
  · exact tw_all_of
  · exact tw_all

theorem shaped_any (s : ByteArray) (first : Int) (w : World) :
    Calls Tryz.prog 135 #[.string s, .int .u8 first] w fun e w' => e = .returned (.bool (shapedB s first)) ∧ Below w.heap.size w w' := by
  by_cases h0 : s.size = 0
  · have hs : s.toList = [] := by rw [Lib.toList_data, ← List.length_eq_zero_iff, ← Lib.size_eq]; exact h0
    have hs' : s.toList.isEmpty = true := by rw [hs]; rfl
    have hr : Hid (shapedB s first = false) := by show shapedB s first = false; simp [shapedB, h0]
    go_enter Tryz.func135, Tryz.ntmps135
    go_wp2_with fail
    go_ret
    exact ⟨ret_bool hr.out.symm, Below.refl _ _⟩
  · have hpos : 0 < s.size := by omega
    have hs : (s.toList == []) = false := by
      rw [beq_eq_false_iff_ne]
      intro e
      rw [Lib.toList_data] at e
      have : s.size = 0 := by rw [Lib.size_eq, e]; rfl
      omega
    have hs' : s.toList.isEmpty = false := by rw [List.isEmpty_eq_false_iff]; simpa using hs
    by_cases h16 : 16 < s.size
    · have hr : Hid (shapedB s first = false) := by show shapedB s first = false; simp [shapedB]; intro _ h; omega
      go_enter Tryz.func135, Tryz.ntmps135
      go_wp2_with fail
      go_ret
      exact ⟨ret_bool hr.out.symm, Below.refl _ _⟩
    · have h16' : s.size ≤ 16 := by omega
      have hh := bytesI_head s hpos
      have hc : (0 : Int) ≤ ((s[0].toNat : Nat) : Int) ∧ ((s[0].toNat : Nat) : Int) ≤ 255 := by have := s[0].toNat_lt; omega
      obtain ⟨c0, c1⟩ := hc
      obtain ⟨cap, C, hcap, hrow, kc⟩ := bytes_conv s w
      have HR := Lib.hid hrow
      have HH := Lib.hid hh
      clear hrow hh h16
      by_cases hf : cls ((s[0].toNat : Nat) : Int) = first
      · have HF := Lib.hid hf
        have hbne : (cls ((s[0].toNat : Nat) : Int) != first) = false := by rw [hf]; simp
        clear hf
        have hr : Hid (shapedB s first = decide (spanOf (bytesI s) [3, 4, 2] 0 = s.size)) := by
          show shapedB s first = _
          unfold shapedB
          rw [HH.out, HF.out]
          have := spanOf_eq_len (bytesI s) [3, 4, 2]
          rw [bytesI_len] at this
          simp only [hpos, h16', decide_true, Bool.true_and, beq_self_eq_true]
          rw [Bool.eq_iff_iff, decide_eq_true_eq, this]
        go_enter Tryz.func135, Tryz.ntmps135
        go_wp2_with fail
        refine (class_any _ c0 c1 _).mono ?_
        rintro e w1 ⟨rfl, rfl⟩
        go_wp2_with fail
        refine (span_any (some ⟨w.heap.size, 0, none⟩) s.size cap 0 _ 3 3 (bytesI s) [3, 4, 2] _ (bytesI_len s) (by omega) hcap (bytesI_rng s) ?_ rfl (by omega) ?_).mono ?_
        · exact HR.out.alloc _
        · exact Row.newAt _ (u8s [3, 4, 2]) 5 (0, 0) _ (by simp)
        · rintro e w1 ⟨rfl, hb⟩
          have HB : Hid (Below w.heap.size w w1) := (((Below.refl _ w).alloc (Nat.le_refl _) _).drew.alloc (by simp) _).trans (hb.mono (by simp; omega))
          clear hb
          go_wp2_with fail
          go_ret
          refine ⟨ret_bool ?_, HB.out⟩
          rw [hr.out, Bool.eq_iff_iff, decide_eq_true_eq, beq_iff_eq]
          omega
      · have hbne : (cls ((s[0].toNat : Nat) : Int) != first) = true := by simpa using hf
        have hr : Hid (shapedB s first = false) := by
          show shapedB s first = false
          unfold shapedB
          rw [HH.out]
          simp [hf]
        clear kc HR hcap hf
        go_enter Tryz.func135, Tryz.ntmps135
        go_wp2_with fail
        refine (class_any _ c0 c1 _).mono ?_
        rintro e w1 ⟨rfl, rfl⟩
        go_wp2_with fail
        go_ret
        exact ⟨ret_bool hr.out.symm, Below.refl _ _⟩
end Go.Proofs.YtdlbjngpohkglaaGreatDoor
end
section
set_option linter.unusedVariables false
set_option maxRecDepth 100000
set_option linter.unusedSimpArgs false
namespace Go.Proofs.YtdlbjngpohkglaaGreatDoor
open Go.RowKit

/-- Is it an exception's name? -/
def exnB (s : ByteArray) : Bool := shapedB s 4

theorem exn1_any (s : ByteArray) (w : World) :
    Calls Tryz.prog 134 #[.string s] w fun e w' => e = .returned (.bool (exnB s)) ∧ Below w.heap.size w w' := by
  go_enter Tryz.func134, Tryz.ntmps134
  go_wp2_with fail
  refine (shaped_any s 4 w).mono ?_
  rintro e w1 ⟨rfl, hb⟩
  have HB := Lib.hid hb
  clear hb
  go_wp2_with fail
  go_ret
  exact ⟨rfl, HB.out⟩

/-- the closure of words.all over words.Exn$1 -/
theorem all1_any (s : ByteArray) (a : Addr) (w : World) (hbox : w.cell? a = some (.func (.func 134) #[] #[])) :
    Calls Tryz.prog 165 #[.string s, .pointer (some a)] w fun e w' => e = .returned (.bool (!exnB s)) ∧ Below w.heap.size w w' := by
  go_enter Tryz.func165, Tryz.ntmps165
  go_wp2_with fail
  refine (exn1_any s w).mono ?_
  rintro e w1 ⟨rfl, hb⟩
  have HB := Lib.hid hb
  clear hb
  go_wp2_with fail
  go_ret
  exact ⟨rfl, HB.out⟩

theorem str_indexFunc_any (a : Addr) (p : Option Addr) (n cap : Nat) (l : List ByteArray) (w : World) (hn : l.length = n) (hm : n ≤ 9223372036854775807) (hr : RowE encS 1 w p l)
    (hbox : w.cell? a = some (.func (.func 134) #[] #[])) :
    Calls Tryz.prog 184 #[.slice p n cap, .func (.func 165) #[] #[.pointer (some a)]] w fun e w' =>
      (∃ r : Int, e = .returned (.int .i64 r) ∧ (l.any (fun s => !exnB s) = decide (0 ≤ r))) ∧ Below w.heap.size w w' := by
  have HR := Lib.hid hr
  have HN := Lib.hid hn
  have HX := Lib.hid hbox
  clear hr hn hbox
  go_enter Tryz.func184, Tryz.ntmps184
  go_wp2_with fail
  go_loopw [5, 8] (fun _ i wr => ∃ k : Nat, k ≤ n ∧ i = .int .i64 k ∧ (l.take k).any (fun s => !exnB s) = false ∧ Below w.heap.size w wr) (fun _ i _ => n - (intOf i).toNat)
  case atStart => exact ⟨0, by omega, rfl, by simp, Below.refl _ _⟩
  case round =>
    obtain ⟨k, hk, rfl, hno, hb⟩ := hrel
    have HNO := Lib.hid hno
    have HB := Lib.hid hb
    clear hno hb
    by_cases hlt : k < n
    · obtain ⟨x, hx⟩ := get_of_lt (l := l) (j := k) (by rw [HN.out]; exact hlt)
      obtain ⟨b, o, rfl, hcell⟩ := (HR.out.below HB.out).str hx
      have HE := Lib.hid hx
      have hbx : wr.cell? a = some (.func (.func 134) #[] #[]) := by rw [HB.out.cell (cell_block HX.out)]; exact HX.out
      clear hx
      by_cases hq : exnB x = true
      · go_wp2_with fail
        refine (all1_any x a wr hbx).mono ?_
        rintro e w1 ⟨rfl, hb⟩
        have HB1 := Lib.hid (HB.out.trans (hb.mono HB.out.size))
        clear hb hbx hcell
        go_wp2_with fail
        go_roundw
        case rel => exact ⟨k + 1, by omega, by go_num, by rw [any_take_get HE.out, HNO.out, hq]; rfl, HB1.out⟩
        case measure => simp [intOf]; omega
      · have hq' : exnB x = false := by simpa using hq
        clear hq
        go_wp2_with fail
        refine (all1_any x a wr hbx).mono ?_
        rintro e w1 ⟨rfl, hb⟩
        have HB1 := Lib.hid (HB.out.trans (hb.mono HB.out.size))
        clear hb hbx hcell
        go_wp2_with fail
        go_ret
        exact ⟨⟨k, rfl, by rw [any_get HE.out (by rw [hq']; rfl)]; simp⟩, HB1.out⟩
    · go_wp2_with fail
      go_ret
      have h := HNO.out
      rw [take_full (by rw [HN.out]; omega)] at h
      exact ⟨⟨-1, rfl, by rw [h]; simp⟩, HB.out⟩

theorem str_containsFunc_any (a : Addr) (p : Option Addr) (n cap : Nat) (l : List ByteArray) (w : World) (hn : l.length = n) (hm : n ≤ 9223372036854775807) (hr : RowE encS 1 w p l)
    (hbox : w.cell? a = some (.func (.func 134) #[] #[])) :
    Calls Tryz.prog 164 #[.slice p n cap, .func (.func 165) #[] #[.pointer (some a)]] w fun e w' =>
      e = .returned (.bool (l.any (fun s => !exnB s))) ∧ Below w.heap.size w w' := by
  have hc := str_indexFunc_any a p n cap l w hn hm hr hbox
  generalize l.any (fun s => !exnB s) = q at hc ⊢
  clear hr hn hbox
  go_enter Tryz.func164, Tryz.ntmps164
  go_wp2_with fail
  refine hc.mono ?_
  rintro e w1 ⟨⟨r, rfl, hr⟩, hb⟩
  have HR := Lib.hid hr
  have HB := Lib.hid hb
  clear hr hb hc
  go_wp2_with fail
  go_ret
  exact ⟨ret_bool HR.out.symm, HB.out⟩

theorem words_all_any (p : Option Addr) (n cap : Nat) (l : List ByteArray) (w : World) (hn : l.length = n) (hm : n ≤ 9223372036854775807) (hr : RowE encS 1 w p l) :
    Calls Tryz.prog 133 #[.func (.func 134) #[] #[], .slice p n cap] w fun e w' => e = .returned (.bool (l.all exnB)) ∧ Below w.heap.size w w' := by
  have hc := fun o => str_containsFunc_any ⟨w.heap.size, 0, none⟩ p n cap l (w.alloc o) hn hm (hr.alloc o)
  have he : Hid (l.all exnB = !l.any (fun s => !exnB s)) := by show l.all exnB = !l.any (fun s => !exnB s); rw [List.all_eq_not_any_not]
  have HC := Lib.hid hc
  clear hr hn hc
  go_enter Tryz.func133, Tryz.ntmps133
  go_wp2_with fail
  refine (HC.out _ (by rw [cell_new]; rfl)).mono ?_
  rintro e w1 ⟨rfl, hb⟩
  have HB : Hid (Below w.heap.size w w1) := ((Below.refl _ w).alloc (Nat.le_refl _) _).trans (hb.mono (by simp))
  clear hb
  generalize l.any (fun s => !exnB s) = q at *
  go_wp2_with fail
  go_ret
  exact ⟨ret_bool he.out.symm, HB.out⟩

theorem words_Exn_any (p : Option Addr) (n cap : Nat) (l : List ByteArray) (w : World) (hn : l.length = n) (hm : n ≤ 9223372036854775807) (hr : RowE encS 1 w p l) :
    Calls Tryz.prog 108 #[.slice p n cap] w fun e w' => e = .returned (.bool (l.all exnB)) ∧ Below w.heap.size w w' := by
  have hc := words_all_any p n cap l w hn hm hr
  generalize l.all exnB = q at *
  clear hr hn
  go_enter Tryz.func108, Tryz.ntmps108
  go_wp2_with fail
  refine hc.mono ?_
  rintro e w1 ⟨rfl, hb⟩
  have HB := Lib.hid hb
  clear hb hc
  go_wp2_with fail
  go_ret
  exact ⟨rfl, HB.out⟩

/-- enclaveref02.shape: first a class, then letters and digits. -/
def refShape (s : ByteArray) (first : Int) : Bool := shapedB s first

theorem inCls_word (c : Int) : inCls [3, 4, 2] c = decide (2 ≤ cls c ∧ cls c ≤ 4) := by
  unfold inCls cls
  repeat' split
  all_goals rfl

set_option maxHeartbeats 400000 in
theorem ref_shape_any (s : ByteArray) (first : Int) (w : World) :
    Calls Tryz.prog 64 #[.string s, .int .u8 first] w fun e w' => e = .returned (.bool (shapedB s first)) ∧ Below w.heap.size w w' := by
  by_cases h0 : s.size = 0
  · have hr : Hid (shapedB s first = false) := by show shapedB s first = false; simp [shapedB, h0]
    go_enter Tryz.func64, Tryz.ntmps64
    go_wp2_with fail
    go_ret
    exact ⟨ret_bool hr.out.symm, Below.refl _ _⟩
  · have hpos : 0 < s.size := by omega
    have hz : (((s.size : Nat) : Int) == 0) = false := by rw [beq_eq_false_iff_ne]; omega
    clear h0
    by_cases h16 : 16 < s.size
    · have hr : Hid (shapedB s first = false) := by show shapedB s first = false; simp [shapedB]; intro _ h; omega
      go_enter Tryz.func64, Tryz.ntmps64
      go_wp2_with fail
      go_ret
      exact ⟨ret_bool hr.out.symm, Below.refl _ _⟩
    · have h16' : s.size ≤ 16 := by omega
      clear h16
      have HH := Lib.hid (bytesI_head s hpos)
      have hc : (0 : Int) ≤ ((s[0].toNat : Nat) : Int) ∧ ((s[0].toNat : Nat) : Int) ≤ 255 := by have := s[0].toNat_lt; omega
      obtain ⟨c0, c1⟩ := hc
      by_cases hf : cls ((s[0].toNat : Nat) : Int) = first
      · have HF := Lib.hid hf
        have hbne : (cls ((s[0].toNat : Nat) : Int) != first) = false := by rw [hf]; simp
        clear hf
        have hr : Hid (shapedB s first = (bytesI s).all (inCls [3, 4, 2])) := by
          show shapedB s first = _
          unfold shapedB
          rw [HH.out, HF.out]
          simp [hpos, h16']
        go_enter Tryz.func64, Tryz.ntmps64
        go_wp2_with fail
        refine (ref_class_any _ c0 c1 _).mono ?_
        rintro e w1 ⟨rfl, hb⟩
        have HB := Lib.hid hb
        clear hb
        go_wp2_with fail
        go_loopw [5] (fun i wr => ∃ k : Nat, k ≤ s.size ∧ i = .int .i64 k ∧ ((bytesI s).take k).all (inCls [3, 4, 2]) = true ∧ Below w.heap.size w wr) (fun i _ => s.size - (intOf i).toNat)
        case atStart => exact ⟨0, by omega, rfl, by simp, HB.out⟩
        case round =>
          obtain ⟨k, hk, rfl, hall, hb⟩ := hrel
          have HA := Lib.hid hall
          have HB := Lib.hid hb
          clear hall hb
          by_cases hlt : k < s.size
          · have hx := Lib.hid (bytesI_get s k hlt)
            have hc : (0 : Int) ≤ ((s[k].toNat : Nat) : Int) ∧ ((s[k].toNat : Nat) : Int) ≤ 255 := by have := s[k].toNat_lt; omega
            obtain ⟨d0, d1⟩ := hc
            have hin := Lib.hid (inCls_word ((s[k].toNat : Nat) : Int))
            go_wp2_with fail
            refine (ref_class_any _ d0 d1 _).mono ?_
            rintro e w2 ⟨rfl, hb⟩
            have HB2 := Lib.hid (HB.out.trans (hb.mono HB.out.size))
            clear hb
            generalize cls ((s[k].toNat : Nat) : Int) = cc at *
            by_cases h2 : cc < 2
            · go_wp2_with fail
              go_ret
              refine ⟨ret_bool ?_, HB2.out⟩
              rw [hr.out, all_get hx.out (by rw [hin.out]; simp; omega)]
            · by_cases h4 : 4 < cc
              · have h2' : 2 ≤ cc := by omega
                go_wp2_with fail
                go_ret
                refine ⟨ret_bool ?_, HB2.out⟩
                rw [hr.out, all_get hx.out (by rw [hin.out]; simp; omega)]
              · have h2' : 2 ≤ cc := by omega
                have h4' : cc ≤ 4 := by omega
                clear h2 h4
                go_wp2_with fail
                go_roundw
                case rel => exact ⟨k + 1, by omega, by go_num, by rw [all_take_get hx.out, HA.out, hin.out]; simp; omega, HB2.out⟩
                case measure => simp [intOf]; omega
          · go_wp2_with fail
            go_ret
            refine ⟨ret_bool ?_, HB.out⟩
            have h := HA.out
            rw [take_full (by rw [bytesI_len]; omega)] at h
            rw [hr.out, h]
      · have hbne : (cls ((s[0].toNat : Nat) : Int) != first) = true := by simpa using hf
        have hr : Hid (shapedB s first = false) := by
          show shapedB s first = false
          unfold shapedB
          rw [HH.out]
          simp [hf]
        clear hf
        go_enter Tryz.func64, Tryz.ntmps64
        go_wp2_with fail
        refine (ref_class_any _ c0 c1 _).mono ?_
        rintro e w1 ⟨rfl, hb⟩
        have HB := Lib.hid hb
        clear hb
        go_wp2_with fail
        go_ret
        exact ⟨ret_bool hr.out.symm, HB.out⟩

theorem ref_Exn_any (s : ByteArray) (w : World) :
    Calls Tryz.prog 62 #[.string s] w fun e w' => e = .returned (.bool (exnB s)) ∧ Below w.heap.size w w' := by
  have hc := ref_shape_any s 4 w
  change Calls _ _ _ w fun e w' => e = .returned (.bool (exnB s)) ∧ Below w.heap.size w w' at hc
  generalize exnB s = q at hc ⊢
  go_enter Tryz.func62, Tryz.ntmps62
  go_wp2_with fail
  refine hc.mono ?_
  rintro e w1 ⟨rfl, hb⟩
  have HB := Lib.hid hb
  clear hb hc
  go_wp2_with fail
  go_ret
  exact ⟨rfl, HB.out⟩
end Go.Proofs.YtdlbjngpohkglaaGreatDoor
end
