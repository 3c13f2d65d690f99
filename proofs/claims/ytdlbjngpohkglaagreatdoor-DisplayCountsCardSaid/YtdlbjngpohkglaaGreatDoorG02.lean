/- Part 2 of the texts: RefClass, RowE, Words. -/
import Derived.Test.YtdlbjngpohkglaaGreatDoorG01
import Derived.Laws.IdiomStrings
section
set_option linter.unusedVariables false
set_option maxRecDepth 100000
set_option linter.unusedSimpArgs false
namespace Go.Proofs.YtdlbjngpohkglaaGreatDoor
open Go.RowKit

def sgn : List Int := [40, 41, 44, 33, 58, 61, 62, 43, 45, 42, 60, 59]
def sgnCells : Array Value := #[.int .u8 40, .int .u8 41, .int .u8 44, .int .u8 33, .int .u8 58, .int .u8 61, .int .u8 62, .int .u8 43, .int .u8 45, .int .u8 42, .int .u8 60, .int .u8 59]

theorem sgn_cell (w : World) (t : TypeId) (k : Nat) (h : k < 12) : (w.alloc (.cells sgnCells t)).cell? ⟨w.heap.size, k, none⟩ = some (.int .u8 (sgn[k]?.getD 0)) := by
  rw [cell_new]
  have key : ∀ k : Fin 12, sgnCells[k.val]? = some (Value.int .u8 (sgn[k.val]?.getD 0)) := by
    intro k
    match k with
    | 0 | 1 | 2 | 3 | 4 | 5 | 6 | 7 | 8 | 9 | 10 | 11 => rfl
  exact key ⟨k, h⟩

set_option maxHeartbeats 400000 in
theorem ref_class_sign (c : Int) (h0 : 0 ≤ c) (h255 : c ≤ 255) (h1 : ¬ c = 32) (h2 : ¬ c = 9) (h3 : ¬ c = 10) (hc : c < 48 ∨ (57 < c ∧ c < 65) ∨ (90 < c ∧ c < 97) ∨ 122 < c) (w : World) :
    Calls Tryz.prog 82 #[.int .u8 c] w fun e w' => e = .returned (.int .u8 (cls c)) ∧ Below w.heap.size w w' := by
  have c1 : (c == 32) = false := by simpa using h1
  have c2 : (c == 9) = false := by simpa using h2
  have c3 : (c == 10) = false := by simpa using h3
  have hyes : Hid ((sgn.any (· == c)) = true → cls c = 5) := by
    intro h
    simp [sgn] at h
    unfold cls
    repeat' split
    all_goals omega
  have hno : Hid ((sgn.any (· == c)) = false → cls c = 0) := by
    intro h
    simp [sgn] at h
    unfold cls
    repeat' split
    all_goals omega
  clear h1 h2 h3
  rcases hc with hc | ⟨hc, hc'⟩ | ⟨hc, hc'⟩ | hc
  all_goals
    go_enter Tryz.func82, Tryz.ntmps82
    go_wp2
    go_loop [4, 36] (fun _ i => ∃ k : Nat, k ≤ 12 ∧ i = .int .i64 k ∧ (sgn.take k).any (· == c) = false) (fun _ i => 12 - (intOf i).toNat)
    case atStart => exact ⟨0, by omega, rfl, by simp⟩
    case round =>
      obtain ⟨k, hk, rfl, hn⟩ := hrel
      have HN := Lib.hid hn
      clear hn
      by_cases hlt : k < 12
      · have hcell := sgn_cell w 5 k hlt
        have hs := Lib.hid (any_take_succ sgn (· == c) k hlt)
        unfold sgnCells at hcell
        go_wp2
        · go_ret
          exact ⟨ret_int (hyes.out (any_hit sgn (· == c) k hlt (by assumption))).symm, (Below.refl _ _).alloc (Nat.le_refl _) _⟩
        · go_round
          case rel => exact ⟨k + 1, by omega, by go_num, by rw [hs.out, HN.out, Bool.false_or]; assumption⟩
          case measure => simp [intOf]; omega
      · have hk12 : k = 12 := by omega
        subst hk12
        go_wp2
        go_ret
        exact ⟨ret_int (hno.out HN.out).symm, (Below.refl _ _).alloc (Nat.le_refl _) _⟩

set_option maxHeartbeats 400000 in
theorem ref_class_any (c : Int) (h0 : 0 ≤ c) (h255 : c ≤ 255) (w : World) :
    Calls Tryz.prog 82 #[.int .u8 c] w fun e w' => e = .returned (.int .u8 (cls c)) ∧ Below w.heap.size w w' := by
  by_cases hs : ¬ c = 32 ∧ ¬ c = 9 ∧ ¬ c = 10 ∧ (c < 48 ∨ (57 < c ∧ c < 65) ∨ (90 < c ∧ c < 97) ∨ 122 < c)
  · exact ref_class_sign c h0 h255 hs.1 hs.2.1 hs.2.2.1 hs.2.2.2 w
  · rcases (by omega : c = 32 ∨ c = 9 ∨ c = 10 ∨ (48 ≤ c ∧ c ≤ 57) ∨ (97 ≤ c ∧ c ≤ 122) ∨ (65 ≤ c ∧ c ≤ 90)) with rfl | rfl | rfl | ⟨ha, hb⟩ | ⟨ha, hb⟩ | ⟨ha, hb⟩
    all_goals
      clear hs
      try have c1 : (c == 32) = false := by simp; omega
      try have c2 : (c == 9) = false := by simp; omega
      try have c3 : (c == 10) = false := by simp; omega
      go_enter Tryz.func82, Tryz.ntmps82
      go_wp2
      go_ret
      refine ⟨ret_int ?_, Below.refl _ _⟩
      unfold cls
      repeat' split
      all_goals omega
end Go.Proofs.YtdlbjngpohkglaaGreatDoor
end
section
set_option linter.unusedVariables false
set_option maxRecDepth 100000
set_option linter.unusedSimpArgs false
namespace Go.Proofs.YtdlbjngpohkglaaGreatDoor
open Go.RowKit

variable {α : Type}

/-- The cells from p on hold the elements l, each of k cells. -/
def RowE (enc : α → List Value) (k : Nat) (w : World) (p : Option Addr) (l : List α) : Prop :=
  l = [] ∨ ∃ b o, p = some ⟨b, o, none⟩ ∧ b < w.heap.size ∧ ∀ j x, l[j]? = some x → ∀ i v, (enc x)[i]? = some v → w.cell? ⟨b, o + j * k + i, none⟩ = some v

theorem RowE.nil (enc : α → List Value) (k : Nat) (w : World) (p : Option Addr) : RowE enc k w p [] := .inl rfl

theorem RowE.below {enc : α → List Value} {k : Nat} {w w' : World} {p : Option Addr} {l : List α} (h : RowE enc k w p l) (hb : Below w.heap.size w w') : RowE enc k w' p l := by
  rcases h with h | ⟨b, o, hp, hlt, hc⟩
  · exact .inl h
  · exact .inr ⟨b, o, hp, Nat.lt_of_lt_of_le hlt hb.size, fun j x hx i v hv => by rw [hb.cell (p := ⟨b, o + j * k + i, none⟩) hlt]; exact hc j x hx i v hv⟩

theorem RowE.alloc {enc : α → List Value} {k : Nat} {w : World} {p : Option Addr} {l : List α} (h : RowE enc k w p l) (o : Obj) : RowE enc k (w.alloc o) p l := h.below ((Below.refl _ _).alloc (Nat.le_refl _) _)
theorem RowE.drewN {enc : α → List Value} {k : Nat} {w : World} {p : Option Addr} {l : List α} (h : RowE enc k w p l) (n : Nat) : RowE enc k (w.drewN n) p l := h

theorem RowE.at {enc : α → List Value} {k : Nat} {w : World} {p : Option Addr} {l : List α} (h : RowE enc k w p l) (hne : 0 < l.length) :
    ∃ b o, p = some ⟨b, o, none⟩ ∧ b < w.heap.size ∧ ∀ j x, l[j]? = some x → ∀ i v, (enc x)[i]? = some v → w.cell? ⟨b, o + j * k + i, none⟩ = some v := by
  rcases h with h | h
  · subst h; simp at hne
  · exact h

/-- what is known of element j -/
theorem RowE.elem {enc : α → List Value} {k : Nat} {w : World} {p : Option Addr} {l : List α} (h : RowE enc k w p l) {j : Nat} {x : α} (hx : l[j]? = some x) :
    ∃ b o, p = some ⟨b, o, none⟩ ∧ b < w.heap.size ∧ ∀ i v, (enc x)[i]? = some v → w.cell? ⟨b, o + j * k + i, none⟩ = some v := by
  rcases h with h | ⟨b, o, hp, hb, hc⟩
  · subst h; simp at hx
  · exact ⟨b, o, hp, hb, fun i v hv => hc j x hx i v hv⟩

theorem RowE.take {enc : α → List Value} {k : Nat} {w : World} {p : Option Addr} {l : List α} (h : RowE enc k w p l) (n : Nat) : RowE enc k w p (l.take n) := by
  rcases h with h | ⟨b, o, hp, hb, hc⟩
  · subst h; exact .inl (by simp)
  · refine .inr ⟨b, o, hp, hb, fun j x hx i v hv => hc j x ?_ i v hv⟩
    rw [List.getElem?_take] at hx
    split at hx
    · exact hx
    · cases hx

theorem get_lt {l : List α} {j : Nat} {x : α} (h : l[j]? = some x) : j < l.length := (List.getElem?_eq_some_iff.1 h).1
theorem get_of_lt {l : List α} {j : Nat} (h : j < l.length) : ∃ x, l[j]? = some x := ⟨l[j], List.getElem?_eq_getElem h⟩
theorem take_succ_get {l : List α} {j : Nat} {x : α} (h : l[j]? = some x) : l.take (j + 1) = l.take j ++ [x] := by
  obtain ⟨hj, rfl⟩ := List.getElem?_eq_some_iff.1 h
  exact List.take_succ_eq_append_getElem hj
theorem take_full {l : List α} {n : Nat} (h : l.length ≤ n) : l.take n = l := List.take_of_length_le h
theorem any_get {l : List α} {q : α → Bool} {j : Nat} {x : α} (h : l[j]? = some x) (hq : q x = true) : l.any q = true := by
  rw [List.any_eq_true]
  exact ⟨x, List.mem_of_getElem? h, hq⟩
theorem all_get {l : List α} {q : α → Bool} {j : Nat} {x : α} (h : l[j]? = some x) (hq : q x = false) : l.all q = false := by
  rw [List.all_eq_false]
  exact ⟨x, List.mem_of_getElem? h, by simp [hq]⟩
theorem any_take_get {l : List α} {q : α → Bool} {j : Nat} {x : α} (h : l[j]? = some x) : (l.take (j + 1)).any q = ((l.take j).any q || q x) := by
  rw [take_succ_get h, List.any_append]; simp
theorem all_take_get {l : List α} {q : α → Bool} {j : Nat} {x : α} (h : l[j]? = some x) : (l.take (j + 1)).all q = ((l.take j).all q && q x) := by
  rw [take_succ_get h, List.all_append]; simp

/-- elements of k cells, flattened -/
theorem flat_get {enc : α → List Value} {k : Nat} (hk : ∀ x, (enc x).length = k) : ∀ (l : List α) (j : Nat) (x : α) (i : Nat), l[j]? = some x → i < k → (l.flatMap enc)[j * k + i]? = (enc x)[i]?
  | [], j, x, i, h, _ => by simp at h
  | y :: l, 0, x, i, h, hi => by
    simp at h; subst h
    rw [List.flatMap_cons, List.getElem?_append_left (by rw [hk]; omega)]
    simp
  | y :: l, j + 1, x, i, h, hi => by
    simp only [List.getElem?_cons_succ] at h
    rw [List.flatMap_cons, List.getElem?_append_right (by rw [hk, Nat.add_mul]; omega), hk]
    rw [show (j + 1) * k + i - k = j * k + i from by rw [Nat.add_mul]; omega]
    exact flat_get hk l j x i h hi

theorem flat_length {enc : α → List Value} {k : Nat} (hk : ∀ x, (enc x).length = k) (l : List α) : (l.flatMap enc).length = l.length * k := by
  induction l with
  | nil => simp
  | cons a l ih => rw [List.flatMap_cons, List.length_append, hk, ih, List.length_cons, Nat.add_mul]; omega

theorem add_lit' (b o i : Nat) : (⟨b, o, none⟩ : Addr).add i = ⟨b, o + i, none⟩ := by unfold Addr.add; split <;> simp_all

/-- A row of the call's own, read. -/
theorem own_row {enc : α → List Value} {k : Nat} (hk : ∀ x, (enc x).length = k) {w : World} {base e n : Nat} {v : Value} {l : List α} (h : w.ownsRow base e k v n (l.flatMap enc)) (hk0 : 0 < k) :
    ∃ p cap, v = .slice p n cap ∧ l.length = n ∧ n ≤ cap ∧ RowE enc k w p l ∧ cap ≤ maxLen ∧ (p = none → n = 0 ∧ cap = 0) ∧ (∀ a, p = some a → base ≤ a.block ∧ a.off = 0 ∧ a.spot = none ∧ a.block < w.heap.size) := by
  have hl : l.length = n := by
    have := h.1
    rw [flat_length hk] at this
    exact Nat.eq_of_mul_eq_mul_right hk0 this
  rcases h.2 with ⟨rfl, h0⟩ | ⟨g, cap, cur, rfl, hb, hg, hnc, hcm, hsz, htk⟩
  · subst h0
    exact ⟨none, 0, rfl, hl, by omega, .inl (List.length_eq_zero_iff.1 hl), by simp [maxLen], (fun _ => ⟨rfl, rfl⟩), (fun a ha => by cases ha)⟩
  · have hlt : g < w.heap.size := (Array.getElem?_eq_some_iff.1 hg).1
    refine ⟨_, cap, rfl, hl, hnc, .inr ⟨g, 0, rfl, hlt, fun j x hx i v hv => ?_⟩, hcm, (fun e => by cases e), (fun a ha => by cases ha; exact ⟨hb, rfl, rfl, hlt⟩)⟩
    have hi : i < k := by rw [← hk x]; exact get_lt hv
    have hf := flat_get hk l j x i hx hi
    have := h.cells (g := g) rfl (j * k + i) v (by rw [hf]; exact hv)
    rw [add_lit'] at this
    simpa [Nat.add_assoc] using this

/-- strings: one cell each -/
def encS (s : ByteArray) : List Value := [.string s]
theorem encS_len (s : ByteArray) : (encS s).length = 1 := rfl
/-- numbers: one cell each -/
def encN (n : Int) : List Value := [.int .i64 n]
theorem encN_len (n : Int) : (encN n).length = 1 := rfl

theorem RowE.str {w : World} {p : Option Addr} {l : List ByteArray} (h : RowE encS 1 w p l) {j : Nat} {x : ByteArray} (hx : l[j]? = some x) :
    ∃ b o, p = some ⟨b, o, none⟩ ∧ w.cell? ⟨b, o + j, none⟩ = some (.string x) := by
  obtain ⟨b, o, rfl, _, hc⟩ := h.elem hx
  exact ⟨b, o, rfl, by simpa using hc 0 _ rfl⟩
theorem RowE.num {w : World} {p : Option Addr} {l : List Int} (h : RowE encN 1 w p l) {j : Nat} {x : Int} (hx : l[j]? = some x) :
    ∃ b o, p = some ⟨b, o, none⟩ ∧ w.cell? ⟨b, o + j, none⟩ = some (.int .i64 x) := by
  obtain ⟨b, o, rfl, _, hc⟩ := h.elem hx
  exact ⟨b, o, rfl, by simpa using hc 0 _ rfl⟩

/-- a new block of cells, as elements -/
theorem RowE.newAt {enc : α → List Value} {k : Nat} (hk : ∀ x, (enc x).length = k) (w : World) (l : List α) (cs : Array Value) (hcs : cs.toList = l.flatMap enc) (t : TypeId) (fr : Nat × Nat) (b : Nat) (h : w.heap.size = b) :
    RowE enc k (w.alloc (.cells cs t fr)) (some ⟨b, 0, none⟩) l := by
  subst h
  refine .inr ⟨_, 0, rfl, by simp, fun j x hx i v hv => ?_⟩
  rw [cell_new w _ t _ fr, ← Array.getElem?_toList, hcs]
  have hi : i < k := by rw [← hk x]; exact get_lt hv
  have := flat_get hk l j x i hx hi
  rw [Nat.zero_add, this]; exact hv
end Go.Proofs.YtdlbjngpohkglaaGreatDoor
end
section
set_option linter.unusedVariables false
set_option maxRecDepth 100000
set_option linter.unusedSimpArgs false
namespace Go.Proofs.YtdlbjngpohkglaaGreatDoor
open Go.RowKit

/-- a text's bytes, as numbers -/
def bytesI (s : ByteArray) : List Int := s.data.toList.map (fun b => (b.toNat : Int))
theorem bytesI_len (s : ByteArray) : (bytesI s).length = s.size := by simp [bytesI]
theorem bytesI_rng (s : ByteArray) : ∀ x ∈ bytesI s, 0 ≤ x ∧ x ≤ 255 := by
  intro x hx
  simp only [bytesI, List.mem_map] at hx
  obtain ⟨b, _, rfl⟩ := hx
  have := b.toNat_lt
  omega

/-- Is a text shaped so: a first byte of a class, then letters and digits, sixteen at most? -/
def shapedB (s : ByteArray) (first : Int) : Bool := decide (0 < s.size) && decide (s.size ≤ 16) && ((bytesI s).headD 0 |> cls |> (· == first)) && (bytesI s).all (inCls [3, 4, 2])

theorem bytesI_get (s : ByteArray) (j : Nat) (h : j < s.size) : (bytesI s)[j]? = some ((s[j].toNat : Nat) : Int) := by
  have hl : j < s.data.toList.length := by simpa using h
  simp only [bytesI, List.getElem?_map, List.getElem?_eq_getElem hl, Option.map_some]
  rfl
theorem bytesI_head (s : ByteArray) (h : 0 < s.size) : (bytesI s).headD 0 = ((s[0].toNat : Nat) : Int) := by
  have := bytesI_get s 0 h
  rw [List.headD_eq_head?_getD, List.head?_eq_getElem?, this]
  rfl

/-- '[]byte(s)': a new row that holds the text's bytes. -/
theorem bytes_conv (s : ByteArray) (w : World) : ∃ cap C, s.size ≤ cap ∧ Row ((w.alloc (.cells C 5 (C.size, C.size + 1))).drew) (some ⟨w.heap.size, 0, none⟩) (u8s (bytesI s)) ∧
    (convert 9 55 (.string s)).run Tryz.prog w = .ok (.slice (some ⟨w.heap.size, 0, none⟩) s.size cap) ((w.alloc (.cells C 5 (C.size, C.size + 1))).drew) := by
  refine ⟨grownCap w s.size 0 5, bytesRow s (grownCap w s.size 0 5), grownCap_ge _ _ _ _, ?_, run_bytes_of_string w 9 55 5 s Tryz.underlying9 Tryz.underlying55 Tryz.underlying5⟩
  refine .inr ⟨_, _, rfl, fun j hj => ?_⟩
  rw [u8s_length, bytesI_len] at hj
  rw [u8s_getD _ _ (by rw [bytesI_len]; exact hj)]
  show (w.alloc _).cell? _ = _
  rw [cell_new w _ _ _ (_, _), Nat.zero_add, bytesRow_at s _ j hj, List.getD_eq_getElem?_getD, bytesI_get s j hj]
  rfl

theorem tw_all_of {l : List Int} {p : Int → Bool} (h : (l.takeWhile p).length = l.length) : l.all p = true := by
  induction l with
  | nil => rfl
  | cons x r ih =>
    rw [List.takeWhile_cons] at h
    cases hx : p x with
    | false => rw [hx] at h; simp at h
    | true => rw [hx] at h; simp at h; simp [hx, ih h]

theorem spanOf_eq_len (xs cl : List Int) : (spanOf xs cl 0 = xs.length) ↔ xs.all (inCls cl) = true := by
  unfold spanOf
  rw [if_neg (by omega)]
  simp only [Int.toNat_zero, List.drop_zero]
  constructor
  · exact tw_all_of
  · exact tw_all

theorem shaped_any (s : ByteArray) (first : Int) (w : World) :
    Calls Tryz.prog 135 #[.string s, .int .u8 first] w fun e w' => e = .returned (.bool (shapedB s first)) ∧ Below w.heap.size w w' := by
  by_cases h0 : s.size = 0
  · have hs : s.toList = [] := by rw [Lib.toList_data, ← List.length_eq_zero_iff, ← Lib.size_eq]; exact h0
    have hs' : s.toList.isEmpty = true := by rw [hs]; rfl
    have hr : Hid (shapedB s first = false) := by show shapedB s first = false; simp [shapedB, h0]
    go_enter Tryz.func135, Tryz.ntmps135
    go_wp2_with fail
    go_ret
    exact ⟨ret_bool hr.out.symm, Below.refl _ _⟩
  · have hpos : 0 < s.size := by omega
    have hs : (s.toList == []) = false := by
      rw [beq_eq_false_iff_ne]
      intro e
      rw [Lib.toList_data] at e
      have : s.size = 0 := by rw [Lib.size_eq, e]; rfl
      omega
    have hs' : s.toList.isEmpty = false := by rw [List.isEmpty_eq_false_iff]; simpa using hs
    by_cases h16 : 16 < s.size
    · have hr : Hid (shapedB s first = false) := by show shapedB s first = false; simp [shapedB]; intro _ h; omega
      go_enter Tryz.func135, Tryz.ntmps135
      go_wp2_with fail
      go_ret
      exact ⟨ret_bool hr.out.symm, Below.refl _ _⟩
    · have h16' : s.size ≤ 16 := by omega
      have hh := bytesI_head s hpos
      have hc : (0 : Int) ≤ ((s[0].toNat : Nat) : Int) ∧ ((s[0].toNat : Nat) : Int) ≤ 255 := by have := s[0].toNat_lt; omega
      obtain ⟨c0, c1⟩ := hc
      obtain ⟨cap, C, hcap, hrow, kc⟩ := bytes_conv s w
      have HR := Lib.hid hrow
      have HH := Lib.hid hh
      clear hrow hh h16
      by_cases hf : cls ((s[0].toNat : Nat) : Int) = first
      · have HF := Lib.hid hf
        have hbne : (cls ((s[0].toNat : Nat) : Int) != first) = false := by rw [hf]; simp
        clear hf
        have hr : Hid (shapedB s first = decide (spanOf (bytesI s) [3, 4, 2] 0 = s.size)) := by
          show shapedB s first = _
          unfold shapedB
          rw [HH.out, HF.out]
          have := spanOf_eq_len (bytesI s) [3, 4, 2]
          rw [bytesI_len] at this
          simp only [hpos, h16', decide_true, Bool.true_and, beq_self_eq_true]
          rw [Bool.eq_iff_iff, decide_eq_true_eq, this]
        go_enter Tryz.func135, Tryz.ntmps135
        go_wp2_with fail
        refine (class_any _ c0 c1 _).mono ?_
        rintro e w1 ⟨rfl, rfl⟩
        go_wp2_with fail
        refine (span_any (some ⟨w.heap.size, 0, none⟩) s.size cap 0 _ 3 3 (bytesI s) [3, 4, 2] _ (bytesI_len s) (by omega) hcap (bytesI_rng s) ?_ rfl (by omega) ?_).mono ?_
        · exact HR.out.alloc _
        · exact Row.newAt _ (u8s [3, 4, 2]) 5 (0, 0) _ (by simp)
        · rintro e w1 ⟨rfl, hb⟩
          have HB : Hid (Below w.heap.size w w1) := (((Below.refl _ w).alloc (Nat.le_refl _) _).drew.alloc (by simp) _).trans (hb.mono (by simp; omega))
          clear hb
          go_wp2_with fail
          go_ret
          refine ⟨ret_bool ?_, HB.out⟩
          rw [hr.out, Bool.eq_iff_iff, decide_eq_true_eq, beq_iff_eq]
          omega
      · have hbne : (cls ((s[0].toNat : Nat) : Int) != first) = true := by simpa using hf
        have hr : Hid (shapedB s first = false) := by
          show shapedB s first = false
          unfold shapedB
          rw [HH.out]
          simp [hf]
        clear kc HR hcap hf
        go_enter Tryz.func135, Tryz.ntmps135
        go_wp2_with fail
        refine (class_any _ c0 c1 _).mono ?_
        rintro e w1 ⟨rfl, rfl⟩
        go_wp2_with fail
        go_ret
        exact ⟨ret_bool hr.out.symm, Below.refl _ _⟩
end Go.Proofs.YtdlbjngpohkglaaGreatDoor
end
