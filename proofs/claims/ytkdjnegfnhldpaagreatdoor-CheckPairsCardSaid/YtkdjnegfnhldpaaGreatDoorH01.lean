/- Part 1: Mem, Cls, Lst, Span, RefClass, RowE, Words. -/
import Derived.Test.YtkdjnegfnhldpaaGreatDoorRows
import Derived.WalkKit
import Derived.WalkSpells
import Derived.WalkLawsBesides
import Derived.Lib.Hide
import Derived.Lib.Bytealg
import Derived.BigQuiet
import Derived.Laws.IdiomStrings
set_option linter.unusedVariables false
set_option maxRecDepth 100000
set_option linter.unusedSimpArgs false
namespace Go.Proofs.YtkdjnegfnhldpaaGreatDoor
open Go.Lib (hid)
theorem zA {α : Type _} (l : List α) (i : Nat) (a : α) : l.toArray.setIfInBounds i a = (l.set i a).toArray := List.setIfInBounds_toArray l i a
theorem zB {α : Type _} {x : α} {l : List α} {a : α} : (x :: l).set 0 a = a :: l := rfl
theorem zC {α : Type _} {x : α} {l : List α} {n : Nat} {a : α} : (x :: l).set (n + 1) a = x :: l.set n a := rfl
section
open Go.RowKit
def Row (w : World) (p : Option Addr) (xs : List Value) : Prop :=
  xs = [] ∨ ∃ b o, p = some ⟨b, o, none⟩ ∧ ∀ i, i < xs.length → w.cell? ⟨b, o + i, none⟩ = some (xs.getD i undef)
theorem cell_block {w : World} {a : Addr} {v : Value} (h : w.cell? a = some v) : a.block < w.heap.size := by
  rcases Nat.lt_or_ge a.block w.heap.size with hlt | hge
  · exact hlt
  · unfold World.cell? at h
    rw [Array.getElem?_eq_none hge] at h
    cases h
theorem Row.nil (w : World) (p : Option Addr) : Row w p [] := .inl rfl
theorem Row.below {w w' : World} {p : Option Addr} {xs : List Value} (h : Row w p xs) (hb : Below w.heap.size w w') : Row w' p xs := by
  rcases h with h | ⟨b, o, hp, hc⟩
  · exact .inl h
  · exact .inr ⟨b, o, hp, fun i hi => by rw [hb.cell (p := ⟨b, o + i, none⟩) (cell_block (hc i hi))]; exact hc i hi⟩
theorem Row.drewN {w : World} {p : Option Addr} {xs : List Value} (h : Row w p xs) (n : Nat) : Row (w.drewN n) p xs := h
theorem Row.drew {w : World} {p : Option Addr} {xs : List Value} (h : Row w p xs) : Row w.drew p xs := h
theorem Row.at {w : World} {p : Option Addr} {xs : List Value} (h : Row w p xs) (hne : 0 < xs.length) :
    ∃ b o, p = some ⟨b, o, none⟩ ∧ ∀ i, i < xs.length → w.cell? ⟨b, o + i, none⟩ = some (xs.getD i undef) := by
  rcases h with h | h
  · subst h; simp at hne
  · exact h
def u8s (l : List Int) : List Value := l.map (Value.int .u8)
theorem u8s_length (l : List Int) : (u8s l).length = l.length := by simp [u8s]
theorem u8s_getD (l : List Int) (i : Nat) (h : i < l.length) : (u8s l).getD i undef = .int .u8 (l.getD i 0) := by
  simp [u8s, List.getD, h]
def i64s (l : List Int) : List Value := l.map (Value.int .i64)
theorem i64s_length (l : List Int) : (i64s l).length = l.length := by simp [i64s]
theorem i64s_getD (l : List Int) (i : Nat) (h : i < l.length) : (i64s l).getD i undef = .int .i64 (l.getD i 0) := by
  simp [i64s, List.getD, h]
theorem Row.u8 {w : World} {p : Option Addr} {xs : List Int} (h : Row w p (u8s xs)) (hne : 0 < xs.length) :
    ∃ b o, p = some ⟨b, o, none⟩ ∧ ∀ i, i < xs.length → w.cell? ⟨b, o + i, none⟩ = some (.int .u8 (xs.getD i 0)) := by
  obtain ⟨b, o, hp, hc⟩ := h.at (by rw [u8s_length]; exact hne)
  exact ⟨b, o, hp, fun i hi => by rw [hc i (by rw [u8s_length]; exact hi), u8s_getD _ _ hi]⟩
theorem Row.i64 {w : World} {p : Option Addr} {xs : List Int} (h : Row w p (i64s xs)) (hne : 0 < xs.length) :
    ∃ b o, p = some ⟨b, o, none⟩ ∧ ∀ i, i < xs.length → w.cell? ⟨b, o + i, none⟩ = some (.int .i64 (xs.getD i 0)) := by
  obtain ⟨b, o, hp, hc⟩ := h.at (by rw [i64s_length]; exact hne)
  exact ⟨b, o, hp, fun i hi => by rw [hc i (by rw [i64s_length]; exact hi), i64s_getD _ _ hi]⟩
theorem cell_new (w : World) (cs : Array Value) (t : TypeId) (k : Nat) (fr : Nat × Nat := (0, 0)) : (w.alloc (.cells cs t fr)).cell? ⟨w.heap.size, k, none⟩ = cs[k]? := by
  have h := (MapKept.heap_alloc w (.cells cs t fr)).1
  unfold World.cell?
  simp only [h]
  rfl
theorem ret_int {k : IntKind} {a b : Int} (h : a = b) : Ending.returned (.int k a) = .returned (.int k b) := by rw [h]
theorem ret_bool {a b : Bool} (h : a = b) : Ending.returned (.bool a) = .returned (.bool b) := by rw [h]
theorem cell_alloc_old {w : World} {o : Obj} {a : Addr} (h : a.block < w.heap.size) : (w.alloc o).cell? a = w.cell? a :=
  ((Below.refl w.heap.size w).alloc (Nat.le_refl _) o).cell h
theorem Row.new (w : World) (xs : List Value) (t : TypeId) (fr : Nat × Nat := (0, 0)) : Row (w.alloc (.cells xs.toArray t fr)) (some ⟨w.heap.size, 0, none⟩) xs := by
  refine .inr ⟨_, _, rfl, fun i hi => ?_⟩
  rw [cell_new w _ t _ fr]
  simp [List.getD, hi]
theorem Row.newAt (w : World) (xs : List Value) (t : TypeId) (fr : Nat × Nat) (b : Nat) (h : w.heap.size = b) : Row (w.alloc (.cells xs.toArray t fr)) (some ⟨b, 0, none⟩) xs := by
  subst h; exact Row.new w xs t fr
theorem Row.alloc {w : World} {p : Option Addr} {xs : List Value} (h : Row w p xs) (o : Obj) : Row (w.alloc o) p xs := h.below ((Below.refl _ _).alloc (Nat.le_refl _) _)
end
section
open Go.RowKit
def cls (c : Int) : Int :=
  if c = 32 ∨ c = 9 ∨ c = 10 then 1 else if 48 ≤ c ∧ c ≤ 57 then 2 else if 97 ≤ c ∧ c ≤ 122 then 3 else if 65 ≤ c ∧ c ≤ 90 then 4
  else if c = 40 ∨ c = 41 ∨ c = 44 ∨ c = 33 ∨ c = 58 ∨ c = 61 ∨ c = 62 ∨ c = 43 ∨ c = 45 ∨ c = 42 ∨ c = 60 ∨ c = 59 then 5 else 0
theorem indexByteString_any (s : ByteArray) (c : Int) (w : World) :
    Calls Tryz.prog 269 #[.string s, .int .u8 c] w fun e w' => e = .returned (.int .i64 (Lib.indexByte s.data.toList c.toNat.toUInt8)) ∧ w = w' := by
  go_enter Tryz.func269, Tryz.ntmps269
  go_wp2
  rw [run_callFunc_extern Tryz.func271 (by kernel_rfl) (by kernel_rfl) (by kernel_rfl) (e := Extern.BytealgIndexByte.indexByte) (by kernel_rfl), Lib.run_indexByteString]
  simp only [Result.andThen]
  rw [Oper.upon_value]
  go_wp2
  go_ret
  exact ⟨rfl, rfl⟩
theorem strings_IndexByte_any (s : ByteArray) (c : Int) (w : World) :
    Calls Tryz.prog 263 #[.string s, .int .u8 c] w fun e w' => e = .returned (.int .i64 (Lib.indexByte s.data.toList c.toNat.toUInt8)) ∧ w = w' := by
  go_enter Tryz.func263, Tryz.ntmps263
  go_wp2_with (go_at_call 269; refine (indexByteString_any _ _ _).mono ?_; rintro e w' ⟨rfl, rfl⟩)
  go_ret
  exact ⟨rfl, rfl⟩
def signs : List UInt8 := [40, 41, 44, 33, 58, 61, 62, 43, 45, 42, 60, 59]
theorem blank_iff (c : Int) (h0 : 0 ≤ c) (h1 : c ≤ 255) : (0 ≤ Lib.indexByte [32, 9, 10] (UInt8.ofNat c.toNat)) ↔ (c = 32 ∨ c = 9 ∨ c = 10) := by
  have key : ∀ n : Fin 256, (0 ≤ Lib.indexByte [32, 9, 10] (UInt8.ofNat n.val)) ↔ ((n.val : Int) = 32 ∨ (n.val : Int) = 9 ∨ (n.val : Int) = 10) := by decide +kernel
  have := key ⟨c.toNat, by omega⟩
  have e : ((c.toNat : Nat) : Int) = c := by omega
  simp only [e] at this
  exact this
theorem sign_iff (c : Int) (h0 : 0 ≤ c) (h1 : c ≤ 255) : (0 ≤ Lib.indexByte [40, 41, 44, 33, 58, 61, 62, 43, 45, 42, 60, 59] (UInt8.ofNat c.toNat)) ↔ (c = 40 ∨ c = 41 ∨ c = 44 ∨ c = 33 ∨ c = 58 ∨ c = 61 ∨ c = 62 ∨ c = 43 ∨ c = 45 ∨ c = 42 ∨ c = 60 ∨ c = 59) := by
  have key : ∀ n : Fin 256, (0 ≤ Lib.indexByte signs (UInt8.ofNat n.val)) ↔ ((n.val : Int) = 40 ∨ (n.val : Int) = 41 ∨ (n.val : Int) = 44 ∨ (n.val : Int) = 33 ∨ (n.val : Int) = 58 ∨ (n.val : Int) = 61 ∨ (n.val : Int) = 62 ∨ (n.val : Int) = 43 ∨ (n.val : Int) = 45 ∨ (n.val : Int) = 42 ∨ (n.val : Int) = 60 ∨ (n.val : Int) = 59) := by decide +kernel
  have := key ⟨c.toNat, by omega⟩
  have e : ((c.toNat : Nat) : Int) = c := by omega
  simp only [e] at this
  exact this
theorem class_any (c : Int) (h0 : 0 ≤ c) (h1 : c ≤ 255) (w : World) :
    Calls Tryz.prog 248 #[.int .u8 c] w fun e w' => e = .returned (.int .u8 (cls c)) ∧ w = w' := by
  have hb := hid (blank_iff c h0 h1)
  have hs := hid (sign_iff c h0 h1)
  go_enter Tryz.func248, Tryz.ntmps248
  go_wp2_with (go_at_call 263; refine (strings_IndexByte_any _ _ _).mono ?_; rintro e w' ⟨rfl, rfl⟩)
  all_goals
    go_ret
    refine ⟨ret_int ?_, rfl⟩
    have hb := hb.out
    have hs := hs.out
    unfold cls
    repeat' split
    all_goals omega
end
section
theorem any_take_succ (l : List Int) (p : Int → Bool) (k : Nat) (h : k < l.length) : (l.take (k + 1)).any p = ((l.take k).any p || p (l[k]?.getD 0)) := by
  rw [List.take_succ_eq_append_getElem h, List.any_append]
  simp [h]
theorem any_hit (l : List Int) (p : Int → Bool) (k : Nat) (h : k < l.length) (hp : p (l[k]?.getD 0) = true) : l.any p = true := by
  rw [List.any_eq_true]
  exact ⟨l[k], List.getElem_mem h, by simpa [h] using hp⟩
theorem all_take_succ (l : List Int) (p : Int → Bool) (k : Nat) (h : k < l.length) : (l.take (k + 1)).all p = ((l.take k).all p && p (l[k]?.getD 0)) := by
  rw [List.take_succ_eq_append_getElem h, List.all_append]
  simp [h]
theorem tw_hit {l : List Int} {p : Int → Bool} {k : Nat} (h : k < l.length) (ha : (l.take k).all p = true) (hp : p (l[k]?.getD 0) = false) : (l.takeWhile p).length = k := by
  induction l generalizing k with
  | nil => simp at h
  | cons x r ih =>
    cases k with
    | zero => simp at hp; simp [List.takeWhile_cons, hp]
    | succ k =>
      simp only [List.take_succ_cons, List.all_cons, Bool.and_eq_true] at ha
      have := ih (k := k) (by simpa using h) ha.2 (by simpa using hp)
      simp [List.takeWhile_cons, ha.1, this]
theorem tw_all {l : List Int} {p : Int → Bool} (ha : l.all p = true) : (l.takeWhile p).length = l.length := by
  induction l with
  | nil => rfl
  | cons x r ih =>
    simp only [List.all_cons, Bool.and_eq_true] at ha
    simp [List.takeWhile_cons, ha.1, ih ha.2]
theorem getD_range {l : List Int} {a b : Int} (h : ∀ x ∈ l, a ≤ x ∧ x ≤ b) (k : Nat) (hk : k < l.length) : a ≤ l[k]?.getD 0 ∧ l[k]?.getD 0 ≤ b := by
  have := h l[k] (List.getElem_mem hk)
  simpa [hk] using this
end
section
open Go.RowKit
theorem idx_any (p : Option Addr) (n cap : Nat) (c : Int) (xs : List Int) (w : World) (hn : xs.length = n) (hm : n ≤ 9223372036854775807) (hr : Row w p (u8s xs)) :
    Calls Tryz.prog 257 #[.slice p n cap, .int .u8 c] w fun e w' => (∃ r : Int, e = .returned (.int .i64 r) ∧ (xs.any (· == c) = decide (0 ≤ r))) ∧ w = w' := by
  by_cases h0 : n = 0
  · subst h0
    obtain rfl : xs = [] := List.length_eq_zero_iff.1 hn
    clear hn hr
    go_enter Tryz.func257, Tryz.ntmps257
    go_wp2
    go_loop [5, 8] (fun u i => i = .int .i64 0) (fun _ i => 0)
    case atStart => rfl
    case round =>
      subst hrel
      go_wp2
      go_ret
      exact ⟨⟨_, rfl, by simp⟩, rfl⟩
  · obtain ⟨b, o, rfl, hc⟩ := hr.u8 (by omega)
    have HN := hid hn
    have HC := hid hc
    clear hn hc hr
    go_enter Tryz.func257, Tryz.ntmps257
    go_wp2
    go_loop [5, 8] (fun u i => ∃ k : Nat, k ≤ n ∧ i = .int .i64 k ∧ (xs.take k).any (· == c) = false) (fun _ i => n - (intOf i).toNat)
    case atStart => exact ⟨0, by omega, rfl, by simp⟩
    case round =>
      obtain ⟨k, hk, rfl, hno⟩ := hrel
      have HNO := hid hno
      clear hno
      by_cases hlt : k < n
      · have hcell := HC.out k (by rw [HN.out]; exact hlt)
        have hs := hid (any_take_succ xs (· == c) k (by rw [HN.out]; exact hlt))
        go_wp2
        · go_ret
          have h := any_hit xs (· == c) k (by rw [HN.out]; exact hlt) (by rw [beq_iff_eq]; exact (beq_iff_eq.1 (by assumption)).symm)
          exact ⟨⟨k, rfl, by rw [h]; simp⟩, rfl⟩
        · go_round
          case rel => exact ⟨k + 1, by omega, by go_num, by rw [hs.out, HNO.out, Bool.false_or, BEq.comm]; assumption⟩
          case measure => simp [intOf]; omega
      · go_wp2
        go_ret
        have : k = n := by omega
        subst this
        have := HNO.out
        rw [List.take_of_length_le (by rw [HN.out]; omega)] at this
        exact ⟨⟨_, rfl, by rw [this]; simp⟩, rfl⟩
theorem contains_any (p : Option Addr) (n cap : Nat) (c : Int) (xs : List Int) (w : World) (hn : xs.length = n) (hm : n ≤ 9223372036854775807) (hr : Row w p (u8s xs)) :
    Calls Tryz.prog 234 #[.slice p n cap, .int .u8 c] w fun e w' => e = .returned (.bool (xs.any (· == c))) ∧ w' = w := by
  have HR := hid hr
  have HN := hid hn
  clear hr hn
  go_enter Tryz.func234, Tryz.ntmps234
  go_wp2_with fail
  refine (idx_any p n cap c xs w HN.out hm HR.out).mono ?_
  rintro e w' ⟨⟨r, rfl, hr⟩, rfl⟩
  have Hr := hid hr
  clear hr
  go_wp2
  go_ret
  exact ⟨ret_bool Hr.out.symm, rfl⟩
theorem class_quiet (c : Int) (h0 : 0 ≤ c) (h1 : c ≤ 255) (w : World) :
    Calls Tryz.prog 248 #[.int .u8 c] w fun e w' => e = .returned (.int .u8 (cls c)) ∧ w' = w := (class_any c h0 h1 w).mono fun _ _ h => ⟨h.1, h.2.symm⟩
def inCls (cl : List Int) (c : Int) : Bool := cl.any (· == cls c)
theorem span1_any (c : Int) (h0 : 0 ≤ c) (h1 : c ≤ 255) (a : Addr) (p : Option Addr) (n cap : Nat) (xs : List Int) (w : World) (hn : xs.length = n) (hm : n ≤ 9223372036854775807)
    (hbox : w.cell? a = some (.slice p n cap)) (hr : Row w p (u8s xs)) :
    Calls Tryz.prog 265 #[.int .u8 c, .pointer (some a)] w fun e w' => e = .returned (.bool (!inCls xs c)) ∧ ∃ m, w' = w.drewN m := by
  have HR := hid hr
  have HN := hid hn
  clear hr hn
  go_enter Tryz.func265, Tryz.ntmps265
  go_wp2_with fail
  go_quiet ((first | (go_at_call 248; exact Calls.quiet_of_same (class_quiet c h0 h1 _)) | (go_at_call 234; exact Calls.quiet_of_same (contains_any p n cap (cls c) xs _ HN.out hm (HR.out.drewN _)))))
  go_wp2
  go_ret
  exact ⟨rfl, _, rfl⟩
theorem indexFunc_any (a : Addr) (q : Option Addr) (m mc : Nat) (cl : List Int) (p : Option Addr) (n cap : Nat) (xs : List Int) (w : World) (hn : xs.length = n) (hm : n ≤ 9223372036854775807) (hxs : ∀ x ∈ xs, 0 ≤ x ∧ x ≤ 255)
    (hr : Row w p (u8s xs)) (hmn : cl.length = m) (hmm : m ≤ 9223372036854775807) (hbox : w.cell? a = some (.slice q m mc)) (hcl : Row w q (u8s cl)) (h0 : 0 < n) :
    Calls Tryz.prog 264 #[.slice p n cap, .func (.func 265) #[] #[.pointer (some a)]] w fun e w' =>
      (∃ r : Int, e = .returned (.int .i64 r) ∧ ((r < 0 ∧ (xs.takeWhile (inCls cl)).length = n) ∨ r = ((xs.takeWhile (inCls cl)).length : Int))) ∧ ∃ j, w' = w.drewN j := by
  obtain ⟨b, o, rfl, hc⟩ := hr.u8 (by omega)
  have HN := hid hn
  have HC := hid hc
  have HM := hid hmn
  have HL := hid hcl
  have HX := hid hxs
  clear hn hc hr hmn hcl hxs
  go_enter Tryz.func264, Tryz.ntmps264
  go_wp2
  go_loopw [5, 8] (fun _ i wr => ∃ k : Nat, k ≤ n ∧ i = .int .i64 k ∧ (xs.take k).all (inCls cl) = true ∧ ∃ j, wr = w.drewN j) (fun _ i _ => n - (intOf i).toNat)
  case atStart => exact ⟨0, by omega, rfl, by simp, 0, rfl⟩
  case round =>
    obtain ⟨k, hk, rfl, hno, j, rfl⟩ := hrel
    have HNO := hid hno
    clear hno
    by_cases hlt : k < n
    · have hcell := HC.out k (by rw [HN.out]; exact hlt)
      have hs := hid (all_take_succ xs (inCls cl) k (by rw [HN.out]; exact hlt))
      obtain ⟨r0, r1⟩ := getD_range HX.out k (by rw [HN.out]; exact hlt)
      by_cases hin : inCls cl (xs[k]?.getD 0) = true
      · go_wp2_with (go_at_call 265; refine (span1_any _ r0 r1 a q m mc cl _ HM.out hmm (by exact hbox) (by exact HL.out.drewN _)).mono ?_; rintro e w' ⟨rfl, m2, rfl⟩)
        go_roundw
        case rel => exact ⟨k + 1, by omega, by go_num, by rw [hs.out, HNO.out, Bool.true_and]; exact hin, j + m2, rfl⟩
        case measure => simp [intOf]; omega
      · have hin' : inCls cl (xs[k]?.getD 0) = false := by simpa using hin
        clear hin
        go_wp2_with (go_at_call 265; refine (span1_any _ r0 r1 a q m mc cl _ HM.out hmm (by exact hbox) (by exact HL.out.drewN _)).mono ?_; rintro e w' ⟨rfl, m2, rfl⟩)
        go_ret
        refine ⟨⟨(k : Int), rfl, .inr ?_⟩, j + m2, rfl⟩
        rw [tw_hit (by rw [HN.out]; exact hlt) HNO.out hin']
    · have : k = n := by omega
      subst this
      go_wp2
      go_ret
      have := HNO.out
      rw [List.take_of_length_le (by rw [HN.out]; omega)] at this
      exact ⟨⟨-1, rfl, .inl ⟨by omega, by rw [tw_all this]; exact HN.out⟩⟩, j, rfl⟩
def spanOf (xs cl : List Int) (a : Int) : Nat := if a < 0 then 0 else ((xs.drop a.toNat).takeWhile (inCls cl)).length
theorem spanOf_out {xs cl : List Int} {a : Int} (h : a < 0 ∨ (xs.length : Int) ≤ a) : spanOf xs cl a = 0 := by
  unfold spanOf
  split
  · rfl
  · rw [List.drop_of_length_le (by omega)]; rfl
theorem row_drop {w : World} {b o : Nat} {xs : List Int} {n : Nat} (hn : xs.length = n) (hc : ∀ i, i < xs.length → w.cell? ⟨b, o + i, none⟩ = some (.int .u8 (xs.getD i 0))) (k : Nat) :
    Row w (some ⟨b, o + k, none⟩) (u8s (xs.drop k)) := by
  refine .inr ⟨b, o + k, rfl, fun i hi => ?_⟩
  rw [u8s_length, List.length_drop] at hi
  rw [Nat.add_assoc, hc (k + i) (by omega), u8s_getD _ _ (by rw [List.length_drop]; exact hi)]
  simp [List.getD]
set_option maxHeartbeats 400000 in
theorem span_any (p : Option Addr) (n cap : Nat) (a : Int) (q : Option Addr) (m mc : Nat) (xs cl : List Int) (w : World) (hn : xs.length = n) (hm : n ≤ 9223372036854775807) (hcap : n ≤ cap) (hxs : ∀ x ∈ xs, 0 ≤ x ∧ x ≤ 255)
    (hr : Row w p (u8s xs)) (hmn : cl.length = m) (hmm : m ≤ 9223372036854775807) (hcl : Row w q (u8s cl)) :
    Calls Tryz.prog 249 #[.slice p n cap, .int .i64 a, .slice q m mc] w fun e w' =>
      e = .returned (.int .i64 (spanOf xs cl a)) ∧ Below w.heap.size w w' := by
  by_cases hout : a < 0 ∨ (n : Int) ≤ a
  · have hz := hid (spanOf_out (xs := xs) (cl := cl) (a := a) (by omega))
    clear hr hcl hn hmn
    rcases hout with ho | ho
    · go_enter Tryz.func249, Tryz.ntmps249
      go_wp2
      go_ret
      exact ⟨ret_int (by rw [hz.out]; rfl), (Below.refl _ _).alloc (Nat.le_refl _) _⟩
    · have ha : 0 ≤ a := by omega
      go_enter Tryz.func249, Tryz.ntmps249
      go_wp2
      go_ret
      exact ⟨ret_int (by rw [hz.out]; rfl), (Below.refl _ _).alloc (Nat.le_refl _) _⟩
  · obtain ⟨k, rfl⟩ := Int.eq_ofNat_of_zero_le (show 0 ≤ a by omega)
    have hk : k < n := by omega
    clear hout
    obtain ⟨b, o, rfl, hc⟩ := hr.u8 (by omega)
    have hd := row_drop hn hc k
    have hdl : (xs.drop k).length = n - k := by rw [List.length_drop, hn]
    have HD := hid (hd.below ((Below.refl _ w).alloc (Nat.le_refl _) (.cells #[.slice q m mc] 166)))
    have HC := hid (hcl.below ((Below.refl _ w).alloc (Nat.le_refl _) (.cells #[.slice q m mc] 166)))
    have HDL := hid hdl
    have HM := hid hmn
    have HX : Hid (∀ x ∈ xs.drop k, 0 ≤ x ∧ x ≤ 255) := fun x hx => hxs x (List.mem_of_mem_drop hx)
    have HN := hid hn
    have HS : Hid (spanOf xs cl (k : Int) = ((xs.drop k).takeWhile (inCls cl)).length) := by
      show spanOf xs cl (k : Int) = _
      unfold spanOf
      rw [if_neg (by omega)]
      simp
    clear hd hdl hcl hmn hc hr hxs hn
    go_enter Tryz.func249, Tryz.ntmps249
    go_wp2_with fail
    refine (indexFunc_any ⟨w.heap.size, 0, none⟩ q m mc cl (some ⟨b, o + k, none⟩) (n - k) _ (xs.drop k) _ HDL.out (by omega) HX.out HD.out HM.out hmm (by rw [cell_new]; rfl) HC.out (by omega)).mono ?_
    rintro e w' ⟨⟨r, rfl, hr⟩, j, rfl⟩
    have hB : Hid (Below w.heap.size w ((w.alloc (.cells #[.slice q m mc] 166)).drewN j)) := below_drewN ((Below.refl _ w).alloc (Nat.le_refl _) _) j
    rcases hr with ⟨hneg, hlen⟩ | hr
    · have HLen := hid hlen
      clear hlen
      go_wp2
      go_ret
      exact ⟨ret_int (by rw [HS.out, HLen.out]; omega), hB.out⟩
    · have hr0 : 0 ≤ r := by omega
      have HR := hid hr
      clear hr
      go_wp2
      go_ret
      exact ⟨ret_int (by rw [HS.out, HR.out]), hB.out⟩
end
section
open Go.RowKit
def sgn : List Int := [40, 41, 44, 33, 58, 61, 62, 43, 45, 42, 60, 59]
def sgnCells : Array Value := #[.int .u8 40, .int .u8 41, .int .u8 44, .int .u8 33, .int .u8 58, .int .u8 61, .int .u8 62, .int .u8 43, .int .u8 45, .int .u8 42, .int .u8 60, .int .u8 59]
theorem sgn_cell (w : World) (t : TypeId) (k : Nat) (h : k < 12) : (w.alloc (.cells sgnCells t)).cell? ⟨w.heap.size, k, none⟩ = some (.int .u8 (sgn[k]?.getD 0)) := by
  rw [cell_new]
  have key : ∀ k : Fin 12, sgnCells[k.val]? = some (Value.int .u8 (sgn[k.val]?.getD 0)) := by
    intro k
    match k with
    | 0 | 1 | 2 | 3 | 4 | 5 | 6 | 7 | 8 | 9 | 10 | 11 => rfl
  exact key ⟨k, h⟩
set_option maxHeartbeats 400000 in
theorem ref_class_sign (c : Int) (h0 : 0 ≤ c) (h255 : c ≤ 255) (h1 : ¬ c = 32) (h2 : ¬ c = 9) (h3 : ¬ c = 10) (hc : c < 48 ∨ (57 < c ∧ c < 65) ∨ (90 < c ∧ c < 97) ∨ 122 < c) (w : World) :
    Calls Tryz.prog 110 #[.int .u8 c] w fun e w' => e = .returned (.int .u8 (cls c)) ∧ Below w.heap.size w w' := by
  have c1 : (c == 32) = false := by simpa using h1
  have c2 : (c == 9) = false := by simpa using h2
  have c3 : (c == 10) = false := by simpa using h3
  have hyes : Hid ((sgn.any (· == c)) = true → cls c = 5) := by
    intro h
    simp [sgn] at h
    unfold cls
    repeat' split
    all_goals omega
  have hno : Hid ((sgn.any (· == c)) = false → cls c = 0) := by
    intro h
    simp [sgn] at h
    unfold cls
    repeat' split
    all_goals omega
  clear h1 h2 h3
  rcases hc with hc | ⟨hc, hc'⟩ | ⟨hc, hc'⟩ | hc
  all_goals
    go_enter Tryz.func110, Tryz.ntmps110
    go_wp2
    go_loop [4, 36] (fun _ i => ∃ k : Nat, k ≤ 12 ∧ i = .int .i64 k ∧ (sgn.take k).any (· == c) = false) (fun _ i => 12 - (intOf i).toNat)
    case atStart => exact ⟨0, by omega, rfl, by simp⟩
    case round =>
      obtain ⟨k, hk, rfl, hn⟩ := hrel
      have HN := hid hn
      clear hn
      by_cases hlt : k < 12
      · have hcell := sgn_cell w 5 k hlt
        have hs := hid (any_take_succ sgn (· == c) k hlt)
        unfold sgnCells at hcell
        go_wp2
        · go_ret
          exact ⟨ret_int (hyes.out (any_hit sgn (· == c) k hlt (by assumption))).symm, (Below.refl _ _).alloc (Nat.le_refl _) _⟩
        · go_round
          case rel => exact ⟨k + 1, by omega, by go_num, by rw [hs.out, HN.out, Bool.false_or]; assumption⟩
          case measure => simp [intOf]; omega
      · have hk12 : k = 12 := by omega
        subst hk12
        go_wp2
        go_ret
        exact ⟨ret_int (hno.out HN.out).symm, (Below.refl _ _).alloc (Nat.le_refl _) _⟩
set_option maxHeartbeats 400000 in
theorem ref_class_any (c : Int) (h0 : 0 ≤ c) (h255 : c ≤ 255) (w : World) :
    Calls Tryz.prog 110 #[.int .u8 c] w fun e w' => e = .returned (.int .u8 (cls c)) ∧ Below w.heap.size w w' := by
  by_cases hs : ¬ c = 32 ∧ ¬ c = 9 ∧ ¬ c = 10 ∧ (c < 48 ∨ (57 < c ∧ c < 65) ∨ (90 < c ∧ c < 97) ∨ 122 < c)
  · exact ref_class_sign c h0 h255 hs.1 hs.2.1 hs.2.2.1 hs.2.2.2 w
  · rcases (by omega : c = 32 ∨ c = 9 ∨ c = 10 ∨ (48 ≤ c ∧ c ≤ 57) ∨ (97 ≤ c ∧ c ≤ 122) ∨ (65 ≤ c ∧ c ≤ 90)) with rfl | rfl | rfl | ⟨ha, hb⟩ | ⟨ha, hb⟩ | ⟨ha, hb⟩
    all_goals
      clear hs
      try have c1 : (c == 32) = false := by simp; omega
      try have c2 : (c == 9) = false := by simp; omega
      try have c3 : (c == 10) = false := by simp; omega
      go_enter Tryz.func110, Tryz.ntmps110
      go_wp2
      go_ret
      refine ⟨ret_int ?_, Below.refl _ _⟩
      unfold cls
      repeat' split
      all_goals omega
end
section
open Go.RowKit
variable {α : Type}
def RowE (enc : α → List Value) (k : Nat) (w : World) (p : Option Addr) (l : List α) : Prop :=
  l = [] ∨ ∃ b o, p = some ⟨b, o, none⟩ ∧ b < w.heap.size ∧ ∀ j x, l[j]? = some x → ∀ i v, (enc x)[i]? = some v → w.cell? ⟨b, o + j * k + i, none⟩ = some v
theorem RowE.nil (enc : α → List Value) (k : Nat) (w : World) (p : Option Addr) : RowE enc k w p [] := .inl rfl
theorem RowE.below {enc : α → List Value} {k : Nat} {w w' : World} {p : Option Addr} {l : List α} (h : RowE enc k w p l) (hb : Below w.heap.size w w') : RowE enc k w' p l := by
  rcases h with h | ⟨b, o, hp, hlt, hc⟩
  · exact .inl h
  · exact .inr ⟨b, o, hp, Nat.lt_of_lt_of_le hlt hb.size, fun j x hx i v hv => by rw [hb.cell (p := ⟨b, o + j * k + i, none⟩) hlt]; exact hc j x hx i v hv⟩
theorem RowE.alloc {enc : α → List Value} {k : Nat} {w : World} {p : Option Addr} {l : List α} (h : RowE enc k w p l) (o : Obj) : RowE enc k (w.alloc o) p l := h.below ((Below.refl _ _).alloc (Nat.le_refl _) _)
theorem RowE.drewN {enc : α → List Value} {k : Nat} {w : World} {p : Option Addr} {l : List α} (h : RowE enc k w p l) (n : Nat) : RowE enc k (w.drewN n) p l := h
theorem RowE.at {enc : α → List Value} {k : Nat} {w : World} {p : Option Addr} {l : List α} (h : RowE enc k w p l) (hne : 0 < l.length) :
    ∃ b o, p = some ⟨b, o, none⟩ ∧ b < w.heap.size ∧ ∀ j x, l[j]? = some x → ∀ i v, (enc x)[i]? = some v → w.cell? ⟨b, o + j * k + i, none⟩ = some v := by
  rcases h with h | h
  · subst h; simp at hne
  · exact h
theorem RowE.elem {enc : α → List Value} {k : Nat} {w : World} {p : Option Addr} {l : List α} (h : RowE enc k w p l) {j : Nat} {x : α} (hx : l[j]? = some x) :
    ∃ b o, p = some ⟨b, o, none⟩ ∧ b < w.heap.size ∧ ∀ i v, (enc x)[i]? = some v → w.cell? ⟨b, o + j * k + i, none⟩ = some v := by
  rcases h with h | ⟨b, o, hp, hb, hc⟩
  · subst h; simp at hx
  · exact ⟨b, o, hp, hb, fun i v hv => hc j x hx i v hv⟩
theorem RowE.take {enc : α → List Value} {k : Nat} {w : World} {p : Option Addr} {l : List α} (h : RowE enc k w p l) (n : Nat) : RowE enc k w p (l.take n) := by
  rcases h with h | ⟨b, o, hp, hb, hc⟩
  · subst h; exact .inl (by simp)
  · refine .inr ⟨b, o, hp, hb, fun j x hx i v hv => hc j x ?_ i v hv⟩
    rw [List.getElem?_take] at hx
    split at hx
    · exact hx
    · cases hx
theorem get_lt {l : List α} {j : Nat} {x : α} (h : l[j]? = some x) : j < l.length := (List.getElem?_eq_some_iff.1 h).1
theorem get_of_lt {l : List α} {j : Nat} (h : j < l.length) : ∃ x, l[j]? = some x := ⟨l[j], List.getElem?_eq_getElem h⟩
theorem take_succ_get {l : List α} {j : Nat} {x : α} (h : l[j]? = some x) : l.take (j + 1) = l.take j ++ [x] := by
  obtain ⟨hj, rfl⟩ := List.getElem?_eq_some_iff.1 h
  exact List.take_succ_eq_append_getElem hj
theorem take_full {l : List α} {n : Nat} (h : l.length ≤ n) : l.take n = l := List.take_of_length_le h
theorem any_get {l : List α} {q : α → Bool} {j : Nat} {x : α} (h : l[j]? = some x) (hq : q x = true) : l.any q = true := by
  rw [List.any_eq_true]
  exact ⟨x, List.mem_of_getElem? h, hq⟩
theorem all_get {l : List α} {q : α → Bool} {j : Nat} {x : α} (h : l[j]? = some x) (hq : q x = false) : l.all q = false := by
  rw [List.all_eq_false]
  exact ⟨x, List.mem_of_getElem? h, by simp [hq]⟩
theorem any_take_get {l : List α} {q : α → Bool} {j : Nat} {x : α} (h : l[j]? = some x) : (l.take (j + 1)).any q = ((l.take j).any q || q x) := by
  rw [take_succ_get h, List.any_append]; simp
theorem all_take_get {l : List α} {q : α → Bool} {j : Nat} {x : α} (h : l[j]? = some x) : (l.take (j + 1)).all q = ((l.take j).all q && q x) := by
  rw [take_succ_get h, List.all_append]; simp
theorem flat_get {enc : α → List Value} {k : Nat} (hk : ∀ x, (enc x).length = k) : ∀ (l : List α) (j : Nat) (x : α) (i : Nat), l[j]? = some x → i < k → (l.flatMap enc)[j * k + i]? = (enc x)[i]?
  | [], j, x, i, h, _ => by simp at h
  | y :: l, 0, x, i, h, hi => by
    simp at h; subst h
    rw [List.flatMap_cons, List.getElem?_append_left (by rw [hk]; omega)]
    simp
  | y :: l, j + 1, x, i, h, hi => by
    simp only [List.getElem?_cons_succ] at h
    rw [List.flatMap_cons, List.getElem?_append_right (by rw [hk, Nat.add_mul]; omega), hk]
    rw [show (j + 1) * k + i - k = j * k + i from by rw [Nat.add_mul]; omega]
    exact flat_get hk l j x i h hi
theorem flat_length {enc : α → List Value} {k : Nat} (hk : ∀ x, (enc x).length = k) (l : List α) : (l.flatMap enc).length = l.length * k := by
  induction l with
  | nil => simp
  | cons a l ih => rw [List.flatMap_cons, List.length_append, hk, ih, List.length_cons, Nat.add_mul]; omega
theorem add_lit' (b o i : Nat) : (⟨b, o, none⟩ : Addr).add i = ⟨b, o + i, none⟩ := by unfold Addr.add; split <;> simp_all
theorem own_row {enc : α → List Value} {k : Nat} (hk : ∀ x, (enc x).length = k) {w : World} {base e n : Nat} {v : Value} {l : List α} (h : w.ownsRow base e k v n (l.flatMap enc)) (hk0 : 0 < k) :
    ∃ p cap, v = .slice p n cap ∧ l.length = n ∧ n ≤ cap ∧ RowE enc k w p l ∧ cap ≤ maxLen ∧ (p = none → n = 0 ∧ cap = 0) ∧ (∀ a, p = some a → base ≤ a.block ∧ a.off = 0 ∧ a.spot = none ∧ a.block < w.heap.size) := by
  have hl : l.length = n := by
    have := h.1
    rw [flat_length hk] at this
    exact Nat.eq_of_mul_eq_mul_right hk0 this
  rcases h.2 with ⟨rfl, h0⟩ | ⟨g, cap, cur, rfl, hb, hg, hnc, hcm, hsz, htk⟩
  · subst h0
    exact ⟨none, 0, rfl, hl, by omega, .inl (List.length_eq_zero_iff.1 hl), by simp [maxLen], (fun _ => ⟨rfl, rfl⟩), (fun a ha => by cases ha)⟩
  · have hlt : g < w.heap.size := (Array.getElem?_eq_some_iff.1 hg).1
    refine ⟨_, cap, rfl, hl, hnc, .inr ⟨g, 0, rfl, hlt, fun j x hx i v hv => ?_⟩, hcm, (fun e => by cases e), (fun a ha => by cases ha; exact ⟨hb, rfl, rfl, hlt⟩)⟩
    have hi : i < k := by rw [← hk x]; exact get_lt hv
    have hf := flat_get hk l j x i hx hi
    have := h.cells (g := g) rfl (j * k + i) v (by rw [hf]; exact hv)
    rw [add_lit'] at this
    simpa [Nat.add_assoc] using this
def encS (s : ByteArray) : List Value := [.string s]
theorem encS_len (s : ByteArray) : (encS s).length = 1 := rfl
def encN (n : Int) : List Value := [.int .i64 n]
theorem encN_len (n : Int) : (encN n).length = 1 := rfl
theorem RowE.str {w : World} {p : Option Addr} {l : List ByteArray} (h : RowE encS 1 w p l) {j : Nat} {x : ByteArray} (hx : l[j]? = some x) :
    ∃ b o, p = some ⟨b, o, none⟩ ∧ w.cell? ⟨b, o + j, none⟩ = some (.string x) := by
  obtain ⟨b, o, rfl, _, hc⟩ := h.elem hx
  exact ⟨b, o, rfl, by simpa using hc 0 _ rfl⟩
theorem RowE.num {w : World} {p : Option Addr} {l : List Int} (h : RowE encN 1 w p l) {j : Nat} {x : Int} (hx : l[j]? = some x) :
    ∃ b o, p = some ⟨b, o, none⟩ ∧ w.cell? ⟨b, o + j, none⟩ = some (.int .i64 x) := by
  obtain ⟨b, o, rfl, _, hc⟩ := h.elem hx
  exact ⟨b, o, rfl, by simpa using hc 0 _ rfl⟩
theorem RowE.newAt {enc : α → List Value} {k : Nat} (hk : ∀ x, (enc x).length = k) (w : World) (l : List α) (cs : Array Value) (hcs : cs.toList = l.flatMap enc) (t : TypeId) (fr : Nat × Nat) (b : Nat) (h : w.heap.size = b) :
    RowE enc k (w.alloc (.cells cs t fr)) (some ⟨b, 0, none⟩) l := by
  subst h
  refine .inr ⟨_, 0, rfl, by simp, fun j x hx i v hv => ?_⟩
  rw [cell_new w _ t _ fr, ← Array.getElem?_toList, hcs]
  have hi : i < k := by rw [← hk x]; exact get_lt hv
  have := flat_get hk l j x i hx hi
  rw [Nat.zero_add, this]; exact hv
end
section
open Go.RowKit
def bytesI (s : ByteArray) : List Int := s.data.toList.map (fun b => (b.toNat : Int))
theorem bytesI_len (s : ByteArray) : (bytesI s).length = s.size := by simp [bytesI]
theorem bytesI_rng (s : ByteArray) : ∀ x ∈ bytesI s, 0 ≤ x ∧ x ≤ 255 := by
  intro x hx
  simp only [bytesI, List.mem_map] at hx
  obtain ⟨b, _, rfl⟩ := hx
  have := b.toNat_lt
  omega
def shapedB (s : ByteArray) (first : Int) : Bool := decide (0 < s.size) && decide (s.size ≤ 16) && ((bytesI s).headD 0 |> cls |> (· == first)) && (bytesI s).all (inCls [3, 4, 2])
theorem bytesI_get (s : ByteArray) (j : Nat) (h : j < s.size) : (bytesI s)[j]? = some ((s[j].toNat : Nat) : Int) := by
  have hl : j < s.data.toList.length := by simpa using h
  simp only [bytesI, List.getElem?_map, List.getElem?_eq_getElem hl, Option.map_some]
  rfl
theorem bytesI_head (s : ByteArray) (h : 0 < s.size) : (bytesI s).headD 0 = ((s[0].toNat : Nat) : Int) := by
  have := bytesI_get s 0 h
  rw [List.headD_eq_head?_getD, List.head?_eq_getElem?, this]
  rfl
theorem bytes_conv (s : ByteArray) (w : World) : ∃ cap C, s.size ≤ cap ∧ Row ((w.alloc (.cells C 5 (C.size, C.size + 1))).drew) (some ⟨w.heap.size, 0, none⟩) (u8s (bytesI s)) ∧
    (convert 9 166 (.string s)).run Tryz.prog w = .ok (.slice (some ⟨w.heap.size, 0, none⟩) s.size cap) ((w.alloc (.cells C 5 (C.size, C.size + 1))).drew) := by
  refine ⟨grownCap w s.size 0 5, bytesRow s (grownCap w s.size 0 5), grownCap_ge _ _ _ _, ?_, run_bytes_of_string w 9 166 5 s Tryz.underlying9 Tryz.underlying166 Tryz.underlying5⟩
  refine .inr ⟨_, _, rfl, fun j hj => ?_⟩
  rw [u8s_length, bytesI_len] at hj
  rw [u8s_getD _ _ (by rw [bytesI_len]; exact hj)]
  show (w.alloc _).cell? _ = _
  rw [cell_new w _ _ _ (_, _), Nat.zero_add, bytesRow_at s _ j hj, List.getD_eq_getElem?_getD, bytesI_get s j hj]
  rfl
theorem tw_all_of {l : List Int} {p : Int → Bool} (h : (l.takeWhile p).length = l.length) : l.all p = true := by
  induction l with
  | nil => rfl
  | cons x r ih =>
    rw [List.takeWhile_cons] at h
    cases hx : p x with
    | false => rw [hx] at h; simp at h
    | true => rw [hx] at h; simp at h; simp [hx, ih h]
theorem spanOf_eq_len (xs cl : List Int) : (spanOf xs cl 0 = xs.length) ↔ xs.all (inCls cl) = true := by
  unfold spanOf
  rw [if_neg (by omega)]
  simp only [Int.toNat_zero, List.drop_zero]
  constructor
  · exact tw_all_of
  · exact tw_all
theorem shaped_any (s : ByteArray) (first : Int) (w : World) :
    Calls Tryz.prog 212 #[.string s, .int .u8 first] w fun e w' => e = .returned (.bool (shapedB s first)) ∧ Below w.heap.size w w' := by
  by_cases h0 : s.size = 0
  · have hs : s.toList = [] := by rw [Lib.toList_data, ← List.length_eq_zero_iff, ← Lib.size_eq]; exact h0
    have hs' : s.toList.isEmpty = true := by rw [hs]; rfl
    have hr : Hid (shapedB s first = false) := by show shapedB s first = false; simp [shapedB, h0]
    go_enter Tryz.func212, Tryz.ntmps212
    go_wp2_with fail
    go_ret
    exact ⟨ret_bool hr.out.symm, Below.refl _ _⟩
  · have hpos : 0 < s.size := by omega
    have hs : (s.toList == []) = false := by
      rw [beq_eq_false_iff_ne]
      intro e
      rw [Lib.toList_data] at e
      have : s.size = 0 := by rw [Lib.size_eq, e]; rfl
      omega
    have hs' : s.toList.isEmpty = false := by rw [List.isEmpty_eq_false_iff]; simpa using hs
    by_cases h16 : 16 < s.size
    · have hr : Hid (shapedB s first = false) := by show shapedB s first = false; simp [shapedB]; intro _ h; omega
      go_enter Tryz.func212, Tryz.ntmps212
      go_wp2_with fail
      go_ret
      exact ⟨ret_bool hr.out.symm, Below.refl _ _⟩
    · have h16' : s.size ≤ 16 := by omega
      have hh := bytesI_head s hpos
      have hc : (0 : Int) ≤ ((s[0].toNat : Nat) : Int) ∧ ((s[0].toNat : Nat) : Int) ≤ 255 := by have := s[0].toNat_lt; omega
      obtain ⟨c0, c1⟩ := hc
      obtain ⟨cap, C, hcap, hrow, kc⟩ := bytes_conv s w
      have HR := hid hrow
      have HH := hid hh
      clear hrow hh h16
      by_cases hf : cls ((s[0].toNat : Nat) : Int) = first
      · have HF := hid hf
        have hbne : (cls ((s[0].toNat : Nat) : Int) != first) = false := by rw [hf]; simp
        clear hf
        have hr : Hid (shapedB s first = decide (spanOf (bytesI s) [3, 4, 2] 0 = s.size)) := by
          show shapedB s first = _
          unfold shapedB
          rw [HH.out, HF.out]
          have := spanOf_eq_len (bytesI s) [3, 4, 2]
          rw [bytesI_len] at this
          simp only [hpos, h16', decide_true, Bool.true_and, beq_self_eq_true]
          rw [Bool.eq_iff_iff, decide_eq_true_eq, this]
        go_enter Tryz.func212, Tryz.ntmps212
        go_wp2_with fail
        refine (class_any _ c0 c1 _).mono ?_
        rintro e w1 ⟨rfl, rfl⟩
        go_wp2_with fail
        refine (span_any (some ⟨w.heap.size, 0, none⟩) s.size cap 0 _ 3 3 (bytesI s) [3, 4, 2] _ (bytesI_len s) (by omega) hcap (bytesI_rng s) ?_ rfl (by omega) ?_).mono ?_
        · exact HR.out.alloc _
        · exact Row.newAt _ (u8s [3, 4, 2]) 5 (0, 0) _ (by simp)
        · rintro e w1 ⟨rfl, hb⟩
          have HB : Hid (Below w.heap.size w w1) := (((Below.refl _ w).alloc (Nat.le_refl _) _).drew.alloc (by simp) _).trans (hb.mono (by simp; omega))
          clear hb
          go_wp2_with fail
          go_ret
          refine ⟨ret_bool ?_, HB.out⟩
          rw [hr.out, Bool.eq_iff_iff, decide_eq_true_eq, beq_iff_eq]
          omega
      · have hbne : (cls ((s[0].toNat : Nat) : Int) != first) = true := by simpa using hf
        have hr : Hid (shapedB s first = false) := by
          show shapedB s first = false
          unfold shapedB
          rw [HH.out]
          simp [hf]
        clear kc HR hcap hf
        go_enter Tryz.func212, Tryz.ntmps212
        go_wp2_with fail
        refine (class_any _ c0 c1 _).mono ?_
        rintro e w1 ⟨rfl, rfl⟩
        go_wp2_with fail
        go_ret
        exact ⟨ret_bool hr.out.symm, Below.refl _ _⟩
end
end Go.Proofs.YtkdjnegfnhldpaaGreatDoor
