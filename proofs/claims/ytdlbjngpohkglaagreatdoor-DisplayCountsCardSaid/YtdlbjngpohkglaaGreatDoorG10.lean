/- Part 10 of the texts: Dig, IsRow, Sets. -/
import Derived.Test.YtdlbjngpohkglaaGreatDoorG09
import Derived.WalkSmall
import Derived.Lib.ItoaLen
import Derived.Lib.ItoaMem
import Derived.Lib.LaidTab
import Derived.Test.YtdlbjngpohkglaaGreatDoorG05
import Derived.Test.YtdlbjngpohkglaaGreatDoorG08
section
set_option linter.unusedVariables false
set_option maxRecDepth 100000
set_option linter.unusedSimpArgs false
namespace Go.Proofs.YtdlbjngpohkglaaGreatDoor
open Go.RowKit Go.Sort Go.Lib

/-- the table of powers lies in w -/
def Tab (w : World) : Prop := Lib.TabIs Tryz.prog w "internal/strconv.uint64pow10" .u64 Lib.pow10Tab
theorem gPow : Tryz.prog.globalNamed "internal/strconv.uint64pow10" = some 1 := by kernel_rfl
theorem Tab.lt {w : World} (h : Tab w) : 1 < w.heap.size := by
  have := Lib.TabIs.cell h gPow 0 (by decide)
  exact cell_block this
theorem Tab.below {w w' : World} (h : Tab w) (hb : Below w.heap.size w w') : Tab w' := var?_below hb gPow h.lt h

theorem digits_any (r : Int) (h0 : -9223372036854775808 ≤ r) (h1 : r ≤ 9223372036854775807) (w : World) (ht : Tab w) :
    Calls Tryz.prog 58 #[.int .i64 r] w fun e w' => e = .returned (.string (decB r)) ∧ Below w.heap.size w w' := by
  have HC := Lib.hid (Tryz.strconv_FormatInt_10 r h0 h1 w ht)
  clear h0 h1 ht
  go_enter Tryz.func58, Tryz.ntmps58
  go_wp2_with fail
  refine HC.out.mono ?_
  rintro e w' ⟨rfl, k, os, rfl⟩
  have HB := Lib.hid (below_grow w k os)
  go_wp2_with fail
  go_ret
  exact ⟨rfl, HB.out⟩
theorem digOK_of {r : Int} (h0 : -9223372036854775808 ≤ r) (h1 : r ≤ 9223372036854775807) {w : World} (ht : Tab w) : DigOK w r := fun W hW => digits_any r h0 h1 W (ht.below hW)

theorem decB_size (r : Int) (h0 : -9223372036854775808 ≤ r) (h1 : r ≤ 9223372036854775807) : (decB r).size ≤ 21 := by
  have := Lib.itoa_length_le r h0 h1
  show (Lib.itoa r).toArray.size ≤ 21
  simpa using this
/-- a digit's byte -/
def dgB (k : Nat) : ByteArray := ⟨#[UInt8.ofNat (48 + k)]⟩
theorem dgB_size (k : Nat) : (dgB k).size = 1 := rfl
theorem decB_small {n : Nat} (h : n < 10) : decB n = dgB n := by
  unfold decB dgB
  rw [Lib.itoa_nonneg, Lib.decDigits_one h]
theorem decB_big {n : Nat} (h : ¬ n < 10) : decB n = decB ((n / 10 : Nat) : Int) ++ dgB (n % 10) := by
  unfold decB dgB
  rw [Lib.itoa_nonneg, Lib.itoa_nonneg, Lib.decDigits, dif_neg h]
  apply ByteArray.ext
  simp

set_option maxHeartbeats 400000 in
theorem ref_Digits_nat (n : Nat) : n ≤ 9223372036854775807 → ∀ w, Calls Tryz.prog 15 #[.int .i64 n] w fun e w' => e = .returned (.string (decB n)) ∧ Below w.heap.size w w' := by
  induction n using Nat.strongRecOn with
  | _ n ih =>
  intro hn w
  have IH := Lib.hid ih
  have hcv : (convert 55 9 (.slice (some ⟨w.heap.size, 0, none⟩) 1 1)).run Tryz.prog (w.alloc (.cells #[.int .u8 (48 + (n : Int) % 10)] 5)) = .ok (.string (dgB (n % 10))) (w.alloc (.cells #[.int .u8 (48 + (n : Int) % 10)] 5)) := by
    have := run_convert_bytes_back (P := Tryz.prog) (w.alloc (.cells #[.int .u8 (48 + (n : Int) % 10)] 5)) 55 9 5 ⟨w.heap.size, 0, none⟩ 1 [UInt8.ofNat (48 + n % 10)] Tryz.underlying55 Tryz.underlying5 Tryz.underlying9 (by
      intro j hj
      obtain rfl : j = 0 := by simpa using hj
      rw [add_lit', cell_new]
      have : (UInt8.ofNat (48 + n % 10)).toNat = 48 + n % 10 := by
        rw [UInt8.toNat_ofNat']; omega
      simp
      omega)
    exact this
  clear ih
  by_cases h10 : n < 10
  · have HE : Hid (decB n = dgB (n % 10)) := by show _ = _; rw [decB_small h10, Nat.mod_eq_of_lt h10]
    go_enter Tryz.func15, Tryz.ntmps15
    go_wp2_with fail
    go_ret
    exact ⟨ret_str HE.out.symm, (Below.refl _ _).alloc (Nat.le_refl _) _⟩
  · have hsz := decB_size ((n : Int) / 10) (by omega) (by omega)
    have hsz1 := dgB_size (n % 10)
    have HS1 := Lib.hid hsz1
    have hsz2 : (dgB (n % 10)).size ≤ 1 := by omega
    clear hsz1
    have hq : ((n : Int) / 10) = ((n / 10 : Nat) : Int) := by omega
    have HE : Hid (decB n = decB ((n : Int) / 10) ++ dgB (n % 10)) := by show _ = _; rw [decB_big h10, hq]
    have HQ := Lib.hid hq
    clear hq
    go_enter Tryz.func15, Tryz.ntmps15
    go_wp2_with fail
    rw [HQ.out]
    refine (IH.out (n / 10) (by omega) (by omega) _).mono ?_
    rintro e w1 ⟨rfl, hb⟩
    have HB := Lib.hid (((Below.refl _ w).alloc (Nat.le_refl _) _).trans (hb.mono (by simp)))
    clear hb hcv
    go_wp2_with fail
    go_ret
    exact ⟨ret_str HE.out.symm, HB.out⟩
theorem ref_Digits_pos {r : Int} (h0 : 0 ≤ r) (h1 : r ≤ 9223372036854775807) (w : World) : Calls Tryz.prog 15 #[.int .i64 r] w fun e w' => e = .returned (.string (decB r)) ∧ Below w.heap.size w w' := by
  obtain ⟨n, rfl⟩ := Int.eq_ofNat_of_zero_le h0
  exact ref_Digits_nat n (by omega) w
end Go.Proofs.YtdlbjngpohkglaaGreatDoor
end
section
set_option linter.unusedVariables false
set_option maxRecDepth 100000
set_option linter.unusedSimpArgs false
namespace Go.Proofs.YtdlbjngpohkglaaGreatDoor
open Go.RowKit

/-- The slice p n cap holds the elements l. -/
structure IsRow {α : Type} (enc : α → List Value) (k : Nat) (w : World) (p : Option Addr) (n cap : Nat) (l : List α) : Prop where
  len : l.length = n
  max : n ≤ 9223372036854775807
  le : n ≤ cap
  nil : p = none → cap = 0
  row : RowE enc k w p l
section
variable {α : Type} {enc : α → List Value} {k : Nat} {w w' : World} {p : Option Addr} {n cap : Nat} {l : List α}
theorem IsRow.below (h : IsRow enc k w p n cap l) (hb : Below w.heap.size w w') : IsRow enc k w' p n cap l := ⟨h.1, h.2, h.3, h.4, h.5.below hb⟩
theorem IsRow.alloc (h : IsRow enc k w p n cap l) (o : Obj) : IsRow enc k (w.alloc o) p n cap l := h.below ((Below.refl _ _).alloc (Nat.le_refl _) _)
theorem OwnE.isRow {base e : Nat} {v : Value} (hk : ∀ x, (enc x).length = k) (hk0 : 0 < k) (h : OwnE enc k w base e v n l) : ∃ p cap, v = .slice p n cap ∧ IsRow enc k w p n cap l := by
  obtain ⟨p, cap, hv, hl, hc, hr, hm, hn, _⟩ := h.row hk hk0
  unfold maxLen at hm
  exact ⟨p, cap, hv, hl, by omega, hc, fun e => (hn e).2, hr⟩
theorem IsRow.none (enc : α → List Value) (k : Nat) (w : World) : IsRow enc k w Option.none 0 0 [] := ⟨rfl, by omega, by omega, fun _ => rfl, .inl rfl⟩
end
end Go.Proofs.YtdlbjngpohkglaaGreatDoor
end
section
set_option linter.unusedVariables false
set_option maxRecDepth 100000
set_option linter.unusedSimpArgs false
namespace Go.Proofs.YtdlbjngpohkglaaGreatDoor
open Go.RowKit

/-- a number ahead of the first greater one -/
def putPosI (a : Int) : List Int → List Int
  | [] => [a]
  | b :: l => if ltI a b then a :: b :: l else b :: putPosI a l
/-- a rising row with one more -/
def putI (a : Int) (e : List Int) : List Int := if inN e a then e else putPosI a e
theorem putPosI_hit (a : Int) : ∀ (l : List Int) (x : Int), l.any (ltI a) = true → putPosI a (l ++ [x]) = putPosI a l ++ [x]
  | [], x, h => by simp at h
  | b :: l, x, h => by
    simp only [List.cons_append, putPosI]
    by_cases hb : ltI a b = true
    · simp [hb]
    · rw [if_neg hb, if_neg hb, putPosI_hit a l x (by simpa [hb] using h)]; rfl
theorem putPosI_first (a : Int) : ∀ (l : List Int) (x : Int), l.any (ltI a) = false → ltI a x = true → putPosI a (l ++ [x]) = l ++ [a, x]
  | [], x, _, hx => by simp [putPosI, hx]
  | b :: l, x, h, hx => by
    simp only [List.any_cons, Bool.or_eq_false_iff] at h
    simp only [List.cons_append, putPosI]
    rw [if_neg (by simp [h.1]), putPosI_first a l x h.2 hx]
theorem putPosI_none (a : Int) : ∀ (l : List Int), l.any (ltI a) = false → putPosI a l = l ++ [a]
  | [], _ => rfl
  | b :: l, h => by
    simp only [List.any_cons, Bool.or_eq_false_iff] at h
    simp only [putPosI, List.cons_append]
    rw [if_neg (by simp [h.1]), putPosI_none a l h.2]
theorem putPosI_length (a : Int) : ∀ l : List Int, (putPosI a l).length = l.length + 1
  | [] => rfl
  | b :: l => by
    simp only [putPosI]
    split
    · rfl
    · simp [putPosI_length a l]
/-- what has been put out behind k of them -/
def outI (a : Int) (l : List Int) : List Int := if l.any (ltI a) then putPosI a l else l
theorem outI_done (a : Int) (l : List Int) (x : Int) (h : l.any (ltI a) = true) : outI a (l ++ [x]) = outI a l ++ [x] := by
  unfold outI
  rw [if_pos h, if_pos (by rw [List.any_append, h]; rfl), putPosI_hit a l x h]
theorem outI_first (a : Int) (l : List Int) (x : Int) (h : l.any (ltI a) = false) (hx : ltI a x = true) : outI a (l ++ [x]) = (outI a l ++ [a]) ++ [x] := by
  have e1 : (l ++ [x]).any (ltI a) = true := by rw [List.any_append]; simp [hx]
  unfold outI
  rw [if_pos e1, if_neg (by rw [h]; exact Bool.false_ne_true), putPosI_first a l x h hx]
  simp
theorem outI_not (a : Int) (l : List Int) (x : Int) (h : l.any (ltI a) = false) (hx : ltI a x = false) : outI a (l ++ [x]) = outI a l ++ [x] := by
  have e1 : (l ++ [x]).any (ltI a) = false := by rw [List.any_append, h]; simp [hx]
  unfold outI
  rw [if_neg (by rw [e1]; exact Bool.false_ne_true), if_neg (by rw [h]; exact Bool.false_ne_true)]
theorem mem_putPosI (a x : Int) : ∀ l : List Int, x ∈ putPosI a l ↔ x = a ∨ x ∈ l
  | [] => by simp [putPosI]
  | b :: l => by
    unfold putPosI
    by_cases h : ltI a b = true
    · rw [if_pos h]; simp
    · rw [if_neg h, List.mem_cons, mem_putPosI a x l, List.mem_cons]
      constructor
      · rintro (h | h | h)
        · exact .inr (.inl h)
        · exact .inl h
        · exact .inr (.inr h)
      · rintro (h | h | h)
        · exact .inr (.inl h)
        · exact .inl h
        · exact .inr (.inr h)
theorem rising_putPosI (a : Int) : ∀ l : List Int, Rising ltI l → a ∉ l → Rising ltI (putPosI a l)
  | [], _, _ => by simp [putPosI, Rising]
  | b :: l, hr, hn => by
    obtain ⟨hb, hl⟩ := List.pairwise_cons.1 hr
    unfold putPosI
    by_cases h : ltI a b = true
    · rw [if_pos h]
      refine List.pairwise_cons.2 ⟨fun x hx => ?_, hr⟩
      rcases List.mem_cons.1 hx with rfl | hx
      · exact h
      · exact ltI_trans _ _ _ h (hb x hx)
    · rw [if_neg h]
      refine List.pairwise_cons.2 ⟨fun x hx => ?_, rising_putPosI a l hl (fun h => hn (List.mem_cons_of_mem _ h))⟩
      rcases (mem_putPosI a x l).1 hx with rfl | hx
      · cases e : ltI b x with
        | true => rfl
        | false => exact absurd (List.mem_cons.2 (.inl (ltI_tri _ _ (by simpa using h) e))) hn
      · exact hb x hx
theorem inN_mem' (l : List Int) (x : Int) : inN l x = true ↔ x ∈ l := by
  unfold inN
  rw [List.any_eq_true]
  constructor
  · rintro ⟨y, hy, h⟩
    have : y = x := by simpa using h
    subst this; exact hy
  · intro h
    exact ⟨x, h, by simp⟩
theorem mem_putI (a x : Int) (l : List Int) : x ∈ putI a l ↔ x = a ∨ x ∈ l := by
  unfold putI
  by_cases h : inN l a = true
  · rw [if_pos h]
    constructor
    · exact .inr
    · rintro (rfl | h')
      · exact (inN_mem' _ _).1 h
      · exact h'
  · rw [if_neg h, mem_putPosI]
theorem rising_putI (a : Int) (l : List Int) (hr : Rising ltI l) : Rising ltI (putI a l) := by
  unfold putI
  by_cases h : inN l a = true
  · rw [if_pos h]; exact hr
  · rw [if_neg h]; exact rising_putPosI a l hr (fun hm => h ((inN_mem' l a).2 hm))
theorem putI_length (a : Int) (l : List Int) : (putI a l).length ≤ l.length + 1 := by
  unfold putI; split
  · omega
  · rw [putPosI_length]; omega

theorem infoN : (Tryz.prog.info? 3).map (fun i => (i.zero, i.size, i.bytes)) = some (some (.int .i64 0), 1, 8) := by kernel_rfl
theorem encN_one (y : Int) : ∀ u ∈ encN y, u.oneCell' = true := by
  intro u hu
  simp [encN] at hu
  subst hu; rfl
theorem ref_Ints_of {p : Option Addr} {n cap : Nat} {l : List Int} {x : Int} {w : World} {r : Bool} (hq : inN l x = r) (h : IsRow encN 1 w p n cap l) :
    Calls Tryz.prog 37 #[.slice p n cap, .int .i64 x] w fun e w' => e = .returned (.bool r) ∧ w = w' := by
  subst hq; exact ref_Ints_any p n cap l x w h.len h.max h.row

/-- are two rows of numbers the same? -/
def eqN (l m : List Int) : Bool := decide (l = m)
theorem ref_EqualInts_any {p : Option Addr} {n cap : Nat} {l : List Int} {q : Option Addr} {m mc : Nat} {l' : List Int} {w : World} (hr : IsRow encN 1 w p n cap l) (hr' : IsRow encN 1 w q m mc l') :
    Calls Tryz.prog 25 #[.slice p n cap, .slice q m mc] w fun e w' => e = .returned (.bool (eqN l l')) ∧ ∃ j, w' = w.drewN j := by
  have hmx := hr.max
  have HR := Lib.hid hr
  have HR' := Lib.hid hr'
  clear hr hr'
  by_cases hnm : n = m
  · subst hnm
    go_enter Tryz.func25, Tryz.ntmps25
    go_wp2_with fail
    go_loopw [5, 13] (fun _ i wr => ∃ k : Nat, k ≤ n ∧ i = .int .i64 k ∧ l.take k = l'.take k ∧ ∃ j, wr = w.drewN j) (fun _ i _ => n - (intOf i).toNat)
    case atStart => exact ⟨0, by omega, rfl, by simp, 0, rfl⟩
    case round =>
      obtain ⟨k, hk, rfl, hno, j, rfl⟩ := hrel
      have HNO := Lib.hid hno
      clear hno
      by_cases hlt : k < n
      · obtain ⟨x, hx⟩ := get_of_lt (l := l) (j := k) (by rw [HR.out.len]; exact hlt)
        obtain ⟨y, hy⟩ := get_of_lt (l := l') (j := k) (by rw [HR'.out.len]; exact hlt)
        obtain ⟨b, o, rfl, c0⟩ := HR.out.row.num hx
        obtain ⟨b', o', rfl, d0⟩ := HR'.out.row.num hy
        have HE := Lib.hid hx
        have HE' := Lib.hid hy
        clear hx hy
        by_cases hq : x = y
        · have hb : (x != y) = false := by simp [hq]
          have HQ := Lib.hid hq
          clear hq
          go_wp2_with fail
          go_quiet (fail)
          go_wp2_with fail
          go_roundw
          case rel => exact ⟨k + 1, by omega, by go_num, by rw [take_succ_get HE.out, take_succ_get HE'.out, HNO.out, HQ.out], _, rfl⟩
          case measure => simp [intOf]; omega
        · have hb : (x != y) = true := by simpa using hq
          have hne : Hid (eqN l l' = false) := by
            show eqN l l' = false
            unfold eqN
            rw [decide_eq_false_iff_not]
            intro e
            have h1 := HE.out
            rw [e, HE'.out] at h1
            cases h1
            exact hq rfl
          clear hq
          go_wp2_with fail
          go_quiet (fail)
          go_wp2_with fail
          go_ret
          exact ⟨ret_bool hne.out.symm, _, World.drewN_drewN _ _ _⟩
      · have hkn : k = n := by omega
        subst hkn
        go_wp2_with fail
        go_ret
        exact ⟨ret_bool (by unfold eqN; have h := HNO.out; rw [take_full (by rw [HR.out.len]; omega), take_full (by rw [HR'.out.len]; omega)] at h; simp [h]), _, rfl⟩
  · have hne : Hid (eqN l l' = false) := by
      show eqN l l' = false
      unfold eqN
      rw [decide_eq_false_iff_not]
      intro e
      have h1 := HR.out.len
      have h2 := HR'.out.len
      rw [e] at h1
      omega
    have hb : ((n : Int) != (m : Int)) = true := by rw [bne_iff_ne]; omega
    clear hnm
    go_enter Tryz.func25, Tryz.ntmps25
    go_wp2_with fail
    go_ret
    exact ⟨ret_bool hne.out.symm, 0, rfl⟩
theorem bytes_beq (a b : ByteArray) : (a.toList == b.toList) = decide (a = b) := by
  by_cases h : a = b
  · subst h; simp
  · rw [decide_eq_false h, beq_eq_false_iff_ne]
    exact fun e => h (toList_inj e)
/-- are two rows of strings the same? -/
def eqS (l m : List ByteArray) : Bool := l.length == m.length && (l.zip m).all (fun x => decide (x.1 = x.2))
theorem eqS_iff (l m : List ByteArray) : eqS l m = true ↔ l = m := by
  unfold eqS
  constructor
  · intro h
    simp only [Bool.and_eq_true, beq_iff_eq, List.all_eq_true] at h
    apply List.ext_getElem h.1
    intro i h1 h2
    have := h.2 (l[i], m[i]) (by rw [List.mem_iff_getElem]; exact ⟨i, by simp; omega, by simp⟩)
    simpa using this
  · rintro rfl
    simp only [beq_self_eq_true, Bool.true_and, List.all_eq_true]
    intro x hx
    rw [List.mem_iff_getElem] at hx
    obtain ⟨i, hi, rfl⟩ := hx
    simp
theorem ref_InS_any {p : Option Addr} {n cap : Nat} {l : List ByteArray} {w : World} (hr : IsRow encS 1 w p n cap l) (s : ByteArray) :
    Calls Tryz.prog 19 #[.slice p n cap, .string s] w fun e w' => e = .returned (.bool (l.any (fun y => decide (y = s)))) ∧ w = w' := by
  have hmx := hr.max
  have HR := Lib.hid hr
  clear hr
  go_enter Tryz.func19, Tryz.ntmps19
  go_wp2_with fail
  go_loop [5, 8] (fun _ i => ∃ k : Nat, k ≤ n ∧ i = .int .i64 k ∧ (l.take k).any (fun y => decide (y = s)) = false) (fun _ i => n - (intOf i).toNat)
  case atStart => exact ⟨0, by omega, rfl, by simp⟩
  case round =>
    obtain ⟨k, hk, rfl, hno⟩ := hrel
    have HNO := Lib.hid hno
    clear hno
    by_cases hlt : k < n
    · obtain ⟨y, hy⟩ := get_of_lt (l := l) (j := k) (by rw [HR.out.len]; exact hlt)
      have HE := Lib.hid hy
      obtain ⟨b, o, rfl, d0⟩ := HR.out.row.str hy
      clear hy
      by_cases hq : y = s
      · have hb : (y.toList == s.toList) = true := by rw [bytes_beq]; simpa using hq
        have HQ := Lib.hid hq
        clear hq
        go_wp2_with fail
        go_ret
        exact ⟨ret_bool (by rw [any_get HE.out]; simpa using HQ.out), rfl⟩
      · have hb : (y.toList == s.toList) = false := by rw [bytes_beq]; simpa using hq
        have HQ := Lib.hid hq
        clear hq
        go_wp2_with fail
        go_round
        case rel => exact ⟨k + 1, by omega, by go_num, by rw [any_take_get HE.out, HNO.out]; simpa using HQ.out⟩
        case measure => simp [intOf]; omega
    · go_wp2_with fail
      go_ret
      have h := HNO.out
      rw [take_full (by rw [HR.out.len]; omega)] at h
      exact ⟨ret_bool h.symm, rfl⟩
end Go.Proofs.YtdlbjngpohkglaaGreatDoor
end
