/- Digits: words.Digits by the table, enclaveref02.Digits. -/
import Derived.Test.YtekhblomdlehhaaDoorEff9
import Derived.WalkSmall
import Derived.Lib.ItoaLen
import Derived.Lib.ItoaMem
import Derived.Lib.LaidTab
set_option linter.unusedVariables false
set_option maxRecDepth 100000
set_option linter.unusedSimpArgs false
namespace Go.Proofs.YtekhblomdlehhaaDoor
open Go.RowKit Go.Sort Go.Lib

/-- the table of powers lies in w -/
def Tab (w : World) : Prop := Lib.TabIs Tryd.prog w "internal/strconv.uint64pow10" .u64 Lib.pow10Tab
theorem gPow : Tryd.prog.globalNamed "internal/strconv.uint64pow10" = some 0 := by kernel_rfl
theorem Tab.lt {w : World} (h : Tab w) : 0 < w.heap.size := by
  have := Lib.TabIs.cell h gPow 0 (by decide)
  exact cell_block this
theorem Tab.below {w w' : World} (h : Tab w) (hb : Below w.heap.size w w') : Tab w' := var?_below hb gPow h.lt h

theorem digits_any (r : Int) (h0 : -9223372036854775808 ≤ r) (h1 : r ≤ 9223372036854775807) (w : World) (ht : Tab w) :
    Calls Tryd.prog 49 #[.int .i64 r] w fun e w' => e = .returned (.string (decB r)) ∧ Below w.heap.size w w' := by
  have HC := Lib.hid (Tryd.strconv_FormatInt_10 r h0 h1 w ht)
  clear h0 h1 ht
  go_enter Tryd.func49, Tryd.ntmps49
  go_wp2_with fail
  refine HC.out.mono ?_
  rintro e w' ⟨rfl, k, os, rfl⟩
  have HB := Lib.hid (below_grow w k os)
  go_wp2_with fail
  go_ret
  exact ⟨rfl, HB.out⟩
theorem digOK_of {r : Int} (h0 : -9223372036854775808 ≤ r) (h1 : r ≤ 9223372036854775807) {w : World} (ht : Tab w) : DigOK w r := fun W hW => digits_any r h0 h1 W (ht.below hW)

theorem decB_size (r : Int) (h0 : -9223372036854775808 ≤ r) (h1 : r ≤ 9223372036854775807) : (decB r).size ≤ 21 := by
  have := Lib.itoa_length_le r h0 h1
  show (Lib.itoa r).toArray.size ≤ 21
  simpa using this
/-- a digit's byte -/
def dgB (k : Nat) : ByteArray := ⟨#[UInt8.ofNat (48 + k)]⟩
theorem dgB_size (k : Nat) : (dgB k).size = 1 := rfl
theorem decB_small {n : Nat} (h : n < 10) : decB n = dgB n := by
  unfold decB dgB
  rw [Lib.itoa_nonneg, Lib.decDigits_one h]
theorem decB_big {n : Nat} (h : ¬ n < 10) : decB n = decB ((n / 10 : Nat) : Int) ++ dgB (n % 10) := by
  unfold decB dgB
  rw [Lib.itoa_nonneg, Lib.itoa_nonneg, Lib.decDigits, dif_neg h]
  apply ByteArray.ext
  simp

set_option maxHeartbeats 400000 in
theorem ref_Digits_nat (n : Nat) : n ≤ 9223372036854775807 → ∀ w, Calls Tryd.prog 51 #[.int .i64 n] w fun e w' => e = .returned (.string (decB n)) ∧ Below w.heap.size w w' := by
  induction n using Nat.strongRecOn with
  | _ n ih =>
  intro hn w
  have IH := Lib.hid ih
  have hcv : (convert 82 9 (.slice (some ⟨w.heap.size, 0, none⟩) 1 1)).run Tryd.prog (w.alloc (.cells #[.int .u8 (48 + (n : Int) % 10)] 5)) = .ok (.string (dgB (n % 10))) (w.alloc (.cells #[.int .u8 (48 + (n : Int) % 10)] 5)) := by
    have := run_convert_bytes_back (P := Tryd.prog) (w.alloc (.cells #[.int .u8 (48 + (n : Int) % 10)] 5)) 82 9 5 ⟨w.heap.size, 0, none⟩ 1 [UInt8.ofNat (48 + n % 10)] Tryd.underlying82 Tryd.underlying5 Tryd.underlying9 (by
      intro j hj
      obtain rfl : j = 0 := by simpa using hj
      rw [add_lit', cell_new]
      have : (UInt8.ofNat (48 + n % 10)).toNat = 48 + n % 10 := by
        rw [UInt8.toNat_ofNat']; omega
      simp
      omega)
    exact this
  clear ih
  by_cases h10 : n < 10
  · have HE : Hid (decB n = dgB (n % 10)) := by show _ = _; rw [decB_small h10, Nat.mod_eq_of_lt h10]
    go_enter Tryd.func51, Tryd.ntmps51
    go_wp2_with fail
    go_ret
    exact ⟨ret_str HE.out.symm, (Below.refl _ _).alloc (Nat.le_refl _) _⟩
  · have hsz := decB_size ((n : Int) / 10) (by omega) (by omega)
    have hsz1 := dgB_size (n % 10)
    have HS1 := Lib.hid hsz1
    have hsz2 : (dgB (n % 10)).size ≤ 1 := by omega
    clear hsz1
    have hq : ((n : Int) / 10) = ((n / 10 : Nat) : Int) := by omega
    have HE : Hid (decB n = decB ((n : Int) / 10) ++ dgB (n % 10)) := by show _ = _; rw [decB_big h10, hq]
    have HQ := Lib.hid hq
    clear hq
    go_enter Tryd.func51, Tryd.ntmps51
    go_wp2_with fail
    rw [HQ.out]
    refine (IH.out (n / 10) (by omega) (by omega) _).mono ?_
    rintro e w1 ⟨rfl, hb⟩
    have HB := Lib.hid (((Below.refl _ w).alloc (Nat.le_refl _) _).trans (hb.mono (by simp)))
    clear hb hcv
    go_wp2_with fail
    go_ret
    exact ⟨ret_str HE.out.symm, HB.out⟩
theorem ref_Digits_pos {r : Int} (h0 : 0 ≤ r) (h1 : r ≤ 9223372036854775807) (w : World) : Calls Tryd.prog 51 #[.int .i64 r] w fun e w' => e = .returned (.string (decB r)) ∧ Below w.heap.size w w' := by
  obtain ⟨n, rfl⟩ := Int.eq_ofNat_of_zero_le h0
  exact ref_Digits_nat n (by omega) w
end Go.Proofs.YtekhblomdlehhaaDoor
