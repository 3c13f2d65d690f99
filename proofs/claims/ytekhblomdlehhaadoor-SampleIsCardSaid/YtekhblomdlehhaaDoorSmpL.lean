/- The samples' texts told by the document; all of them; the walk of SampleIs. -/
import Derived.Test.YtekhblomdlehhaaDoorSmpW
import Derived.Test.YtekhblomdlehhaaDoorEff9
import Derived.Test.YtekhblomdlehhaaDoorIsRow
set_option linter.unusedVariables false
set_option maxRecDepth 100000
set_option linter.unusedSimpArgs false
namespace Go.Proofs.YtekhblomdlehhaaDoor
open Go.RowKit Go.Sort Go.Lib

theorem smpV_yes {k : Nat} {n : Int} (h : 1 ≤ n ∧ n ≤ 300) : smpV k n = .tuple #[.string (smpB k n.toNat), .int .i64 0] := by unfold smpV; rw [if_pos h]
theorem smpV_no {k : Nat} {n : Int} (h : ¬ (1 ≤ n ∧ n ≤ 300)) : smpV k n = .tuple #[.string .empty, .int .i64 1] := by unfold smpV; rw [if_neg h]
set_option maxHeartbeats 2000000 in
theorem text24_any {w : World} (hT : Tab w) (k : Nat) (hk : k < 6) (n : Int) : Calls Tryd.prog 9 #[.int .i64 k, .int .i64 n] w fun e w' => e = .returned (smpV k n) ∧ Below w.heap.size w w' := by
  have HT := Lib.hid hT
  clear hT
  by_cases hn : 1 ≤ n ∧ n ≤ 300
  · have HV := Lib.hid (smpV_yes (k := k) hn)
    clear hn
    rcases (by omega : k = 0 ∨ k = 1 ∨ k = 2 ∨ k = 3 ∨ k = 4 ∨ k = 5) with rfl | rfl | rfl | rfl | rfl | rfl
    · go_enter Tryd.func9, Tryd.ntmps9
      go_wp2_with fail
      refine (chain_any HT.out n).mono ?_
      rintro e w1 ⟨rfl, hb⟩
      have HB := Lib.hid hb
      clear hb
      rw [HV.out]
      go_wp2_with fail
      go_ret2
      refine ⟨?_, HB.out⟩
      rw [HV.out]
      rfl
    · go_enter Tryd.func9, Tryd.ntmps9
      go_wp2_with fail
      refine (deep_any HT.out n).mono ?_
      rintro e w1 ⟨rfl, hb⟩
      have HB := Lib.hid hb
      clear hb
      rw [HV.out]
      go_wp2_with fail
      go_ret2
      refine ⟨?_, HB.out⟩
      rw [HV.out]
      rfl
    · go_enter Tryd.func9, Tryd.ntmps9
      go_wp2_with fail
      refine (count_any HT.out n).mono ?_
      rintro e w1 ⟨rfl, hb⟩
      have HB := Lib.hid hb
      clear hb
      rw [HV.out]
      go_wp2_with fail
      go_ret2
      refine ⟨?_, HB.out⟩
      rw [HV.out]
      rfl
    · go_enter Tryd.func9, Tryd.ntmps9
      go_wp2_with fail
      refine (throw_any HT.out n).mono ?_
      rintro e w1 ⟨rfl, hb⟩
      have HB := Lib.hid hb
      clear hb
      rw [HV.out]
      go_wp2_with fail
      go_ret2
      refine ⟨?_, HB.out⟩
      rw [HV.out]
      rfl
    · go_enter Tryd.func9, Tryd.ntmps9
      go_wp2_with fail
      refine (escape_any HT.out n).mono ?_
      rintro e w1 ⟨rfl, hb⟩
      have HB := Lib.hid hb
      clear hb
      rw [HV.out]
      go_wp2_with fail
      go_ret2
      refine ⟨?_, HB.out⟩
      rw [HV.out]
      rfl
    · go_enter Tryd.func9, Tryd.ntmps9
      go_wp2_with fail
      refine (grow_any HT.out n).mono ?_
      rintro e w1 ⟨rfl, hb⟩
      have HB := Lib.hid hb
      clear hb
      rw [HV.out]
      go_wp2_with fail
      go_ret2
      refine ⟨?_, HB.out⟩
      rw [HV.out]
      rfl
  · have HV := Lib.hid (smpV_no (k := k) hn)
    clear hn
    rcases (by omega : k = 0 ∨ k = 1 ∨ k = 2 ∨ k = 3 ∨ k = 4 ∨ k = 5) with rfl | rfl | rfl | rfl | rfl | rfl
    · go_enter Tryd.func9, Tryd.ntmps9
      go_wp2_with fail
      refine (chain_any HT.out n).mono ?_
      rintro e w1 ⟨rfl, hb⟩
      have HB := Lib.hid hb
      clear hb
      rw [HV.out]
      go_wp2_with fail
      go_ret2
      refine ⟨?_, HB.out⟩
      rw [HV.out]
      rfl
    · go_enter Tryd.func9, Tryd.ntmps9
      go_wp2_with fail
      refine (deep_any HT.out n).mono ?_
      rintro e w1 ⟨rfl, hb⟩
      have HB := Lib.hid hb
      clear hb
      rw [HV.out]
      go_wp2_with fail
      go_ret2
      refine ⟨?_, HB.out⟩
      rw [HV.out]
      rfl
    · go_enter Tryd.func9, Tryd.ntmps9
      go_wp2_with fail
      refine (count_any HT.out n).mono ?_
      rintro e w1 ⟨rfl, hb⟩
      have HB := Lib.hid hb
      clear hb
      rw [HV.out]
      go_wp2_with fail
      go_ret2
      refine ⟨?_, HB.out⟩
      rw [HV.out]
      rfl
    · go_enter Tryd.func9, Tryd.ntmps9
      go_wp2_with fail
      refine (throw_any HT.out n).mono ?_
      rintro e w1 ⟨rfl, hb⟩
      have HB := Lib.hid hb
      clear hb
      rw [HV.out]
      go_wp2_with fail
      go_ret2
      refine ⟨?_, HB.out⟩
      rw [HV.out]
      rfl
    · go_enter Tryd.func9, Tryd.ntmps9
      go_wp2_with fail
      refine (escape_any HT.out n).mono ?_
      rintro e w1 ⟨rfl, hb⟩
      have HB := Lib.hid hb
      clear hb
      rw [HV.out]
      go_wp2_with fail
      go_ret2
      refine ⟨?_, HB.out⟩
      rw [HV.out]
      rfl
    · go_enter Tryd.func9, Tryd.ntmps9
      go_wp2_with fail
      refine (grow_any HT.out n).mono ?_
      rintro e w1 ⟨rfl, hb⟩
      have HB := Lib.hid hb
      clear hb
      rw [HV.out]
      go_wp2_with fail
      go_ret2
      refine ⟨?_, HB.out⟩
      rw [HV.out]
      rfl
set_option maxHeartbeats 1000000 in
theorem num24_any (N : Nat) (h : N ≤ 1000000) (w : World) : Calls Tryd.prog 39 #[.int .i64 N] w fun e w' => e = .returned (.string (decB N)) ∧ Below w.heap.size w w' := by
  go_enter Tryd.func39, Tryd.ntmps39
  go_wp2_with fail
  refine (ref_Digits_nat N (by omega) _).mono ?_
  rintro e w1 ⟨rfl, hb⟩
  have HB := Lib.hid hb
  clear hb
  go_wp2_with fail
  go_ret
  exact ⟨rfl, HB.out⟩
/-- bytes as a string -/
def toB (L : List UInt8) : ByteArray := ⟨L.toArray⟩
theorem toB_size (L : List UInt8) : (toB L).size = L.length := by show L.toArray.size = _; simp
theorem toB_app (L M : List UInt8) : toB L ++ toB M = toB (L ++ M) := by apply ByteArray.ext; simp [toB]
theorem toB_dec (k : Nat) : decB k = toB (dg k) := by apply ByteArray.ext; simp [toB, dg]
theorem toB_inj {L M : List UInt8} (h : L = M) : toB L = toB M := by rw [h]
def cFst2 : List UInt8 := bA
theorem chain_step0 : toB [] ++ ⟨#[102, 115, 116, 32, 40, 32]⟩ ++ decB (1 : Nat) ++ ⟨#[32, 44, 32, 48, 32, 41]⟩ = toB (chainL 1) := by
  rw [toB_dec]
  show toB [] ++ toB bA ++ toB (dg 1) ++ toB bZ = _
  rw [toB_app, toB_app, toB_app]
  apply toB_inj
  simp [chainL]
theorem chain_step {m : Nat} (h : 0 < m) : toB (chainL m) ++ ⟨#[32, 43, 32]⟩ ++ ⟨#[102, 115, 116, 32, 40, 32]⟩ ++ decB (m + 1 : Nat) ++ ⟨#[32, 44, 32, 48, 32, 41]⟩ = toB (chainL (m + 1)) := by
  rw [toB_dec]
  show toB (chainL m) ++ toB [32, 43, 32] ++ toB bA ++ toB (dg (m + 1)) ++ toB bZ = _
  rw [toB_app, toB_app, toB_app, toB_app]
  apply toB_inj
  conv => rhs; unfold chainL
  rw [if_neg (by omega)]
theorem deep_step (m : Nat) : ⟨#[102, 115, 116, 32, 40, 32]⟩ ++ toB (refDeep m) ++ ⟨#[32, 44, 32, 48, 32, 41]⟩ = toB (refDeep (m + 1)) := by
  rw [← refDeep_next]
  show toB bA ++ toB (refDeep m) ++ toB bZ = _
  rw [toB_app, toB_app]
theorem grow_step (m : Nat) : toB (refGrow m) ++ ⟨#[108, 101, 116, 32, 97, 32, 61, 32, 40, 32, 97, 32, 44, 32, 97, 32, 41, 32, 105, 110, 32]⟩ = toB (refGrow (m + 1)) := by
  rw [← refGrow_next, ← toB_app]
  rfl
theorem grow_end (m : Nat) : toB (refGrow m) ++ ⟨#[48]⟩ = toB (growZ m) := by
  rw [← refGrow_last, ← toB_app]
  rfl
set_option maxHeartbeats 2000000 in
theorem ref24_chain (N : Nat) (h1 : 1 ≤ N) (hN : N ≤ 300) (w : World) : Calls Tryd.prog 10 #[.int .i64 0, .int .i64 N] w fun e w' => e = .returned (.string (toB (chainL N))) ∧ Below w.heap.size w w' := by
  go_enter Tryd.func10, Tryd.ntmps10
  go_wp2_with fail
  go_loopw [6, 7] (fun o i wr => ∃ m : Nat, m ≤ N ∧ i = .int .i64 (m + 1 : Nat) ∧ o = .string (toB (chainL m)) ∧ Below w.heap.size w wr) (fun _ i _ => N + 1 - (intOf i).toNat)
  case atStart => exact ⟨0, by omega, rfl, rfl, Below.refl _ _⟩
  case round =>
    obtain ⟨m, hm, rfl, rfl, hb⟩ := hrel
    have hsz : (toB (chainL m)).size ≤ 12000 := by rw [toB_size]; have := chainL_le m (by omega); omega
    have HDS := Lib.hid (decB_size ((m + 1 : Nat) : Int) (by omega) (by omega))
    have HB := Lib.hid hb
    clear hb
    by_cases hlt : m < N
    · by_cases h0 : m = 0
      · subst h0
        go_wp2_with fail
        refine (num24_any 1 (by omega) _).mono ?_
        rintro e w1 ⟨rfl, hb⟩
        have HB1 := Lib.hid (HB.out.trans (hb.mono HB.out.size))
        have hd : (decB 1).size ≤ 21 := decB_size 1 (by omega) (by omega)
        clear hb
        go_wp2_with fail
        go_roundw
        case rel => exact ⟨1, by omega, by go_num, congrArg Value.string chain_step0, HB1.out⟩
        case measure => simp [intOf]; omega
      · have hm0 : 0 < m := by omega
        have hd : (decB ((m + 1 : Nat) : Int)).size ≤ 21 := HDS.out
        have hd2 : (decB ((m : Int) + 1)).size ≤ 21 := HDS.out
        go_wp2_with fail
        refine (num24_any (m + 1) (by omega) _).mono ?_
        rintro e w1 ⟨rfl, hb⟩
        have HB1 := Lib.hid (HB.out.trans (hb.mono HB.out.size))
        clear hb
        go_wp2_with fail
        go_roundw
        case rel => exact ⟨m + 1, by omega, by go_num, congrArg Value.string (chain_step hm0), HB1.out⟩
        case measure => simp [intOf]; omega
    · have hmn : m = N := by omega
      subst hmn
      go_wp2_with fail
      go_ret
      exact ⟨rfl, HB.out⟩
set_option maxHeartbeats 2000000 in
theorem ref24_deep (N : Nat) (h1 : 1 ≤ N) (hN : N ≤ 300) (w : World) : Calls Tryd.prog 10 #[.int .i64 1, .int .i64 N] w fun e w' => e = .returned (.string (toB (refDeep N))) ∧ Below w.heap.size w w' := by
  go_enter Tryd.func10, Tryd.ntmps10
  go_wp2_with fail
  go_loopw [6, 8] (fun o i wr => ∃ m : Nat, m ≤ N ∧ i = .int .i64 m ∧ o = .string (toB (refDeep m)) ∧ Below w.heap.size w wr) (fun _ i _ => N - (intOf i).toNat)
  case atStart => exact ⟨0, by omega, rfl, congrArg Value.string (by first | rfl | (apply ByteArray.ext; simp [toB, refDeep, downL, refGrow, growL, rep])), Below.refl _ _⟩
  case round =>
    obtain ⟨m, hm, rfl, rfl, hb⟩ := hrel
    have hsz : (toB (refDeep m)).size ≤ 12000 := by rw [toB_size]; have h1 := downL_le m m; have h2 := growL_le m; simp [refDeep, refGrow]; omega
    have HB := Lib.hid hb
    clear hb
    by_cases hlt : m < N
    · go_wp2_with fail
      go_roundw
      case rel => exact ⟨m + 1, by omega, by go_num, congrArg Value.string (deep_step m), HB.out⟩
      case measure => simp [intOf]; omega
    · have hmn : m = N := by omega
      subst hmn
      go_wp2_with fail
      go_ret
      exact ⟨by rfl, HB.out⟩
set_option maxHeartbeats 2000000 in
theorem ref24_grow (N : Nat) (h1 : 1 ≤ N) (hN : N ≤ 300) (w : World) : Calls Tryd.prog 10 #[.int .i64 5, .int .i64 N] w fun e w' => e = .returned (.string (toB (growZ N))) ∧ Below w.heap.size w w' := by
  go_enter Tryd.func10, Tryd.ntmps10
  go_wp2_with fail
  go_loopw [6, 9] (fun o i wr => ∃ m : Nat, m ≤ N ∧ i = .int .i64 m ∧ o = .string (toB (refGrow m)) ∧ Below w.heap.size w wr) (fun _ i _ => N - (intOf i).toNat)
  case atStart => exact ⟨0, by omega, rfl, congrArg Value.string (by first | rfl | (apply ByteArray.ext; simp [toB, refDeep, downL, refGrow, growL, rep])), Below.refl _ _⟩
  case round =>
    obtain ⟨m, hm, rfl, rfl, hb⟩ := hrel
    have hsz : (toB (refGrow m)).size ≤ 12000 := by rw [toB_size]; have h1 := downL_le m m; have h2 := growL_le m; simp [refDeep, refGrow]; omega
    have HB := Lib.hid hb
    clear hb
    by_cases hlt : m < N
    · go_wp2_with fail
      go_roundw
      case rel => exact ⟨m + 1, by omega, by go_num, congrArg Value.string (grow_step m), HB.out⟩
      case measure => simp [intOf]; omega
    · have hmn : m = N := by omega
      subst hmn
      go_wp2_with fail
      go_ret
      exact ⟨by rw [← grow_end]; rfl, HB.out⟩
theorem ref24_count_eq (N : Nat) : ⟨#[108, 101, 116, 114, 101, 99, 32, 102, 32, 120, 32, 61, 32, 105, 102, 32, 120, 32, 60, 32, 49, 32, 116, 104, 101, 110, 32]⟩ ++ ⟨#[48, 32, 101, 108, 115, 101, 32, 49, 32, 43, 32, 102, 32, 40, 32, 120, 32, 45, 32, 49, 32, 41, 32, 105, 110, 32, 102, 32]⟩ ++ decB (N : Int) = toB (countL N) := by
  apply ByteArray.ext
  simp [toB, countL, dg]
set_option maxHeartbeats 2000000 in
theorem ref24_count (N : Nat) (h1 : 1 ≤ N) (hN : N ≤ 300) (w : World) : Calls Tryd.prog 10 #[.int .i64 2, .int .i64 N] w fun e w' => e = .returned (.string (toB (countL N))) ∧ Below w.heap.size w w' := by
  have hd : (decB (N : Int)).size ≤ 21 := decB_size N (by omega) (by omega)
  go_enter Tryd.func10, Tryd.ntmps10
  go_wp2_with fail
  refine (num24_any N (by omega) _).mono ?_
  rintro e w1 ⟨rfl, hb⟩
  have HB := Lib.hid hb
  clear hb
  go_wp2_with fail
  go_ret
  exact ⟨by rw [← ref24_count_eq]; rfl, HB.out⟩
theorem ref24_throw_eq (N : Nat) : (⟨#[101, 120, 110, 32, 69, 32, 59, 32]⟩ : ByteArray) ++ ⟨#[108, 101, 116, 114, 101, 99, 32, 102, 32, 120, 32, 61, 32, 105, 102, 32, 120, 32, 60, 32, 49, 32, 116, 104, 101, 110, 32]⟩ ++ ⟨#[114, 97, 105, 115, 101, 32, 69, 32, 55, 32, 101, 108, 115, 101, 32, 49, 32, 43, 32, 102, 32, 40, 32, 120, 32, 45, 32, 49, 32, 41, 32, 105, 110, 32, 116, 114, 121, 32, 102, 32]⟩ ++ decB (N : Int) ++ ⟨#[32, 119, 105, 116, 104, 32, 69, 32, 121, 32, 61, 62, 32, 121]⟩ = toB (throwL N) := by
  apply ByteArray.ext
  simp [toB, throwL, dg]
set_option maxHeartbeats 2000000 in
theorem ref24_throw (N : Nat) (h1 : 1 ≤ N) (hN : N ≤ 300) (w : World) : Calls Tryd.prog 10 #[.int .i64 3, .int .i64 N] w fun e w' => e = .returned (.string (toB (throwL N))) ∧ Below w.heap.size w w' := by
  have hd : (decB (N : Int)).size ≤ 21 := decB_size N (by omega) (by omega)
  go_enter Tryd.func10, Tryd.ntmps10
  go_wp2_with fail
  refine (num24_any N (by omega) _).mono ?_
  rintro e w1 ⟨rfl, hb⟩
  have HB := Lib.hid hb
  clear hb
  go_wp2_with fail
  go_ret
  exact ⟨by rw [← ref24_throw_eq]; rfl, HB.out⟩
theorem ref24_esc_eq (N : Nat) : (⟨#[101, 120, 110, 32, 69, 32, 59, 32]⟩ : ByteArray) ++ ⟨#[108, 101, 116, 114, 101, 99, 32, 102, 32, 120, 32, 61, 32, 105, 102, 32, 120, 32, 60, 32, 49, 32, 116, 104, 101, 110, 32]⟩ ++ ⟨#[114, 97, 105, 115, 101, 32, 69, 32, 120, 32, 101, 108, 115, 101, 32, 102, 32, 40, 32, 120, 32, 45, 32, 49, 32, 41, 32, 105, 110, 32, 102, 32]⟩ ++ decB (N : Int) = toB (escL N) := by
  apply ByteArray.ext
  simp [toB, escL, dg]
set_option maxHeartbeats 2000000 in
theorem ref24_esc (N : Nat) (h1 : 1 ≤ N) (hN : N ≤ 300) (w : World) : Calls Tryd.prog 10 #[.int .i64 4, .int .i64 N] w fun e w' => e = .returned (.string (toB (escL N))) ∧ Below w.heap.size w w' := by
  have hd : (decB (N : Int)).size ≤ 21 := decB_size N (by omega) (by omega)
  go_enter Tryd.func10, Tryd.ntmps10
  go_wp2_with fail
  refine (num24_any N (by omega) _).mono ?_
  rintro e w1 ⟨rfl, hb⟩
  have HB := Lib.hid hb
  clear hb
  go_wp2_with fail
  go_ret
  exact ⟨by rw [← ref24_esc_eq]; rfl, HB.out⟩
theorem ref24_any (k : Nat) (hk : k < 6) (N : Nat) (h1 : 1 ≤ N) (hN : N ≤ 300) (w : World) : Calls Tryd.prog 10 #[.int .i64 k, .int .i64 N] w fun e w' => e = .returned (.string (smpB k N)) ∧ Below w.heap.size w w' := by
  rcases (by omega : k = 0 ∨ k = 1 ∨ k = 2 ∨ k = 3 ∨ k = 4 ∨ k = 5) with rfl | rfl | rfl | rfl | rfl | rfl
  · exact ref24_chain N h1 hN w
  · exact ref24_deep N h1 hN w
  · exact ref24_count N h1 hN w
  · exact ref24_throw N h1 hN w
  · exact ref24_esc N h1 hN w
  · exact ref24_grow N h1 hN w

/-- all samples -/
def allS (N : Nat) : List ByteArray := [smpB 0 N, smpB 1 N, smpB 2 N, smpB 3 N, smpB 4 N, smpB 5 N]
theorem allS_get {k N : Nat} (h : k < 6) : (allS N)[k]? = some (smpB k N) := by
  rcases (by omega : k = 0 ∨ k = 1 ∨ k = 2 ∨ k = 3 ∨ k = 4 ∨ k = 5) with rfl | rfl | rfl | rfl | rfl | rfl <;> rfl
set_option maxHeartbeats 4000000 in
theorem sample_All_yes {w : World} (hT : Tab w) (n : Int) (hn : 1 ≤ n ∧ n ≤ 300) (N : Nat) (hN : n.toNat = N) : Calls Tryd.prog 8 #[.int .i64 n] w fun e w' => ∃ p c, e = .returned (.slice p 6 c) ∧ IsRow encS 1 w' p 6 c (allS N) ∧ Below w.heap.size w w' := by
  have HT := Lib.hid hT
  have HV := Lib.hid (fun k => smpV_yes (k := k) hn)
  have HN := Lib.hid hN
  have HBX := Lib.hid ((Below.refl w.heap.size w).alloc (Nat.le_refl _) (.cells #[.func (.func 33) #[] #[], .func (.func 34) #[] #[], .func (.func 35) #[] #[], .func (.func 36) #[] #[], .func (.func 37) #[] #[], .func (.func 38) #[] #[]] 49))
  clear hT hn hN
  go_enter Tryd.func8, Tryd.ntmps8
  go_wp2_with fail
  go_loopw [3, 10] (fun u i wr => ∃ k : Nat, k ≤ 6 ∧ i = .int .i64 k ∧ OwnE encS 1 wr (w.heap.size + 1) 9 u k ((allS N).take k) ∧ Below (w.heap.size + 1) (w.alloc (.cells #[.func (.func 33) #[] #[], .func (.func 34) #[] #[], .func (.func 35) #[] #[], .func (.func 36) #[] #[], .func (.func 37) #[] #[], .func (.func 38) #[] #[]] 49)) wr) (fun _ i _ => 6 - (intOf i).toNat)
  case atStart => exact ⟨0, by omega, rfl, OwnE.nil _ _ _ _ _, Below.refl _ _⟩
  case round =>
    obtain ⟨k, hk, rfl, hown, hb⟩ := hrel
    have HOWN := Lib.hid hown
    have HB := Lib.hid hb
    clear hown hb
    have HBW := Lib.hid (HBX.out.trans (HB.out.mono (by simp)))
    by_cases hlt : k < 6
    · rcases (by omega : k = 0 ∨ k = 1 ∨ k = 2 ∨ k = 3 ∨ k = 4 ∨ k = 5) with rfl | rfl | rfl | rfl | rfl | rfl
      · have hc : wr.cell? ⟨w.heap.size, 0, none⟩ = some (.func (.func 33) #[] #[]) := by rw [HB.out.cell (by simp), cell_new]; rfl
        go_wp2_with fail
        refine (chain_any (HT.out.below HBW.out) n).mono ?_
        rintro e w1 ⟨rfl, hb⟩
        have HB1 := Lib.hid (HB.out.trans (hb.mono (by have := HB.out.size; simp at this ⊢; omega)))
        have HO1 := Lib.hid (HOWN.out.below hb)
        clear hb hc
        rw [HV.out 0, HN.out]
        generalize hS : smpB 0 N = S
        have HS := Lib.hid hS
        clear hS
        go_wp2_with (at_builtin; refine wpList_append1 rfl _ _ 22 rfl (w.heap.size + 1) 9 _ 1 16 Tryd.underlying22 infoS rfl (by decide) encS encS_len encS_one S _ _ _ HO1.out rfl rfl ?c1 ?c2 ?c3 ?_)
        case c1 => omega
        case c2 => omega
        case c3 => have := HB1.out.size; simp at this; omega
        · intro v' w4 hown' hg
          have HO := Lib.hid hown'
          have HB4 := Lib.hid (Below.own HB1.out hg (by have := HB1.out.size; simp at this; omega) HO1.out)
          clear hown' hg
          go_wp2_with fail
          go_roundw
          case rel => exact ⟨0 + 1, by omega, by go_num, by have h := HO.out; rw [← HS.out] at h; exact h, HB4.out⟩
          case measure => simp [intOf]
      · have hc : wr.cell? ⟨w.heap.size, 1, none⟩ = some (.func (.func 34) #[] #[]) := by rw [HB.out.cell (by simp), cell_new]; rfl
        go_wp2_with fail
        refine (deep_any (HT.out.below HBW.out) n).mono ?_
        rintro e w1 ⟨rfl, hb⟩
        have HB1 := Lib.hid (HB.out.trans (hb.mono (by have := HB.out.size; simp at this ⊢; omega)))
        have HO1 := Lib.hid (HOWN.out.below hb)
        clear hb hc
        rw [HV.out 1, HN.out]
        generalize hS : smpB 1 N = S
        have HS := Lib.hid hS
        clear hS
        go_wp2_with (at_builtin; refine wpList_append1 rfl _ _ 22 rfl (w.heap.size + 1) 9 _ 1 16 Tryd.underlying22 infoS rfl (by decide) encS encS_len encS_one S _ _ _ HO1.out rfl rfl ?c1 ?c2 ?c3 ?_)
        case c1 => omega
        case c2 => omega
        case c3 => have := HB1.out.size; simp at this; omega
        · intro v' w4 hown' hg
          have HO := Lib.hid hown'
          have HB4 := Lib.hid (Below.own HB1.out hg (by have := HB1.out.size; simp at this; omega) HO1.out)
          clear hown' hg
          go_wp2_with fail
          go_roundw
          case rel => exact ⟨1 + 1, by omega, by go_num, by have h := HO.out; rw [← HS.out] at h; exact h, HB4.out⟩
          case measure => simp [intOf]
      · have hc : wr.cell? ⟨w.heap.size, 2, none⟩ = some (.func (.func 35) #[] #[]) := by rw [HB.out.cell (by simp), cell_new]; rfl
        go_wp2_with fail
        refine (count_any (HT.out.below HBW.out) n).mono ?_
        rintro e w1 ⟨rfl, hb⟩
        have HB1 := Lib.hid (HB.out.trans (hb.mono (by have := HB.out.size; simp at this ⊢; omega)))
        have HO1 := Lib.hid (HOWN.out.below hb)
        clear hb hc
        rw [HV.out 2, HN.out]
        generalize hS : smpB 2 N = S
        have HS := Lib.hid hS
        clear hS
        go_wp2_with (at_builtin; refine wpList_append1 rfl _ _ 22 rfl (w.heap.size + 1) 9 _ 1 16 Tryd.underlying22 infoS rfl (by decide) encS encS_len encS_one S _ _ _ HO1.out rfl rfl ?c1 ?c2 ?c3 ?_)
        case c1 => omega
        case c2 => omega
        case c3 => have := HB1.out.size; simp at this; omega
        · intro v' w4 hown' hg
          have HO := Lib.hid hown'
          have HB4 := Lib.hid (Below.own HB1.out hg (by have := HB1.out.size; simp at this; omega) HO1.out)
          clear hown' hg
          go_wp2_with fail
          go_roundw
          case rel => exact ⟨2 + 1, by omega, by go_num, by have h := HO.out; rw [← HS.out] at h; exact h, HB4.out⟩
          case measure => simp [intOf]
      · have hc : wr.cell? ⟨w.heap.size, 3, none⟩ = some (.func (.func 36) #[] #[]) := by rw [HB.out.cell (by simp), cell_new]; rfl
        go_wp2_with fail
        refine (throw_any (HT.out.below HBW.out) n).mono ?_
        rintro e w1 ⟨rfl, hb⟩
        have HB1 := Lib.hid (HB.out.trans (hb.mono (by have := HB.out.size; simp at this ⊢; omega)))
        have HO1 := Lib.hid (HOWN.out.below hb)
        clear hb hc
        rw [HV.out 3, HN.out]
        generalize hS : smpB 3 N = S
        have HS := Lib.hid hS
        clear hS
        go_wp2_with (at_builtin; refine wpList_append1 rfl _ _ 22 rfl (w.heap.size + 1) 9 _ 1 16 Tryd.underlying22 infoS rfl (by decide) encS encS_len encS_one S _ _ _ HO1.out rfl rfl ?c1 ?c2 ?c3 ?_)
        case c1 => omega
        case c2 => omega
        case c3 => have := HB1.out.size; simp at this; omega
        · intro v' w4 hown' hg
          have HO := Lib.hid hown'
          have HB4 := Lib.hid (Below.own HB1.out hg (by have := HB1.out.size; simp at this; omega) HO1.out)
          clear hown' hg
          go_wp2_with fail
          go_roundw
          case rel => exact ⟨3 + 1, by omega, by go_num, by have h := HO.out; rw [← HS.out] at h; exact h, HB4.out⟩
          case measure => simp [intOf]
      · have hc : wr.cell? ⟨w.heap.size, 4, none⟩ = some (.func (.func 37) #[] #[]) := by rw [HB.out.cell (by simp), cell_new]; rfl
        go_wp2_with fail
        refine (escape_any (HT.out.below HBW.out) n).mono ?_
        rintro e w1 ⟨rfl, hb⟩
        have HB1 := Lib.hid (HB.out.trans (hb.mono (by have := HB.out.size; simp at this ⊢; omega)))
        have HO1 := Lib.hid (HOWN.out.below hb)
        clear hb hc
        rw [HV.out 4, HN.out]
        generalize hS : smpB 4 N = S
        have HS := Lib.hid hS
        clear hS
        go_wp2_with (at_builtin; refine wpList_append1 rfl _ _ 22 rfl (w.heap.size + 1) 9 _ 1 16 Tryd.underlying22 infoS rfl (by decide) encS encS_len encS_one S _ _ _ HO1.out rfl rfl ?c1 ?c2 ?c3 ?_)
        case c1 => omega
        case c2 => omega
        case c3 => have := HB1.out.size; simp at this; omega
        · intro v' w4 hown' hg
          have HO := Lib.hid hown'
          have HB4 := Lib.hid (Below.own HB1.out hg (by have := HB1.out.size; simp at this; omega) HO1.out)
          clear hown' hg
          go_wp2_with fail
          go_roundw
          case rel => exact ⟨4 + 1, by omega, by go_num, by have h := HO.out; rw [← HS.out] at h; exact h, HB4.out⟩
          case measure => simp [intOf]
      · have hc : wr.cell? ⟨w.heap.size, 5, none⟩ = some (.func (.func 38) #[] #[]) := by rw [HB.out.cell (by simp), cell_new]; rfl
        go_wp2_with fail
        refine (grow_any (HT.out.below HBW.out) n).mono ?_
        rintro e w1 ⟨rfl, hb⟩
        have HB1 := Lib.hid (HB.out.trans (hb.mono (by have := HB.out.size; simp at this ⊢; omega)))
        have HO1 := Lib.hid (HOWN.out.below hb)
        clear hb hc
        rw [HV.out 5, HN.out]
        generalize hS : smpB 5 N = S
        have HS := Lib.hid hS
        clear hS
        go_wp2_with (at_builtin; refine wpList_append1 rfl _ _ 22 rfl (w.heap.size + 1) 9 _ 1 16 Tryd.underlying22 infoS rfl (by decide) encS encS_len encS_one S _ _ _ HO1.out rfl rfl ?c1 ?c2 ?c3 ?_)
        case c1 => omega
        case c2 => omega
        case c3 => have := HB1.out.size; simp at this; omega
        · intro v' w4 hown' hg
          have HO := Lib.hid hown'
          have HB4 := Lib.hid (Below.own HB1.out hg (by have := HB1.out.size; simp at this; omega) HO1.out)
          clear hown' hg
          go_wp2_with fail
          go_roundw
          case rel => exact ⟨5 + 1, by omega, by go_num, by have h := HO.out; rw [← HS.out] at h; exact h, HB4.out⟩
          case measure => simp [intOf]
    · obtain rfl : k = 6 := by omega
      obtain ⟨p', c', rfl, hrow⟩ := HOWN.out.isRow encS_len (by omega)
      have HROW := Lib.hid hrow
      clear hrow
      go_wp2_with fail
      go_ret
      exact ⟨_, _, rfl, HROW.out, HBW.out⟩
set_option maxHeartbeats 4000000 in
theorem sample_All_no {w : World} (hT : Tab w) (n : Int) (hn : ¬ (1 ≤ n ∧ n ≤ 300)) : Calls Tryd.prog 8 #[.int .i64 n] w fun e w' => e = .returned (.slice none 0 0) ∧ Below w.heap.size w w' := by
  have HT := Lib.hid hT
  have HV := Lib.hid (fun k => smpV_no (k := k) hn)
  have HBX := Lib.hid ((Below.refl w.heap.size w).alloc (Nat.le_refl _) (.cells #[.func (.func 33) #[] #[], .func (.func 34) #[] #[], .func (.func 35) #[] #[], .func (.func 36) #[] #[], .func (.func 37) #[] #[], .func (.func 38) #[] #[]] 49))
  clear hT hn
  go_enter Tryd.func8, Tryd.ntmps8
  go_wp2_with fail
  go_loopw [3, 10] (fun u i wr => ∃ k : Nat, k ≤ 6 ∧ i = .int .i64 k ∧ u = .slice none 0 0 ∧ Below (w.heap.size + 1) (w.alloc (.cells #[.func (.func 33) #[] #[], .func (.func 34) #[] #[], .func (.func 35) #[] #[], .func (.func 36) #[] #[], .func (.func 37) #[] #[], .func (.func 38) #[] #[]] 49)) wr) (fun _ i _ => 6 - (intOf i).toNat)
  case atStart => exact ⟨0, by omega, rfl, rfl, Below.refl _ _⟩
  case round =>
    obtain ⟨k, hk, rfl, rfl, hb⟩ := hrel
    have HB := Lib.hid hb
    clear hb
    have HBW := Lib.hid (HBX.out.trans (HB.out.mono (by simp)))
    by_cases hlt : k < 6
    · rcases (by omega : k = 0 ∨ k = 1 ∨ k = 2 ∨ k = 3 ∨ k = 4 ∨ k = 5) with rfl | rfl | rfl | rfl | rfl | rfl
      · have hc : wr.cell? ⟨w.heap.size, 0, none⟩ = some (.func (.func 33) #[] #[]) := by rw [HB.out.cell (by simp), cell_new]; rfl
        go_wp2_with fail
        refine (chain_any (HT.out.below HBW.out) n).mono ?_
        rintro e w1 ⟨rfl, hb⟩
        have HB1 := Lib.hid (HB.out.trans (hb.mono (by have := HB.out.size; simp at this ⊢; omega)))
        clear hb hc
        rw [HV.out 0]
        go_wp2_with fail
        go_roundw
        case rel => exact ⟨0 + 1, by omega, by go_num, rfl, HB1.out⟩
        case measure => simp [intOf]
      · have hc : wr.cell? ⟨w.heap.size, 1, none⟩ = some (.func (.func 34) #[] #[]) := by rw [HB.out.cell (by simp), cell_new]; rfl
        go_wp2_with fail
        refine (deep_any (HT.out.below HBW.out) n).mono ?_
        rintro e w1 ⟨rfl, hb⟩
        have HB1 := Lib.hid (HB.out.trans (hb.mono (by have := HB.out.size; simp at this ⊢; omega)))
        clear hb hc
        rw [HV.out 1]
        go_wp2_with fail
        go_roundw
        case rel => exact ⟨1 + 1, by omega, by go_num, rfl, HB1.out⟩
        case measure => simp [intOf]
      · have hc : wr.cell? ⟨w.heap.size, 2, none⟩ = some (.func (.func 35) #[] #[]) := by rw [HB.out.cell (by simp), cell_new]; rfl
        go_wp2_with fail
        refine (count_any (HT.out.below HBW.out) n).mono ?_
        rintro e w1 ⟨rfl, hb⟩
        have HB1 := Lib.hid (HB.out.trans (hb.mono (by have := HB.out.size; simp at this ⊢; omega)))
        clear hb hc
        rw [HV.out 2]
        go_wp2_with fail
        go_roundw
        case rel => exact ⟨2 + 1, by omega, by go_num, rfl, HB1.out⟩
        case measure => simp [intOf]
      · have hc : wr.cell? ⟨w.heap.size, 3, none⟩ = some (.func (.func 36) #[] #[]) := by rw [HB.out.cell (by simp), cell_new]; rfl
        go_wp2_with fail
        refine (throw_any (HT.out.below HBW.out) n).mono ?_
        rintro e w1 ⟨rfl, hb⟩
        have HB1 := Lib.hid (HB.out.trans (hb.mono (by have := HB.out.size; simp at this ⊢; omega)))
        clear hb hc
        rw [HV.out 3]
        go_wp2_with fail
        go_roundw
        case rel => exact ⟨3 + 1, by omega, by go_num, rfl, HB1.out⟩
        case measure => simp [intOf]
      · have hc : wr.cell? ⟨w.heap.size, 4, none⟩ = some (.func (.func 37) #[] #[]) := by rw [HB.out.cell (by simp), cell_new]; rfl
        go_wp2_with fail
        refine (escape_any (HT.out.below HBW.out) n).mono ?_
        rintro e w1 ⟨rfl, hb⟩
        have HB1 := Lib.hid (HB.out.trans (hb.mono (by have := HB.out.size; simp at this ⊢; omega)))
        clear hb hc
        rw [HV.out 4]
        go_wp2_with fail
        go_roundw
        case rel => exact ⟨4 + 1, by omega, by go_num, rfl, HB1.out⟩
        case measure => simp [intOf]
      · have hc : wr.cell? ⟨w.heap.size, 5, none⟩ = some (.func (.func 38) #[] #[]) := by rw [HB.out.cell (by simp), cell_new]; rfl
        go_wp2_with fail
        refine (grow_any (HT.out.below HBW.out) n).mono ?_
        rintro e w1 ⟨rfl, hb⟩
        have HB1 := Lib.hid (HB.out.trans (hb.mono (by have := HB.out.size; simp at this ⊢; omega)))
        clear hb hc
        rw [HV.out 5]
        go_wp2_with fail
        go_roundw
        case rel => exact ⟨5 + 1, by omega, by go_num, rfl, HB1.out⟩
        case measure => simp [intOf]
    · obtain rfl : k = 6 := by omega
      go_wp2_with fail
      go_ret
      exact ⟨rfl, HBW.out⟩
theorem smp_two : smpB 0 2 = ⟨#[102, 115, 116, 32, 40, 32, 49, 32, 44, 32, 48, 32, 41, 32, 43, 32, 102, 115, 116, 32, 40, 32, 50, 32, 44, 32, 48, 32, 41]⟩ := by
  have h1 : dg 1 = [49] := by unfold dg; rw [decB_small (by omega)]; rfl
  have h2 : dg 2 = [50] := by unfold dg; rw [decB_small (by omega)]; rfl
  apply ByteArray.ext
  simp [smpB, smpL, chainL, h1, h2]
set_option maxHeartbeats 1000000 in
theorem awake24_any {w : World} (hT : Tab w) : Calls Tryd.prog 11 #[] w fun e w' => e = .returned (.bool true) ∧ Below w.heap.size w w' := by
  have HT := Lib.hid hT
  have HV : Hid (smpV 0 2 = .tuple #[.string ⟨#[102, 115, 116, 32, 40, 32, 49, 32, 44, 32, 48, 32, 41, 32, 43, 32, 102, 115, 116, 32, 40, 32, 50, 32, 44, 32, 48, 32, 41]⟩, .int .i64 0]) := by show _ = _; rw [smpV_yes (by omega)]; show Value.tuple #[.string (smpB 0 2), _] = _; rw [smp_two]
  clear hT
  go_enter Tryd.func11, Tryd.ntmps11
  go_wp2_with fail
  refine (chain_any HT.out 2).mono ?_
  rintro e w1 ⟨rfl, hb⟩
  have HB := Lib.hid hb
  clear hb
  rw [HV.out]
  go_wp2_with fail
  go_ret
  exact ⟨rfl, HB.out⟩
set_option maxHeartbeats 4000000 in
theorem sampleIs_walk {w : World} (hT : Tab w) (n : Int) (hn : Lit.wf (.int .i64 n) = true) :
    Calls Tryd.prog 3 #[.int .i64 n] w fun e w' => e = .returned (.bool true) ∧ Below w.heap.size w w' := by
  have HT := Lib.hid hT
  clear hT
  by_cases hr : 1 ≤ n ∧ n ≤ 300
  · obtain ⟨N, rfl⟩ : ∃ N : Nat, n = N := ⟨n.toNat, by omega⟩
    have HV : Hid (∀ k, smpV k (N : Int) = .tuple #[.string (smpB k N), .int .i64 0]) := fun k => smpV_yes (k := k) hr
    have HR := Lib.hid hr
    have hN1 : 1 ≤ N := by omega
    have hN2 : N ≤ 300 := by omega
    have d1 : decide (1 ≤ (N : Int)) = true := by simp; omega
    have d2 : decide ((N : Int) ≤ 300) = true := by simp; omega
    clear hr hn
    go_enter Tryd.func3, Tryd.ntmps3
    go_wp2_with fail
    refine (sample_All_yes HT.out N HR.out N (by simp)).mono ?_
    rintro e w1 ⟨p, c, rfl, hrow, hb⟩
    have HROW := Lib.hid hrow
    have HB := Lib.hid hb
    clear hb hrow
    go_wp2_with fail
    go_loopw [5] (fun i wr => ∃ k : Nat, k ≤ 6 ∧ i = .int .i64 k ∧ Below w1.heap.size w1 wr) (fun i _ => 6 - (intOf i).toNat)
    case atStart => exact ⟨0, by omega, rfl, Below.refl _ _⟩
    case round =>
      obtain ⟨k, hk, rfl, hb⟩ := hrel
      have HBR := Lib.hid hb
      clear hb
      have HBW := Lib.hid (HB.out.trans (HBR.out.mono HB.out.size))
      by_cases hlt : k < 6
      · go_wp2_with fail
        refine (text24_any (HT.out.below HBW.out) k hlt N).mono ?_
        rintro e w2 ⟨rfl, hb⟩
        have HB2 := Lib.hid (HBR.out.trans (hb.mono HBR.out.size))
        clear hb
        rw [HV.out k]
        go_wp2_with fail
        refine (ref24_any k hlt N hN1 hN2 _).mono ?_
        rintro e w3 ⟨rfl, hb⟩
        have HB3 := Lib.hid (HB2.out.trans (hb.mono HB2.out.size))
        clear hb
        obtain ⟨b, o, rfl, d0⟩ := (HROW.out.below HB3.out).row.str (allS_get (N := N) hlt)
        go_wp2_with fail
        go_roundw
        case rel => exact ⟨k + 1, by omega, by go_num, HB3.out⟩
        case measure => simp [intOf]; omega
      · go_wp2_with fail
        refine (awake24_any (HT.out.below HBW.out)).mono ?_
        rintro e w2 ⟨rfl, hb⟩
        have HB2 := Lib.hid (HBW.out.trans (hb.mono HBW.out.size))
        clear hb
        go_wp2_with fail
        go_ret
        exact ⟨rfl, HB2.out⟩
  · have HV : Hid (∀ k, smpV k n = .tuple #[.string .empty, .int .i64 1]) := fun k => smpV_no (k := k) hr
    have HR := Lib.hid hr
    by_cases h1 : n < 1
    · have d1 : decide (1 ≤ n) = false := by simp; omega
      clear hr hn
      go_enter Tryd.func3, Tryd.ntmps3
      go_wp2_with fail
      refine (sample_All_no HT.out n HR.out).mono ?_
      rintro e w1 ⟨rfl, hb⟩
      have HB := Lib.hid hb
      clear hb
      go_wp2_with fail
      go_loopw [5] (fun i wr => ∃ k : Nat, k ≤ 6 ∧ i = .int .i64 k ∧ Below w1.heap.size w1 wr) (fun i _ => 6 - (intOf i).toNat)
      case atStart => exact ⟨0, by omega, rfl, Below.refl _ _⟩
      case round =>
        obtain ⟨k, hk, rfl, hb⟩ := hrel
        have HBR := Lib.hid hb
        clear hb
        have HBW := Lib.hid (HB.out.trans (HBR.out.mono HB.out.size))
        by_cases hlt : k < 6
        · go_wp2_with fail
          refine (text24_any (HT.out.below HBW.out) k hlt n).mono ?_
          rintro e w2 ⟨rfl, hb⟩
          have HB2 := Lib.hid (HBR.out.trans (hb.mono HBR.out.size))
          clear hb
          rw [HV.out k]
          go_wp2_with fail
          go_roundw
          case rel => exact ⟨k + 1, by omega, by go_num, HB2.out⟩
          case measure => simp [intOf]; omega
        · go_wp2_with fail
          refine (awake24_any (HT.out.below HBW.out)).mono ?_
          rintro e w2 ⟨rfl, hb⟩
          have HB2 := Lib.hid (HBW.out.trans (hb.mono HBW.out.size))
          clear hb
          go_wp2_with fail
          go_ret
          exact ⟨rfl, HB2.out⟩
    · have d1 : decide (1 ≤ n) = true := by simp; omega
      have d2 : decide (n ≤ 300) = false := by simp; omega
      clear hr hn
      go_enter Tryd.func3, Tryd.ntmps3
      go_wp2_with fail
      refine (sample_All_no HT.out n HR.out).mono ?_
      rintro e w1 ⟨rfl, hb⟩
      have HB := Lib.hid hb
      clear hb
      go_wp2_with fail
      go_loopw [5] (fun i wr => ∃ k : Nat, k ≤ 6 ∧ i = .int .i64 k ∧ Below w1.heap.size w1 wr) (fun i _ => 6 - (intOf i).toNat)
      case atStart => exact ⟨0, by omega, rfl, Below.refl _ _⟩
      case round =>
        obtain ⟨k, hk, rfl, hb⟩ := hrel
        have HBR := Lib.hid hb
        clear hb
        have HBW := Lib.hid (HB.out.trans (HBR.out.mono HB.out.size))
        by_cases hlt : k < 6
        · go_wp2_with fail
          refine (text24_any (HT.out.below HBW.out) k hlt n).mono ?_
          rintro e w2 ⟨rfl, hb⟩
          have HB2 := Lib.hid (HBR.out.trans (hb.mono HBR.out.size))
          clear hb
          rw [HV.out k]
          go_wp2_with fail
          go_roundw
          case rel => exact ⟨k + 1, by omega, by go_num, HB2.out⟩
          case measure => simp [intOf]; omega
        · go_wp2_with fail
          refine (awake24_any (HT.out.below HBW.out)).mono ?_
          rintro e w2 ⟨rfl, hb⟩
          have HB2 := Lib.hid (HBW.out.trans (hb.mono HBW.out.size))
          clear hb
          go_wp2_with fail
          go_ret
          exact ⟨rfl, HB2.out⟩
end Go.Proofs.YtekhblomdlehhaaDoor
