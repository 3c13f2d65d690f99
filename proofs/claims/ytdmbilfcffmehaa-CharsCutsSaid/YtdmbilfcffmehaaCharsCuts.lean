/- The walk of CharsCuts. -/
import Derived.Test.YtdmbilfcffmehaaCharsRest
set_option linter.unusedVariables false
set_option linter.unusedSimpArgs false
namespace Go.Proofs.Ytdmbilfcffmehaa
open Go.RowKit

theorem cls_in (c : Int) : inCls [0, 1, 2, 3, 4, 5] c = true := by
  unfold inCls cls
  repeat' split
  all_goals rfl

theorem takeWhile_all_true {l : List Int} {p : Int → Bool} (h : ∀ x, p x = true) : (l.takeWhile p).length = l.length := by
  induction l with
  | nil => rfl
  | cons x r ih => simp [List.takeWhile_cons, h x, ih]

theorem span_all (xs : List Int) (A : Nat) : spanOf xs [0, 1, 2, 3, 4, 5] (A : Int) = xs.length - A := by
  unfold spanOf
  rw [if_neg (by omega), takeWhile_all_true cls_in]
  simp

theorem span_none (xs : List Int) : spanOf xs [] 0 = 0 := by
  unfold spanOf
  cases xs <;> simp [inCls]

theorem span_own (xs : List Int) (A : Nat) (h : A < xs.length) : 1 ≤ spanOf xs [cls (xs[A]?.getD 0)] (A : Int) ∧ A + spanOf xs [cls (xs[A]?.getD 0)] (A : Int) ≤ xs.length := by
  unfold spanOf
  rw [if_neg (by omega)]
  simp only [Int.toNat_natCast]
  have hd : xs.drop A = xs[A] :: xs.drop (A + 1) := List.drop_eq_getElem_cons h
  have hle := (List.takeWhile_sublist (p := inCls [cls (xs[A]?.getD 0)]) (l := xs.drop A)).length_le
  rw [List.length_drop] at hle
  refine ⟨?_, by omega⟩
  rw [hd, List.takeWhile_cons]
  have : inCls [cls (xs[A]?.getD 0)] xs[A] = true := by simp [inCls, h]
  rw [this]
  simp

set_option maxHeartbeats 1000000 in
theorem charsCuts_walk {w : World} (p : Option Addr) (n cap : Nat) (xs : List Int) (hb : Bytes w p n cap xs) :
    Calls Try.prog 4 #[.slice p n cap] w fun e w' => e = .returned (.bool true) ∧ Below w.heap.size w w' := by
  by_cases h500 : 500 < n
  · clear hb
    go_enter Try.func4, Try.ntmps4
    go_wp2_with fail
    refine awake_tail _ fun w3 hb => ?_
    have HB := Lib.hid hb
    clear hb
    go_wp2_with fail
    go_ret
    exact ⟨rfl, HB.out⟩
  have hn : n ≤ 500 := by omega
  clear h500
  have B := Lib.hid hb
  have HC : Hid (∀ k, k < n → ∃ b o, p = some ⟨b, o, none⟩ ∧ ∀ wr, Below w.heap.size w wr → wr.cell? ⟨b, o + k, none⟩ = some (.int .u8 (xs[k]?.getD 0))) := by
    intro k hk
    obtain ⟨b, o, rfl, hc⟩ := hb.row.u8 (by rw [hb.len]; omega)
    exact ⟨b, o, rfl, fun wr h => by rw [h.cell (p := ⟨b, o + k, none⟩) (cell_block (hc k (by rw [hb.len]; exact hk)))]; exact hc k (by rw [hb.len]; exact hk)⟩
  have HN := Lib.hid hb.len
  clear hb
  go_enter Try.func4, Try.ntmps4
  go_wp2_with fail
  go_loopw [3, 4] (fun t i wr => ∃ A k : Nat, A ≤ n ∧ k ≤ A ∧ t = .int .i64 A ∧ i = .int .i64 k ∧ Below w.heap.size w wr) (fun t i _ => n - (intOf t).toNat)
  case atStart => exact ⟨0, 0, by omega, by omega, rfl, rfl, Below.refl _ _⟩
  case round =>
    obtain ⟨A, k, hA, hk, rfl, rfl, hb⟩ := hrel
    have H0 := Lib.hid hb
    clear hb
    by_cases hlt : A < n
    · obtain ⟨b, o, rfl, hcw⟩ := HC.out A hlt
      have hcell := hcw wr H0.out
      obtain ⟨r0, r1⟩ := getD_range B.out.rng A (by rw [HN.out]; exact hlt)
      obtain ⟨s1, s2⟩ := span_own xs A (by rw [HN.out]; exact hlt)
      rw [HN.out] at s2
      have HA := Lib.hid (span_all xs A)
      clear hcw
      go_wp2_with fail
      refine (class_any _ r0 r1 _).mono ?_
      rintro e w1 ⟨rfl, rfl⟩
      generalize cls (xs[A]?.getD 0) = c at *
      go_wp2_with fail
      refine (span_any _ n cap A _ 1 1 xs [c] _ HN.out (by omega) B.out.cap B.out.rng ?_ rfl (by omega) ?_).mono ?_
      · exact (B.out.row.below H0.out).alloc _
      · exact Row.new wr (u8s [c]) 5
      · rintro e w1 ⟨rfl, hb⟩
        have H1 : Hid (Below w.heap.size w w1) := H0.out.trans (((Below.refl _ _).alloc H0.out.size _).trans (hb.mono (by have := H0.out.size; simp; omega)))
        clear hb hcell H0
        generalize spanOf xs [c] A = S at *
        go_wp2_with fail
        refine (span_any _ n cap A _ 6 6 xs [0, 1, 2, 3, 4, 5] _ HN.out (by omega) B.out.cap B.out.rng ?_ rfl (by omega) ?_).mono ?_
        · exact (B.out.row.below H1.out).alloc _
        · exact Row.new w1 (u8s [0, 1, 2, 3, 4, 5]) 5
        · rintro e w2 ⟨rfl, hb⟩
          have H2 : Hid (Below w.heap.size w w2) := H1.out.trans (((Below.refl _ _).alloc H1.out.size _).trans (hb.mono (by have := H1.out.size; simp; omega)))
          clear hb H1
          rw [HA.out, HN.out]
          have e1 : Hid (((n - A : Nat) : Int) = (n : Int) - (A : Int)) := show ((n - A : Nat) : Int) = (n : Int) - (A : Int) by omega
          rw [e1.out]
          go_wp2_with fail
          go_roundw
          case rel => exact ⟨A + S, k + 1, by omega, by omega, by go_num, by go_num, H2.out⟩
          case measure => simp [intOf]; omega
    · have hAn : A = n := by omega
      subst hAn
      have HS := Lib.hid (span_none xs)
      go_wp2_with fail
      refine (span_any p A cap 0 none 0 0 xs [] _ HN.out (by omega) B.out.cap B.out.rng (B.out.row.below H0.out) rfl (by omega) (Row.nil _ _)).mono ?_
      rintro e w1 ⟨rfl, hb⟩
      have H1 := Lib.hid (H0.out.trans (hb.mono H0.out.size))
      clear hb
      rw [HS.out]
      go_wp2_with fail
      refine awake_tail _ fun w4 hb => ?_
      have HB := Lib.hid (H1.out.trans (hb.mono H1.out.size))
      clear hb
      go_wp2_with fail
      go_ret
      exact ⟨rfl, HB.out⟩
end Go.Proofs.Ytdmbilfcffmehaa
