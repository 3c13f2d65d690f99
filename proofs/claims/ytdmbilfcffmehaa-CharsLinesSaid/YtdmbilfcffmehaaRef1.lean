/- enclaveref01.Span, enclaveref01.Place. -/
import Derived.Test.YtdmbilfcffmehaaSpan
import Derived.Test.YtdmbilfcffmehaaPlace
import Derived.Test.YtdmbilfcffmehaaRefClass
set_option linter.unusedVariables false
set_option linter.unusedSimpArgs false
namespace Go.Proofs.Ytdmbilfcffmehaa
open Go.RowKit

theorem take_snoc (l : List Int) (k : Nat) (h : k < l.length) : l.take (k + 1) = l.take k ++ [l[k]?.getD 0] := by
  rw [List.take_succ_eq_append_getElem h]; simp [h]
theorem line_hit (l : List Int) (k : Nat) (h : k < l.length) (hx : (l[k]?.getD 0 == 10) = true) : lineOf (l.take (k + 1)) = lineOf (l.take k) + 1 := by
  rw [take_snoc l k h]; unfold lineOf feeds; rw [List.filter_append]; simp [hx]; omega
theorem line_miss (l : List Int) (k : Nat) (h : k < l.length) (hx : (l[k]?.getD 0 == 10) = false) : lineOf (l.take (k + 1)) = lineOf (l.take k) := by
  have hx' : ¬ l[k]?.getD 0 = 10 := by simpa using hx
  rw [take_snoc l k h]; unfold lineOf feeds; rw [List.filter_append]; simp [hx']
theorem col_hit (l : List Int) (k : Nat) (h : k < l.length) (hx : (l[k]?.getD 0 == 10) = true) : colOf (l.take (k + 1)) = 1 := by
  rw [take_snoc l k h]; unfold colOf tail10; simp only [List.reverse_append, List.reverse_singleton, List.singleton_append, List.takeWhile_cons, hx]; rfl
theorem col_miss (l : List Int) (k : Nat) (h : k < l.length) (hx : (l[k]?.getD 0 == 10) = false) : colOf (l.take (k + 1)) = colOf (l.take k) + 1 := by
  rw [take_snoc l k h]; unfold colOf tail10; simp only [List.reverse_append, List.reverse_singleton, List.singleton_append, List.takeWhile_cons, hx]; simp
theorem lineOf_le (l : List Int) (k : Nat) : 1 ≤ lineOf (l.take k) ∧ lineOf (l.take k) ≤ k + 1 := by
  have := feeds_le (l.take k); rw [List.length_take] at this; unfold lineOf; omega
theorem colOf_le (l : List Int) (k : Nat) : 1 ≤ colOf (l.take k) ∧ colOf (l.take k) ≤ k + 1 := by
  have := tail10_le (l.take k); rw [List.length_take] at this; unfold colOf; omega

set_option maxHeartbeats 400000 in
theorem ref_place_any (p : Option Addr) (n cap : Nat) (a : Int) (xs : List Int) (w : World) (hn : xs.length = n) (hm : n < 4611686018427387904) (hr : Row w p (u8s xs)) :
    Calls Try.prog 13 #[.slice p n cap, .int .i64 a] w fun e w' => e = .returned (.tuple #[.int .i64 (lineOf (front xs a)), .int .i64 (colOf (front xs a))]) ∧ w = w' := by
  have HC : Hid (∀ k, k < n → ∃ b o, p = some ⟨b, o, none⟩ ∧ w.cell? ⟨b, o + k, none⟩ = some (.int .u8 (xs.getD k 0))) := by
    intro k hk
    obtain ⟨b, o, rfl, hc⟩ := hr.u8 (by omega)
    exact ⟨b, o, rfl, hc k (by omega)⟩
  have HN := Lib.hid hn
  clear hr hn
  go_enter Try.func13, Try.ntmps13
  go_wp2
  go_loop [6, 7, 8] (fun l c i => ∃ k : Nat, k ≤ n ∧ (k ≤ a ∨ k = 0) ∧ i = .int .i64 k ∧ l = .int .i64 (lineOf (xs.take k)) ∧ c = .int .i64 (colOf (xs.take k))) (fun _ _ i => n - (intOf i).toNat)
  case atStart => exact ⟨0, by omega, .inr rfl, rfl, rfl, rfl⟩
  case round =>
    obtain ⟨k, hk, hka, rfl, rfl, rfl⟩ := hrel
    obtain ⟨l0, l1⟩ := lineOf_le xs k
    obtain ⟨c0, c1⟩ := colOf_le xs k
    by_cases hlt : k < n
    · by_cases hat : (k : Int) < a
      · obtain ⟨b, o, rfl, hcell⟩ := HC.out k hlt
        have h1 : Hid ((xs[k]?.getD 0 == 10) = true → lineOf (xs.take (k + 1)) = lineOf (xs.take k) + 1 ∧ colOf (xs.take (k + 1)) = 1) := fun h => ⟨line_hit xs k (by rw [HN.out]; exact hlt) h, col_hit xs k (by rw [HN.out]; exact hlt) h⟩
        have h2 : Hid ((xs[k]?.getD 0 == 10) = false → lineOf (xs.take (k + 1)) = lineOf (xs.take k) ∧ colOf (xs.take (k + 1)) = colOf (xs.take k) + 1) := fun h => ⟨line_miss xs k (by rw [HN.out]; exact hlt) h, col_miss xs k (by rw [HN.out]; exact hlt) h⟩
        go_wp2
        · go_round
          case rel => exact ⟨k + 1, by omega, .inl (by omega), by go_num, by rw [(h1.out (by assumption)).1], by rw [(h1.out (by assumption)).2]⟩
          case measure => simp [intOf]; omega
        · go_round
          case rel => exact ⟨k + 1, by omega, .inl (by omega), by go_num, by rw [(h2.out (by assumption)).1], by rw [(h2.out (by assumption)).2]⟩
          case measure => simp [intOf]; omega
      · have hf : Hid (front xs a = xs.take k) := by
          show _ = _
          unfold front
          congr 1
          omega
        have hat' : a ≤ (k : Int) := by omega
        have hd : decide ((k : Int) < a) = false := by simp; omega
        clear hat
        go_wp2
        go_ret2
        exact ⟨ret_pair (by rw [hf.out]) (by rw [hf.out]), rfl⟩
    · have hf : Hid (front xs a = xs.take k) := by
        show _ = _
        unfold front
        rw [List.take_of_length_le (by rw [HN.out]; omega), List.take_of_length_le (by rw [HN.out]; omega)]
      have hkn : k = n := by omega
      subst hkn
      go_wp2
      go_ret2
      exact ⟨ret_pair (by rw [hf.out]) (by rw [hf.out]), rfl⟩

theorem drop_get (l : List Int) (a k : Nat) : ((l.drop a)[k]?).getD 0 = (l[a + k]?).getD 0 := by
  rw [List.getElem?_drop]

set_option maxHeartbeats 400000 in
theorem ref_span_any (p : Option Addr) (n cap : Nat) (a : Int) (q : Option Addr) (m mc : Nat) (xs cl : List Int) (w : World) (hn : xs.length = n) (hm : n < 4611686018427387904) (hxs : ∀ x ∈ xs, 0 ≤ x ∧ x ≤ 255)
    (hr : Row w p (u8s xs)) (hmn : cl.length = m) (hmm : m ≤ 9223372036854775807) (hcl : Row w q (u8s cl)) :
    Calls Try.prog 14 #[.slice p n cap, .int .i64 a, .slice q m mc] w fun e w' =>
      e = .returned (.int .i64 (spanOf xs cl a)) ∧ Below w.heap.size w w' := by
  by_cases hout : a < 0 ∨ (n : Int) ≤ a
  · have hz := Lib.hid (spanOf_out (xs := xs) (cl := cl) (a := a) (by omega))
    clear hr hcl hn hmn
    rcases hout with ho | ho
    · go_enter Try.func14, Try.ntmps14
      go_wp2
      go_ret
      exact ⟨ret_int (by rw [hz.out]; rfl), Below.refl _ _⟩
    · by_cases ha : a < 0
      · omega
      · have ha0 : 0 ≤ a := by omega
        clear ha
        go_enter Try.func14, Try.ntmps14
        go_wp2
        go_loop [7, 8] (fun t i => t = .int .i64 0 ∧ i = .int .i64 a) (fun _ _ => 0)
        case atStart => exact ⟨rfl, rfl⟩
        case round =>
          obtain ⟨rfl, rfl⟩ := hrel
          go_wp2
          go_ret
          exact ⟨ret_int (by rw [hz.out]; rfl), Below.refl _ _⟩
  · obtain ⟨A, rfl⟩ := Int.eq_ofNat_of_zero_le (show 0 ≤ a by omega)
    have hA : A < n := by omega
    clear hout
    obtain ⟨b, o, rfl, hc⟩ := hr.u8 (by omega)
    have HC : Hid (∀ wr, Below w.heap.size w wr → ∀ k, k < n → wr.cell? ⟨b, o + k, none⟩ = some (.int .u8 (xs[k]?.getD 0))) := by
      intro wr hb k hk
      rw [hb.cell (p := ⟨b, o + k, none⟩) (cell_block (hc k (by omega)))]
      exact hc k (by omega)
    have HL := Lib.hid hcl
    have HM := Lib.hid hmn
    have HX := Lib.hid hxs
    have HN := Lib.hid hn
    have HS : Hid (spanOf xs cl (A : Int) = ((xs.drop A).takeWhile (inCls cl)).length) := by
      show spanOf xs cl (A : Int) = _
      unfold spanOf
      rw [if_neg (by omega)]
      simp
    clear hcl hmn hc hr hxs hn
    go_enter Try.func14, Try.ntmps14
    go_wp2
    go_loopw [7, 8] (fun t i wr => ∃ k : Nat, A + k ≤ n ∧ t = .int .i64 k ∧ i = .int .i64 ((A + k : Nat) : Int) ∧ ((xs.drop A).take k).all (inCls cl) = true ∧ Below w.heap.size w wr) (fun _ i _ => n - (intOf i).toNat)
    case atStart => exact ⟨0, by omega, rfl, rfl, by simp, Below.refl _ _⟩
    case round =>
      obtain ⟨k, hk, rfl, rfl, hno, hb⟩ := hrel
      have HNO := Lib.hid hno
      have HB := Lib.hid hb
      clear hno hb
      have hdl : (xs.drop A).length = n - A := by rw [List.length_drop, HN.out]
      have HDL := Lib.hid hdl
      clear hdl
      by_cases hlt : A + k < n
      · have hcell := HC.out wr HB.out (A + k) hlt
        obtain ⟨r0, r1⟩ := getD_range HX.out (A + k) (by rw [HN.out]; exact hlt)
        have hs := Lib.hid (all_take_succ (xs.drop A) (inCls cl) k (by rw [HDL.out]; omega))
        have hg := Lib.hid (drop_get xs A k)
        by_cases hin : inCls cl (xs[A + k]?.getD 0) = true
        · have HI := Lib.hid hin
          clear hin
          go_wp2_with fail
          refine (ref_class_any _ r0 r1 _).mono ?_
          rintro e w1 ⟨rfl, hb1⟩
          have HB1 := Lib.hid (HB.out.trans (hb1.mono HB.out.size))
          clear hb1
          go_wp2_with fail
          refine (ref_in_any q m mc _ cl w1 HM.out hmm (HL.out.below HB1.out)).mono ?_
          rintro e w2 ⟨rfl, rfl⟩
          rw [show (cl.any fun x => x == cls (xs[A + k]?.getD 0)) = true from HI.out]
          go_wp2_with fail
          go_roundw
          case rel => exact ⟨k + 1, by omega, by go_num, by go_num, by rw [hs.out, HNO.out, Bool.true_and, hg.out]; exact HI.out, HB1.out⟩
          case measure => simp [intOf]; omega
        · have hin' : inCls cl (xs[A + k]?.getD 0) = false := by simpa using hin
          have HI := Lib.hid hin'
          clear hin hin'
          go_wp2_with fail
          refine (ref_class_any _ r0 r1 _).mono ?_
          rintro e w1 ⟨rfl, hb1⟩
          have HB1 := Lib.hid (HB.out.trans (hb1.mono HB.out.size))
          clear hb1
          go_wp2_with fail
          refine (ref_in_any q m mc _ cl w1 HM.out hmm (HL.out.below HB1.out)).mono ?_
          rintro e w2 ⟨rfl, rfl⟩
          rw [show (cl.any fun x => x == cls (xs[A + k]?.getD 0)) = false from HI.out]
          go_wp2_with fail
          go_ret
          refine ⟨ret_int ?_, HB1.out⟩
          rw [HS.out, tw_hit (by rw [HDL.out]; omega) HNO.out (by rw [hg.out]; exact HI.out)]
      · have hkn : A + k = n := by omega
        go_wp2_with fail
        go_ret
        refine ⟨ret_int ?_, HB.out⟩
        have := HNO.out
        rw [List.take_of_length_le (by rw [HDL.out]; omega)] at this
        rw [HS.out, tw_all this, HDL.out]
        omega
end Go.Proofs.Ytdmbilfcffmehaa
