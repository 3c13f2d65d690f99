/- The walks of CharsRises, CharsLines. -/
import Derived.Test.YtdmbilfcffmehaaAwake1
set_option linter.unusedVariables false
set_option linter.unusedSimpArgs false
namespace Go.Proofs.Ytdmbilfcffmehaa
open Go.RowKit

theorem feeds_append (l s : List Int) : feeds (l ++ s) = feeds l + feeds s := by simp [feeds]
theorem tail10_append (l s : List Int) (h : feeds s = 0) : tail10 (l ++ s) = s.length + tail10 l := by
  have hs : ∀ x ∈ s.reverse, (!(x == 10)) = true := by
    intro x hx
    have hm : x ∈ s := List.mem_reverse.1 hx
    unfold feeds at h
    rw [List.length_eq_zero_iff, List.filter_eq_nil_iff] at h
    simpa using h x hm
  unfold tail10
  rw [List.reverse_append, List.takeWhile_append_of_pos hs]
  simp

theorem rises (xs : List Int) (x y : Nat) (h : x < y) (hy : y ≤ xs.length) :
    lineOf (xs.take x) < lineOf (xs.take y) ∨ (lineOf (xs.take x) = lineOf (xs.take y) ∧ colOf (xs.take x) < colOf (xs.take y)) := by
  have e : xs.take y = xs.take x ++ (xs.drop x).take (y - x) := by
    rw [← List.take_add]; congr 1; omega
  rw [e]
  unfold lineOf colOf
  rw [feeds_append]
  by_cases h0 : feeds ((xs.drop x).take (y - x)) = 0
  · right
    rw [tail10_append _ _ h0, h0, List.length_take, List.length_drop]
    omega
  · left; omega

theorem awake_tail (w : World) {R : Ending → World → Prop} (h : ∀ w', Below w.heap.size w w' → R (.returned (.bool true)) w') :
    Calls Try.prog 10 #[] w R := (awake1_any w).mono fun e w' ⟨he, hb⟩ => by subst he; exact h w' hb

set_option maxHeartbeats 400000 in
theorem charsRises_walk {w : World} (p : Option Addr) (n cap : Nat) (xs : List Int) (hb : Bytes w p n cap xs) (x : Int) (wx : (Lit.int .i64 x).wf = true) (y : Int) (wy : (Lit.int .i64 y).wf = true) :
    Calls Try.prog 6 #[.slice p n cap, .int .i64 x, .int .i64 y] w fun e w' => e = .returned (.bool true) ∧ Below w.heap.size w w' := by
  by_cases h : 500 < n ∨ x < 0 ∨ n < y ∨ y ≤ x
  · have hcase : (500 < n) ∨ (n ≤ 500 ∧ x < 0) ∨ (n ≤ 500 ∧ 0 ≤ x ∧ (n : Int) < y) ∨ (n ≤ 500 ∧ 0 ≤ x ∧ y ≤ n ∧ y ≤ x) := by omega
    clear h hb
    rcases hcase with h1 | ⟨h1, h2⟩ | ⟨h1, h2, h3⟩ | ⟨h1, h2, h3, h4⟩
    all_goals
      go_enter Try.func6, Try.ntmps6
      go_wp2_with fail
      refine awake_tail _ fun w3 hb => ?_
      have HB := Lib.hid hb
      clear hb
      go_wp2_with fail
      go_ret
      exact ⟨rfl, HB.out⟩
  · have h1 : n ≤ 500 := by omega
    have h2 : 0 ≤ x := by omega
    have h3 : y ≤ n := by omega
    have h4 : x < y := by omega
    clear h
    have B := Lib.hid hb
    have hr := rises xs x.toNat y.toNat (by omega) (by rw [hb.len]; omega)
    have lx := lineOf_le xs x.toNat
    have cx := colOf_le xs x.toNat
    have ly := lineOf_le xs y.toNat
    have cy := colOf_le xs y.toNat
    clear hb
    rcases hr with hr | ⟨hr, hr'⟩
    · go_enter Try.func6, Try.ntmps6
      go_wp2_with fail
      refine (place_any p n cap x xs w B.out.len (by omega) B.out.cap B.out.rng B.out.row).mono ?_
      rintro e w1 ⟨rfl, hb⟩
      have H1 := Lib.hid hb
      clear hb
      change 1 + (feeds (xs.take x.toNat) : Int) < 1 + (feeds (xs.take y.toNat) : Int) at hr
      go_wp2_with fail
      refine (place_any p n cap y xs w1 B.out.len (by omega) B.out.cap B.out.rng (B.out.row.below H1.out)).mono ?_
      rintro e w2 ⟨rfl, hb⟩
      have H2 := Lib.hid (H1.out.trans (hb.mono H1.out.size))
      clear hb H1
      change lineOf (xs.take x.toNat) < lineOf (xs.take y.toNat) at hr
      unfold front
      generalize lineOf (xs.take x.toNat) = l1 at *
      generalize lineOf (xs.take y.toNat) = l2 at *
      generalize colOf (xs.take x.toNat) = c1 at *
      generalize colOf (xs.take y.toNat) = c2 at *
      obtain ⟨lx1, lx2⟩ := lx
      obtain ⟨cx1, cx2⟩ := cx
      go_wp2_with fail
      refine awake_tail _ fun w3 hb => ?_
      have HB := Lib.hid (H2.out.trans (hb.mono H2.out.size))
      clear hb
      go_wp2_with fail
      go_ret
      exact ⟨rfl, HB.out⟩
    · go_enter Try.func6, Try.ntmps6
      have HR := Lib.hid hr
      clear hr
      go_wp2_with fail
      refine (place_any p n cap x xs w B.out.len (by omega) B.out.cap B.out.rng B.out.row).mono ?_
      rintro e w1 ⟨rfl, hb⟩
      have H1 := Lib.hid hb
      clear hb
      go_wp2_with fail
      refine (place_any p n cap y xs w1 B.out.len (by omega) B.out.cap B.out.rng (B.out.row.below H1.out)).mono ?_
      rintro e w2 ⟨rfl, hb⟩
      have H2 := Lib.hid (H1.out.trans (hb.mono H1.out.size))
      clear hb H1
      unfold front
      rw [← HR.out]
      generalize lineOf (xs.take x.toNat) = l1 at *
      generalize colOf (xs.take x.toNat) = c1 at *
      generalize colOf (xs.take y.toNat) = c2 at *
      obtain ⟨lx1, lx2⟩ := lx
      obtain ⟨cx1, cx2⟩ := cx
      go_wp2_with fail
      refine awake_tail _ fun w3 hb => ?_
      have HB := Lib.hid (H2.out.trans (hb.mono H2.out.size))
      clear hb
      go_wp2_with fail
      go_ret
      exact ⟨rfl, HB.out⟩

theorem charsLines_awake {w : World} (p : Option Addr) (n cap : Nat) (a : Int) (h : 500 < n) :
    Calls Try.prog 7 #[.slice p n cap, .int .i64 a] w fun e w' => e = .returned (.bool true) ∧ Below w.heap.size w w' := by
  go_enter Try.func7, Try.ntmps7
  go_wp2_with fail
  refine awake_tail _ fun w3 hb => ?_
  have HB := Lib.hid hb
  clear hb
  go_wp2_with fail
  go_ret
  exact ⟨rfl, HB.out⟩

set_option maxHeartbeats 1000000 in
theorem charsLines_main {w : World} (p : Option Addr) (n cap : Nat) (xs : List Int) (hb : Bytes w p n cap xs) (a : Int) (wa : (Lit.int .i64 a).wf = true) (hn : n ≤ 500) :
    Calls Try.prog 7 #[.slice p n cap, .int .i64 a] w fun e w' => e = .returned (.bool true) ∧ Below w.heap.size w w' := by
  have B := Lib.hid hb
  have HC : Hid (∀ k, k < n → ∃ b o, p = some ⟨b, o, none⟩ ∧ ∀ wr, Below w.heap.size w wr → wr.cell? ⟨b, o + k, none⟩ = some (.int .u8 (xs[k]?.getD 0))) := by
    intro k hk
    obtain ⟨b, o, rfl, hc⟩ := hb.row.u8 (by rw [hb.len]; omega)
    exact ⟨b, o, rfl, fun wr h => by rw [h.cell (p := ⟨b, o + k, none⟩) (cell_block (hc k (by rw [hb.len]; exact hk)))]; exact hc k (by rw [hb.len]; exact hk)⟩
  have HN := Lib.hid hb.len
  obtain ⟨a0, a1⟩ := i64_range wa
  clear hb wa
  go_enter Try.func7, Try.ntmps7
  go_wp2_with fail
  go_loop [5, 6] (fun l i => ∃ k : Nat, k ≤ n ∧ i = .int .i64 k ∧ l = .int .i64 (lineOf (xs.take k))) (fun _ i => n - (intOf i).toNat)
  case atStart => exact ⟨0, by omega, rfl, rfl⟩
  case round =>
    obtain ⟨k, hk, rfl, rfl⟩ := hrel
    obtain ⟨l0, l1⟩ := lineOf_le xs k
    by_cases hlt : k < n
    · obtain ⟨b, o, rfl, hcw⟩ := HC.out k hlt
      have hcell := hcw w (Below.refl _ _)
      have h1 : Hid ((xs[k]?.getD 0 == 10) = true → lineOf (xs.take (k + 1)) = lineOf (xs.take k) + 1) := fun h => line_hit xs k (by rw [HN.out]; exact hlt) h
      have h2 : Hid ((xs[k]?.getD 0 == 10) = false → lineOf (xs.take (k + 1)) = lineOf (xs.take k)) := fun h => line_miss xs k (by rw [HN.out]; exact hlt) h
      clear hcw
      go_wp2_with fail
      · go_round
        case rel => exact ⟨k + 1, by omega, by go_num, by rw [h1.out (by assumption)]⟩
        case measure => simp [intOf]; omega
      · go_round
        case rel => exact ⟨k + 1, by omega, by go_num, by rw [h2.out (by assumption)]⟩
        case measure => simp [intOf]; omega
    · have hkn : k = n := by omega
      subst hkn
      have ht : xs.take k = xs := take_all HN.out
      have hf : Hid (front xs (k : Int) = xs) := by show front xs (k : Int) = xs; unfold front; simpa using ht
      rw [ht]
      rw [ht] at l0 l1
      clear ht
      go_wp2_with fail
      refine (place_any p k cap k xs w B.out.len (by omega) B.out.cap B.out.rng B.out.row).mono ?_
      rintro e w1 ⟨rfl, hb⟩
      have H1 := Lib.hid hb
      clear hb
      rw [hf.out]
      generalize lineOf xs = L at *
      generalize colOf xs = C at *
      by_cases hout : a < 0 ∨ (k : Int) ≤ a
      · rcases hout with ho | ho
        · go_wp2_with fail
          refine awake_tail _ fun w3 hb => ?_
          have HB := Lib.hid (H1.out.trans (hb.mono H1.out.size))
          clear hb
          go_wp2_with fail
          go_ret
          exact ⟨rfl, HB.out⟩
        · have ha0 : 0 ≤ a := by omega
          go_wp2_with fail
          refine awake_tail _ fun w3 hb => ?_
          have HB := Lib.hid (H1.out.trans (hb.mono H1.out.size))
          clear hb
          go_wp2_with fail
          go_ret
          exact ⟨rfl, HB.out⟩
      · obtain ⟨A, rfl⟩ := Int.eq_ofNat_of_zero_le (show 0 ≤ a by omega)
        have hA : A < k := by omega
        clear hout a0 a1
        obtain ⟨b, o, rfl, hcw⟩ := HC.out A hA
        have HW := Lib.hid hcw
        have f1 : Hid (front xs (A : Int) = xs.take A) := by show front xs (A : Int) = xs.take A; unfold front; simp
        have f2 : Hid (front xs ((A : Int) + 1) = xs.take (A + 1)) := by show front xs ((A : Int) + 1) = xs.take (A + 1); unfold front; congr 1
        obtain ⟨la, la'⟩ := lineOf_le xs A
        obtain ⟨ca, ca'⟩ := colOf_le xs A
        have h1 : Hid ((xs[A]?.getD 0 == 10) = true → lineOf (xs.take (A + 1)) = lineOf (xs.take A) + 1 ∧ colOf (xs.take (A + 1)) = 1) := fun h => ⟨line_hit xs A (by rw [HN.out]; exact hA) h, col_hit xs A (by rw [HN.out]; exact hA) h⟩
        have h2 : Hid ((xs[A]?.getD 0 == 10) = false → lineOf (xs.take (A + 1)) = lineOf (xs.take A) ∧ colOf (xs.take (A + 1)) = colOf (xs.take A) + 1) := fun h => ⟨line_miss xs A (by rw [HN.out]; exact hA) h, col_miss xs A (by rw [HN.out]; exact hA) h⟩
        clear hcw
        go_wp2_with fail
        refine (place_any _ k cap A xs w1 B.out.len (by omega) B.out.cap B.out.rng (B.out.row.below H1.out)).mono ?_
        rintro e w2 ⟨rfl, hb⟩
        have H2 := Lib.hid (H1.out.trans (hb.mono H1.out.size))
        clear hb H1
        rw [f1.out]
        go_wp2_with fail
        refine (place_any _ k cap ((A : Int) + 1) xs w2 B.out.len (by omega) B.out.cap B.out.rng (B.out.row.below H2.out)).mono ?_
        rintro e w3 ⟨rfl, hb⟩
        have H3 := Lib.hid (H2.out.trans (hb.mono H2.out.size))
        clear hb H2
        rw [f2.out]
        have hcell := HW.out w3 H3.out
        by_cases h10 : (xs[A]?.getD 0 == 10) = true
        · have e1 := (h1.out h10).1
          have e2 := (h1.out h10).2
          rw [e1, e2]
          clear e1 e2
          generalize lineOf (xs.take A) = LA at *
          go_wp2_with fail
          refine awake_tail _ fun w4 hb => ?_
          have HB := Lib.hid (H3.out.trans (hb.mono H3.out.size))
          clear hb
          go_wp2_with fail
          go_ret
          exact ⟨rfl, HB.out⟩
        · have h10' : (xs[A]?.getD 0 == 10) = false := by simpa using h10
          have e1 := (h2.out h10').1
          have e2 := (h2.out h10').2
          rw [e1, e2]
          clear e1 e2 h10
          generalize lineOf (xs.take A) = LA at *
          generalize colOf (xs.take A) = CA at *
          go_wp2_with fail
          refine awake_tail _ fun w4 hb => ?_
          have HB := Lib.hid (H3.out.trans (hb.mono H3.out.size))
          clear hb
          go_wp2_with fail
          go_ret
          exact ⟨rfl, HB.out⟩

theorem charsLines_walk {w : World} (p : Option Addr) (n cap : Nat) (xs : List Int) (hb : Bytes w p n cap xs) (a : Int) (wa : (Lit.int .i64 a).wf = true) :
    Calls Try.prog 7 #[.slice p n cap, .int .i64 a] w fun e w' => e = .returned (.bool true) ∧ Below w.heap.size w w' := by
  by_cases h : 500 < n
  · exact charsLines_awake p n cap a h
  · exact charsLines_main p n cap xs hb a wa (by omega)
end Go.Proofs.Ytdmbilfcffmehaa
