/- chars.Place and what it calls. -/
import Derived.Test.YtdmbilfcffmehaaMem
import Derived.Test.YtdmbilfcffmehaaLst
import Derived.Shelf.Bytes.SlCountOne
set_option linter.unusedVariables false
set_option linter.unusedSimpArgs false
namespace Go.Proofs.Ytdmbilfcffmehaa
open Go.RowKit

/-- how many line feeds -/
def feeds (xs : List Int) : Nat := (xs.filter (· == 10)).length
/-- how many bytes stand behind the last line feed -/
def tail10 (xs : List Int) : Nat := (xs.reverse.takeWhile (fun x => !(x == 10))).length

theorem count_feeds (xs : List Int) (h : ∀ x ∈ xs, 0 ≤ x ∧ x ≤ 255) : Lib.countByte (Lib.bytesOf xs) (UInt8.ofNat (Int.toNat 10)) = feeds xs := by
  induction xs with
  | nil => rfl
  | cons x r ih =>
    have ih := ih (fun y hy => h y (List.mem_cons_of_mem _ hy))
    have hx := h x (List.mem_cons_self ..)
    unfold Lib.countByte feeds at *
    have e : Lib.bytesOf (x :: r) = x.toNat.toUInt8 :: Lib.bytesOf r := rfl
    rw [e, List.count_cons, ih, List.filter_cons]
    by_cases hx10 : x = 10
    · subst hx10; simp
    · have : ¬ (x.toNat.toUInt8 = UInt8.ofNat (Int.toNat 10)) := by
        intro e
        have := congrArg UInt8.toNat e
        simp at this
        omega
      simp [hx10]
      intro e
      exact absurd e (by simpa using this)

theorem bytes_Count_any (p : Option Addr) (n cap : Nat) (s : Addr) (xs : List Int) (w : World) (hn : xs.length = n) (hxs : ∀ x ∈ xs, 0 ≤ x ∧ x ≤ 255)
    (hr : Row w p (u8s xs)) (hsep : w.cell? s = some (.int .u8 10)) :
    Calls Try.prog 19 #[.slice p n cap, .slice (some s) 1 1] w fun e w' => e = .returned (.int .i64 (feeds xs)) ∧ w = w' := by
  have hrun : Hid ((Extern.BytealgCount.count #[.slice p n cap, .int .u8 10]).run Try.prog w = .ok (.int .i64 (feeds xs)) w) := by
    rw [← count_feeds xs hxs]
    rcases hr with he | ⟨b, o, rfl, hc⟩
    · have hx : xs = [] := by simpa [u8s] using he
      subst hx
      subst hn
      cases p with
      | none => exact Lib.run_countNil w 0 cap 10
      | some a => exact Lib.run_countAt w a 0 cap [] rfl (fun i hi => absurd hi (Nat.not_lt_zero _)) 10
    · exact Lib.run_countSlice w b o n cap xs hn (fun i hi => by rw [hc i (by rw [u8s_length]; omega), u8s_getD _ _ (by omega)]) 10
  clear hr hxs hn
  go_enter Try.func19, Try.ntmps19
  go_wp2
  rw [run_callFunc_extern Try.func25 (by kernel_rfl) (by kernel_rfl) (by kernel_rfl) (e := Extern.BytealgCount.count) (by kernel_rfl), hrun.out]
  simp only [Result.andThen]
  rw [Oper.upon_value]
  go_wp2
  go_ret
  exact ⟨rfl, rfl⟩

theorem rev_get (xs : List Int) (k n : Nat) (hn : xs.length = n) (hk : k < n) : (xs.reverse[n - 1 - k]?).getD 0 = (xs[k]?).getD 0 := by
  rw [List.getElem?_reverse (by omega)]
  congr 2
  omega

theorem lastIndexByte_any (p : Option Addr) (n cap : Nat) (xs : List Int) (w : World) (hn : xs.length = n) (hm : n ≤ 9223372036854775807) (hr : Row w p (u8s xs)) :
    Calls Try.prog 27 #[.slice p n cap, .int .u8 10] w fun e w' => e = .returned (.int .i64 ((n : Int) - (tail10 xs : Int) - 1)) ∧ w = w' := by
  have HC : Hid (∀ k, k < n → ∃ b o, p = some ⟨b, o, none⟩ ∧ w.cell? ⟨b, o + k, none⟩ = some (.int .u8 (xs.getD k 0))) := by
    intro k hk
    obtain ⟨b, o, rfl, hc⟩ := hr.u8 (by omega)
    exact ⟨b, o, rfl, hc k (by omega)⟩
  have HN := Lib.hid hn
  clear hr hn
  go_enter Try.func27, Try.ntmps27
  go_wp2
  go_loop [5] (fun i => ∃ z : Int, i = .int .i64 z ∧ -1 ≤ z ∧ z < n ∧ (xs.reverse.take ((n : Int) - 1 - z).toNat).all (fun x => !(x == 10)) = true) (fun i => (intOf i + 1).toNat)
  case atStart => exact ⟨_, rfl, by omega, by omega, by simp⟩
  case round =>
    obtain ⟨z, rfl, hz1, hz2, hall⟩ := hrel
    have HA := Lib.hid hall
    clear hall
    by_cases hz : 0 ≤ z
    · obtain ⟨k, rfl⟩ := Int.eq_ofNat_of_zero_le hz
      have hk : k < n := by omega
      obtain ⟨b, o, rfl, hcell⟩ := HC.out k hk
      have hs := Lib.hid (all_take_succ xs.reverse (fun x => !(x == 10)) (n - 1 - k) (by rw [List.length_reverse, HN.out]; omega))
      have hg := Lib.hid (rev_get xs k n HN.out hk)
      have e1 : Hid (((n : Int) - 1 - (k : Int)).toNat = n - 1 - k) := show _ = _ by omega
      go_wp2
      · go_ret
        have hx : (xs[k]?.getD 0 == 10) = true := by assumption
        refine ⟨ret_int ?_, rfl⟩
        have ht := tw_hit (l := xs.reverse) (p := fun x => !(x == 10)) (k := n - 1 - k) (by rw [List.length_reverse, HN.out]; omega) (by rw [← e1.out]; exact HA.out) (by rw [hg.out, hx]; rfl)
        unfold tail10
        rw [ht]
        omega
      · go_round
        case rel =>
          have hx : (xs[k]?.getD 0 == 10) = false := by assumption
          refine ⟨_, rfl, by omega, by omega, ?_⟩
          have e2 : ((n : Int) - 1 - ((k : Int) - 1)).toNat = (n - 1 - k) + 1 := by omega
          rw [e2, hs.out, hg.out, hx, ← e1.out, HA.out]
          rfl
        case measure => simp [intOf]
    · have hz' : z = -1 := by omega
      subst hz'
      go_wp2
      go_ret
      refine ⟨ret_int ?_, rfl⟩
      have := HA.out
      rw [List.take_of_length_le (by rw [List.length_reverse, HN.out]; omega)] at this
      unfold tail10
      rw [tw_all this, List.length_reverse, HN.out]
      omega

theorem bytes_LastIndexByte_any (p : Option Addr) (n cap : Nat) (xs : List Int) (w : World) (hn : xs.length = n) (hm : n ≤ 9223372036854775807) (hr : Row w p (u8s xs)) :
    Calls Try.prog 20 #[.slice p n cap, .int .u8 10] w fun e w' => e = .returned (.int .i64 ((n : Int) - (tail10 xs : Int) - 1)) ∧ w = w' := by
  have HR := Lib.hid hr
  have HN := Lib.hid hn
  clear hr hn
  go_enter Try.func20, Try.ntmps20
  go_wp2_with fail
  refine (lastIndexByte_any p n cap xs w HN.out hm HR.out).mono ?_
  rintro e w' ⟨rfl, rfl⟩
  go_wp2
  go_ret
  exact ⟨rfl, rfl⟩

/-- where a place stands, of the bytes ahead of it -/
def lineOf (xs : List Int) : Int := 1 + (feeds xs : Int)
def colOf (xs : List Int) : Int := (tail10 xs : Int) + 1

/-- the bytes ahead of a place -/
def front (xs : List Int) (a : Int) : List Int := xs.take a.toNat

theorem row_take {w : World} {p : Option Addr} {xs : List Int} (h : Row w p (u8s xs)) (m : Nat) : Row w p (u8s (xs.take m)) := by
  rcases Nat.eq_zero_or_pos xs.length with h0 | h0
  · have : xs = [] := List.length_eq_zero_iff.1 h0
    subst this
    simpa using h
  · obtain ⟨b, o, rfl, hc⟩ := h.u8 h0
    refine .inr ⟨b, o, rfl, fun i hi => ?_⟩
    rw [u8s_length, List.length_take] at hi
    rw [hc i (by omega), u8s_getD _ _ (by rw [List.length_take]; omega)]
    simp [List.getD, List.getElem?_take, (by omega : i < m)]

theorem feeds_le (xs : List Int) : feeds xs ≤ xs.length := List.length_filter_le _ _
theorem tail10_le (xs : List Int) : tail10 xs ≤ xs.length := by
  have := (List.takeWhile_sublist (p := fun x : Int => !(x == 10)) (l := xs.reverse)).length_le
  simpa [tail10] using this

theorem place_any (p : Option Addr) (n cap : Nat) (a : Int) (xs : List Int) (w : World) (hn : xs.length = n) (hm : n < 4611686018427387904) (hcap : n ≤ cap) (hxs : ∀ x ∈ xs, 0 ≤ x ∧ x ≤ 255) (hr : Row w p (u8s xs)) :
    Calls Try.prog 12 #[.slice p n cap, .int .i64 a] w fun e w' => e = .returned (.tuple #[.int .i64 (lineOf (front xs a)), .int .i64 (colOf (front xs a))]) ∧ Below w.heap.size w w' := by
  have ef : Hid (front xs a = xs.take (max 0 (min a (n : Int))).toNat) := by
    show front xs a = _
    unfold front
    rcases (by omega : a < 0 ∨ (0 ≤ a ∧ a ≤ n) ∨ n < a) with ha | ⟨ha, ha'⟩ | ha
    · congr 1; omega
    · congr 1; omega
    · rw [List.take_of_length_le (by omega), List.take_of_length_le (by omega)]
  have hl : Hid ((xs.take (max 0 (min a (n : Int))).toNat).length = (max 0 (min a (n : Int))).toNat) := by
    show List.length _ = _
    rw [List.length_take]; omega
  have h1 := feeds_le (xs.take (max 0 (min a (n : Int))).toNat)
  have h2 := tail10_le (xs.take (max 0 (min a (n : Int))).toNat)
  rw [hl.out] at h1 h2
  have hr' := Lib.hid ((row_take hr (max 0 (min a (n : Int))).toNat).below ((Below.refl _ w).alloc (Nat.le_refl _) (.cells #[.int .u8 10] 5)))
  have hx' : Hid (∀ x ∈ xs.take (max 0 (min a (n : Int))).toNat, 0 ≤ x ∧ x ≤ 255) := fun x hx => hxs x (List.mem_of_mem_take hx)
  have hm' : (max 0 (min a (n : Int))).toNat ≤ n := by omega
  clear hr hxs hn
  generalize hfr : front xs a = fr at *
  generalize xs.take (max 0 (min a (n : Int))).toNat = ys at *
  have hfy := ef.out
  subst hfy
  clear ef hfr
  go_enter Try.func12, Try.ntmps12
  go_wp2_with fail
  refine (bytes_Count_any p _ cap ⟨w.heap.size, 0, none⟩ fr _ hl.out hx'.out hr'.out (by rw [cell_new]; rfl)).mono ?_
  rintro e w' ⟨rfl, rfl⟩
  go_wp2_with fail
  refine (bytes_LastIndexByte_any p _ cap fr _ hl.out (by omega) hr'.out).mono ?_
  rintro e w' ⟨rfl, rfl⟩
  go_wp2_with fail
  go_ret2
  exact ⟨ret_pair (by unfold lineOf; omega) (by unfold colOf; omega), (Below.refl _ _).alloc (Nat.le_refl _) _⟩
end Go.Proofs.Ytdmbilfcffmehaa
