/- chars.Span and what it calls. -/
import Derived.Test.YtekhblomdlehhaaDoorCls
import Derived.Test.YtekhblomdlehhaaDoorLst
import Derived.BigQuiet
set_option linter.unusedVariables false
set_option maxRecDepth 100000
set_option linter.unusedSimpArgs false
namespace Go.Proofs.YtekhblomdlehhaaDoor
open Go.RowKit

theorem idx_any (p : Option Addr) (n cap : Nat) (c : Int) (xs : List Int) (w : World) (hn : xs.length = n) (hm : n ≤ 9223372036854775807) (hr : Row w p (u8s xs)) :
    Calls Tryd.prog 137 #[.slice p n cap, .int .u8 c] w fun e w' => (∃ r : Int, e = .returned (.int .i64 r) ∧ (xs.any (· == c) = decide (0 ≤ r))) ∧ w = w' := by
  by_cases h0 : n = 0
  · subst h0
    obtain rfl : xs = [] := List.length_eq_zero_iff.1 hn
    clear hn hr
    go_enter Tryd.func137, Tryd.ntmps137
    go_wp2
    go_loop [5, 8] (fun u i => i = .int .i64 0) (fun _ i => 0)
    case atStart => rfl
    case round =>
      subst hrel
      go_wp2
      go_ret
      exact ⟨⟨_, rfl, by simp⟩, rfl⟩
  · obtain ⟨b, o, rfl, hc⟩ := hr.u8 (by omega)
    have HN := Lib.hid hn
    have HC := Lib.hid hc
    clear hn hc hr
    go_enter Tryd.func137, Tryd.ntmps137
    go_wp2
    go_loop [5, 8] (fun u i => ∃ k : Nat, k ≤ n ∧ i = .int .i64 k ∧ (xs.take k).any (· == c) = false) (fun _ i => n - (intOf i).toNat)
    case atStart => exact ⟨0, by omega, rfl, by simp⟩
    case round =>
      obtain ⟨k, hk, rfl, hno⟩ := hrel
      have HNO := Lib.hid hno
      clear hno
      by_cases hlt : k < n
      · have hcell := HC.out k (by rw [HN.out]; exact hlt)
        have hs := Lib.hid (any_take_succ xs (· == c) k (by rw [HN.out]; exact hlt))
        go_wp2
        · go_ret
          have h := any_hit xs (· == c) k (by rw [HN.out]; exact hlt) (by rw [beq_iff_eq]; exact (beq_iff_eq.1 (by assumption)).symm)
          exact ⟨⟨k, rfl, by rw [h]; simp⟩, rfl⟩
        · go_round
          case rel => exact ⟨k + 1, by omega, by go_num, by rw [hs.out, HNO.out, Bool.false_or, BEq.comm]; assumption⟩
          case measure => simp [intOf]; omega
      · go_wp2
        go_ret
        have : k = n := by omega
        subst this
        have := HNO.out
        rw [List.take_of_length_le (by rw [HN.out]; omega)] at this
        exact ⟨⟨_, rfl, by rw [this]; simp⟩, rfl⟩

theorem contains_any (p : Option Addr) (n cap : Nat) (c : Int) (xs : List Int) (w : World) (hn : xs.length = n) (hm : n ≤ 9223372036854775807) (hr : Row w p (u8s xs)) :
    Calls Tryd.prog 130 #[.slice p n cap, .int .u8 c] w fun e w' => e = .returned (.bool (xs.any (· == c))) ∧ w' = w := by
  have HR := Lib.hid hr
  have HN := Lib.hid hn
  clear hr hn
  go_enter Tryd.func130, Tryd.ntmps130
  go_wp2_with fail
  refine (idx_any p n cap c xs w HN.out hm HR.out).mono ?_
  rintro e w' ⟨⟨r, rfl, hr⟩, rfl⟩
  have Hr := Lib.hid hr
  clear hr
  go_wp2
  go_ret
  exact ⟨ret_bool Hr.out.symm, rfl⟩

theorem class_quiet (c : Int) (h0 : 0 ≤ c) (h1 : c ≤ 255) (w : World) :
    Calls Tryd.prog 113 #[.int .u8 c] w fun e w' => e = .returned (.int .u8 (cls c)) ∧ w' = w := (class_any c h0 h1 w).mono fun _ _ h => ⟨h.1, h.2.symm⟩

/-- does a byte's class lie in some classes? -/
def inCls (cl : List Int) (c : Int) : Bool := cl.any (· == cls c)

/-- the closure: is the byte's class none of some? its box holds the classes' slice -/
theorem span1_any (c : Int) (h0 : 0 ≤ c) (h1 : c ≤ 255) (a : Addr) (p : Option Addr) (n cap : Nat) (xs : List Int) (w : World) (hn : xs.length = n) (hm : n ≤ 9223372036854775807)
    (hbox : w.cell? a = some (.slice p n cap)) (hr : Row w p (u8s xs)) :
    Calls Tryd.prog 129 #[.int .u8 c, .pointer (some a)] w fun e w' => e = .returned (.bool (!inCls xs c)) ∧ ∃ m, w' = w.drewN m := by
  have HR := Lib.hid hr
  have HN := Lib.hid hn
  clear hr hn
  go_enter Tryd.func129, Tryd.ntmps129
  go_wp2_with fail
  go_quiet ((first | (go_at_call 113; exact Calls.quiet_of_same (class_quiet c h0 h1 _)) | (go_at_call 130; exact Calls.quiet_of_same (contains_any p n cap (cls c) xs _ HN.out hm (HR.out.drewN _)))))
  go_wp2
  go_ret
  exact ⟨rfl, _, rfl⟩

theorem indexFunc_any (a : Addr) (q : Option Addr) (m mc : Nat) (cl : List Int) (p : Option Addr) (n cap : Nat) (xs : List Int) (w : World) (hn : xs.length = n) (hm : n ≤ 9223372036854775807) (hxs : ∀ x ∈ xs, 0 ≤ x ∧ x ≤ 255)
    (hr : Row w p (u8s xs)) (hmn : cl.length = m) (hmm : m ≤ 9223372036854775807) (hbox : w.cell? a = some (.slice q m mc)) (hcl : Row w q (u8s cl)) (h0 : 0 < n) :
    Calls Tryd.prog 128 #[.slice p n cap, .func (.func 129) #[] #[.pointer (some a)]] w fun e w' =>
      (∃ r : Int, e = .returned (.int .i64 r) ∧ ((r < 0 ∧ (xs.takeWhile (inCls cl)).length = n) ∨ r = ((xs.takeWhile (inCls cl)).length : Int))) ∧ ∃ j, w' = w.drewN j := by
  obtain ⟨b, o, rfl, hc⟩ := hr.u8 (by omega)
  have HN := Lib.hid hn
  have HC := Lib.hid hc
  have HM := Lib.hid hmn
  have HL := Lib.hid hcl
  have HX := Lib.hid hxs
  clear hn hc hr hmn hcl hxs
  go_enter Tryd.func128, Tryd.ntmps128
  go_wp2
  go_loopw [5, 8] (fun _ i wr => ∃ k : Nat, k ≤ n ∧ i = .int .i64 k ∧ (xs.take k).all (inCls cl) = true ∧ ∃ j, wr = w.drewN j) (fun _ i _ => n - (intOf i).toNat)
  case atStart => exact ⟨0, by omega, rfl, by simp, 0, rfl⟩
  case round =>
    obtain ⟨k, hk, rfl, hno, j, rfl⟩ := hrel
    have HNO := Lib.hid hno
    clear hno
    by_cases hlt : k < n
    · have hcell := HC.out k (by rw [HN.out]; exact hlt)
      have hs := Lib.hid (all_take_succ xs (inCls cl) k (by rw [HN.out]; exact hlt))
      obtain ⟨r0, r1⟩ := getD_range HX.out k (by rw [HN.out]; exact hlt)
      by_cases hin : inCls cl (xs[k]?.getD 0) = true
      · go_wp2_with (go_at_call 129; refine (span1_any _ r0 r1 a q m mc cl _ HM.out hmm (by exact hbox) (by exact HL.out.drewN _)).mono ?_; rintro e w' ⟨rfl, m2, rfl⟩)
        go_roundw
        case rel => exact ⟨k + 1, by omega, by go_num, by rw [hs.out, HNO.out, Bool.true_and]; exact hin, j + m2, rfl⟩
        case measure => simp [intOf]; omega
      · have hin' : inCls cl (xs[k]?.getD 0) = false := by simpa using hin
        clear hin
        go_wp2_with (go_at_call 129; refine (span1_any _ r0 r1 a q m mc cl _ HM.out hmm (by exact hbox) (by exact HL.out.drewN _)).mono ?_; rintro e w' ⟨rfl, m2, rfl⟩)
        go_ret
        refine ⟨⟨(k : Int), rfl, .inr ?_⟩, j + m2, rfl⟩
        rw [tw_hit (by rw [HN.out]; exact hlt) HNO.out hin']
    · have : k = n := by omega
      subst this
      go_wp2
      go_ret
      have := HNO.out
      rw [List.take_of_length_le (by rw [HN.out]; omega)] at this
      exact ⟨⟨-1, rfl, .inl ⟨by omega, by rw [tw_all this]; exact HN.out⟩⟩, j, rfl⟩

/-- How many bytes from a place on are of some classes. -/
def spanOf (xs cl : List Int) (a : Int) : Nat := if a < 0 then 0 else ((xs.drop a.toNat).takeWhile (inCls cl)).length

theorem spanOf_out {xs cl : List Int} {a : Int} (h : a < 0 ∨ (xs.length : Int) ≤ a) : spanOf xs cl a = 0 := by
  unfold spanOf
  split
  · rfl
  · rw [List.drop_of_length_le (by omega)]; rfl

theorem row_drop {w : World} {b o : Nat} {xs : List Int} {n : Nat} (hn : xs.length = n) (hc : ∀ i, i < xs.length → w.cell? ⟨b, o + i, none⟩ = some (.int .u8 (xs.getD i 0))) (k : Nat) :
    Row w (some ⟨b, o + k, none⟩) (u8s (xs.drop k)) := by
  refine .inr ⟨b, o + k, rfl, fun i hi => ?_⟩
  rw [u8s_length, List.length_drop] at hi
  rw [Nat.add_assoc, hc (k + i) (by omega), u8s_getD _ _ (by rw [List.length_drop]; exact hi)]
  simp [List.getD]

set_option maxHeartbeats 400000 in
theorem span_any (p : Option Addr) (n cap : Nat) (a : Int) (q : Option Addr) (m mc : Nat) (xs cl : List Int) (w : World) (hn : xs.length = n) (hm : n ≤ 9223372036854775807) (hcap : n ≤ cap) (hxs : ∀ x ∈ xs, 0 ≤ x ∧ x ≤ 255)
    (hr : Row w p (u8s xs)) (hmn : cl.length = m) (hmm : m ≤ 9223372036854775807) (hcl : Row w q (u8s cl)) :
    Calls Tryd.prog 114 #[.slice p n cap, .int .i64 a, .slice q m mc] w fun e w' =>
      e = .returned (.int .i64 (spanOf xs cl a)) ∧ Below w.heap.size w w' := by
  by_cases hout : a < 0 ∨ (n : Int) ≤ a
  · have hz := Lib.hid (spanOf_out (xs := xs) (cl := cl) (a := a) (by omega))
    clear hr hcl hn hmn
    rcases hout with ho | ho
    · go_enter Tryd.func114, Tryd.ntmps114
      go_wp2
      go_ret
      exact ⟨ret_int (by rw [hz.out]; rfl), (Below.refl _ _).alloc (Nat.le_refl _) _⟩
    · have ha : 0 ≤ a := by omega
      go_enter Tryd.func114, Tryd.ntmps114
      go_wp2
      go_ret
      exact ⟨ret_int (by rw [hz.out]; rfl), (Below.refl _ _).alloc (Nat.le_refl _) _⟩
  · obtain ⟨k, rfl⟩ := Int.eq_ofNat_of_zero_le (show 0 ≤ a by omega)
    have hk : k < n := by omega
    clear hout
    obtain ⟨b, o, rfl, hc⟩ := hr.u8 (by omega)
    have hd := row_drop hn hc k
    have hdl : (xs.drop k).length = n - k := by rw [List.length_drop, hn]
    have HD := Lib.hid (hd.below ((Below.refl _ w).alloc (Nat.le_refl _) (.cells #[.slice q m mc] 82)))
    have HC := Lib.hid (hcl.below ((Below.refl _ w).alloc (Nat.le_refl _) (.cells #[.slice q m mc] 82)))
    have HDL := Lib.hid hdl
    have HM := Lib.hid hmn
    have HX : Hid (∀ x ∈ xs.drop k, 0 ≤ x ∧ x ≤ 255) := fun x hx => hxs x (List.mem_of_mem_drop hx)
    have HN := Lib.hid hn
    have HS : Hid (spanOf xs cl (k : Int) = ((xs.drop k).takeWhile (inCls cl)).length) := by
      show spanOf xs cl (k : Int) = _
      unfold spanOf
      rw [if_neg (by omega)]
      simp
    clear hd hdl hcl hmn hc hr hxs hn
    go_enter Tryd.func114, Tryd.ntmps114
    go_wp2_with fail
    refine (indexFunc_any ⟨w.heap.size, 0, none⟩ q m mc cl (some ⟨b, o + k, none⟩) (n - k) _ (xs.drop k) _ HDL.out (by omega) HX.out HD.out HM.out hmm (by rw [cell_new]; rfl) HC.out (by omega)).mono ?_
    rintro e w' ⟨⟨r, rfl, hr⟩, j, rfl⟩
    have hB : Hid (Below w.heap.size w ((w.alloc (.cells #[.slice q m mc] 82)).drewN j)) := below_drewN ((Below.refl _ w).alloc (Nat.le_refl _) _) j
    rcases hr with ⟨hneg, hlen⟩ | hr
    · have HLen := Lib.hid hlen
      clear hlen
      go_wp2
      go_ret
      exact ⟨ret_int (by rw [HS.out, HLen.out]; omega), hB.out⟩
    · have hr0 : 0 ≤ r := by omega
      have HR := Lib.hid hr
      clear hr
      go_wp2
      go_ret
      exact ⟨ret_int (by rw [HS.out, HR.out]), hB.out⟩
end Go.Proofs.YtekhblomdlehhaaDoor
