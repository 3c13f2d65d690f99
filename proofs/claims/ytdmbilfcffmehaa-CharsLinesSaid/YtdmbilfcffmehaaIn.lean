/- enclaveref01.in: is a class one of some? -/
import Derived.Test.YtdmbilfcffmehaaMem
import Derived.Test.YtdmbilfcffmehaaLst
set_option linter.unusedVariables false
set_option linter.unusedSimpArgs false
namespace Go.Proofs.Ytdmbilfcffmehaa
open Go.RowKit

theorem ref_in_any (p : Option Addr) (n cap : Nat) (c : Int) (xs : List Int) (w : World) (hn : xs.length = n) (hm : n ≤ 9223372036854775807) (hr : Row w p (u8s xs)) :
    Calls Try.prog 21 #[.slice p n cap, .int .u8 c] w fun e w' => e = .returned (.bool (xs.any (· == c))) ∧ w = w' := by
  by_cases h0 : n = 0
  · subst h0
    obtain rfl : xs = [] := List.length_eq_zero_iff.1 hn
    clear hn hr
    go_enter Try.func21, Try.ntmps21
    go_wp2
    go_loop [5, 8] (fun u i => i = .int .i64 0) (fun _ i => 0)
    case atStart => rfl
    case round =>
      subst hrel
      go_wp2
      go_ret
      exact ⟨rfl, rfl⟩
  · obtain ⟨b, o, rfl, hc⟩ := hr.u8 (by omega)
    have HN := Lib.hid hn
    have HC := Lib.hid hc
    clear hn hc hr
    go_enter Try.func21, Try.ntmps21
    go_wp2
    go_loop [5, 8] (fun u i => ∃ k : Nat, k ≤ n ∧ i = .int .i64 k ∧ (xs.take k).any (· == c) = false) (fun _ i => n - (intOf i).toNat)
    case atStart => exact ⟨0, by omega, rfl, by simp⟩
    case round =>
      obtain ⟨k, hk, rfl, hno⟩ := hrel
      have HNO := Lib.hid hno
      clear hno
      by_cases hlt : k < n
      · have hcell := HC.out k (by rw [HN.out]; exact hlt)
        have hs := Lib.hid (any_take_succ xs (· == c) k (by rw [HN.out]; exact hlt))
        go_wp2
        · go_ret
          exact ⟨ret_bool (any_hit xs (· == c) k (by rw [HN.out]; exact hlt) (by assumption)).symm, rfl⟩
        · go_round
          case rel => exact ⟨k + 1, by omega, by go_num, by rw [hs.out, HNO.out, Bool.false_or]; assumption⟩
          case measure => simp [intOf]; omega
      · go_wp2
        go_ret
        have : k = n := by omega
        subst this
        refine ⟨ret_bool ?_, rfl⟩
        have := HNO.out
        rw [List.take_of_length_le (by rw [HN.out]; omega)] at this
        exact this.symm
end Go.Proofs.Ytdmbilfcffmehaa
