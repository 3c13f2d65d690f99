/- enclavelaw01.awake; the walk of CharsIs. -/
import Derived.Test.YtdmbilfcffmehaaRef1
import Derived.Lib.SlBytesConst
set_option linter.unusedVariables false
set_option linter.unusedSimpArgs false
namespace Go.Proofs.Ytdmbilfcffmehaa
open Go.RowKit

theorem awake1_any (w : World) :
    Calls Try.prog 10 #[] w fun e w' => e = .returned (.bool true) ∧ Below w.heap.size w w' := by
  have h2 : Hid (spanOf [97, 98, 32, 99] [3] 0 = 2) := by show spanOf [97, 98, 32, 99] [3] 0 = 2; decide
  have h3 : Hid (cls 97 = 3) := by show cls 97 = 3; decide
  have h4 : Hid (cls 35 = 0) := by show cls 35 = 0; decide
  have kc := fun (w : World) (C : Array Value) (n c : Nat) => Lib.run_convert_bytes_const (P := Try.prog) w 25 5 C n c Try.underlying25 Try.underlying5
  go_enter Try.func10, Try.ntmps10
  go_wp2_with fail
  refine (span_any _ 4 4 0 _ 1 1 [97, 98, 32, 99] [3] _ rfl (by simp) (by simp) (by decide) ?_ rfl (by simp) ?_).mono ?_
  · exact (Row.new w (u8s [97, 98, 32, 99]) 5 (4, 5)).alloc _
  · exact Row.newAt (w.alloc _) (u8s [3]) 5 (0, 0) _ (by simp)
  · rintro e w1 ⟨rfl, hb⟩
    rw [h2.out]
    have HB : Hid (Below w.heap.size w w1) := ((((Below.refl _ w).alloc (Nat.le_refl _) _).alloc (by simp) _).trans (hb.mono (by simp; omega)))
    clear hb
    go_wp2_with fail
    refine (class_any 97 (by omega) (by omega) _).mono ?_
    rintro e w2 ⟨rfl, rfl⟩
    rw [h3.out]
    go_wp2_with fail
    refine (class_any 35 (by omega) (by omega) _).mono ?_
    rintro e w2 ⟨rfl, rfl⟩
    rw [h4.out]
    go_wp2_with fail
    go_ret
    exact ⟨rfl, HB.out⟩

theorem u8_range {a : Int} (w0 : (Lit.int .u8 a).wf = true) : 0 ≤ a ∧ a ≤ 255 := by
  simpa [Lit.wf, IntKind.min, IntKind.max, IntKind.signed, IntKind.bits] using w0
theorem i64_range {a : Int} (w0 : (Lit.int .i64 a).wf = true) : -9223372036854775808 ≤ a ∧ a ≤ 9223372036854775807 := by
  simpa [Lit.wf, IntKind.min, IntKind.max, IntKind.signed, IntKind.bits] using w0

theorem charsIs_walk {w : World} (c : Int) (w0 : (Lit.int .u8 c).wf = true) :
    Calls Try.prog 3 #[.int .u8 c] w fun e w' => e = .returned (.bool true) ∧ Below w.heap.size w w' := by
  obtain ⟨c0, c1⟩ := u8_range w0
  go_enter Try.func3, Try.ntmps3
  go_wp2_with fail
  refine (class_any c c0 c1 _).mono ?_
  rintro e w2 ⟨rfl, rfl⟩
  go_wp2_with fail
  refine (ref_class_any c c0 c1 _).mono ?_
  rintro e w2 ⟨rfl, hb⟩
  have HB := Lib.hid hb
  clear hb
  go_wp2_with fail
  refine (awake1_any _).mono ?_
  rintro e w3 ⟨rfl, hb⟩
  have HB3 := Lib.hid (HB.out.trans (hb.mono HB.out.size))
  clear hb
  go_wp2_with fail
  go_ret
  exact ⟨rfl, HB3.out⟩
end Go.Proofs.Ytdmbilfcffmehaa
