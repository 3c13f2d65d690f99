/- enclavelaw11.awake. -/
import Derived.Test.YtekhblomdlehhaaGreatDoorEff9
set_option linter.unusedVariables false
set_option maxRecDepth 100000
set_option linter.unusedSimpArgs false
namespace Go.Proofs.YtekhblomdlehhaaGreatDoor
open Go.RowKit Go.Sort Go.Lib

def aPut1 : Atom := ⟨2, 1, ⟨#[]⟩⟩
def aGet2 : Atom := ⟨1, 2, ⟨#[]⟩⟩
theorem awakeE : sortA ([aPut1, aGet2].filter atomB) = [aGet2, aPut1] := by decide +kernel

set_option maxHeartbeats 400000 in
theorem awake_any (w : World) : Calls Tryz.prog 10 #[] w fun e w' => e = .returned (.bool true) ∧ Below w.heap.size w w' := by
  go_enter Tryz.func10, Tryz.ntmps10
  go_wp2_with fail
  have hrow : RowA (w.alloc (.cells #[.int .u8 2, .int .i64 1, .string ⟨#[]⟩, .int .u8 1, .int .i64 2, .string ⟨#[]⟩] 70)) (some ⟨w.heap.size, 0, none⟩) [aPut1, aGet2] := RowE.newAt encA_len w [aPut1, aGet2] _ rfl _ _ _ rfl
  have hb0 := (Below.refl w.heap.size w).alloc (Nat.le_refl _) (.cells #[.int .u8 2, .int .i64 1, .string ⟨#[]⟩, .int .u8 1, .int .i64 2, .string ⟨#[]⟩] 70)
  have HROW := Lib.hid hrow
  have HB0 := Lib.hid hb0
  clear hrow hb0
  refine (effect_Of_any _ 2 2 [aPut1, aGet2] _ rfl (by decide) HROW.out).mono ?_
  rintro e w1 ⟨v, m, rfl, hmn, hown, hb⟩
  rw [awakeE] at hown
  obtain ⟨q, mc, rfl, hSl, hmc, hrow, _⟩ := hown.row encA_len (by omega)
  obtain rfl : m = 2 := hSl.symm
  have HR := Lib.hid hrow
  have HB1 := Lib.hid (HB0.out.trans (hb.mono HB0.out.size))
  clear hown hb hrow hSl
  go_wp2_with fail
  refine (effect_May_any q 2 mc [aGet2, aPut1] w1 rfl (by decide) HR.out).mono ?_
  rintro e w2 ⟨⟨r, rfl, hiff⟩, hb⟩
  have hr1 : r = true := hiff.2 ⟨by decide +kernel, fun j x y hj hx hy => by
    obtain rfl : j = 0 := by omega
    cases hx; cases hy; decide +kernel⟩
  subst hr1
  have HB2 := Lib.hid (HB1.out.trans (hb.mono HB1.out.size))
  have HR2 := Lib.hid (HR.out.below hb)
  clear hb hiff
  go_wp2_with fail
  refine (effect_Text_any q 2 mc [aGet2, aPut1] w2 rfl (by decide) HR2.out ?_ ?_).mono ?_
  · intro a ha _ _
    rcases List.mem_cons.1 ha with rfl | ha
    · exact digits_small 2 (by decide) (by decide +kernel) w2
    · rcases List.mem_cons.1 ha with rfl | ha
      · exact digits_small 1 (by decide) (by decide +kernel) w2
      · cases ha
  · intro a ha _
    rcases List.mem_cons.1 ha with rfl | ha
    · decide +kernel
    · rcases List.mem_cons.1 ha with rfl | ha
      · decide +kernel
      · cases ha
  rintro e w3 ⟨rfl, hb⟩
  have HB3 := Lib.hid (HB2.out.trans (hb.mono HB2.out.size))
  clear hb
  go_wp2_with fail
  go_ret
  exact ⟨ret_bool (by decide +kernel), HB3.out⟩
end Go.Proofs.YtekhblomdlehhaaGreatDoor
