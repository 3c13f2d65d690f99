/- chars.Class and the calls beneath it. -/
import Derived.Test.YtekhblomdlehhaaDoorRows
import Derived.WalkKit
import Derived.WalkSpells
import Derived.WalkLawsBesides
import Derived.Lib.Bytealg
import Derived.Test.YtekhblomdlehhaaDoorMem
set_option linter.unusedVariables false
set_option maxRecDepth 100000
set_option linter.unusedSimpArgs false
namespace Go.Proofs.YtekhblomdlehhaaDoor
open Go.RowKit

/-- The class of a byte. -/
def cls (c : Int) : Int :=
  if c = 32 ∨ c = 9 ∨ c = 10 then 1 else if 48 ≤ c ∧ c ≤ 57 then 2 else if 97 ≤ c ∧ c ≤ 122 then 3 else if 65 ≤ c ∧ c ≤ 90 then 4
  else if c = 40 ∨ c = 41 ∨ c = 44 ∨ c = 33 ∨ c = 58 ∨ c = 61 ∨ c = 62 ∨ c = 43 ∨ c = 45 ∨ c = 42 ∨ c = 60 ∨ c = 59 then 5 else 0

theorem indexByteString_any (s : ByteArray) (c : Int) (w : World) :
    Calls Tryd.prog 136 #[.string s, .int .u8 c] w fun e w' => e = .returned (.int .i64 (Lib.indexByte s.data.toList c.toNat.toUInt8)) ∧ w = w' := by
  go_enter Tryd.func136, Tryd.ntmps136
  go_wp2
  rw [run_callFunc_extern Tryd.func140 (by kernel_rfl) (by kernel_rfl) (by kernel_rfl) (e := Extern.BytealgIndexByte.indexByte) (by kernel_rfl), Lib.run_indexByteString]
  simp only [Result.andThen]
  rw [Oper.upon_value]
  go_wp2
  go_ret
  exact ⟨rfl, rfl⟩

theorem strings_IndexByte_any (s : ByteArray) (c : Int) (w : World) :
    Calls Tryd.prog 127 #[.string s, .int .u8 c] w fun e w' => e = .returned (.int .i64 (Lib.indexByte s.data.toList c.toNat.toUInt8)) ∧ w = w' := by
  go_enter Tryd.func127, Tryd.ntmps127
  go_wp2_with (go_at_call 136; refine (indexByteString_any _ _ _).mono ?_; rintro e w' ⟨rfl, rfl⟩)
  go_ret
  exact ⟨rfl, rfl⟩

def signs : List UInt8 := [40, 41, 44, 33, 58, 61, 62, 43, 45, 42, 60, 59]
theorem blank_iff (c : Int) (h0 : 0 ≤ c) (h1 : c ≤ 255) : (0 ≤ Lib.indexByte [32, 9, 10] (UInt8.ofNat c.toNat)) ↔ (c = 32 ∨ c = 9 ∨ c = 10) := by
  have key : ∀ n : Fin 256, (0 ≤ Lib.indexByte [32, 9, 10] (UInt8.ofNat n.val)) ↔ ((n.val : Int) = 32 ∨ (n.val : Int) = 9 ∨ (n.val : Int) = 10) := by decide +kernel
  have := key ⟨c.toNat, by omega⟩
  have e : ((c.toNat : Nat) : Int) = c := by omega
  simp only [e] at this
  exact this
theorem sign_iff (c : Int) (h0 : 0 ≤ c) (h1 : c ≤ 255) : (0 ≤ Lib.indexByte [40, 41, 44, 33, 58, 61, 62, 43, 45, 42, 60, 59] (UInt8.ofNat c.toNat)) ↔ (c = 40 ∨ c = 41 ∨ c = 44 ∨ c = 33 ∨ c = 58 ∨ c = 61 ∨ c = 62 ∨ c = 43 ∨ c = 45 ∨ c = 42 ∨ c = 60 ∨ c = 59) := by
  have key : ∀ n : Fin 256, (0 ≤ Lib.indexByte signs (UInt8.ofNat n.val)) ↔ ((n.val : Int) = 40 ∨ (n.val : Int) = 41 ∨ (n.val : Int) = 44 ∨ (n.val : Int) = 33 ∨ (n.val : Int) = 58 ∨ (n.val : Int) = 61 ∨ (n.val : Int) = 62 ∨ (n.val : Int) = 43 ∨ (n.val : Int) = 45 ∨ (n.val : Int) = 42 ∨ (n.val : Int) = 60 ∨ (n.val : Int) = 59) := by decide +kernel
  have := key ⟨c.toNat, by omega⟩
  have e : ((c.toNat : Nat) : Int) = c := by omega
  simp only [e] at this
  exact this


theorem class_any (c : Int) (h0 : 0 ≤ c) (h1 : c ≤ 255) (w : World) :
    Calls Tryd.prog 113 #[.int .u8 c] w fun e w' => e = .returned (.int .u8 (cls c)) ∧ w = w' := by
  have hb := Lib.hid (blank_iff c h0 h1)
  have hs := Lib.hid (sign_iff c h0 h1)
  go_enter Tryd.func113, Tryd.ntmps113
  go_wp2_with (go_at_call 127; refine (strings_IndexByte_any _ _ _).mono ?_; rintro e w' ⟨rfl, rfl⟩)
  all_goals
    go_ret
    refine ⟨ret_int ?_, rfl⟩
    have hb := hb.out
    have hs := hs.out
    unfold cls
    repeat' split
    all_goals omega
end Go.Proofs.YtekhblomdlehhaaDoor
