/- enclaveref11.Turn, Swap. -/
import Derived.Test.YtekhblomdlehhaaGreatDoorEff9
set_option linter.unusedVariables false
set_option maxRecDepth 100000
set_option linter.unusedSimpArgs false
namespace Go.Proofs.YtekhblomdlehhaaGreatDoor
open Go.RowKit Go.Sort Go.Lib

/-- a region, turned -/
def turnI (r : Int) : List Int → List Int → Int
  | [], _ => r
  | f :: fs, t => if f = r then (t[0]?).getD r else turnI r fs (t.drop 1)
theorem turnI_hit (r : Int) : ∀ (f t : List Int) (k : Nat), (f.take k).any (· == r) = false → f[k]? = some r → turnI r f t = (t[k]?).getD r
  | [], _, k, _, h => by simp at h
  | x :: f, t, 0, _, h => by simp at h; subst h; simp [turnI]
  | x :: f, t, k + 1, hno, h => by
    simp only [List.take_succ_cons, List.any_cons, Bool.or_eq_false_iff] at hno
    have hx : ¬ x = r := by simpa using hno.1
    unfold turnI
    rw [if_neg hx, turnI_hit r f (t.drop 1) k hno.2 (by simpa using h)]
    simp [Nat.add_comm]
theorem turnI_none (r : Int) : ∀ (f t : List Int), f.any (· == r) = false → turnI r f t = r
  | [], _, _ => rfl
  | x :: f, t, hno => by
    simp only [List.any_cons, Bool.or_eq_false_iff] at hno
    have hx : ¬ x = r := by simpa using hno.1
    unfold turnI
    rw [if_neg hx, turnI_none r f _ hno.2]
theorem turnI_self (r : Int) : ∀ f : List Int, turnI r f f = r
  | [] => rfl
  | x :: f => by
    unfold turnI
    by_cases h : x = r
    · rw [if_pos h]; simp [h]
    · rw [if_neg h]; exact turnI_self r f

theorem ret_i64 {a b : Int} (h : a = b) : Ending.returned (.int .i64 a) = .returned (.int .i64 b) := by rw [h]

/-- an atom with its region turned -/
def swA (f t : List Int) (a : Atom) : Atom := if a.kind = 3 then a else { a with rho := turnI a.rho f t }

end Go.Proofs.YtekhblomdlehhaaGreatDoor
