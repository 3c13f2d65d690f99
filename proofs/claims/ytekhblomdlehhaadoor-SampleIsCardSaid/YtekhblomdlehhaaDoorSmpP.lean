/- The samples' texts, plain: as they are put together, and as the document has them. -/
import Derived.Test.YtekhblomdlehhaaDoorDig
import Derived.Test.YtekhblomdlehhaaDoorRowE
set_option linter.unusedVariables false
set_option maxRecDepth 100000
set_option linter.unusedSimpArgs false
namespace Go.Proofs.YtekhblomdlehhaaDoor
open Go.RowKit

/-- a text's bytes behind those that are there, a blank between them -/
def putS (L : List UInt8) (s : ByteArray) : List UInt8 := (if L = [] then [] else L ++ [32]) ++ s.data.toList
def putL (L : List UInt8) (l : List ByteArray) : List UInt8 := l.foldl putS L
theorem putL_take {L : List UInt8} {l : List ByteArray} {k : Nat} {x : ByteArray} (h : l[k]? = some x) : putL L (l.take (k + 1)) = putS (putL L (l.take k)) x := by
  rw [take_succ_get h]; unfold putL; rw [List.foldl_append]; rfl
theorem putS_ne {L : List UInt8} {s : ByteArray} (h : L ≠ []) : putS L s = L ++ [32] ++ s.data.toList := by unfold putS; rw [if_neg h]
theorem putS_nil (s : ByteArray) : putS [] s = s.data.toList := by unfold putS; simp
theorem putS_le (L : List UInt8) (s : ByteArray) : (putS L s).length ≤ L.length + 1 + s.size := by
  unfold putS
  have : s.data.toList.length = s.size := Array.length_toList
  split
  · rename_i h; subst h; simp [this]
  · simp only [List.length_append, List.length_cons, List.length_nil, this]; omega
theorem putS_nn {L : List UInt8} {s : ByteArray} (h : L ≠ []) : putS L s ≠ [] := by rw [putS_ne h]; simp
def dg (k : Nat) : List UInt8 := (decB k).data.toList
theorem dg_le {k : Nat} (h : k ≤ 1000000) : (dg k).length ≤ 21 := by
  have := decB_size (k : Int) (by omega) (by omega)
  show (decB k).data.toList.length ≤ 21
  rw [Array.length_toList]; exact this

abbrev cFst : ByteArray := ⟨#[102, 115, 116, 32, 40]⟩
abbrev cEnd : ByteArray := ⟨#[44, 32, 48, 32, 41]⟩
abbrev cPlus : ByteArray := ⟨#[43]⟩
abbrev cOne : ByteArray := ⟨#[49]⟩
abbrev cNil : ByteArray := ⟨#[48]⟩
abbrev bA : List UInt8 := [102, 115, 116, 32, 40, 32]
abbrev bZ : List UInt8 := [32, 44, 32, 48, 32, 41]
/-- one behind the other -/
def chainL : Nat → List UInt8
  | 0 => []
  | k + 1 => (if k = 0 then [] else chainL k ++ [32, 43, 32]) ++ bA ++ dg (k + 1) ++ bZ
theorem chainL_ne (k : Nat) : chainL (k + 1) ≠ [] := by unfold chainL; simp
theorem chainL_le : ∀ k : Nat, k ≤ 1000 → (chainL k).length ≤ 40 * k
  | 0, _ => by simp [chainL]
  | k + 1, h => by
    have ih := chainL_le k (by omega)
    have hd := dg_le (k := k + 1) (by omega)
    unfold chainL
    split <;> simp <;> omega
theorem chain_first : putL [] [cFst, decB ((1 : Nat) : Int), cEnd] = chainL 1 := by
  unfold putL
  simp only [List.foldl_cons, List.foldl_nil, putS_nil]
  rw [putS_ne (putS_nn (by simp)), putS_ne (by simp)]
  simp [chainL, dg]
theorem chain_next {k : Nat} (h : 0 < k) : putL (putL (chainL k) [cPlus]) [cFst, decB ((k + 1 : Nat) : Int), cEnd] = chainL (k + 1) := by
  obtain ⟨j, rfl⟩ : ∃ j, k = j + 1 := ⟨k - 1, by omega⟩
  have hne := chainL_ne j
  unfold putL
  simp only [List.foldl_cons, List.foldl_nil]
  rw [putS_ne hne, putS_ne (putS_nn (putS_nn (by simp))), putS_ne (putS_nn (by simp)), putS_ne (by simp)]
  conv => rhs; unfold chainL
  rw [if_neg (by omega)]
  simp [dg]

def rep (x : List UInt8) (n : Nat) : List UInt8 := (List.replicate n x).flatten
theorem rep_zero (x : List UInt8) : rep x 0 = [] := rfl
theorem rep_succ (x : List UInt8) (n : Nat) : rep x (n + 1) = x ++ rep x n := by unfold rep; rw [List.replicate_succ, List.flatten_cons]
theorem rep_succ' (x : List UInt8) (n : Nat) : rep x (n + 1) = rep x n ++ x := by unfold rep; rw [List.replicate_succ', List.flatten_append]; simp
theorem rep_length (x : List UInt8) (n : Nat) : (rep x n).length = n * x.length := by
  induction n with
  | zero => simp [rep_zero]
  | succ n ih => rw [rep_succ, List.length_append, ih, Nat.add_mul]; omega
/-- k ways in -/
def upL : Nat → List UInt8
  | 0 => []
  | k + 1 => putS (upL k) cFst
theorem upL_ne (k : Nat) : upL (k + 1) ≠ [] := by
  unfold upL putS; split <;> simp
theorem upL_rep : ∀ k : Nat, 0 < k → upL k ++ [32] = rep bA k
  | 1, _ => by simp [upL, putS, rep]
  | k + 2, _ => by
    have ih := upL_rep (k + 1) (by omega)
    rw [rep_succ', ← ih]
    conv => lhs; unfold upL
    rw [putS_ne (upL_ne k)]
    simp
theorem upL_le : ∀ k : Nat, (upL k).length ≤ 6 * k
  | 0 => by simp [upL]
  | k + 1 => by
    have := upL_le k
    have h := putS_le (upL k) cFst
    have e : cFst.size = 5 := rfl
    unfold upL; omega
/-- and j ways out -/
def downL (n : Nat) (j : Nat) : List UInt8 := rep bA n ++ [49] ++ rep bZ j
theorem down_first {n : Nat} (h : 0 < n) : putL (upL n) [cOne] = downL n 0 := by
  unfold putL downL
  simp only [List.foldl_cons, List.foldl_nil]
  obtain ⟨j, rfl⟩ : ∃ j, n = j + 1 := ⟨n - 1, by omega⟩
  rw [putS_ne (upL_ne j), upL_rep _ h, rep_zero]
  simp
theorem downL_ne (n j : Nat) : downL n j ≠ [] := by simp [downL]
theorem down_next (n j : Nat) : putL (downL n j) [cEnd] = downL n (j + 1) := by
  unfold putL
  simp only [List.foldl_cons, List.foldl_nil]
  rw [putS_ne (downL_ne n j)]
  unfold downL
  rw [rep_succ']
  simp
theorem downL_le (n j : Nat) : (downL n j).length ≤ 6 * n + 1 + 6 * j := by
  unfold downL
  simp only [List.length_append, rep_length]
  simp; omega
/-- the document's -/
def refDeep (j : Nat) : List UInt8 := downL j j
theorem refDeep_next (j : Nat) : bA ++ refDeep j ++ bZ = refDeep (j + 1) := by
  unfold refDeep downL
  rw [rep_succ bA, rep_succ' bZ]
  simp

abbrev cLet0 : ByteArray := ⟨#[108, 101, 116, 32, 97, 32, 61, 32, 49, 32, 105, 110]⟩
abbrev cLet1 : ByteArray := ⟨#[108, 101, 116, 32, 97, 32, 61, 32, 40, 32, 97, 32, 44, 32, 97, 32, 41, 32, 105, 110]⟩
def growL (k : Nat) : List UInt8 := cLet0.data.toList ++ rep ([32] ++ cLet1.data.toList) k
theorem growL_ne (k : Nat) : growL k ≠ [] := by simp [growL]
theorem grow_first : putL [] [cLet0] = growL 0 := by simp [putL, putS, growL, rep]
theorem grow_next (k : Nat) : putL (growL k) [cLet1] = growL (k + 1) := by
  unfold putL
  simp only [List.foldl_cons, List.foldl_nil]
  rw [putS_ne (growL_ne k)]
  unfold growL
  rw [rep_succ']
  simp
def growZ (n : Nat) : List UInt8 := growL n ++ [32, 48]
theorem grow_last (n : Nat) : putL (growL n) [cNil] = growZ n := by
  unfold putL
  simp only [List.foldl_cons, List.foldl_nil]
  rw [putS_ne (growL_ne n)]
  simp [growZ]
theorem growL_le (k : Nat) : (growL k).length ≤ 12 + 21 * k := by
  unfold growL
  simp only [List.length_append, rep_length]
  simp; omega
/-- the document's, k in -/
def refGrow (k : Nat) : List UInt8 := growL k ++ [32]
theorem refGrow_next (k : Nat) : refGrow k ++ (cLet1.data.toList ++ [32]) = refGrow (k + 1) := by
  unfold refGrow growL
  rw [rep_succ']
  simp
theorem refGrow_last (k : Nat) : refGrow k ++ [48] = growZ k := by simp [refGrow, growZ]

/-- the texts around a number -/
abbrev cCount : ByteArray := ⟨#[108, 101, 116, 114, 101, 99, 32, 102, 32, 120, 32, 61, 32, 105, 102, 32, 120, 32, 60, 32, 49, 32, 116, 104, 101, 110, 32, 48, 32, 101, 108, 115, 101, 32, 49, 32, 43, 32, 102, 32, 40, 32, 120, 32, 45, 32, 49, 32, 41, 32, 105, 110, 32, 102]⟩
abbrev cThrow : ByteArray := ⟨#[101, 120, 110, 32, 69, 32, 59, 32, 108, 101, 116, 114, 101, 99, 32, 102, 32, 120, 32, 61, 32, 105, 102, 32, 120, 32, 60, 32, 49, 32, 116, 104, 101, 110, 32, 114, 97, 105, 115, 101, 32, 69, 32, 55, 32, 101, 108, 115, 101, 32, 49, 32, 43, 32, 102, 32, 40, 32, 120, 32, 45, 32, 49, 32, 41, 32, 105, 110, 32, 116, 114, 121, 32, 102]⟩
abbrev cWith : ByteArray := ⟨#[119, 105, 116, 104, 32, 69, 32, 121, 32, 61, 62, 32, 121]⟩
abbrev cEsc : ByteArray := ⟨#[101, 120, 110, 32, 69, 32, 59, 32, 108, 101, 116, 114, 101, 99, 32, 102, 32, 120, 32, 61, 32, 105, 102, 32, 120, 32, 60, 32, 49, 32, 116, 104, 101, 110, 32, 114, 97, 105, 115, 101, 32, 69, 32, 120, 32, 101, 108, 115, 101, 32, 102, 32, 40, 32, 120, 32, 45, 32, 49, 32, 41, 32, 105, 110, 32, 102]⟩
def countL (n : Nat) : List UInt8 := cCount.data.toList ++ [32] ++ dg n
def throwL (n : Nat) : List UInt8 := cThrow.data.toList ++ [32] ++ dg n ++ [32] ++ cWith.data.toList
def escL (n : Nat) : List UInt8 := cEsc.data.toList ++ [32] ++ dg n
theorem count_is (n : Nat) : putL [] [cCount, decB (n : Int)] = countL n := by
  unfold putL countL
  simp only [List.foldl_cons, List.foldl_nil, putS_nil]
  rw [putS_ne (by simp)]; rfl
theorem throw_is (n : Nat) : putL [] [cThrow, decB (n : Int), cWith] = throwL n := by
  unfold putL throwL
  simp only [List.foldl_cons, List.foldl_nil, putS_nil]
  rw [putS_ne (putS_nn (by simp)), putS_ne (by simp)]; rfl
theorem esc_is (n : Nat) : putL [] [cEsc, decB (n : Int)] = escL n := by
  unfold putL escL
  simp only [List.foldl_cons, List.foldl_nil, putS_nil]
  rw [putS_ne (by simp)]; rfl
/-- the text of a sample -/
def smpL (k n : Nat) : List UInt8 := if k = 0 then chainL n else if k = 1 then downL n n else if k = 2 then countL n else if k = 3 then throwL n else if k = 4 then escL n else growZ n
def smpB (k n : Nat) : ByteArray := ⟨(smpL k n).toArray⟩
/-- is there one? -/
def smpOK (n : Int) : Prop := 1 ≤ n ∧ n ≤ 300
/-- what is answered -/
def smpV (k : Nat) (n : Int) : Value := if 1 ≤ n ∧ n ≤ 300 then .tuple #[.string (smpB k n.toNat), .int .i64 0] else .tuple #[.string .empty, .int .i64 1]
theorem smpL_ne {k n : Nat} (h : 0 < n) : smpL k n ≠ [] := by
  obtain ⟨j, rfl⟩ : ∃ j, n = j + 1 := ⟨n - 1, by omega⟩
  unfold smpL
  split
  · exact chainL_ne j
  split
  · exact downL_ne _ _
  split
  · simp [countL]
  split
  · simp [throwL]
  split
  · simp [escL]
  · simp [growZ]
theorem smpL_le {k n : Nat} (h : n ≤ 300) : (smpL k n).length ≤ 20000 := by
  have hd := dg_le (k := n) (by omega)
  unfold smpL
  split
  · have := chainL_le n (by omega); omega
  split
  · have := downL_le n n; omega
  split
  · simp [countL]; omega
  split
  · simp [throwL]; omega
  split
  · simp [escL]; omega
  · have := growL_le n; simp [growZ]; omega
end Go.Proofs.YtekhblomdlehhaaDoor
