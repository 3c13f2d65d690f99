/- words.shaped, words.Exn; enclaveref02.shape, Exn. -/
import Derived.Test.YtekhblomdlehhaaDoorSpan
import Derived.Test.YtekhblomdlehhaaDoorRefClass
import Derived.Test.YtekhblomdlehhaaDoorRowE
import Derived.Laws.IdiomStrings
set_option linter.unusedVariables false
set_option maxRecDepth 100000
set_option linter.unusedSimpArgs false
namespace Go.Proofs.YtekhblomdlehhaaDoor
open Go.RowKit

/-- a text's bytes, as numbers -/
def bytesI (s : ByteArray) : List Int := s.data.toList.map (fun b => (b.toNat : Int))
theorem bytesI_len (s : ByteArray) : (bytesI s).length = s.size := by simp [bytesI]
theorem bytesI_rng (s : ByteArray) : ∀ x ∈ bytesI s, 0 ≤ x ∧ x ≤ 255 := by
  intro x hx
  simp only [bytesI, List.mem_map] at hx
  obtain ⟨b, _, rfl⟩ := hx
  have := b.toNat_lt
  omega

/-- Is a text shaped so: a first byte of a class, then letters and digits, sixteen at most? -/
def shapedB (s : ByteArray) (first : Int) : Bool := decide (0 < s.size) && decide (s.size ≤ 16) && ((bytesI s).headD 0 |> cls |> (· == first)) && (bytesI s).all (inCls [3, 4, 2])

theorem bytesI_get (s : ByteArray) (j : Nat) (h : j < s.size) : (bytesI s)[j]? = some ((s[j].toNat : Nat) : Int) := by
  have hl : j < s.data.toList.length := by simpa using h
  simp only [bytesI, List.getElem?_map, List.getElem?_eq_getElem hl, Option.map_some]
  rfl
theorem bytesI_head (s : ByteArray) (h : 0 < s.size) : (bytesI s).headD 0 = ((s[0].toNat : Nat) : Int) := by
  have := bytesI_get s 0 h
  rw [List.headD_eq_head?_getD, List.head?_eq_getElem?, this]
  rfl

/-- '[]byte(s)': a new row that holds the text's bytes. -/
theorem bytes_conv (s : ByteArray) (w : World) : ∃ cap C, s.size ≤ cap ∧ Row ((w.alloc (.cells C 5 (C.size, C.size + 1))).drew) (some ⟨w.heap.size, 0, none⟩) (u8s (bytesI s)) ∧
    (convert 9 82 (.string s)).run Tryd.prog w = .ok (.slice (some ⟨w.heap.size, 0, none⟩) s.size cap) ((w.alloc (.cells C 5 (C.size, C.size + 1))).drew) := by
  refine ⟨grownCap w s.size 0 5, bytesRow s (grownCap w s.size 0 5), grownCap_ge _ _ _ _, ?_, run_bytes_of_string w 9 82 5 s Tryd.underlying9 Tryd.underlying82 Tryd.underlying5⟩
  refine .inr ⟨_, _, rfl, fun j hj => ?_⟩
  rw [u8s_length, bytesI_len] at hj
  rw [u8s_getD _ _ (by rw [bytesI_len]; exact hj)]
  show (w.alloc _).cell? _ = _
  rw [cell_new w _ _ _ (_, _), Nat.zero_add, bytesRow_at s _ j hj, List.getD_eq_getElem?_getD, bytesI_get s j hj]
  rfl

theorem tw_all_of {l : List Int} {p : Int → Bool} (h : (l.takeWhile p).length = l.length) : l.all p = true := by
  induction l with
  | nil => rfl
  | cons x r ih =>
    rw [List.takeWhile_cons] at h
    cases hx : p x with
    | false => rw [hx] at h; simp at h
    | true => rw [hx] at h; simp at h; simp [hx, ih h]

theorem spanOf_eq_len (xs cl : List Int) : (spanOf xs cl 0 = xs.length) ↔ xs.all (inCls cl) = true := by
  unfold spanOf
  rw [if_neg (by omega)]
  simp only [Int.toNat_zero, List.drop_zero]
  constructor
  · exact tw_all_of
  · exact tw_all

theorem shaped_any (s : ByteArray) (first : Int) (w : World) :
    Calls Tryd.prog 94 #[.string s, .int .u8 first] w fun e w' => e = .returned (.bool (shapedB s first)) ∧ Below w.heap.size w w' := by
  by_cases h0 : s.size = 0
  · have hs : s.toList = [] := by rw [Lib.toList_data, ← List.length_eq_zero_iff, ← Lib.size_eq]; exact h0
    have hs' : s.toList.isEmpty = true := by rw [hs]; rfl
    have hr : Hid (shapedB s first = false) := by show shapedB s first = false; simp [shapedB, h0]
    go_enter Tryd.func94, Tryd.ntmps94
    go_wp2_with fail
    go_ret
    exact ⟨ret_bool hr.out.symm, Below.refl _ _⟩
  · have hpos : 0 < s.size := by omega
    have hs : (s.toList == []) = false := by
      rw [beq_eq_false_iff_ne]
      intro e
      rw [Lib.toList_data] at e
      have : s.size = 0 := by rw [Lib.size_eq, e]; rfl
      omega
    have hs' : s.toList.isEmpty = false := by rw [List.isEmpty_eq_false_iff]; simpa using hs
    by_cases h16 : 16 < s.size
    · have hr : Hid (shapedB s first = false) := by show shapedB s first = false; simp [shapedB]; intro _ h; omega
      go_enter Tryd.func94, Tryd.ntmps94
      go_wp2_with fail
      go_ret
      exact ⟨ret_bool hr.out.symm, Below.refl _ _⟩
    · have h16' : s.size ≤ 16 := by omega
      have hh := bytesI_head s hpos
      have hc : (0 : Int) ≤ ((s[0].toNat : Nat) : Int) ∧ ((s[0].toNat : Nat) : Int) ≤ 255 := by have := s[0].toNat_lt; omega
      obtain ⟨c0, c1⟩ := hc
      obtain ⟨cap, C, hcap, hrow, kc⟩ := bytes_conv s w
      have HR := Lib.hid hrow
      have HH := Lib.hid hh
      clear hrow hh h16
      by_cases hf : cls ((s[0].toNat : Nat) : Int) = first
      · have HF := Lib.hid hf
        have hbne : (cls ((s[0].toNat : Nat) : Int) != first) = false := by rw [hf]; simp
        clear hf
        have hr : Hid (shapedB s first = decide (spanOf (bytesI s) [3, 4, 2] 0 = s.size)) := by
          show shapedB s first = _
          unfold shapedB
          rw [HH.out, HF.out]
          have := spanOf_eq_len (bytesI s) [3, 4, 2]
          rw [bytesI_len] at this
          simp only [hpos, h16', decide_true, Bool.true_and, beq_self_eq_true]
          rw [Bool.eq_iff_iff, decide_eq_true_eq, this]
        go_enter Tryd.func94, Tryd.ntmps94
        go_wp2_with fail
        refine (class_any _ c0 c1 _).mono ?_
        rintro e w1 ⟨rfl, rfl⟩
        go_wp2_with fail
        refine (span_any (some ⟨w.heap.size, 0, none⟩) s.size cap 0 _ 3 3 (bytesI s) [3, 4, 2] _ (bytesI_len s) (by omega) hcap (bytesI_rng s) ?_ rfl (by omega) ?_).mono ?_
        · exact HR.out.alloc _
        · exact Row.newAt _ (u8s [3, 4, 2]) 5 (0, 0) _ (by simp)
        · rintro e w1 ⟨rfl, hb⟩
          have HB : Hid (Below w.heap.size w w1) := (((Below.refl _ w).alloc (Nat.le_refl _) _).drew.alloc (by simp) _).trans (hb.mono (by simp; omega))
          clear hb
          go_wp2_with fail
          go_ret
          refine ⟨ret_bool ?_, HB.out⟩
          rw [hr.out, Bool.eq_iff_iff, decide_eq_true_eq, beq_iff_eq]
          omega
      · have hbne : (cls ((s[0].toNat : Nat) : Int) != first) = true := by simpa using hf
        have hr : Hid (shapedB s first = false) := by
          show shapedB s first = false
          unfold shapedB
          rw [HH.out]
          simp [hf]
        clear kc HR hcap hf
        go_enter Tryd.func94, Tryd.ntmps94
        go_wp2_with fail
        refine (class_any _ c0 c1 _).mono ?_
        rintro e w1 ⟨rfl, rfl⟩
        go_wp2_with fail
        go_ret
        exact ⟨ret_bool hr.out.symm, Below.refl _ _⟩
end Go.Proofs.YtekhblomdlehhaaDoor
