/- The walk of CharsSpans. -/
import Derived.Test.YtdmbilfcffmehaaAwake1
import Derived.Test.YtdmbilfcffmehaaStr
set_option linter.unusedVariables false
set_option linter.unusedSimpArgs false
namespace Go.Proofs.Ytdmbilfcffmehaa
open Go.RowKit

theorem charsSpans_awake (p : Option Addr) (n cap : Nat) (a : Int) (q : Option Addr) (m mc : Nat) (w : World) (h : 500 < n ∨ 20 < m) :
    Calls Try.prog 5 #[.slice p n cap, .int .i64 a, .slice q m mc] w fun e w' => e = .returned (.bool true) ∧ Below w.heap.size w w' := by
  by_cases hn : 500 < n
  · clear h
    go_enter Try.func5, Try.ntmps5
    go_wp2_with fail
    refine (awake1_any _).mono ?_
    rintro e w3 ⟨rfl, hb⟩
    have HB := Lib.hid hb
    clear hb
    go_wp2_with fail
    go_ret
    exact ⟨rfl, HB.out⟩
  · have hm : 20 < m := by omega
    have hn' : n ≤ 500 := by omega
    clear h hn
    go_enter Try.func5, Try.ntmps5
    go_wp2_with fail
    refine (awake1_any _).mono ?_
    rintro e w3 ⟨rfl, hb⟩
    have HB := Lib.hid hb
    clear hb
    go_wp2_with fail
    go_ret
    exact ⟨rfl, HB.out⟩

set_option maxHeartbeats 400000 in
theorem charsSpans_main (p : Option Addr) (n cap : Nat) (xs : List Int) (a : Int) (q : Option Addr) (m mc : Nat) (cl : List Int) (w : World) (hb : Bytes w p n cap xs) (hcl : Bytes w q m mc cl) (hn : n ≤ 500) (hm : m ≤ 20) :
    Calls Try.prog 5 #[.slice p n cap, .int .i64 a, .slice q m mc] w fun e w' => e = .returned (.bool true) ∧ Below w.heap.size w w' := by
  have B := Lib.hid hb
  have C := Lib.hid hcl
  have kc := run_string_row (P := Try.prog) (src := 25) (dst := 9) (cap := cap) Try.underlying25 Try.underlying5 Try.underlying9 hb.len hb.row
  have K : Hid (∀ wr, Below w.heap.size w wr → (convert 25 9 (.slice p n cap)).run Try.prog wr = .ok (.string (strOf xs)) wr) := fun wr h => run_string_row Try.underlying25 Try.underlying5 Try.underlying9 hb.len (hb.row.below h)
  clear hb hcl
  go_enter Try.func5, Try.ntmps5
  go_wp2_with fail
  clear kc
  refine (place_any p n cap a xs w B.out.len (by omega) B.out.cap B.out.rng B.out.row).mono ?_
  rintro e w1 ⟨rfl, hb⟩
  have H1 := Lib.hid hb
  clear hb
  go_wp2_with fail
  refine (ref_place_any p n cap a xs w1 B.out.len (by omega) (B.out.row.below H1.out)).mono ?_
  rintro e w2 ⟨rfl, rfl⟩
  go_wp2_with fail
  refine (span_any p n cap a q m mc xs cl w1 B.out.len (by omega) B.out.cap B.out.rng (B.out.row.below H1.out) C.out.len (by omega) (C.out.row.below H1.out)).mono ?_
  rintro e w2 ⟨rfl, hb⟩
  have H2 := Lib.hid (H1.out.trans (hb.mono H1.out.size))
  clear hb H1
  go_wp2_with fail
  refine (ref_span_any p n cap a q m mc xs cl w2 B.out.len (by omega) B.out.rng (B.out.row.below H2.out) C.out.len (by omega) (C.out.row.below H2.out)).mono ?_
  rintro e w3 ⟨rfl, hb⟩
  have H3 := Lib.hid (H2.out.trans (hb.mono H2.out.size))
  clear hb H2
  have kc := K.out w3 H3.out
  go_wp2_with fail
  clear kc
  refine (awake1_any _).mono ?_
  rintro e w4 ⟨rfl, hb⟩
  have H4 := Lib.hid (H3.out.trans (hb.mono H3.out.size))
  clear hb H3
  go_wp2_with fail
  go_ret
  exact ⟨rfl, H4.out⟩

theorem charsSpans_walk {w : World} (p : Option Addr) (n cap : Nat) (xs : List Int) (hb : Bytes w p n cap xs) (a : Int) (wa : (Lit.int .i64 a).wf = true) (q : Option Addr) (m mc : Nat) (cl : List Int) (hcl : Bytes w q m mc cl) :
    Calls Try.prog 5 #[.slice p n cap, .int .i64 a, .slice q m mc] w fun e w' => e = .returned (.bool true) ∧ Below w.heap.size w w' := by
  by_cases h : 500 < n ∨ 20 < m
  · exact charsSpans_awake p n cap a q m mc w h
  · exact charsSpans_main p n cap xs a q m mc cl w hb hcl (by omega) (by omega)
end Go.Proofs.Ytdmbilfcffmehaa
