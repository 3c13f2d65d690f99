/- words.Exn, of any texts. -/
import Derived.Test.YtekhblomdlehhaaDoorWords
set_option linter.unusedVariables false
set_option maxRecDepth 100000
set_option linter.unusedSimpArgs false
namespace Go.Proofs.YtekhblomdlehhaaDoor
open Go.RowKit

/-- Is it an exception's name? -/
def exnB (s : ByteArray) : Bool := shapedB s 4

theorem exn1_any (s : ByteArray) (w : World) :
    Calls Tryd.prog 93 #[.string s] w fun e w' => e = .returned (.bool (exnB s)) ∧ Below w.heap.size w w' := by
  go_enter Tryd.func93, Tryd.ntmps93
  go_wp2_with fail
  refine (shaped_any s 4 w).mono ?_
  rintro e w1 ⟨rfl, hb⟩
  have HB := Lib.hid hb
  clear hb
  go_wp2_with fail
  go_ret
  exact ⟨rfl, HB.out⟩

/-- the closure of words.all over words.Exn$1 -/
theorem all1_any (s : ByteArray) (a : Addr) (w : World) (hbox : w.cell? a = some (.func (.func 93) #[] #[])) :
    Calls Tryd.prog 112 #[.string s, .pointer (some a)] w fun e w' => e = .returned (.bool (!exnB s)) ∧ Below w.heap.size w w' := by
  go_enter Tryd.func112, Tryd.ntmps112
  go_wp2_with fail
  refine (exn1_any s w).mono ?_
  rintro e w1 ⟨rfl, hb⟩
  have HB := Lib.hid hb
  clear hb
  go_wp2_with fail
  go_ret
  exact ⟨rfl, HB.out⟩

theorem str_indexFunc_any (a : Addr) (p : Option Addr) (n cap : Nat) (l : List ByteArray) (w : World) (hn : l.length = n) (hm : n ≤ 9223372036854775807) (hr : RowE encS 1 w p l)
    (hbox : w.cell? a = some (.func (.func 93) #[] #[])) :
    Calls Tryd.prog 126 #[.slice p n cap, .func (.func 112) #[] #[.pointer (some a)]] w fun e w' =>
      (∃ r : Int, e = .returned (.int .i64 r) ∧ (l.any (fun s => !exnB s) = decide (0 ≤ r))) ∧ Below w.heap.size w w' := by
  have HR := Lib.hid hr
  have HN := Lib.hid hn
  have HX := Lib.hid hbox
  clear hr hn hbox
  go_enter Tryd.func126, Tryd.ntmps126
  go_wp2_with fail
  go_loopw [5, 8] (fun _ i wr => ∃ k : Nat, k ≤ n ∧ i = .int .i64 k ∧ (l.take k).any (fun s => !exnB s) = false ∧ Below w.heap.size w wr) (fun _ i _ => n - (intOf i).toNat)
  case atStart => exact ⟨0, by omega, rfl, by simp, Below.refl _ _⟩
  case round =>
    obtain ⟨k, hk, rfl, hno, hb⟩ := hrel
    have HNO := Lib.hid hno
    have HB := Lib.hid hb
    clear hno hb
    by_cases hlt : k < n
    · obtain ⟨x, hx⟩ := get_of_lt (l := l) (j := k) (by rw [HN.out]; exact hlt)
      obtain ⟨b, o, rfl, hcell⟩ := (HR.out.below HB.out).str hx
      have HE := Lib.hid hx
      have hbx : wr.cell? a = some (.func (.func 93) #[] #[]) := by rw [HB.out.cell (cell_block HX.out)]; exact HX.out
      clear hx
      by_cases hq : exnB x = true
      · go_wp2_with fail
        refine (all1_any x a wr hbx).mono ?_
        rintro e w1 ⟨rfl, hb⟩
        have HB1 := Lib.hid (HB.out.trans (hb.mono HB.out.size))
        clear hb hbx hcell
        go_wp2_with fail
        go_roundw
        case rel => exact ⟨k + 1, by omega, by go_num, by rw [any_take_get HE.out, HNO.out, hq]; rfl, HB1.out⟩
        case measure => simp [intOf]; omega
      · have hq' : exnB x = false := by simpa using hq
        clear hq
        go_wp2_with fail
        refine (all1_any x a wr hbx).mono ?_
        rintro e w1 ⟨rfl, hb⟩
        have HB1 := Lib.hid (HB.out.trans (hb.mono HB.out.size))
        clear hb hbx hcell
        go_wp2_with fail
        go_ret
        exact ⟨⟨k, rfl, by rw [any_get HE.out (by rw [hq']; rfl)]; simp⟩, HB1.out⟩
    · go_wp2_with fail
      go_ret
      have h := HNO.out
      rw [take_full (by rw [HN.out]; omega)] at h
      exact ⟨⟨-1, rfl, by rw [h]; simp⟩, HB.out⟩

theorem str_containsFunc_any (a : Addr) (p : Option Addr) (n cap : Nat) (l : List ByteArray) (w : World) (hn : l.length = n) (hm : n ≤ 9223372036854775807) (hr : RowE encS 1 w p l)
    (hbox : w.cell? a = some (.func (.func 93) #[] #[])) :
    Calls Tryd.prog 111 #[.slice p n cap, .func (.func 112) #[] #[.pointer (some a)]] w fun e w' =>
      e = .returned (.bool (l.any (fun s => !exnB s))) ∧ Below w.heap.size w w' := by
  have hc := str_indexFunc_any a p n cap l w hn hm hr hbox
  generalize l.any (fun s => !exnB s) = q at hc ⊢
  clear hr hn hbox
  go_enter Tryd.func111, Tryd.ntmps111
  go_wp2_with fail
  refine hc.mono ?_
  rintro e w1 ⟨⟨r, rfl, hr⟩, hb⟩
  have HR := Lib.hid hr
  have HB := Lib.hid hb
  clear hr hb hc
  go_wp2_with fail
  go_ret
  exact ⟨ret_bool HR.out.symm, HB.out⟩

theorem words_all_any (p : Option Addr) (n cap : Nat) (l : List ByteArray) (w : World) (hn : l.length = n) (hm : n ≤ 9223372036854775807) (hr : RowE encS 1 w p l) :
    Calls Tryd.prog 92 #[.func (.func 93) #[] #[], .slice p n cap] w fun e w' => e = .returned (.bool (l.all exnB)) ∧ Below w.heap.size w w' := by
  have hc := fun o => str_containsFunc_any ⟨w.heap.size, 0, none⟩ p n cap l (w.alloc o) hn hm (hr.alloc o)
  have he : Hid (l.all exnB = !l.any (fun s => !exnB s)) := by show l.all exnB = !l.any (fun s => !exnB s); rw [List.all_eq_not_any_not]
  have HC := Lib.hid hc
  clear hr hn hc
  go_enter Tryd.func92, Tryd.ntmps92
  go_wp2_with fail
  refine (HC.out _ (by rw [cell_new]; rfl)).mono ?_
  rintro e w1 ⟨rfl, hb⟩
  have HB : Hid (Below w.heap.size w w1) := ((Below.refl _ w).alloc (Nat.le_refl _) _).trans (hb.mono (by simp))
  clear hb
  generalize l.any (fun s => !exnB s) = q at *
  go_wp2_with fail
  go_ret
  exact ⟨ret_bool he.out.symm, HB.out⟩

theorem words_Exn_any (p : Option Addr) (n cap : Nat) (l : List ByteArray) (w : World) (hn : l.length = n) (hm : n ≤ 9223372036854775807) (hr : RowE encS 1 w p l) :
    Calls Tryd.prog 73 #[.slice p n cap] w fun e w' => e = .returned (.bool (l.all exnB)) ∧ Below w.heap.size w w' := by
  have hc := words_all_any p n cap l w hn hm hr
  generalize l.all exnB = q at *
  clear hr hn
  go_enter Tryd.func73, Tryd.ntmps73
  go_wp2_with fail
  refine hc.mono ?_
  rintro e w1 ⟨rfl, hb⟩
  have HB := Lib.hid hb
  clear hb hc
  go_wp2_with fail
  go_ret
  exact ⟨rfl, HB.out⟩

/-- enclaveref02.shape: first a class, then letters and digits. -/
def refShape (s : ByteArray) (first : Int) : Bool := shapedB s first

theorem inCls_word (c : Int) : inCls [3, 4, 2] c = decide (2 ≤ cls c ∧ cls c ≤ 4) := by
  unfold inCls cls
  repeat' split
  all_goals rfl

set_option maxHeartbeats 400000 in
theorem ref_shape_any (s : ByteArray) (first : Int) (w : World) :
    Calls Tryd.prog 72 #[.string s, .int .u8 first] w fun e w' => e = .returned (.bool (shapedB s first)) ∧ Below w.heap.size w w' := by
  by_cases h0 : s.size = 0
  · have hr : Hid (shapedB s first = false) := by show shapedB s first = false; simp [shapedB, h0]
    go_enter Tryd.func72, Tryd.ntmps72
    go_wp2_with fail
    go_ret
    exact ⟨ret_bool hr.out.symm, Below.refl _ _⟩
  · have hpos : 0 < s.size := by omega
    have hz : (((s.size : Nat) : Int) == 0) = false := by rw [beq_eq_false_iff_ne]; omega
    clear h0
    by_cases h16 : 16 < s.size
    · have hr : Hid (shapedB s first = false) := by show shapedB s first = false; simp [shapedB]; intro _ h; omega
      go_enter Tryd.func72, Tryd.ntmps72
      go_wp2_with fail
      go_ret
      exact ⟨ret_bool hr.out.symm, Below.refl _ _⟩
    · have h16' : s.size ≤ 16 := by omega
      clear h16
      have HH := Lib.hid (bytesI_head s hpos)
      have hc : (0 : Int) ≤ ((s[0].toNat : Nat) : Int) ∧ ((s[0].toNat : Nat) : Int) ≤ 255 := by have := s[0].toNat_lt; omega
      obtain ⟨c0, c1⟩ := hc
      by_cases hf : cls ((s[0].toNat : Nat) : Int) = first
      · have HF := Lib.hid hf
        have hbne : (cls ((s[0].toNat : Nat) : Int) != first) = false := by rw [hf]; simp
        clear hf
        have hr : Hid (shapedB s first = (bytesI s).all (inCls [3, 4, 2])) := by
          show shapedB s first = _
          unfold shapedB
          rw [HH.out, HF.out]
          simp [hpos, h16']
        go_enter Tryd.func72, Tryd.ntmps72
        go_wp2_with fail
        refine (ref_class_any _ c0 c1 _).mono ?_
        rintro e w1 ⟨rfl, hb⟩
        have HB := Lib.hid hb
        clear hb
        go_wp2_with fail
        go_loopw [5] (fun i wr => ∃ k : Nat, k ≤ s.size ∧ i = .int .i64 k ∧ ((bytesI s).take k).all (inCls [3, 4, 2]) = true ∧ Below w.heap.size w wr) (fun i _ => s.size - (intOf i).toNat)
        case atStart => exact ⟨0, by omega, rfl, by simp, HB.out⟩
        case round =>
          obtain ⟨k, hk, rfl, hall, hb⟩ := hrel
          have HA := Lib.hid hall
          have HB := Lib.hid hb
          clear hall hb
          by_cases hlt : k < s.size
          · have hx := Lib.hid (bytesI_get s k hlt)
            have hc : (0 : Int) ≤ ((s[k].toNat : Nat) : Int) ∧ ((s[k].toNat : Nat) : Int) ≤ 255 := by have := s[k].toNat_lt; omega
            obtain ⟨d0, d1⟩ := hc
            have hin := Lib.hid (inCls_word ((s[k].toNat : Nat) : Int))
            go_wp2_with fail
            refine (ref_class_any _ d0 d1 _).mono ?_
            rintro e w2 ⟨rfl, hb⟩
            have HB2 := Lib.hid (HB.out.trans (hb.mono HB.out.size))
            clear hb
            generalize cls ((s[k].toNat : Nat) : Int) = cc at *
            by_cases h2 : cc < 2
            · go_wp2_with fail
              go_ret
              refine ⟨ret_bool ?_, HB2.out⟩
              rw [hr.out, all_get hx.out (by rw [hin.out]; simp; omega)]
            · by_cases h4 : 4 < cc
              · have h2' : 2 ≤ cc := by omega
                go_wp2_with fail
                go_ret
                refine ⟨ret_bool ?_, HB2.out⟩
                rw [hr.out, all_get hx.out (by rw [hin.out]; simp; omega)]
              · have h2' : 2 ≤ cc := by omega
                have h4' : cc ≤ 4 := by omega
                clear h2 h4
                go_wp2_with fail
                go_roundw
                case rel => exact ⟨k + 1, by omega, by go_num, by rw [all_take_get hx.out, HA.out, hin.out]; simp; omega, HB2.out⟩
                case measure => simp [intOf]; omega
          · go_wp2_with fail
            go_ret
            refine ⟨ret_bool ?_, HB.out⟩
            have h := HA.out
            rw [take_full (by rw [bytesI_len]; omega)] at h
            rw [hr.out, h]
      · have hbne : (cls ((s[0].toNat : Nat) : Int) != first) = true := by simpa using hf
        have hr : Hid (shapedB s first = false) := by
          show shapedB s first = false
          unfold shapedB
          rw [HH.out]
          simp [hf]
        clear hf
        go_enter Tryd.func72, Tryd.ntmps72
        go_wp2_with fail
        refine (ref_class_any _ c0 c1 _).mono ?_
        rintro e w1 ⟨rfl, hb⟩
        have HB := Lib.hid hb
        clear hb
        go_wp2_with fail
        go_ret
        exact ⟨ret_bool hr.out.symm, HB.out⟩

theorem ref_Exn_any (s : ByteArray) (w : World) :
    Calls Tryd.prog 40 #[.string s] w fun e w' => e = .returned (.bool (exnB s)) ∧ Below w.heap.size w w' := by
  have hc := ref_shape_any s 4 w
  change Calls _ _ _ w fun e w' => e = .returned (.bool (exnB s)) ∧ Below w.heap.size w w' at hc
  generalize exnB s = q at hc ⊢
  go_enter Tryd.func40, Tryd.ntmps40
  go_wp2_with fail
  refine hc.mono ?_
  rintro e w1 ⟨rfl, hb⟩
  have HB := Lib.hid hb
  clear hb hc
  go_wp2_with fail
  go_ret
  exact ⟨rfl, HB.out⟩
end Go.Proofs.YtekhblomdlehhaaDoor
