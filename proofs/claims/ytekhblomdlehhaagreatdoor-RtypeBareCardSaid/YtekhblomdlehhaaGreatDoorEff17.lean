/- effect.drop, Without, Handled, Exns. -/
import Derived.Test.YtekhblomdlehhaaGreatDoorDel
import Derived.Test.YtekhblomdlehhaaGreatDoorIsRow
import Derived.Test.YtekhblomdlehhaaGreatDoorEff11
set_option linter.unusedVariables false
set_option maxRecDepth 100000
set_option linter.unusedSimpArgs false
namespace Go.Proofs.YtekhblomdlehhaaGreatDoor
open Go.RowKit Go.Sort Go.Lib

/-- does a row have a string? -/
def inS (l : List ByteArray) (x : ByteArray) : Bool := l.any (fun y => decide (y = x))
theorem inS_mem (l : List ByteArray) (x : ByteArray) : inS l x = true ↔ x ∈ l := by
  unfold inS
  rw [List.any_eq_true]
  constructor
  · rintro ⟨y, hy, h⟩
    have : y = x := by simpa using h
    subst this; exact hy
  · intro h
    exact ⟨x, h, by simp⟩
theorem inN_mem (l : List Int) (x : Int) : inN l x = true ↔ x ∈ l := by
  unfold inN
  rw [List.any_eq_true]
  constructor
  · rintro ⟨y, hy, h⟩
    have : y = x := by simpa using h
    subst this; exact hy
  · intro h
    exact ⟨x, h, by simp⟩
theorem n_contains_any {p : Option Addr} {n cap : Nat} {l : List Int} {w : World} (h : IsRow encN 1 w p n cap l) (x : Int) :
    Calls Tryz.prog 56 #[.slice p n cap, .int .i64 x] w fun e w' => e = .returned (.bool (inN l x)) ∧ w = w' := by
  have e1 : inN l x = l.contains x := by rw [Bool.eq_iff_iff, inN_mem]; simp
  by_cases h0 : n = 0
  · subst h0
    have : l = [] := List.length_eq_zero_iff.1 h.len
    subst this
    exact (Tryz.slices_Contains_int_empty p cap x w).mono fun _ _ ⟨he, hw⟩ => ⟨he, hw.symm⟩
  · obtain ⟨b, o, rfl, _, hc⟩ := h.row.at (by rw [h.len]; omega)
    have := Tryz.slices_Contains_int b o n cap l x w (by rw [h.len]; omega) h.max (fun j hj => by
      have := hc j (l[j]) (List.getElem?_eq_getElem hj) 0 _ rfl
      simpa [List.getD, hj] using this)
    rw [List.take_of_length_le (by rw [h.len]; omega), ← e1] at this
    exact this.mono fun _ _ ⟨he, hw⟩ => ⟨he, hw.symm⟩
theorem s_contains_any {p : Option Addr} {n cap : Nat} {l : List ByteArray} {w : World} (h : IsRow encS 1 w p n cap l) (x : ByteArray) :
    Calls Tryz.prog 58 #[.slice p n cap, .string x] w fun e w' => e = .returned (.bool (inS l x)) ∧ w = w' := by
  have e1 : inS l x = Lib.containsS l x := by rw [Bool.eq_iff_iff, Lib.containsS_iff, inS_mem]
  by_cases h0 : n = 0
  · subst h0
    have : l = [] := List.length_eq_zero_iff.1 h.len
    subst this
    exact (Tryz.slices_Contains_string_empty p cap x w).mono fun _ _ ⟨he, hw⟩ => ⟨he, hw.symm⟩
  · obtain ⟨b, o, rfl, _, hc⟩ := h.row.at (by rw [h.len]; omega)
    have := Tryz.slices_Contains_string b o n cap l x w (by rw [h.len]; omega) h.max (fun j hj => by
      have := hc j (l[j]) (List.getElem?_eq_getElem hj) 0 _ rfl
      simpa [List.getD, hj] using this)
    rw [List.take_of_length_le (by rw [h.len]; omega), ← e1] at this
    exact this.mono fun _ _ ⟨he, hw⟩ => ⟨he, hw.symm⟩

theorem deleteFunc_nil (fid : FuncId) (caps : Array Value) (hent : Enters fid) (w : World) :
    Calls Tryz.prog 85 #[.slice none 0 0, .func (.func fid) #[] caps] w fun e w' => e = .returned (.slice none 0 0) ∧ Below w.heap.size w w' := by
  have HIX := Lib.hid (a_indexFunc_any fid caps (fun _ => true) hent none 0 0 [] w rfl (by omega) (.inl rfl) (fun x hx => by cases hx))
  clear hent
  go_enter Tryz.func85, Tryz.ntmps85
  go_wp2_with fail
  refine HIX.out.mono ?_
  rintro e w1 ⟨⟨r, rfl, hr⟩, hb⟩
  have hr1 : r = -1 := by
    rcases hr with ⟨h, _⟩ | ⟨k, x, _, hx, _⟩
    · exact h
    · simp at hx
  subst hr1
  have HB := Lib.hid hb
  clear hb
  clear hr
  go_wp2_with fail
  go_ret
  exact ⟨rfl, HB.out⟩

theorem PredB.trans {fid : FuncId} {caps : Array Value} {B : Nat} {w w' : World} {l : List Atom} {q : Atom → Bool} (h : PredB fid caps B w l q) (hb : Below B w w') : PredB fid caps B w' l q :=
  fun x hx W hW => h x hx W (hb.trans hW)

theorem drop_any (fid : FuncId) (caps : Array Value) (q : Atom → Bool) (hent : Enters fid) {p : Option Addr} {n cap : Nat} {l : List Atom} {w : World} (hr : IsRow encA 3 w p n cap l) (hm : n ≤ 1000000) (hf : PredB fid caps w.heap.size w (sortA (l.filter atomB)) q) :
    Calls Tryz.prog 54 #[.slice p n cap, .func (.func fid) #[] caps] w fun e w' => ∃ v m, e = .returned v ∧ m ≤ n ∧ OwnE encA 3 w' w.heap.size 70 v m ((sortA (l.filter atomB)).filter (fun x => !q x)) ∧ Below w.heap.size w w' := by
  have HR := Lib.hid hr
  have HF := Lib.hid hf
  clear hr hf
  have HD0 := Lib.hid (fun W => deleteFunc_nil fid caps hent W)
  have HD := Lib.hid (fun (g c m : Nat) (W : World) (h : OwnE encA 3 W w.heap.size 70 (.slice (some ⟨g, 0, none⟩) m c) m (sortA (l.filter atomB))) (h1 : m ≤ c) (h2 : m ≤ 1000000) (hb : Below w.heap.size w W) =>
    deleteFunc_any fid caps q hent g c m _ w.heap.size W h h1 h2 hb.size (HF.out.trans hb))
  clear hent
  go_enter Tryz.func54, Tryz.ntmps54
  go_wp2_with fail
  refine (effect_Of_any p n cap l _ HR.out.len hm HR.out.row).mono ?_
  rintro e w1 ⟨v, m, rfl, hmn, hown, hb⟩
  rcases hown.split encA_len (by omega) with ⟨rfl, rfl, hnil⟩ | ⟨g, cp, rfl, hcp, hbg⟩
  · have HNIL := Lib.hid hnil
    have HB := Lib.hid hb
    clear hb
    clear hown hnil
    go_wp2_with fail
    refine (HD0.out _).mono ?_
    rintro e w2 ⟨rfl, hb⟩
    have HB2 := Lib.hid (HB.out.trans (hb.mono HB.out.size))
    clear hb
    go_wp2_with fail
    go_ret
    exact ⟨_, 0, rfl, by omega, by rw [HNIL.out]; exact OwnE.nil _ _ _ _ _, HB2.out⟩
  · have HO := Lib.hid hown
    have HB := Lib.hid hb
    clear hb
    clear hown
    go_wp2_with fail
    refine (HD.out g cp m _ HO.out hcp (by omega) HB.out).mono ?_
    rintro e w2 ⟨m', rfl, hm', ho2, hb⟩
    have HO2 := Lib.hid ho2
    have HB2 := Lib.hid (HB.out.trans hb)
    clear hb ho2
    go_wp2_with fail
    go_ret
    exact ⟨_, m', rfl, by omega, HO2.out, HB2.out⟩

/-- does an atom go, without these regions? -/
def goesR (rhos : List Int) (x : Atom) : Bool := decide (x.kind ≠ 3) && inN rhos x.rho
set_option maxHeartbeats 400000 in
theorem without1_any (x : Atom) (ad : Addr) (q : Option Addr) (m mc : Nat) (l : List Int) (w : World) (hbox : w.cell? ad = some (.slice q m mc)) (hr : IsRow encN 1 w q m mc l) :
    Calls Tryz.prog 55 #[aggA x, .pointer (some ad)] w fun e w' => e = .returned (.bool (goesR l x)) ∧ Below w.heap.size w w' := by
  have hbx : (w.alloc (.cells #[.int .u8 x.kind, .int .i64 x.rho, .string x.exn] 70)).cell? ad = some (.slice q m mc) := by rw [cell_alloc_old (cell_block hbox)]; exact hbox
  obtain ⟨kd, rr, ss⟩ := x
  have HR := Lib.hid hr
  clear hr
  clear hbox
  by_cases h3 : kd = 3
  · subst h3
    go_enter Tryz.func55, Tryz.ntmps55
    go_wp2_with fail
    go_ret
    exact ⟨rfl, (Below.refl _ _).alloc (Nat.le_refl _) _⟩
  · have h3' : (kd != 3) = true := by simpa using h3
    have HG : Hid (goesR l ⟨kd, rr, ss⟩ = inN l rr) := by show _ = _; simp [goesR, h3]
    clear h3
    go_enter Tryz.func55, Tryz.ntmps55
    go_wp2_with fail
    refine (n_contains_any (HR.out.alloc _) rr).mono ?_
    rintro e w1 ⟨rfl, rfl⟩
    go_wp2_with fail
    go_ret
    exact ⟨ret_bool HG.out.symm, (Below.refl _ _).alloc (Nat.le_refl _) _⟩

/-- an effect without some regions -/
def withoutL (l : List Atom) (rhos : List Int) : List Atom := (sortA (l.filter atomB)).filter (fun x => !goesR rhos x)
theorem effect_Without_any {p : Option Addr} {n cap : Nat} {l : List Atom} {q : Option Addr} {m mc : Nat} {rhos : List Int} {w : World} (hr : IsRow encA 3 w p n cap l) (hm : n ≤ 1000000) (hr' : IsRow encN 1 w q m mc rhos) :
    Calls Tryz.prog 21 #[.slice p n cap, .slice q m mc] w fun e w' => ∃ v k, e = .returned v ∧ k ≤ n ∧ OwnE encA 3 w' w.heap.size 70 v k (withoutL l rhos) ∧ Below w.heap.size w w' := by
  have HD := Lib.hid (fun t => drop_any 55 #[.pointer (some ⟨w.heap.size, 0, none⟩)] (goesR rhos) (fun a w => Tryz.call55 a w) (hr.alloc (.cells #[.slice q m mc] t)) hm
    (fun x _ W hW => by
      have := without1_any x ⟨w.heap.size, 0, none⟩ q m mc rhos W (by rw [hW.cell (by simp), cell_new]; rfl) ((hr'.alloc _).below hW)
      simpa using this))
  clear hr hr'
  go_enter Tryz.func21, Tryz.ntmps21
  go_wp2_with fail
  refine (HD.out _).mono ?_
  rintro e w1 ⟨v, k, rfl, hk, hown, hb⟩
  have HB := Lib.hid (((Below.refl _ w).alloc (Nat.le_refl _) _).trans (hb.mono (by simp)))
  have HO := Lib.hid (hown.lower (base' := w.heap.size) (by simp))
  clear hb hown
  go_wp2_with fail
  go_ret
  exact ⟨_, k, rfl, hk, HO.out, HB.out⟩

/-- does an atom go, without these exceptions? -/
def goesX (exns : List ByteArray) (x : Atom) : Bool := decide (x.kind = 3) && inS exns x.exn
set_option maxHeartbeats 400000 in
theorem handled1_any (x : Atom) (ad : Addr) (q : Option Addr) (m mc : Nat) (l : List ByteArray) (w : World) (hbox : w.cell? ad = some (.slice q m mc)) (hr : IsRow encS 1 w q m mc l) :
    Calls Tryz.prog 57 #[aggA x, .pointer (some ad)] w fun e w' => e = .returned (.bool (goesX l x)) ∧ Below w.heap.size w w' := by
  have hbx : (w.alloc (.cells #[.int .u8 x.kind, .int .i64 x.rho, .string x.exn] 70)).cell? ad = some (.slice q m mc) := by rw [cell_alloc_old (cell_block hbox)]; exact hbox
  obtain ⟨kd, rr, ss⟩ := x
  have HR := Lib.hid hr
  clear hr
  clear hbox
  by_cases h3 : kd = 3
  · subst h3
    have HG : Hid (goesX l ⟨3, rr, ss⟩ = inS l ss) := by show _ = _; simp [goesX]
    go_enter Tryz.func57, Tryz.ntmps57
    go_wp2_with fail
    refine (s_contains_any (HR.out.alloc _) ss).mono ?_
    rintro e w1 ⟨rfl, rfl⟩
    go_wp2_with fail
    go_ret
    exact ⟨ret_bool HG.out.symm, (Below.refl _ _).alloc (Nat.le_refl _) _⟩
  · have h3' : (kd == 3) = false := by rw [beq_eq_false_iff_ne]; exact h3
    have HG : Hid (goesX l ⟨kd, rr, ss⟩ = false) := by show _ = _; simp [goesX, h3]
    clear h3
    go_enter Tryz.func57, Tryz.ntmps57
    go_wp2_with fail
    go_ret
    exact ⟨ret_bool HG.out.symm, (Below.refl _ _).alloc (Nat.le_refl _) _⟩

/-- an effect without some exceptions -/
def handledL (l : List Atom) (exns : List ByteArray) : List Atom := (sortA (l.filter atomB)).filter (fun x => !goesX exns x)
theorem effect_Handled_any {p : Option Addr} {n cap : Nat} {l : List Atom} {q : Option Addr} {m mc : Nat} {exns : List ByteArray} {w : World} (hr : IsRow encA 3 w p n cap l) (hm : n ≤ 1000000) (hr' : IsRow encS 1 w q m mc exns) :
    Calls Tryz.prog 22 #[.slice p n cap, .slice q m mc] w fun e w' => ∃ v k, e = .returned v ∧ k ≤ n ∧ OwnE encA 3 w' w.heap.size 70 v k (handledL l exns) ∧ Below w.heap.size w w' := by
  have HD := Lib.hid (fun t => drop_any 57 #[.pointer (some ⟨w.heap.size, 0, none⟩)] (goesX exns) (fun a w => Tryz.call57 a w) (hr.alloc (.cells #[.slice q m mc] t)) hm
    (fun x _ W hW => by
      have := handled1_any x ⟨w.heap.size, 0, none⟩ q m mc exns W (by rw [hW.cell (by simp), cell_new]; rfl) ((hr'.alloc _).below hW)
      simpa using this))
  clear hr hr'
  go_enter Tryz.func22, Tryz.ntmps22
  go_wp2_with fail
  refine (HD.out _).mono ?_
  rintro e w1 ⟨v, k, rfl, hk, hown, hb⟩
  have HB := Lib.hid (((Below.refl _ w).alloc (Nat.le_refl _) _).trans (hb.mono (by simp)))
  have HO := Lib.hid (hown.lower (base' := w.heap.size) (by simp))
  clear hb hown
  go_wp2_with fail
  go_ret
  exact ⟨_, k, rfl, hk, HO.out, HB.out⟩

/-- the exceptions of an effect -/
def exnsL (S : List Atom) : List ByteArray := (S.filter (fun x => decide (x.kind = 3))).map (·.exn)
set_option maxHeartbeats 1000000 in
theorem effect_Exns_any (p : Option Addr) (n cap : Nat) (rows : List (SlE Atom)) (w : World) (hn : rows.length = n) (hm : n ≤ 1000000) (hr : RowE encSl 1 w p rows) (hok : ∀ r ∈ rows, r.Ok encA 3 w) (htot : (rows.map (·.n)).sum ≤ 1000000) :
    Calls Tryz.prog 18 #[.slice p n cap] w fun e w' => ∃ v m, e = .returned v ∧ m ≤ 1000000 ∧ OwnE encS 1 w' w.heap.size 9 v m (exnsL (sortA ((rows.flatMap (·.l)).filter atomB))) ∧ Below w.heap.size w w' := by
  have HU := Lib.hid (effect_Union_any p n cap rows w hn hm hr hok htot)
  have HT := Lib.hid htot
  clear hn hr hok htot
  go_enter Tryz.func18, Tryz.ntmps18
  go_wp2_with fail
  refine HU.out.mono ?_
  rintro e w1 ⟨v, m, rfl, hmn, hown, hb⟩
  obtain ⟨q, mc, rfl, hrow⟩ := hown.isRow encA_len (by omega)
  have hm1 : m ≤ 1000000 := by have := HT.out; omega
  generalize hS : sortA ((rows.flatMap (·.l)).filter atomB) = S at hrow
  have HS := Lib.hid hS
  have HR := Lib.hid hrow
  have HB := Lib.hid hb
  clear hrow hb
  clear hown hS hmn
  go_wp2_with fail
  go_loopw [3, 5, 9] (fun u _ i wr => ∃ k t : Nat, k ≤ m ∧ i = .int .i64 k ∧ t ≤ k ∧ OwnE encS 1 wr w1.heap.size 9 u t (exnsL (S.take k)) ∧ Below w1.heap.size w1 wr) (fun _ _ i _ => m - (intOf i).toNat)
  case atStart => exact ⟨0, 0, by omega, rfl, by omega, OwnE.nil _ _ _ _ _, Below.refl _ _⟩
  case round =>
    obtain ⟨k, t, hk, rfl, htk, hown, hb⟩ := hrel
    have HOWN := Lib.hid hown
    have HBW := Lib.hid hb
    clear hown hb
    by_cases hlt : k < m
    · obtain ⟨x, hx⟩ := get_of_lt (l := S) (j := k) (by rw [HR.out.len]; exact hlt)
      have HE := Lib.hid hx
      obtain ⟨b, o, rfl, hbl, d0, d1, d2⟩ := RowA.atom (HR.out.below HBW.out).row hx
      obtain ⟨kd, rr, ss⟩ := x
      simp only at d0 d1 d2
      clear hx hbl
      by_cases h3 : kd = 3
      · subst h3
        have HBX := Lib.hid (HBW.out.alloc HBW.out.size (.cells #[.int .u8 3, .int .i64 rr, .string ss] 70))
        have HO2 := Lib.hid (HOWN.out.below ((Below.refl _ wr).alloc (Nat.le_refl _) (.cells #[.int .u8 3, .int .i64 rr, .string ss] 70)))
        go_wp2_with (at_builtin; refine wpList_append1 rfl _ _ 34 rfl w1.heap.size 9 _ 1 16 Tryz.underlying34 infoS rfl (by decide) encS encS_len encS_one ss _ _ _ HO2.out rfl (by refine Eq.trans (b := Value.slice (some ⟨wr.heap.size + 1, 0, none⟩) 1 1) rfl ?_; simp) ?c1 ?c2 ?c3 ?_)
        case c1 => omega
        case c2 => omega
        case c3 => have := HBX.out.size; simp at this ⊢; omega
        · intro v' w4 hown' hg
          have HO4 := Lib.hid hown'
          have HB4 := Lib.hid (Below.own HBX.out hg (by have := HBX.out.size; simp at this ⊢; omega) HO2.out)
          clear hown' hg d0 d1 d2
          go_wp2_with fail
          go_roundw
          case rel => exact ⟨k + 1, t + 1, by omega, by go_num, by omega, by rw [take_succ_get HE.out]; unfold exnsL at HO4 ⊢; rw [List.filter_append, List.map_append]; exact HO4.out, HB4.out⟩
          case measure => simp [intOf]; omega
      · have h3' : (kd == 3) = false := by rw [beq_eq_false_iff_ne]; exact h3
        have HN3 := Lib.hid h3
        have HBX := Lib.hid (HBW.out.alloc HBW.out.size (.cells #[.int .u8 kd, .int .i64 rr, .string ss] 70))
        have HO2 := Lib.hid (HOWN.out.below ((Below.refl _ wr).alloc (Nat.le_refl _) (.cells #[.int .u8 kd, .int .i64 rr, .string ss] 70)))
        clear h3
        go_wp2_with fail
        go_roundw
        case rel => exact ⟨k + 1, t, by omega, by go_num, by omega, by rw [take_succ_get HE.out]; have := HO2.out; unfold exnsL at this ⊢; rw [List.filter_append, List.map_append]; simpa [HN3.out] using this, HBX.out⟩
        case measure => simp [intOf]; omega
    · have hkm : k = m := by omega
      subst hkm
      go_wp2_with fail
      go_ret
      have h1 := HOWN.out
      rw [take_full (by rw [HR.out.len]; omega)] at h1
      exact ⟨_, t, rfl, by omega, by rw [HS.out]; exact h1.lower HB.out.size, HB.out.trans (HBW.out.mono HB.out.size)⟩
end Go.Proofs.YtekhblomdlehhaaGreatDoor
