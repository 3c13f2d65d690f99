/- Part 17 of the texts: Hdd, Reg, Onc2, My, Nf. -/
import Derived.Test.YtkdjnegfnhldpaaGreatDoorG16
import Derived.Test.YtkdjnegfnhldpaaGreatDoorG14
import Derived.Test.YtkdjnegfnhldpaaGreatDoorG07
set_option linter.unusedVariables false
set_option maxRecDepth 100000
set_option linter.unusedSimpArgs false
section
namespace Go.Proofs.YtkdjnegfnhldpaaGreatDoor
open Go.RowKit
theorem BoxA.range {W : World} {b : Nat} {a : AH} (h : BoxA W b a) : W.rangeAt b 0 (encAH a) := fun j v hj => by rw [Nat.zero_add]; exact h.c j v hj
set_option maxHeartbeats 4000000 in
theorem headed_region (a : AH) (h17 : a.kind = 17) (hk : a.kn ≤ 1000000) (w : World) :
    Calls Tryz.prog 90 #[aggT a] w fun e w' => e = .returned (.bool (headB a.hd a.kn)) ∧ Below w.heap.size w w' := by
  have HB := Lib.hid ((Below.refl w.heap.size w).alloc (Nat.le_refl _) (boxA a))
  have HA := Lib.hid (boxA_new w a)
  have e17 : (a.kind == 17) = true := by simp [h17]
  have E17 := Lib.hid h17
  clear h17
  go_enter Tryz.func90, Tryz.ntmps90
  go_upto_region 3 with fail
  obtain ⟨c0, c1, c2, c3, c4, c5, c6, c7, c8, c9, c10, c11, c12, c13, c14, c15, c16, c17, c18⟩ := HA.out.all
  clear c7 c8 c9 c10 c11 c12 c13 c14 c15 c16 c17
  generalize w.alloc (.cells #[.int .u8 a.kind, .int .u8 a.op, .int .i64 a.at_, .int .i64 a.n, .string a.name, .string a.arg, .string a.exn, .int .i64 a.rho, .slice a.rp a.rn a.rc, .slice a.ep a.en a.ec, .int .u8 a.ty.head.kind, .int .i64 a.ty.head.rho, .slice a.ty.head.ep a.ty.head.en a.ty.head.ec, .slice a.ty.head.kp a.ty.head.kn a.ty.head.kc, .int .u8 a.res.head.kind, .int .i64 a.res.head.rho, .slice a.res.head.ep a.res.head.en a.res.head.ec, .slice a.res.head.kp a.res.head.kn a.res.head.kc, .slice a.kp a.kn a.kc] 31) = W1 at *
  go_wp2_with fail
  all_goals (
    go_ret
    refine ⟨ret_bool ?_, HB.out⟩
    unfold headB
    rw [if_pos (show a.hd.kind = 17 from E17.out)]
    clear c0 c1 c2 c3 c4 c5 c6 c18
    simp_all [bareB, AH.hd]
    try (intros; omega))
theorem node4B_many (h : HeadV) (n : Nat) (hn : 3 < n) : node4B h n = false := by
  have hk : kidsI h.kind ≤ 3 := by
    unfold kidsI
    split
    · omega
    · split
      · omega
      · split
        · omega
        · split <;> omega
  have : ((n : Int) != kidsI h.kind) = true := by simp; omega
  unfold node4B
  rw [this]
  simp
theorem headB_other {a : AH} (h17 : a.kind ≠ 17) (h18 : a.kind ≠ 18) : headB a.hd a.kn = (decide ((a.kn : Int) ≤ 3) && node4B a.hd a.kn) := by
  unfold headB
  rw [if_neg (show ¬ a.hd.kind = 17 from h17), if_neg (show ¬ a.hd.kind = 18 from h18)]
  by_cases h : a.kn ≤ 3
  · have e : decide ((a.kn : Int) ≤ 3) = true := by simp; omega
    rw [e, Nat.min_eq_left (by omega)]; rfl
  · have e : decide ((a.kn : Int) ≤ 3) = false := by simp; omega
    rw [e, node4B_many _ _ (by omega)]; rfl
theorem toList_empty (s : ByteArray) : s.toList.isEmpty = decide (s.size = 0) := by
  rw [Lib.toList_data]
  obtain ⟨⟨l⟩⟩ := s
  cases l with
  | nil => rfl
  | cons b l => show false = decide (l.length + 1 = 0); simp
theorem headB_inst' (op at_ z : Int) (name arg exn : ByteArray) (m : Nat) : headB ⟨18, op, at_, z, name, arg, exn⟩ m = (decide ((m : Int) ≤ 3) && node4B ⟨2, op, at_, z, name, arg, exn⟩ m) := by
  show (bareB ⟨18, op, at_, z, name, arg, exn⟩ && nameB name && decide (0 ≤ at_) && ((m : Int) == 0)) = (decide ((m : Int) ≤ 3) && (!(decide ((0 : Int) < 0) || ((m : Int) != 0) || decide (at_ < 0)) && !(false || true && (op != 0)) && !(decide (z < 0) || decide (2147483647 < z) || true && (z != 0)) && (fitsB true name (nameB name) && fitsB false arg (nameB arg) && fitsB false exn (exnB exn))))
  show (((op == 0) && (z == 0) && arg.toList.isEmpty && exn.toList.isEmpty) && nameB name && decide (0 ≤ at_) && ((m : Int) == 0)) = _
  unfold fitsB
  rw [toList_empty, toList_empty]
  rw [Bool.eq_iff_iff]
  simp only [Bool.and_eq_true, Bool.or_eq_true, Bool.not_eq_true', Bool.or_eq_false_iff, beq_iff_eq, bne_iff_ne, decide_eq_true_eq, decide_eq_false_iff_not, bne_eq_false_iff_eq, Bool.false_or, Bool.true_and, Bool.not_true, Bool.not_false, Bool.or_false, Bool.false_and]
  constructor
  · rintro ⟨⟨⟨⟨⟨⟨h1, h2⟩, h3⟩, h4⟩, h5⟩, h6⟩, h7⟩
    exact ⟨by omega, ⟨⟨⟨by omega, by omega⟩, h1⟩, by omega, by omega⟩, ⟨h5, h3⟩, h4⟩
  · rintro ⟨h1, ⟨⟨⟨⟨_, h2⟩, h3⟩, h4⟩, h5, h6⟩, ⟨h7, h8⟩, h9⟩
    exact ⟨⟨⟨⟨⟨⟨h4, h6⟩, h8⟩, h9⟩, h7⟩, by omega⟩, h2⟩
set_option maxHeartbeats 4000000 in
theorem headed_other (a : AH) (h17 : a.kind ≠ 17) (h18 : a.kind ≠ 18) (hk0 : 0 ≤ a.kind) (hk1 : a.kind ≤ 255) (hk : a.kn ≤ 1000000) {w : World} (hv : Vr w) :
    Calls Tryz.prog 90 #[aggT a] w fun e w' => e = .returned (.bool (headB a.hd a.kn)) ∧ Below w.heap.size w w' := by
  have HB := Lib.hid ((Below.refl w.heap.size w).alloc (Nat.le_refl _) (boxA a))
  have HA := Lib.hid (boxA_new w a)
  have HV := Lib.hid hv
  have HR := Lib.hid (headB_other h17 h18)
  have e17 : (a.kind == 17) = false := by simpa using h17
  have e18 : (a.kind == 18) = false := by simpa using h18
  clear h17 h18 hv
  by_cases h3 : a.kn ≤ 3
  · have hle : decide ((a.kn : Int) ≤ 3) = true := by simp; omega
    rw [hle, Bool.true_and] at HR
    go_enter Tryz.func90, Tryz.ntmps90
    go_upto_region 2 with fail
    obtain ⟨c0, c1, c2, c3, c4, c5, c6, c7, c8, c9, c10, c11, c12, c13, c14, c15, c16, c17, c18⟩ := HA.out.all
    clear c1 c2 c3 c4 c5 c6 c7 c8 c9 c10 c11 c12 c13 c14 c15 c16 c17
    go_wp2_with (first
      | (refine wpList_load_midG (by rfl) 31 _ rfl w.heap.size 0 rfl [.int .u8 a.kind, .int .u8 a.op, .int .i64 a.at_, .int .i64 a.n, .string a.name, .string a.arg, .string a.exn, .int .i64 a.rho, .slice a.rp a.rn a.rc, .slice a.ep a.en a.ec, .int .u8 a.ty.head.kind, .int .i64 a.ty.head.rho, .slice a.ty.head.ep a.ty.head.en a.ty.head.ec, .slice a.ty.head.kp a.ty.head.kn a.ty.head.kc, .int .u8 a.res.head.kind, .int .i64 a.res.head.rho, .slice a.res.head.ep a.res.head.en a.res.head.ec, .slice a.res.head.kp a.res.head.kn a.res.head.kc, .slice a.kp a.kn a.kc] _ HA.out.range Tryz.underlying31 rfl (by kernel_rfl) ?_)
      | (go_at_call 121; refine (aterm_stub_any a (show a.kn ≤ 1000 by omega) _).mono ?_; rintro e w2 ⟨⟨p2, c2', rfl, hrow⟩, hb⟩; have HROW := Lib.hid hrow; have HB2 := Lib.hid (HB.out.trans (hb.mono HB.out.size)); clear hrow hb)
      | (go_at_call 120; refine (term_May_stub (HV.out.below HB2.out) (t := ⟨(a : AH).hd, p2, a.kn, c2'⟩) HROW.out (show a.kn ≤ 1000 by omega) hk0 hk1).mono ?_; rintro e w3 ⟨rfl, hb⟩; have HB3 := Lib.hid (HB2.out.trans (hb.mono HB2.out.size)); clear hb))
    go_ret
    exact ⟨ret_bool HR.out.symm, HB3.out⟩
  · have hle : decide ((a.kn : Int) ≤ 3) = false := by simp; omega
    rw [hle, Bool.false_and] at HR
    go_enter Tryz.func90, Tryz.ntmps90
    go_upto_region 2 with fail
    obtain ⟨c0, c1, c2, c3, c4, c5, c6, c7, c8, c9, c10, c11, c12, c13, c14, c15, c16, c17, c18⟩ := HA.out.all
    clear c1 c2 c3 c4 c5 c6 c7 c8 c9 c10 c11 c12 c13 c14 c15 c16 c17
    go_wp2_with fail
    go_ret
    exact ⟨ret_bool HR.out.symm, HB.out⟩
set_option maxHeartbeats 4000000 in
theorem headed_inst (a : AH) (h18 : a.kind = 18) (hk : a.kn ≤ 1000000) {w : World} (hv : Vr w) :
    Calls Tryz.prog 90 #[aggT a] w fun e w' => e = .returned (.bool (headB a.hd a.kn)) ∧ Below w.heap.size w w' := by
  have HB0 := Lib.hid ((Below.refl w.heap.size w).alloc (Nat.le_refl _) (boxA a))
  have HB := Lib.hid ((Below.refl w.heap.size w).alloc (Nat.le_refl _) (boxA {a with kind := 2}))
  have HA0 := Lib.hid (boxA_new w a)
  have HA := Lib.hid (boxA_new w {a with kind := 2})
  have HV := Lib.hid hv
  have HR : Hid (headB a.hd a.kn = (decide ((a.kn : Int) ≤ 3) && node4B ({a with kind := 2} : AH).hd a.kn)) := by
    show _ = _
    have := headB_inst' a.op a.at_ a.n a.name a.arg a.exn a.kn
    rw [← h18] at this
    exact this
  have e17 : (a.kind == 17) = false := by simp; omega
  have e18 : (a.kind == 18) = true := by simpa using h18
  clear h18 hv
  go_enter Tryz.func90, Tryz.ntmps90
  have c18 := HA.out.c 18 _ rfl
  by_cases h3 : a.kn ≤ 3
  · have hle : decide ((a.kn : Int) ≤ 3) = true := by simp; omega
    rw [hle, Bool.true_and] at HR
    go_upto_region 6 with fail
    go_wp2_with (first
      | (refine wpList_load_midG (by rfl) 31 _ rfl w.heap.size 0 rfl [.int .u8 2, .int .u8 a.op, .int .i64 a.at_, .int .i64 a.n, .string a.name, .string a.arg, .string a.exn, .int .i64 a.rho, .slice a.rp a.rn a.rc, .slice a.ep a.en a.ec, .int .u8 a.ty.head.kind, .int .i64 a.ty.head.rho, .slice a.ty.head.ep a.ty.head.en a.ty.head.ec, .slice a.ty.head.kp a.ty.head.kn a.ty.head.kc, .int .u8 a.res.head.kind, .int .i64 a.res.head.rho, .slice a.res.head.ep a.res.head.en a.res.head.ec, .slice a.res.head.kp a.res.head.kn a.res.head.kc, .slice a.kp a.kn a.kc] _ HA.out.range Tryz.underlying31 rfl (by kernel_rfl) ?_)
      | (go_at_call 121; refine (aterm_stub_any {a with kind := 2} (show a.kn ≤ 1000 by omega) _).mono ?_; rintro e w2 ⟨⟨p2, c2', rfl, hrow⟩, hb⟩; have HROW := Lib.hid hrow; have HB2 := Lib.hid (HB.out.trans (hb.mono HB.out.size)); clear hrow hb)
      | (go_at_call 120; refine (term_May_stub (HV.out.below HB2.out) (t := ⟨({a with kind := 2} : AH).hd, p2, a.kn, c2'⟩) HROW.out (show a.kn ≤ 1000 by omega) (show (0 : Int) ≤ 2 by omega) (show (2 : Int) ≤ 255 by omega)).mono ?_; rintro e w3 ⟨rfl, hb⟩; have HB3 := Lib.hid (HB2.out.trans (hb.mono HB2.out.size)); clear hb))
    go_ret
    exact ⟨ret_bool HR.out.symm, HB3.out⟩
  · have hle : decide ((a.kn : Int) ≤ 3) = false := by simp; omega
    rw [hle, Bool.false_and] at HR
    go_upto_region 6 with fail
    go_wp2_with fail
    go_ret
    exact ⟨ret_bool HR.out.symm, HB.out⟩
theorem aterm_headed_any (a : AH) (hk0 : 0 ≤ a.kind) (hk1 : a.kind ≤ 255) (hk : a.kn ≤ 1000000) {w : World} (hv : Vr w) :
    Calls Tryz.prog 90 #[aggT a] w fun e w' => e = .returned (.bool (headB a.hd a.kn)) ∧ Below w.heap.size w w' := by
  by_cases h17 : a.kind = 17
  · exact headed_region a h17 hk w
  · by_cases h18 : a.kind = 18
    · exact headed_inst a h18 hk hv
    · exact headed_other a h17 h18 hk0 hk1 hk hv
end Go.Proofs.YtkdjnegfnhldpaaGreatDoor
end
section
namespace Go.Proofs.YtkdjnegfnhldpaaGreatDoor
open Go.RowKit Go.Shelf
set_option maxHeartbeats 1000000 in
theorem regions1_any (x L : Int) (g : Nat) {W : World} (hg : W.cell? ⟨g, 0, none⟩ = some (.int .i64 L)) :
    Calls Tryz.prog 123 #[.int .i64 x, .pointer (some ⟨g, 0, none⟩)] W fun e w' => e = .returned (.bool (decide (x < L))) ∧ w' = W := by
  go_enter Tryz.func123, Tryz.ntmps123
  go_wp2_with fail
  go_ret
  exact ⟨rfl, rfl⟩
theorem cfunc_rhos {W : World} {p : Option Addr} {n c : Nat} {l : List Int} (hr : IsRow encN 1 W p n c l) {g : Nat} {L : Int} (hg : W.cell? ⟨g, 0, none⟩ = some (.int .i64 L)) :
    Calls Tryz.prog 122 #[.slice p n c, .func (.func 123) #[] #[.pointer (some ⟨g, 0, none⟩)]] W fun e w' => e = .returned (.bool (l.any (fun r => decide (r < L)))) ∧ Below W.heap.size W w' := by
  have hln := hr.len
  have hmx := hr.max
  rcases hr.row with h | ⟨b, o, hp, hb, hc⟩
  · subst h
    obtain rfl : n = 0 := by simpa using hln.symm
    refine (Tryz.slices_ContainsFunc_empty_f122 (α := Int) p c _ W).mono ?_
    rintro e w' ⟨rfl, rfl⟩
    exact ⟨rfl, Below.refl _ _⟩
  · subst hp
    have hcc : ∀ j, j < l.length → W.cell? ⟨b, o + j, none⟩ = some (Value.int .i64 (l[j]!)) := fun j hj => by
      have := hc j (l[j]!) (by rw [List.getElem?_eq_getElem hj, getElem!_pos l j hj]) 0 (.int .i64 (l[j]!)) rfl
      simpa using this
    refine (Tryz.slices_ContainsFunc_f122 (α := Int) (Value.int .i64) (fun r : Int => decide (r < L)) 123 #[.pointer (some ⟨g, 0, none⟩)] (fun args w => rfl) b o n c l W ?_ (by omega) (by omega) hcc).mono ?_
    · intro W' x hb'
      refine (regions1_any x L g (by rw [hb'.cell (cell_block hg)]; exact hg)).mono ?_
      rintro e w' ⟨rfl, rfl⟩
      exact ⟨rfl, 0, rfl⟩
    · rintro e w' ⟨rfl, q, rfl⟩
      rw [List.take_of_length_le (by omega)]
      exact ⟨rfl, rfl, rfl, rfl, Nat.le_refl _, fun _ _ => rfl⟩
def regB (a : AH) (fr fh : Bool) : Bool :=
  !((!fr && (a.rho != 0)) || (decide (a.rho < 0) || (a.kind == 17) && decide (a.rho < 1)) || (!fh && decide (0 < a.rn))) && !(a.rhos.any (fun r => decide (r < if a.kind = 13 then 1 else 0)))
set_option maxHeartbeats 4000000 in
theorem regions_13 (a : AH) (fr fh fe ft fs : Bool) {w : World} (hr : IsRow encN 1 w a.rp a.rn a.rc a.rhos) (h13 : a.kind = 13) :
    Calls Tryz.prog 91 #[aggT a, .agg #[.bool fr, .bool fh, .bool fe, .bool ft, .bool fs]] w fun e w' => e = .returned (.bool (regB a fr fh)) ∧ Below w.heap.size w w' := by
  have HR := Lib.hid hr
  have HQ : Hid (regB a fr fh = (!((!fr && (a.rho != 0)) || (decide (a.rho < 0) || false && decide (a.rho < 1)) || (!fh && decide (0 < a.rn))) && !(a.rhos.any (fun r => decide (r < 1))))) := by
    show _ = _; unfold regB; rw [if_pos h13]; simp [h13]
  have e13 : (a.kind == 13) = true := by simp [h13]
  have e17 : (a.kind == 17) = false := by simp [h13]
  clear hr h13
  have HB := Lib.hid (((Below.refl w.heap.size w).alloc (Nat.le_refl _) (boxA a)).alloc (by simp) (.cells #[.bool fr, .bool fh, .bool fe, .bool ft, .bool fs] 137))
  have HB3 := Lib.hid (HB.out.alloc HB.out.size (.cells #[.int .i64 1] 3))
  have HA0 := Lib.hid (((boxA_new w a).below ((Below.refl _ _).alloc (Nat.le_refl _) (.cells #[.bool fr, .bool fh, .bool fe, .bool ft, .bool fs] 137))).below ((Below.refl _ _).alloc (Nat.le_refl _) (.cells #[.int .i64 0] 3)))
  have HA3 := Lib.hid (((boxA_new w a).below ((Below.refl _ _).alloc (Nat.le_refl _) (.cells #[.bool fr, .bool fh, .bool fe, .bool ft, .bool fs] 137))).below ((Below.refl _ _).alloc (Nat.le_refl _) (.cells #[.int .i64 1] 3)))
  have HCF := Lib.hid (cfunc_rhos (HR.out.below HB3.out) (g := w.heap.size + 2) (L := 1) (by rw [show w.heap.size + 2 = ((w.alloc (boxA a)).alloc (.cells #[.bool fr, .bool fh, .bool fe, .bool ft, .bool fs] 137)).heap.size by simp, cell_new]; rfl))
  have f0 : (((w.alloc (boxA a)).alloc (.cells #[.bool fr, .bool fh, .bool fe, .bool ft, .bool fs] 137)).alloc (.cells #[.int .i64 1] 3)).cell? ⟨w.heap.size + 1, 0, none⟩ = some (.bool fr) := by go_simp
  have f1 : (((w.alloc (boxA a)).alloc (.cells #[.bool fr, .bool fh, .bool fe, .bool ft, .bool fs] 137)).alloc (.cells #[.int .i64 1] 3)).cell? ⟨w.heap.size + 1, 1, none⟩ = some (.bool fh) := by go_simp
  have d0 := HA0.out.c 0 _ rfl
  have c0 := HA3.out.c 0 _ rfl
  have c7 := HA3.out.c 7 _ rfl
  have c8 := HA3.out.c 8 _ rfl
  have h03 := HR.out.max
  generalize a.rhos.any (fun r => decide (r < 1)) = R at *
  go_enter Tryz.func91, Tryz.ntmps91
  go_upto_region 4 with fail
  generalize ((w.alloc (.cells #[.int .u8 a.kind, .int .u8 a.op, .int .i64 a.at_, .int .i64 a.n, .string a.name, .string a.arg, .string a.exn, .int .i64 a.rho, .slice a.rp a.rn a.rc, .slice a.ep a.en a.ec, .int .u8 a.ty.head.kind, .int .i64 a.ty.head.rho, .slice a.ty.head.ep a.ty.head.en a.ty.head.ec, .slice a.ty.head.kp a.ty.head.kn a.ty.head.kc, .int .u8 a.res.head.kind, .int .i64 a.res.head.rho, .slice a.res.head.ep a.res.head.en a.res.head.ec, .slice a.res.head.kp a.res.head.kn a.res.head.kc, .slice a.kp a.kn a.kc] 31)).alloc (.cells #[.bool fr, .bool fh, .bool fe, .bool ft, .bool fs] 137)).alloc (.cells #[.int .i64 1] 3) = W3 at *
  cases fr <;> cases fh
  all_goals (
    go_wp2_with (go_at_call 122; refine HCF.out.mono ?_; rintro e w4 ⟨rfl, hb⟩; have HB4 := Lib.hid (HB3.out.trans (hb.mono HB3.out.size)); clear hb)
    all_goals (
      go_ret
      refine ⟨ret_bool ?_, by first | exact HB4.out | exact HB3.out⟩
      rw [HQ.out]
      clear c0 c7 c8 d0 f0 f1 HA0 HA3 HCF HB
      simp_all
      try omega))
set_option maxHeartbeats 4000000 in
theorem regions_no (a : AH) (fr fh fe ft fs : Bool) {w : World} (hr : IsRow encN 1 w a.rp a.rn a.rc a.rhos) (h13 : a.kind ≠ 13) :
    Calls Tryz.prog 91 #[aggT a, .agg #[.bool fr, .bool fh, .bool fe, .bool ft, .bool fs]] w fun e w' => e = .returned (.bool (regB a fr fh)) ∧ Below w.heap.size w w' := by
  have HR := Lib.hid hr
  have HQ : Hid (regB a fr fh = (!((!fr && (a.rho != 0)) || (decide (a.rho < 0) || (a.kind == 17) && decide (a.rho < 1)) || (!fh && decide (0 < a.rn))) && !(a.rhos.any (fun r => decide (r < 0))))) := by
    show _ = _; unfold regB; rw [if_neg h13]
  have e13 : (a.kind == 13) = false := by simp [h13]
  clear hr h13
  cases e17 : (a.kind == 17)
  · rw [e17] at HQ
    have HB := Lib.hid (((Below.refl w.heap.size w).alloc (Nat.le_refl _) (boxA a)).alloc (by simp) (.cells #[.bool fr, .bool fh, .bool fe, .bool ft, .bool fs] 137))
    have HB3 := Lib.hid (HB.out.alloc HB.out.size (.cells #[.int .i64 0] 3))
    have HA0 := Lib.hid (((boxA_new w a).below ((Below.refl _ _).alloc (Nat.le_refl _) (.cells #[.bool fr, .bool fh, .bool fe, .bool ft, .bool fs] 137))).below ((Below.refl _ _).alloc (Nat.le_refl _) (.cells #[.int .i64 0] 3)))
    have HA3 := Lib.hid (((boxA_new w a).below ((Below.refl _ _).alloc (Nat.le_refl _) (.cells #[.bool fr, .bool fh, .bool fe, .bool ft, .bool fs] 137))).below ((Below.refl _ _).alloc (Nat.le_refl _) (.cells #[.int .i64 0] 3)))
    have HCF := Lib.hid (cfunc_rhos (HR.out.below HB3.out) (g := w.heap.size + 2) (L := 0) (by rw [show w.heap.size + 2 = ((w.alloc (boxA a)).alloc (.cells #[.bool fr, .bool fh, .bool fe, .bool ft, .bool fs] 137)).heap.size by simp, cell_new]; rfl))
    have f0 : (((w.alloc (boxA a)).alloc (.cells #[.bool fr, .bool fh, .bool fe, .bool ft, .bool fs] 137)).alloc (.cells #[.int .i64 0] 3)).cell? ⟨w.heap.size + 1, 0, none⟩ = some (.bool fr) := by go_simp
    have f1 : (((w.alloc (boxA a)).alloc (.cells #[.bool fr, .bool fh, .bool fe, .bool ft, .bool fs] 137)).alloc (.cells #[.int .i64 0] 3)).cell? ⟨w.heap.size + 1, 1, none⟩ = some (.bool fh) := by go_simp
    have d0 := HA0.out.c 0 _ rfl
    have c0 := HA3.out.c 0 _ rfl
    have c7 := HA3.out.c 7 _ rfl
    have c8 := HA3.out.c 8 _ rfl
    have h03 := HR.out.max
    generalize a.rhos.any (fun r => decide (r < 0)) = R at *
    go_enter Tryz.func91, Tryz.ntmps91
    go_upto_region 4 with fail
    generalize ((w.alloc (.cells #[.int .u8 a.kind, .int .u8 a.op, .int .i64 a.at_, .int .i64 a.n, .string a.name, .string a.arg, .string a.exn, .int .i64 a.rho, .slice a.rp a.rn a.rc, .slice a.ep a.en a.ec, .int .u8 a.ty.head.kind, .int .i64 a.ty.head.rho, .slice a.ty.head.ep a.ty.head.en a.ty.head.ec, .slice a.ty.head.kp a.ty.head.kn a.ty.head.kc, .int .u8 a.res.head.kind, .int .i64 a.res.head.rho, .slice a.res.head.ep a.res.head.en a.res.head.ec, .slice a.res.head.kp a.res.head.kn a.res.head.kc, .slice a.kp a.kn a.kc] 31)).alloc (.cells #[.bool fr, .bool fh, .bool fe, .bool ft, .bool fs] 137)).alloc (.cells #[.int .i64 0] 3) = W3 at *
    cases fr <;> cases fh
    all_goals (
      go_wp2_with (go_at_call 122; refine HCF.out.mono ?_; rintro e w4 ⟨rfl, hb⟩; have HB4 := Lib.hid (HB3.out.trans (hb.mono HB3.out.size)); clear hb)
      all_goals (
        go_ret
        refine ⟨ret_bool ?_, by first | exact HB4.out | exact HB3.out⟩
        rw [HQ.out]
        clear c0 c7 c8 d0 f0 f1 HA0 HA3 HCF HB
        simp_all
        try omega))
  · rw [e17] at HQ
    have HB := Lib.hid (((Below.refl w.heap.size w).alloc (Nat.le_refl _) (boxA a)).alloc (by simp) (.cells #[.bool fr, .bool fh, .bool fe, .bool ft, .bool fs] 137))
    have HB3 := Lib.hid (HB.out.alloc HB.out.size (.cells #[.int .i64 0] 3))
    have HA0 := Lib.hid (((boxA_new w a).below ((Below.refl _ _).alloc (Nat.le_refl _) (.cells #[.bool fr, .bool fh, .bool fe, .bool ft, .bool fs] 137))).below ((Below.refl _ _).alloc (Nat.le_refl _) (.cells #[.int .i64 0] 3)))
    have HA3 := Lib.hid (((boxA_new w a).below ((Below.refl _ _).alloc (Nat.le_refl _) (.cells #[.bool fr, .bool fh, .bool fe, .bool ft, .bool fs] 137))).below ((Below.refl _ _).alloc (Nat.le_refl _) (.cells #[.int .i64 0] 3)))
    have HCF := Lib.hid (cfunc_rhos (HR.out.below HB3.out) (g := w.heap.size + 2) (L := 0) (by rw [show w.heap.size + 2 = ((w.alloc (boxA a)).alloc (.cells #[.bool fr, .bool fh, .bool fe, .bool ft, .bool fs] 137)).heap.size by simp, cell_new]; rfl))
    have f0 : (((w.alloc (boxA a)).alloc (.cells #[.bool fr, .bool fh, .bool fe, .bool ft, .bool fs] 137)).alloc (.cells #[.int .i64 0] 3)).cell? ⟨w.heap.size + 1, 0, none⟩ = some (.bool fr) := by go_simp
    have f1 : (((w.alloc (boxA a)).alloc (.cells #[.bool fr, .bool fh, .bool fe, .bool ft, .bool fs] 137)).alloc (.cells #[.int .i64 0] 3)).cell? ⟨w.heap.size + 1, 1, none⟩ = some (.bool fh) := by go_simp
    have d0 := HA0.out.c 0 _ rfl
    have c0 := HA3.out.c 0 _ rfl
    have c7 := HA3.out.c 7 _ rfl
    have c8 := HA3.out.c 8 _ rfl
    have h03 := HR.out.max
    generalize a.rhos.any (fun r => decide (r < 0)) = R at *
    go_enter Tryz.func91, Tryz.ntmps91
    go_upto_region 4 with fail
    generalize ((w.alloc (.cells #[.int .u8 a.kind, .int .u8 a.op, .int .i64 a.at_, .int .i64 a.n, .string a.name, .string a.arg, .string a.exn, .int .i64 a.rho, .slice a.rp a.rn a.rc, .slice a.ep a.en a.ec, .int .u8 a.ty.head.kind, .int .i64 a.ty.head.rho, .slice a.ty.head.ep a.ty.head.en a.ty.head.ec, .slice a.ty.head.kp a.ty.head.kn a.ty.head.kc, .int .u8 a.res.head.kind, .int .i64 a.res.head.rho, .slice a.res.head.ep a.res.head.en a.res.head.ec, .slice a.res.head.kp a.res.head.kn a.res.head.kc, .slice a.kp a.kn a.kc] 31)).alloc (.cells #[.bool fr, .bool fh, .bool fe, .bool ft, .bool fs] 137)).alloc (.cells #[.int .i64 0] 3) = W3 at *
    cases fr <;> cases fh
    all_goals (
      go_wp2_with (go_at_call 122; refine HCF.out.mono ?_; rintro e w4 ⟨rfl, hb⟩; have HB4 := Lib.hid (HB3.out.trans (hb.mono HB3.out.size)); clear hb)
      all_goals (
        go_ret
        refine ⟨ret_bool ?_, by first | exact HB4.out | exact HB3.out⟩
        rw [HQ.out]
        clear c0 c7 c8 d0 f0 f1 HA0 HA3 HCF HB
        simp_all
        try omega))
theorem regions_any (a : AH) (fr fh fe ft fs : Bool) {w : World} (hr : IsRow encN 1 w a.rp a.rn a.rc a.rhos) :
    Calls Tryz.prog 91 #[aggT a, .agg #[.bool fr, .bool fh, .bool fe, .bool ft, .bool fs]] w fun e w' => e = .returned (.bool (regB a fr fh)) ∧ Below w.heap.size w w' := by
  by_cases h13 : a.kind = 13
  · exact regions_13 a fr fh fe ft fs hr h13
  · exact regions_no a fr fh fe ft fs hr h13
end Go.Proofs.YtkdjnegfnhldpaaGreatDoor
end
section
namespace Go.Proofs.YtkdjnegfnhldpaaGreatDoor
open Go.RowKit Go.Lib
set_option maxHeartbeats 1000000 in
theorem values_any (p : Option Addr) (n c : Nat) (w : World) :
    Calls Tryz.prog 125 #[.slice p n c] w fun e w' => e = .returned (.func (.func 173) #[] #[.pointer (some ⟨w.heap.size, 0, none⟩)]) ∧ w' = w.alloc (.cells #[.slice p n c] 24) := by
  go_enter Tryz.func125, Tryz.ntmps125
  go_wp2_with fail
  go_ret
  exact ⟨rfl, rfl⟩
set_option maxHeartbeats 1000000 in
theorem collect_any (Bs : Nat) (sv : Value) (xs : List Int) (hbytes : xs.length * 8 ≤ 140737488351232) (w : World)
    (hBs : Bs < w.heap.size) (hcs : w.cell? ⟨Bs, 0, none⟩ = some sv) (hI : IntsB w.heap.size w sv xs) :
    Calls Tryz.prog 171 #[.func (.func 173) #[] #[.pointer (some ⟨Bs, 0, none⟩)]] w fun e W' => ∃ v, e = .returned v ∧ OwnE encN 1 W' w.heap.size 3 v xs.length xs ∧ Below w.heap.size w W' := by
  have HC := Lib.hid (appendSeq_any Bs sv xs hbytes w hBs hcs hI)
  clear hcs hI
  go_enter Tryz.func171, Tryz.ntmps171
  go_wp2_with (go_at_call 208; refine HC.out.mono ?_; rintro e w2 ⟨v, rfl, hown, hb⟩; have HO := Lib.hid hown; have HB := Lib.hid hb; clear hown hb)
  go_ret
  refine ⟨_, rfl, ?_, HB.out⟩
  show World.ownsRow _ _ _ _ _ _ _
  rw [flatN]
  exact HO.out
theorem intsB_of {w : World} {p : Option Addr} {n c : Nat} {l : List Int} (h : IsRow encN 1 w p n c l) : IntsB w.heap.size w (.slice p n c) l := by
  rcases h.row with h0 | ⟨b, o, hp, hb, hc⟩
  · left
    subst h0
    have : n = 0 := by simpa using h.len.symm
    subst this
    exact ⟨p, c, rfl, rfl⟩
  · refine .inr ⟨b, o, c, by rw [hp, h.len], hb, fun j hj => ?_⟩
    have := hc j (l[j]) (List.getElem?_eq_getElem hj) 0 (.int .i64 l[j]) rfl
    rw [List.getElem?_eq_getElem hj]
    simpa using this
set_option maxHeartbeats 2000000 in
theorem sorted_any (Bs : Nat) (sv : Value) (xs : List Int) (hn : xs.length ≤ 1000000) (w : World)
    (hBs : Bs < w.heap.size) (hcs : w.cell? ⟨Bs, 0, none⟩ = some sv) (hI : IntsB w.heap.size w sv xs) :
    Calls Tryz.prog 124 #[.func (.func 173) #[] #[.pointer (some ⟨Bs, 0, none⟩)]] w fun e W' => ∃ v, e = .returned v ∧ OwnE encN 1 W' w.heap.size 3 v xs.length (msortI xs) ∧ Below w.heap.size w W' := by
  have HC := Lib.hid (collect_any Bs sv xs (by omega) w hBs hcs hI)
  clear hcs hI
  go_enter Tryz.func124, Tryz.ntmps124
  go_upto_region 2 with (go_at_call 171; refine HC.out.mono ?_; rintro e w2 ⟨v, rfl, hown, hb⟩; have HO := Lib.hid hown; have HB := Lib.hid hb; clear hown hb)
  rcases HO.out.2 with ⟨hv, h0⟩ | ⟨g, cap, cur, hv, hb, hg, hn', hm, hs, ht⟩
  · subst hv
    have hx : xs = [] := List.eq_nil_of_length_eq_zero h0
    subst hx
    go_wp2_with (go_at_call 172; refine (Tryz.slices_Sort_int_none none 0 w2).mono ?_; rintro e w3 ⟨rfl, rfl⟩)
    go_ret
    exact ⟨_, rfl, by rw [show msortI [] = [] by simp [msortI]]; exact OwnE.nil _ _ _ _ _, HB.out⟩
  · subst hv
    clear hg hs ht
    go_wp2_with (go_at_call 172; refine (sortN_any g cap xs.length xs w.heap.size w2 HO.out (by omega)).mono ?_; rintro e w3 ⟨rfl, hown3, hg3⟩; have HO3 := Lib.hid hown3; have HB3 := Lib.hid (HB.out.grown hg3 HB.out.size (fun b hb' => by injection hb' with hb'; omega)); clear hown3 hg3)
    go_ret
    exact ⟨_, rfl, HO3.out, HB3.out⟩
def onceB (l : List Int) : Bool := decide (((sortI l).length : Int) = l.length)
set_option maxHeartbeats 2000000 in
theorem once_any {p : Option Addr} {n c : Nat} {l : List Int} {w : World} (h : IsRow encN 1 w p n c l) (hn : n ≤ 1000000) :
    Calls Tryz.prog 92 #[.slice p n c] w fun e w' => e = .returned (.bool (onceB l)) ∧ Below w.heap.size w w' := by
  have HI := Lib.hid (intsB_of h)
  have hln := h.len
  have HLN := Lib.hid hln
  have HB1 := Lib.hid ((Below.refl w.heap.size w).alloc (Nat.le_refl _) (.cells #[.slice p n c] 24))
  have HS := Lib.hid (sorted_any w.heap.size (.slice p n c) l (by omega) (w.alloc (.cells #[.slice p n c] 24)) (by simp) (by rw [cell_new]; rfl) (by
    rcases HI.out.below HB1.out with h | ⟨b, off, cap, h1, h2, h3⟩
    · exact .inl h
    · exact .inr ⟨b, off, cap, h1, by have := HB1.out.size; omega, h3⟩))
  have HM : Hid (compact (msortI l) = sortI l) := compact_msortI l
  clear h hln
  go_enter Tryz.func92, Tryz.ntmps92
  go_upto_region 2 with (first
    | (go_at_call 125; refine (values_any p n c w).mono ?_; rintro e w1 ⟨rfl, rfl⟩)
    | (go_at_call 124; refine HS.out.mono ?_; rintro e w2 ⟨v, rfl, hown, hb⟩; have HO := Lib.hid hown; have HB := Lib.hid (HB1.out.trans (hb.mono HB1.out.size)); clear hown hb))
  have hbool : ∀ m : Nat, ((m : Int) == (n : Int)) = decide ((m : Int) = n) := fun m => rfl
  rcases HO.out.2 with ⟨hv, h0⟩ | ⟨g, cap, cur, hv, hb, hg, hn', hm, hs, ht⟩
  · subst hv
    have hx : l = [] := List.eq_nil_of_length_eq_zero h0
    subst hx
    have hn0 : n = 0 := by simpa using HLN.out.symm
    subst hn0
    go_wp2_with (go_at_call 126; refine (Tryz.slices_Compact_int_empty none 0 w2).mono ?_; rintro e w3 ⟨rfl, rfl⟩)
    go_ret
    exact ⟨rfl, HB.out⟩
  · subst hv
    have hcap : l.length ≤ cap := hn'
    clear hg hs ht
    have hn2 : l.length ≤ 1000000000 := by have := HLN.out; omega
    have HCP := Lib.hid (compactN_any g cap l.length (msortI l) (w.alloc (.cells #[.slice p n c] 24)).heap.size w2 HO.out hcap hn2)
    go_wp2_with (go_at_call 126; refine HCP.out.mono ?_; rintro e w3 ⟨m, rfl, hm1, hown3, hg3⟩; have HO3 := Lib.hid hown3; have HB3 := Lib.hid (HB.out.grown hg3 HB.out.size (fun b hb' => by injection hb' with hb'; have := HB1.out.size; omega)); clear hown3 hg3)
    go_ret
    refine ⟨ret_bool ?_, HB3.out⟩
    have h1 := HO3.out.len encN_len (by omega)
    rw [HM.out] at h1
    unfold onceB
    rw [← h1, HLN.out]
/-! The plain law: the document's regions. -/
theorem sortI_fold (l : List Int) : sortI l = l.foldl (fun e a => putI a e) [] := by
  obtain ⟨h1, h2⟩ := foldI l [] (by simp [Rising])
  exact (eq_sortI h1 (fun x => by rw [h2]; simp)).symm
theorem sortI_snoc (l : List Int) (x : Int) : sortI (l ++ [x]) = putI x (sortI l) := by
  rw [sortI_fold, List.foldl_append, ← sortI_fold]; rfl
theorem snoc_ind {α : Type} {P : List α → Prop} (h0 : P []) (h1 : ∀ l x, P l → P (l ++ [x])) (l : List α) : P l := by
  have : ∀ m : List α, P m.reverse := by
    intro m
    induction m with
    | nil => exact h0
    | cons x m ih => rw [List.reverse_cons]; exact h1 _ x ih
  have h := this l.reverse
  rwa [List.reverse_reverse] at h
theorem sortI_le (l : List Int) : (sortI l).length ≤ l.length := by
  refine snoc_ind (P := fun l => (sortI l).length ≤ l.length) (by simp [sortI_fold]) (fun l x ih => ?_) l
  rw [sortI_snoc]
  have := putI_length x (sortI l)
  simp only [List.length_append, List.length_cons, List.length_nil]
  omega
theorem once_iff (l : List Int) : onceB l = true ↔ ∀ i x, l[i]? = some x → inN (l.take i) x = false := by
  unfold onceB
  rw [decide_eq_true_iff]
  refine snoc_ind (P := fun l => ((sortI l).length : Int) = l.length ↔ ∀ i x, l[i]? = some x → inN (l.take i) x = false) (by simp [sortI_fold]) (fun l x ih => ?_) l
  · rw [sortI_snoc]
    have h1 := sortI_le l
    by_cases hx : inN (sortI l) x = true
    · have h2 : putI x (sortI l) = sortI l := by unfold putI; rw [if_pos hx]
      rw [h2]
      constructor
      · intro h
        simp only [List.length_append, List.length_cons, List.length_nil] at h
        omega
      · intro h
        have h3 := h l.length x (by simp)
        have h4 : x ∈ l := by
          have : x ∈ sortI l := by simpa [inN] using hx
          rwa [mem_sortI] at this
        simp [inN] at h3
        exact absurd rfl (h3 x h4)
    · have h2 : putI x (sortI l) = putPosI x (sortI l) := by unfold putI; rw [if_neg hx]
      rw [h2, putPosI_length]
      have hx' : x ∉ l := by
        intro h
        apply hx
        have : x ∈ sortI l := by rw [mem_sortI]; exact h
        simpa [inN] using this
      simp only [List.length_append, List.length_cons, List.length_nil]
      constructor
      · intro h i y hi
        by_cases hil : i < l.length
        · rw [List.getElem?_append_left hil] at hi
          rw [List.take_append_of_le_length (by omega)]
          exact ih.1 (by omega) i y hi
        · have : i = l.length := by
            have := (List.getElem?_eq_some_iff.1 hi).1
            simp at this; omega
          subst this
          simp at hi
          subst hi
          simp [inN]
          exact fun y hy e => hx' (e ▸ hy)
      · intro h
        have := ih.2 (fun i y hi => by
          have hil : i < l.length := (List.getElem?_eq_some_iff.1 hi).1
          have := h i y (by rw [List.getElem?_append_left hil]; exact hi)
          rwa [List.take_append_of_le_length (by omega)] at this)
        omega
end Go.Proofs.YtkdjnegfnhldpaaGreatDoor
end
section
namespace Go.Proofs.YtkdjnegfnhldpaaGreatDoor
open Go.RowKit
def nodeM (a : AH) : Bool :=
  headB a.hd a.kn && regB a (inB [3, 6, 11, 13, 17, 18] a.kind) ((a.kind == 13) || (a.kind == 18)) && (!(a.kind == 13) || onceB a.rhos) && (!(inB [11, 13, 18] a.kind) || mayB a.eff) && (inB [11, 13, 18] a.kind || !decide (0 < a.en)) &&
    (fitsT (inB [11, 13, 15] a.kind) a.ty && fitsT (a.kind == 13) a.res)
theorem rhosB_iff (k : Int) (l : List Int) : rhosB k l l.length = true ↔ (∀ r ∈ l, ¬ r < 0) ∧ (k = 13 → (∀ r ∈ l, ¬ r < 1) ∧ onceB l = true) := by
  unfold rhosB
  rw [List.all_eq_true, once_iff]
  constructor
  · intro h
    have h' : ∀ i x, l[i]? = some x → rhoB k l i x = true := by
      intro i x hx
      have hi := (List.getElem?_eq_some_iff.1 hx).1
      have := h i (List.mem_range.2 hi)
      rw [hx] at this
      exact this
    refine ⟨fun r hr => ?_, fun hk => ⟨fun r hr => ?_, fun i x hx => ?_⟩⟩
    · obtain ⟨i, hi⟩ := List.getElem?_of_mem hr
      have := h' i r hi
      unfold rhoB at this
      simp at this
      omega
    · obtain ⟨i, hi⟩ := List.getElem?_of_mem hr
      have := h' i r hi
      unfold rhoB at this
      simp [hk] at this
      omega
    · have := h' i x hx
      unfold rhoB at this
      simp only [hk, beq_self_eq_true, Bool.true_and, Bool.not_eq_true', Bool.or_eq_false_iff] at this
      exact this.2.2
  · rintro ⟨h1, h2⟩ i hi
    have hi := List.mem_range.1 hi
    rw [List.getElem?_eq_getElem hi]
    have h3 := h1 _ (List.getElem_mem hi)
    show rhoB k l i l[i] = true
    unfold rhoB
    have e1 : decide (l[i] < 0) = false := by simpa using h3
    rw [e1]
    by_cases hk : k = 13
    · obtain ⟨h4, h5⟩ := h2 hk
      have h6 := h4 _ (List.getElem_mem hi)
      have e2 : (l[i] == 0) = false := by simp; omega
      rw [e2, h5 i _ (List.getElem?_eq_getElem hi)]
      simp
    · have e2 : (k == 13) = false := by simpa using hk
      rw [e2]; rfl
theorem nodeM_eq (a : AH) (hr : a.rhos.length = a.rn) (he : a.eff.length = a.en) : nodeM a = node13 a := by
  have hmay : a.en = 0 → mayB a.eff = true := by
    intro h
    have : a.eff = [] := List.eq_nil_of_length_eq_zero (by omega)
    rw [this]
    decide
  have hrho : rhosB a.kind a.rhos a.rn = (!(a.rhos.any (fun r => decide (r < if a.kind = 13 then 1 else 0))) && (!(a.kind == 13) || onceB a.rhos)) := by
    rw [← hr, Bool.eq_iff_iff, rhosB_iff]
    by_cases hk : a.kind = 13
    · simp only [hk, if_true, forall_const, beq_self_eq_true, Bool.not_true, Bool.false_or, Bool.and_eq_true, Bool.not_eq_true', List.any_eq_false, decide_eq_true_eq]
      constructor
      · rintro ⟨_, h2, h3⟩; exact ⟨h2, h3⟩
      · rintro ⟨h2, h3⟩; exact ⟨fun r hr' h => h2 r hr' (by omega), h2, h3⟩
    · have e2 : (a.kind == 13) = false := by simpa using hk
      simp only [hk, if_false, e2, Bool.not_false, Bool.true_or, Bool.and_true, Bool.not_eq_true', List.any_eq_false, decide_eq_true_eq, false_implies, and_true]
  unfold nodeM node13 regB fitsT
  rw [hrho]
  generalize a.rhos.any (fun r => decide (r < if a.kind = 13 then 1 else 0)) = R
  generalize onceB a.rhos = O
  generalize headB a.hd a.kn = H
  generalize mayT a.ty.er = T1
  generalize mayT a.res.er = T2
  generalize plainB a.ty.head = P1
  generalize plainB a.res.head = P2
  have e13 : (a.kind != 13) = !(a.kind == 13) := rfl
  have e18 : (a.kind != 18) = !(a.kind == 18) := rfl
  have e0 : (a.rho != 0) = !(a.rho == 0) := rfl
  have e1 : decide (a.rho < 1) = (decide (a.rho < 0) || (a.rho == 0)) := by
    rw [Bool.eq_iff_iff]; simp; omega
  have em : decide (0 < a.en) = false → mayB a.eff = true := fun h => hmay (by simpa using h)
  rw [e13, e18, e0, e1]
  generalize (a.kind == 13) = K13 at *
  generalize (a.kind == 18) = K18 at *
  generalize (a.kind == 17) = K17 at *
  generalize (a.rho == 0) = Z at *
  generalize decide (a.rho < 0) = N at *
  generalize decide (0 < a.rn) = RN at *
  generalize decide (0 < a.en) = EN at *
  generalize mayB a.eff = M at *
  generalize inB [3, 6, 11, 13, 17, 18] a.kind = I1 at *
  generalize inB [11, 13, 18] a.kind = I2 at *
  generalize inB [11, 13, 15] a.kind = I3 at *
  clear hr he hmay hrho e13 e18 e0 e1
  clear a
  grind
end Go.Proofs.YtkdjnegfnhldpaaGreatDoor
end
section
namespace Go.Proofs.YtkdjnegfnhldpaaGreatDoor
open Go.RowKit
structure NodeOk (a : AH) : Prop where
  k1 : 1 ≤ a.kind
  k18 : a.kind ≤ 18
  kids : kidsI (if a.kind = 17 then 4 else if a.kind = 18 then 1 else a.kind) = a.kn
  op : a.kind = 9 → 1 ≤ a.op ∧ a.op ≤ 5
  op0 : a.kind ≠ 9 → a.op = 0
  n : 0 ≤ a.n
  n0 : a.kind ≠ 1 → a.n = 0
  name : (a.kind = 2 ∨ a.kind = 12 ∨ a.kind = 13 ∨ a.kind = 18) → nameB a.name = true
  name0 : ¬ (a.kind = 2 ∨ a.kind = 12 ∨ a.kind = 13 ∨ a.kind = 18) → a.name.size = 0
  arg : (a.kind = 11 ∨ a.kind = 13 ∨ a.kind = 16) → nameB a.arg = true
  arg0 : ¬ (a.kind = 11 ∨ a.kind = 13 ∨ a.kind = 16) → a.arg.size = 0
  exn : (a.kind = 15 ∨ a.kind = 16) → exnB a.exn = true
  exn0 : ¬ (a.kind = 15 ∨ a.kind = 16) → a.exn.size = 0
  rho : 0 ≤ a.rho
  rho0 : inB [3, 6, 11, 13, 17, 18] a.kind = false → a.rho = 0
  rhos : ∀ r ∈ a.rhos, 0 ≤ r
  rhos0 : a.kind ≠ 13 → a.kind ≠ 18 → a.rn = 0
  eff : mayB a.eff = true
  eff0 : inB [11, 13, 18] a.kind = false → a.en = 0
  ty : inB [11, 13, 15] a.kind = true → mayT a.ty.er = true
  ty0 : inB [11, 13, 15] a.kind = false → plainB a.ty.head = true
  res : a.kind = 13 → mayT a.res.er = true
  res0 : a.kind ≠ 13 → plainB a.res.head = true
theorem fitsB_true {b : Bool} {s : ByteArray} {q : Bool} (h : fitsB b s q = true) : (b = true → q = true) ∧ (b = false → s.size = 0) := by
  unfold fitsB at h
  cases b
  · simpa using h
  · simpa using h
theorem node4B_ok {k op at_ n : Int} {name arg exn : ByteArray} {m : Nat} (h : node4B ⟨k, op, at_, n, name, arg, exn⟩ m = true) :
    0 ≤ kidsI k ∧ (m : Int) = kidsI k ∧ (k = 9 → 1 ≤ op ∧ op ≤ 5) ∧ (k ≠ 9 → op = 0) ∧ 0 ≤ n ∧ (k ≠ 1 → n = 0) ∧
      ((wName k = true → nameB name = true) ∧ (wName k = false → name.size = 0)) ∧ ((wArg k = true → nameB arg = true) ∧ (wArg k = false → arg.size = 0)) ∧ ((wExn k = true → exnB exn = true) ∧ (wExn k = false → exn.size = 0)) := by
  unfold node4B at h
  simp only [Bool.and_eq_true, Bool.not_eq_true', Bool.or_eq_false_iff, decide_eq_false_iff_not, Bool.and_eq_false_imp, bne_eq_false_iff_eq] at h
  obtain ⟨⟨⟨⟨⟨h1, h2⟩, h3⟩, h4, h5⟩, ⟨h6, h7⟩, h8⟩, ⟨h9, h10⟩, h11⟩ := h
  refine ⟨by omega, h2, fun hk => ?_, fun hk => ?_, by omega, fun hk => ?_, fitsB_true h9, fitsB_true h10, fitsB_true h11⟩
  · have := h4 (by simp [hk])
    omega
  · exact h5 (by simp [hk])
  · exact h8 (by simp [hk])
theorem wName_iff (k : Int) : (wName k = true ↔ k = 2 ∨ k = 12 ∨ k = 13) ∧ (wName k = false ↔ ¬ (k = 2 ∨ k = 12 ∨ k = 13)) := by
  unfold wName
  constructor
  · simp only [Bool.or_eq_true, beq_iff_eq]; omega
  · simp only [Bool.or_eq_false_iff, beq_eq_false_iff_ne]; omega
theorem wArg_iff (k : Int) : (wArg k = true ↔ k = 11 ∨ k = 13 ∨ k = 16) ∧ (wArg k = false ↔ ¬ (k = 11 ∨ k = 13 ∨ k = 16)) := by
  unfold wArg
  constructor
  · simp only [Bool.or_eq_true, beq_iff_eq]; omega
  · simp only [Bool.or_eq_false_iff, beq_eq_false_iff_ne]; omega
theorem wExn_iff (k : Int) : (wExn k = true ↔ k = 15 ∨ k = 16) ∧ (wExn k = false ↔ ¬ (k = 15 ∨ k = 16)) := by
  unfold wExn
  constructor
  · simp only [Bool.or_eq_true, beq_iff_eq]
  · simp only [Bool.or_eq_false_iff, beq_eq_false_iff_ne]; omega
theorem kidsI_rng {k : Int} (h : 0 ≤ kidsI k) : 1 ≤ k ∧ k ≤ 16 := by
  by_cases h1 : 1 ≤ k ∧ k ≤ 16
  · exact h1
  · have : kidsI k = -1 := by unfold kidsI; rw [if_neg (by omega), if_neg (by omega), if_neg (by omega), if_neg (by omega)]
    omega
theorem kidsI_le (k : Int) : kidsI k ≤ 3 := by
  unfold kidsI
  split
  · omega
  · split
    · omega
    · split
      · omega
      · split <;> omega
theorem headB_ok (k op at_ n : Int) (name arg exn : ByteArray) (m : Nat) (h : headB ⟨k, op, at_, n, name, arg, exn⟩ m = true) :
    1 ≤ k ∧ k ≤ 18 ∧ kidsI (if k = 17 then 4 else if k = 18 then 1 else k) = m ∧ (k = 9 → 1 ≤ op ∧ op ≤ 5) ∧ (k ≠ 9 → op = 0) ∧ 0 ≤ n ∧ (k ≠ 1 → n = 0) ∧
      ((k = 2 ∨ k = 12 ∨ k = 13 ∨ k = 18) → nameB name = true) ∧ (¬ (k = 2 ∨ k = 12 ∨ k = 13 ∨ k = 18) → name.size = 0) ∧
      ((k = 11 ∨ k = 13 ∨ k = 16) → nameB arg = true) ∧ (¬ (k = 11 ∨ k = 13 ∨ k = 16) → arg.size = 0) ∧ ((k = 15 ∨ k = 16) → exnB exn = true) ∧ (¬ (k = 15 ∨ k = 16) → exn.size = 0) := by
  unfold headB at h
  split at h
  · rename_i h17
    have h17 : k = 17 := h17
    subst h17
    simp only [bareB, Bool.and_eq_true, beq_iff_eq, toList_empty, decide_eq_true_eq] at h
    obtain ⟨⟨⟨⟨⟨⟨h1, h2⟩, h3⟩, h4⟩, h5⟩, h6⟩, h7⟩ := h
    refine ⟨by omega, by omega, ?_, by omega, fun _ => h1, by omega, fun _ => h2, by omega, fun _ => h5, by omega, fun _ => h3, by omega, fun _ => h4⟩
    rw [h7]; rfl
  · rename_i h17
    have h17 : ¬ k = 17 := h17
    split at h
    · rename_i h18
      have h18 : k = 18 := h18
      subst h18
      simp only [bareB, Bool.and_eq_true, beq_iff_eq, toList_empty, decide_eq_true_eq] at h
      obtain ⟨⟨⟨⟨⟨⟨h1, h2⟩, h3⟩, h4⟩, h5⟩, h6⟩, h7⟩ := h
      refine ⟨by omega, by omega, ?_, by omega, fun _ => h1, by omega, fun _ => h2, fun _ => h5, by omega, by omega, fun _ => h3, by omega, fun _ => h4⟩
      rw [h7]; rfl
    · rename_i h18
      have h18 : ¬ k = 18 := h18
      obtain ⟨h1, h2, h3, h4, h5, h6, ⟨h7, h7'⟩, ⟨h8, h8'⟩, ⟨h9, h9'⟩⟩ := node4B_ok h
      obtain ⟨hr1, hr2⟩ := kidsI_rng h1
      have hm : (m : Int) = kidsI k := by
        have := kidsI_le k
        rw [Nat.min_def] at h2
        split at h2 <;> omega
      refine ⟨hr1, by omega, by rw [if_neg h17, if_neg h18, hm], h3, h4, h5, h6, fun hk => h7 ((wName_iff k).1.2 (by omega)), fun hk => h7' ((wName_iff k).2.2 (by omega)), fun hk => h8 ((wArg_iff k).1.2 hk), fun hk => h8' ((wArg_iff k).2.2 hk), fun hk => h9 ((wExn_iff k).1.2 hk), fun hk => h9' ((wExn_iff k).2.2 hk)⟩
theorem node_ok {a : AH} (h : node13 a = true) (hr : a.rhos.length = a.rn) : NodeOk a := by
  unfold node13 at h
  simp only [Bool.and_eq_true, Bool.not_eq_true', Bool.or_eq_false_iff, Bool.and_eq_false_imp, Bool.or_eq_true, decide_eq_false_iff_not, Bool.not_eq_false', bne_iff_ne, beq_iff_eq, bne_eq_false_iff_eq, beq_eq_false_iff_ne] at h
  obtain ⟨⟨⟨⟨⟨⟨⟨⟨h1, h2⟩, h3⟩, h4⟩, h5⟩, h6⟩, ⟨h7, h8⟩⟩, ⟨h9, h10⟩⟩, h11⟩ := h
  obtain ⟨k1, k2, k3, k4, k5, k6, k7, k8, k9, k10, k11, k12, k13⟩ := headB_ok _ _ _ _ _ _ _ _ h1
  rw [← hr, rhosB_iff] at h6
  refine ⟨k1, k2, k3, k4, k5, k6, k7, k8, k9, k10, k11, k12, k13, by omega, fun h => h4 h, fun r hr => by have := h6.1 r hr; omega, fun ha hb => by have := h5 ⟨ha, hb⟩; omega, h8, fun h => by have := h7 h; omega, h9, h10, fun h => ?_, fun h => ?_⟩
  · rcases h11 with ⟨_, h11⟩ | ⟨h11, _⟩
    · exact h11
    · exact absurd h h11
  · rcases h11 with ⟨h11, _⟩ | ⟨_, h11⟩
    · exact absurd h11 h
    · exact h11
end Go.Proofs.YtkdjnegfnhldpaaGreatDoor
end
