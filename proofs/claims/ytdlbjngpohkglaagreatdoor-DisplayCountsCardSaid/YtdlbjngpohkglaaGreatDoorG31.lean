/- Part 31 of the texts: Node, Hdd. -/
import Derived.Test.YtdlbjngpohkglaaGreatDoorG30
section
set_option linter.unusedVariables false
set_option maxRecDepth 100000
set_option linter.unusedSimpArgs false
namespace Go.Proofs.YtdlbjngpohkglaaGreatDoor
open Go.RowKit

/-- which fields a kind has -/
def ofB (k : Int) : Value := .agg #[.bool (inB [3, 6, 11, 13, 17, 18] k), .bool ((k == 13) || (k == 18)), .bool (inB [11, 13, 18] k), .bool (inB [11, 13, 15] k), .bool (k == 13)]
set_option maxHeartbeats 2000000 in
theorem of_any (k : Int) (w : World) : Calls Tryz.prog 69 #[.int .u8 k] w fun e w' => e = .returned (ofB k) ∧ Below w.heap.size w w' := by
  by_cases h3 : k = 3
  · subst h3
    go_enter Tryz.func69, Tryz.ntmps69
    go_wp2_with fail
    refine bodyPost_ret (results_cell_row rfl _ _ _ _ _ _ _ rfl (heap_alloc_new w _) Tryz.underlying99 rfl (by kernel_rfl)) rfl ?_
    exact ⟨rfl, (Below.refl _ _).alloc (Nat.le_refl _) _⟩
  have b3 : (k == 3) = false := by simpa using h3
  by_cases h6 : k = 6
  · subst h6
    go_enter Tryz.func69, Tryz.ntmps69
    go_wp2_with fail
    refine bodyPost_ret (results_cell_row rfl _ _ _ _ _ _ _ rfl (heap_alloc_new w _) Tryz.underlying99 rfl (by kernel_rfl)) rfl ?_
    exact ⟨rfl, (Below.refl _ _).alloc (Nat.le_refl _) _⟩
  have b6 : (k == 6) = false := by simpa using h6
  by_cases h17 : k = 17
  · subst h17
    go_enter Tryz.func69, Tryz.ntmps69
    go_wp2_with fail
    refine bodyPost_ret (results_cell_row rfl _ _ _ _ _ _ _ rfl (heap_alloc_new w _) Tryz.underlying99 rfl (by kernel_rfl)) rfl ?_
    exact ⟨rfl, (Below.refl _ _).alloc (Nat.le_refl _) _⟩
  have b17 : (k == 17) = false := by simpa using h17
  by_cases h11 : k = 11
  · subst h11
    go_enter Tryz.func69, Tryz.ntmps69
    go_wp2_with fail
    refine bodyPost_ret (results_cell_row rfl _ _ _ _ _ _ _ rfl (heap_alloc_new w _) Tryz.underlying99 rfl (by kernel_rfl)) rfl ?_
    exact ⟨rfl, (Below.refl _ _).alloc (Nat.le_refl _) _⟩
  have b11 : (k == 11) = false := by simpa using h11
  by_cases h13 : k = 13
  · subst h13
    go_enter Tryz.func69, Tryz.ntmps69
    go_wp2_with fail
    refine bodyPost_ret (results_cell_row rfl _ _ _ _ _ _ _ rfl (heap_alloc_new w _) Tryz.underlying99 rfl (by kernel_rfl)) rfl ?_
    exact ⟨rfl, (Below.refl _ _).alloc (Nat.le_refl _) _⟩
  have b13 : (k == 13) = false := by simpa using h13
  by_cases h15 : k = 15
  · subst h15
    go_enter Tryz.func69, Tryz.ntmps69
    go_wp2_with fail
    refine bodyPost_ret (results_cell_row rfl _ _ _ _ _ _ _ rfl (heap_alloc_new w _) Tryz.underlying99 rfl (by kernel_rfl)) rfl ?_
    exact ⟨rfl, (Below.refl _ _).alloc (Nat.le_refl _) _⟩
  have b15 : (k == 15) = false := by simpa using h15
  by_cases h18 : k = 18
  · subst h18
    go_enter Tryz.func69, Tryz.ntmps69
    go_wp2_with fail
    refine bodyPost_ret (results_cell_row rfl _ _ _ _ _ _ _ rfl (heap_alloc_new w _) Tryz.underlying99 rfl (by kernel_rfl)) rfl ?_
    exact ⟨rfl, (Below.refl _ _).alloc (Nat.le_refl _) _⟩
  have b18 : (k == 18) = false := by simpa using h18
  have hz : Hid (ofB k = .agg #[.bool false, .bool false, .bool false, .bool false, .bool false]) := by
    show _ = _
    have c3 : ((3 : Int) == k) = false := by rw [BEq.comm]; exact b3
    have c6 : ((6 : Int) == k) = false := by rw [BEq.comm]; exact b6
    have c17 : ((17 : Int) == k) = false := by rw [BEq.comm]; exact b17
    have c11 : ((11 : Int) == k) = false := by rw [BEq.comm]; exact b11
    have c13 : ((13 : Int) == k) = false := by rw [BEq.comm]; exact b13
    have c15 : ((15 : Int) == k) = false := by rw [BEq.comm]; exact b15
    have c18 : ((18 : Int) == k) = false := by rw [BEq.comm]; exact b18
    simp only [ofB, inB, List.any_cons, List.any_nil, c3, c6, c17, c11, c13, c15, c18, b13, b18, Bool.or_false]
  clear h3 h6 h17 h11 h13 h15 h18
  go_enter Tryz.func69, Tryz.ntmps69
  go_wp2_with fail
  refine bodyPost_ret (results_cell_row rfl _ _ _ _ _ _ _ rfl (heap_alloc_new w _) Tryz.underlying99 rfl (by kernel_rfl)) rfl ?_
  exact ⟨by rw [hz.out], (Below.refl _ _).alloc (Nat.le_refl _) _⟩
/-- is a type there just where it should be? -/
def fitsT (there : Bool) (t : PT) : Bool := if there then mayT t.er else plainB t.head
set_option maxHeartbeats 2000000 in
theorem aterm_fits_any (there : Bool) (t : PT) {w : World} (hl : LR.lies w t) (h1 : t.head.en ≤ 1000000) (h2 : t.head.kn ≤ 1000000) :
    Calls Tryz.prog 74 #[.bool there, aggR t.head] w fun e w' => e = .returned (.bool (fitsT there t)) ∧ Below w.heap.size w w' := by
  have HB := Lib.hid ((Below.refl w.heap.size w).alloc (Nat.le_refl _) (.cells #[.int .u8 t.head.kind, .int .i64 t.head.rho, .slice t.head.ep t.head.en t.head.ec, .slice t.head.kp t.head.kn t.head.kc] 28))
  have HL := Lib.hid (LR.lies_below HB.out t hl)
  clear hl
  cases there with
  | true =>
    go_enter Tryz.func74, Tryz.ntmps74
    go_wp2_with (go_at_call 93; refine (rtype_May_one HL.out rfl _ (by simp)).mono ?_; rintro e w2 ⟨rfl, hb⟩; have HB2 := Lib.hid hb; clear hb)
    go_ret
    exact ⟨rfl, HB.out.trans (((Below.refl _ _).alloc (Nat.le_refl _) _ |>.trans (HB2.out.mono (by simp))).mono HB.out.size)⟩
  | false =>
    have hw : IntKind.i64.wrap ((t.head.en : Int) + t.head.kn) = (t.head.en : Int) + t.head.kn := IntWalk.i64_in _ (by omega)
    have HP : Hid (plainB t.head = ((t.head.kind == 0) && (t.head.rho == 0) && ((t.head.en : Int) + t.head.kn == 0))) := by
      show _ = _
      unfold plainB
      rw [Bool.and_assoc (_ && _)]
      congr 1
      rw [Bool.eq_iff_iff]
      simp only [Bool.and_eq_true, beq_iff_eq]
      omega
    cases hk : (t.head.kind == 0) with
    | false =>
      rw [hk] at HP
      go_enter Tryz.func74, Tryz.ntmps74
      go_wp2_with fail
      go_ret
      exact ⟨ret_bool (by show _ = plainB _; rw [HP.out]; rfl), HB.out⟩
    | true =>
      rw [hk] at HP
      cases hr : (t.head.rho == 0) with
      | false =>
        rw [hr] at HP
        go_enter Tryz.func74, Tryz.ntmps74
        go_wp2_with fail
        go_ret
        exact ⟨ret_bool (by show _ = plainB _; rw [HP.out]; rfl), HB.out⟩
      | true =>
        rw [hr] at HP
        go_enter Tryz.func74, Tryz.ntmps74
        go_wp2_with fail
        go_ret
        exact ⟨ret_bool (by show _ = plainB _; rw [HP.out]; simp), HB.out⟩
end Go.Proofs.YtdlbjngpohkglaaGreatDoor
end
section
set_option linter.unusedVariables false
set_option maxRecDepth 100000
set_option linter.unusedSimpArgs false
namespace Go.Proofs.YtdlbjngpohkglaaGreatDoor
open Go.RowKit

theorem BoxA.range {W : World} {b : Nat} {a : AH} (h : BoxA W b a) : W.rangeAt b 0 (encAH a) := fun j v hj => by rw [Nat.zero_add]; exact h.c j v hj
set_option maxHeartbeats 4000000 in
theorem headed_region (a : AH) (h17 : a.kind = 17) (hk : a.kn ≤ 1000000) (w : World) :
    Calls Tryz.prog 70 #[aggT a] w fun e w' => e = .returned (.bool (headB a.hd a.kn)) ∧ Below w.heap.size w w' := by
  have HB := Lib.hid ((Below.refl w.heap.size w).alloc (Nat.le_refl _) (boxA a))
  have HA := Lib.hid (boxA_new w a)
  have e17 : (a.kind == 17) = true := by simp [h17]
  have E17 := Lib.hid h17
  clear h17
  go_enter Tryz.func70, Tryz.ntmps70
  go_upto_region 3 with fail
  obtain ⟨c0, c1, c2, c3, c4, c5, c6, c7, c8, c9, c10, c11, c12, c13, c14, c15, c16, c17, c18⟩ := HA.out.all
  clear c7 c8 c9 c10 c11 c12 c13 c14 c15 c16 c17
  generalize w.alloc (.cells #[.int .u8 a.kind, .int .u8 a.op, .int .i64 a.at_, .int .i64 a.n, .string a.name, .string a.arg, .string a.exn, .int .i64 a.rho, .slice a.rp a.rn a.rc, .slice a.ep a.en a.ec, .int .u8 a.ty.head.kind, .int .i64 a.ty.head.rho, .slice a.ty.head.ep a.ty.head.en a.ty.head.ec, .slice a.ty.head.kp a.ty.head.kn a.ty.head.kc, .int .u8 a.res.head.kind, .int .i64 a.res.head.rho, .slice a.res.head.ep a.res.head.en a.res.head.ec, .slice a.res.head.kp a.res.head.kn a.res.head.kc, .slice a.kp a.kn a.kc] 31) = W1 at *
  go_wp2_with fail
  all_goals (
    go_ret
    refine ⟨ret_bool ?_, HB.out⟩
    unfold headB
    rw [if_pos (show a.hd.kind = 17 from E17.out)]
    clear c0 c1 c2 c3 c4 c5 c6 c18
    simp_all [bareB, AH.hd]
    try (intros; omega))
/-- four kids are too many -/
theorem node4B_many (h : HeadV) (n : Nat) (hn : 3 < n) : node4B h n = false := by
  have hk : kidsI h.kind ≤ 3 := by
    unfold kidsI
    split
    · omega
    · split
      · omega
      · split
        · omega
        · split <;> omega
  have : ((n : Int) != kidsI h.kind) = true := by simp; omega
  unfold node4B
  rw [this]
  simp
theorem headB_other {a : AH} (h17 : a.kind ≠ 17) (h18 : a.kind ≠ 18) : headB a.hd a.kn = (decide ((a.kn : Int) ≤ 3) && node4B a.hd a.kn) := by
  unfold headB
  rw [if_neg (show ¬ a.hd.kind = 17 from h17), if_neg (show ¬ a.hd.kind = 18 from h18)]
  by_cases h : a.kn ≤ 3
  · have e : decide ((a.kn : Int) ≤ 3) = true := by simp; omega
    rw [e, Nat.min_eq_left (by omega)]; rfl
  · have e : decide ((a.kn : Int) ≤ 3) = false := by simp; omega
    rw [e, node4B_many _ _ (by omega)]; rfl
theorem toList_empty (s : ByteArray) : s.toList.isEmpty = decide (s.size = 0) := by
  rw [Lib.toList_data]
  obtain ⟨⟨l⟩⟩ := s
  cases l with
  | nil => rfl
  | cons b l => show false = decide (l.length + 1 = 0); simp
theorem headB_inst' (op at_ z : Int) (name arg exn : ByteArray) (m : Nat) : headB ⟨18, op, at_, z, name, arg, exn⟩ m = (decide ((m : Int) ≤ 3) && node4B ⟨2, op, at_, z, name, arg, exn⟩ m) := by
  show (bareB ⟨18, op, at_, z, name, arg, exn⟩ && nameB name && decide (0 ≤ at_) && ((m : Int) == 0)) = (decide ((m : Int) ≤ 3) && (!(decide ((0 : Int) < 0) || ((m : Int) != 0) || decide (at_ < 0)) && !(false || true && (op != 0)) && !(decide (z < 0) || decide (2147483647 < z) || true && (z != 0)) && (fitsB true name (nameB name) && fitsB false arg (nameB arg) && fitsB false exn (exnB exn))))
  show (((op == 0) && (z == 0) && arg.toList.isEmpty && exn.toList.isEmpty) && nameB name && decide (0 ≤ at_) && ((m : Int) == 0)) = _
  unfold fitsB
  rw [toList_empty, toList_empty]
  rw [Bool.eq_iff_iff]
  simp only [Bool.and_eq_true, Bool.or_eq_true, Bool.not_eq_true', Bool.or_eq_false_iff, beq_iff_eq, bne_iff_ne, decide_eq_true_eq, decide_eq_false_iff_not, bne_eq_false_iff_eq, Bool.false_or, Bool.true_and, Bool.not_true, Bool.not_false, Bool.or_false, Bool.false_and]
  constructor
  · rintro ⟨⟨⟨⟨⟨⟨h1, h2⟩, h3⟩, h4⟩, h5⟩, h6⟩, h7⟩
    exact ⟨by omega, ⟨⟨⟨by omega, by omega⟩, h1⟩, by omega, by omega⟩, ⟨h5, h3⟩, h4⟩
  · rintro ⟨h1, ⟨⟨⟨⟨_, h2⟩, h3⟩, h4⟩, h5, h6⟩, ⟨h7, h8⟩, h9⟩
    exact ⟨⟨⟨⟨⟨⟨h4, h6⟩, h8⟩, h9⟩, h7⟩, by omega⟩, h2⟩
set_option maxHeartbeats 4000000 in
theorem headed_other (a : AH) (h17 : a.kind ≠ 17) (h18 : a.kind ≠ 18) (hk0 : 0 ≤ a.kind) (hk1 : a.kind ≤ 255) (hk : a.kn ≤ 1000000) {w : World} (hv : Vr w) :
    Calls Tryz.prog 70 #[aggT a] w fun e w' => e = .returned (.bool (headB a.hd a.kn)) ∧ Below w.heap.size w w' := by
  have HB := Lib.hid ((Below.refl w.heap.size w).alloc (Nat.le_refl _) (boxA a))
  have HA := Lib.hid (boxA_new w a)
  have HV := Lib.hid hv
  have HR := Lib.hid (headB_other h17 h18)
  have e17 : (a.kind == 17) = false := by simpa using h17
  have e18 : (a.kind == 18) = false := by simpa using h18
  clear h17 h18 hv
  by_cases h3 : a.kn ≤ 3
  · have hle : decide ((a.kn : Int) ≤ 3) = true := by simp; omega
    rw [hle, Bool.true_and] at HR
    go_enter Tryz.func70, Tryz.ntmps70
    go_upto_region 2 with fail
    obtain ⟨c0, c1, c2, c3, c4, c5, c6, c7, c8, c9, c10, c11, c12, c13, c14, c15, c16, c17, c18⟩ := HA.out.all
    clear c1 c2 c3 c4 c5 c6 c7 c8 c9 c10 c11 c12 c13 c14 c15 c16 c17
    go_wp2_with (first
      | (refine wpList_load_midG (by rfl) 31 _ rfl w.heap.size 0 rfl [.int .u8 a.kind, .int .u8 a.op, .int .i64 a.at_, .int .i64 a.n, .string a.name, .string a.arg, .string a.exn, .int .i64 a.rho, .slice a.rp a.rn a.rc, .slice a.ep a.en a.ec, .int .u8 a.ty.head.kind, .int .i64 a.ty.head.rho, .slice a.ty.head.ep a.ty.head.en a.ty.head.ec, .slice a.ty.head.kp a.ty.head.kn a.ty.head.kc, .int .u8 a.res.head.kind, .int .i64 a.res.head.rho, .slice a.res.head.ep a.res.head.en a.res.head.ec, .slice a.res.head.kp a.res.head.kn a.res.head.kc, .slice a.kp a.kn a.kc] _ HA.out.range Tryz.underlying31 rfl (by kernel_rfl) ?_)
      | (go_at_call 85; refine (aterm_stub_any a (show a.kn ≤ 1000 by omega) _).mono ?_; rintro e w2 ⟨⟨p2, c2', rfl, hrow⟩, hb⟩; have HROW := Lib.hid hrow; have HB2 := Lib.hid (HB.out.trans (hb.mono HB.out.size)); clear hrow hb)
      | (go_at_call 84; refine (term_May_stub (HV.out.below HB2.out) (t := ⟨(a : AH).hd, p2, a.kn, c2'⟩) HROW.out (show a.kn ≤ 1000 by omega) hk0 hk1).mono ?_; rintro e w3 ⟨rfl, hb⟩; have HB3 := Lib.hid (HB2.out.trans (hb.mono HB2.out.size)); clear hb))
    go_ret
    exact ⟨ret_bool HR.out.symm, HB3.out⟩
  · have hle : decide ((a.kn : Int) ≤ 3) = false := by simp; omega
    rw [hle, Bool.false_and] at HR
    go_enter Tryz.func70, Tryz.ntmps70
    go_upto_region 2 with fail
    obtain ⟨c0, c1, c2, c3, c4, c5, c6, c7, c8, c9, c10, c11, c12, c13, c14, c15, c16, c17, c18⟩ := HA.out.all
    clear c1 c2 c3 c4 c5 c6 c7 c8 c9 c10 c11 c12 c13 c14 c15 c16 c17
    go_wp2_with fail
    go_ret
    exact ⟨ret_bool HR.out.symm, HB.out⟩
set_option maxHeartbeats 4000000 in
theorem headed_inst (a : AH) (h18 : a.kind = 18) (hk : a.kn ≤ 1000000) {w : World} (hv : Vr w) :
    Calls Tryz.prog 70 #[aggT a] w fun e w' => e = .returned (.bool (headB a.hd a.kn)) ∧ Below w.heap.size w w' := by
  have HB0 := Lib.hid ((Below.refl w.heap.size w).alloc (Nat.le_refl _) (boxA a))
  have HB := Lib.hid ((Below.refl w.heap.size w).alloc (Nat.le_refl _) (boxA {a with kind := 2}))
  have HA0 := Lib.hid (boxA_new w a)
  have HA := Lib.hid (boxA_new w {a with kind := 2})
  have HV := Lib.hid hv
  have HR : Hid (headB a.hd a.kn = (decide ((a.kn : Int) ≤ 3) && node4B ({a with kind := 2} : AH).hd a.kn)) := by
    show _ = _
    have := headB_inst' a.op a.at_ a.n a.name a.arg a.exn a.kn
    rw [← h18] at this
    exact this
  have e17 : (a.kind == 17) = false := by simp; omega
  have e18 : (a.kind == 18) = true := by simpa using h18
  clear h18 hv
  go_enter Tryz.func70, Tryz.ntmps70
  have c18 := HA.out.c 18 _ rfl
  by_cases h3 : a.kn ≤ 3
  · have hle : decide ((a.kn : Int) ≤ 3) = true := by simp; omega
    rw [hle, Bool.true_and] at HR
    go_upto_region 6 with fail
    go_wp2_with (first
      | (refine wpList_load_midG (by rfl) 31 _ rfl w.heap.size 0 rfl [.int .u8 2, .int .u8 a.op, .int .i64 a.at_, .int .i64 a.n, .string a.name, .string a.arg, .string a.exn, .int .i64 a.rho, .slice a.rp a.rn a.rc, .slice a.ep a.en a.ec, .int .u8 a.ty.head.kind, .int .i64 a.ty.head.rho, .slice a.ty.head.ep a.ty.head.en a.ty.head.ec, .slice a.ty.head.kp a.ty.head.kn a.ty.head.kc, .int .u8 a.res.head.kind, .int .i64 a.res.head.rho, .slice a.res.head.ep a.res.head.en a.res.head.ec, .slice a.res.head.kp a.res.head.kn a.res.head.kc, .slice a.kp a.kn a.kc] _ HA.out.range Tryz.underlying31 rfl (by kernel_rfl) ?_)
      | (go_at_call 85; refine (aterm_stub_any {a with kind := 2} (show a.kn ≤ 1000 by omega) _).mono ?_; rintro e w2 ⟨⟨p2, c2', rfl, hrow⟩, hb⟩; have HROW := Lib.hid hrow; have HB2 := Lib.hid (HB.out.trans (hb.mono HB.out.size)); clear hrow hb)
      | (go_at_call 84; refine (term_May_stub (HV.out.below HB2.out) (t := ⟨({a with kind := 2} : AH).hd, p2, a.kn, c2'⟩) HROW.out (show a.kn ≤ 1000 by omega) (show (0 : Int) ≤ 2 by omega) (show (2 : Int) ≤ 255 by omega)).mono ?_; rintro e w3 ⟨rfl, hb⟩; have HB3 := Lib.hid (HB2.out.trans (hb.mono HB2.out.size)); clear hb))
    go_ret
    exact ⟨ret_bool HR.out.symm, HB3.out⟩
  · have hle : decide ((a.kn : Int) ≤ 3) = false := by simp; omega
    rw [hle, Bool.false_and] at HR
    go_upto_region 6 with fail
    go_wp2_with fail
    go_ret
    exact ⟨ret_bool HR.out.symm, HB.out⟩
theorem aterm_headed_any (a : AH) (hk0 : 0 ≤ a.kind) (hk1 : a.kind ≤ 255) (hk : a.kn ≤ 1000000) {w : World} (hv : Vr w) :
    Calls Tryz.prog 70 #[aggT a] w fun e w' => e = .returned (.bool (headB a.hd a.kn)) ∧ Below w.heap.size w w' := by
  by_cases h17 : a.kind = 17
  · exact headed_region a h17 hk w
  · by_cases h18 : a.kind = 18
    · exact headed_inst a h18 hk hv
    · exact headed_other a h17 h18 hk0 hk1 hk hv
end Go.Proofs.YtdlbjngpohkglaaGreatDoor
end
