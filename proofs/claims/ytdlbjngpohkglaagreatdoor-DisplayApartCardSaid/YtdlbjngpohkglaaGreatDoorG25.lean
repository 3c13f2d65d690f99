/- Part 25 of the texts: Node, Hdd, Wk. -/
import Derived.Test.YtdlbjngpohkglaaGreatDoorG24
import Derived.Test.YtdlbjngpohkglaaGreatDoorG21
import Derived.Test.YtdlbjngpohkglaaGreatDoorG22
section
set_option linter.unusedVariables false
set_option maxRecDepth 100000
set_option linter.unusedSimpArgs false
namespace Go.Proofs.YtdlbjngpohkglaaGreatDoor
open Go.RowKit

/-- which fields a kind has -/
def ofB (k : Int) : Value := .agg #[.bool (inB [3, 6, 11, 13, 17, 18] k), .bool ((k == 13) || (k == 18)), .bool (inB [11, 13, 18] k), .bool (inB [11, 13, 15] k), .bool (k == 13)]
set_option maxHeartbeats 2000000 in
theorem of_any (k : Int) (w : World) : Calls Tryz.prog 69 #[.int .u8 k] w fun e w' => e = .returned (ofB k) ∧ Below w.heap.size w w' := by
  by_cases h3 : k = 3
  · subst h3
    go_enter Tryz.func69, Tryz.ntmps69
    go_wp2_with fail
    refine bodyPost_ret (results_cell_row rfl _ _ _ _ _ _ _ rfl (heap_alloc_new w _) Tryz.underlying99 rfl (by kernel_rfl)) rfl ?_
    exact ⟨rfl, (Below.refl _ _).alloc (Nat.le_refl _) _⟩
  have b3 : (k == 3) = false := by simpa using h3
  by_cases h6 : k = 6
  · subst h6
    go_enter Tryz.func69, Tryz.ntmps69
    go_wp2_with fail
    refine bodyPost_ret (results_cell_row rfl _ _ _ _ _ _ _ rfl (heap_alloc_new w _) Tryz.underlying99 rfl (by kernel_rfl)) rfl ?_
    exact ⟨rfl, (Below.refl _ _).alloc (Nat.le_refl _) _⟩
  have b6 : (k == 6) = false := by simpa using h6
  by_cases h17 : k = 17
  · subst h17
    go_enter Tryz.func69, Tryz.ntmps69
    go_wp2_with fail
    refine bodyPost_ret (results_cell_row rfl _ _ _ _ _ _ _ rfl (heap_alloc_new w _) Tryz.underlying99 rfl (by kernel_rfl)) rfl ?_
    exact ⟨rfl, (Below.refl _ _).alloc (Nat.le_refl _) _⟩
  have b17 : (k == 17) = false := by simpa using h17
  by_cases h11 : k = 11
  · subst h11
    go_enter Tryz.func69, Tryz.ntmps69
    go_wp2_with fail
    refine bodyPost_ret (results_cell_row rfl _ _ _ _ _ _ _ rfl (heap_alloc_new w _) Tryz.underlying99 rfl (by kernel_rfl)) rfl ?_
    exact ⟨rfl, (Below.refl _ _).alloc (Nat.le_refl _) _⟩
  have b11 : (k == 11) = false := by simpa using h11
  by_cases h13 : k = 13
  · subst h13
    go_enter Tryz.func69, Tryz.ntmps69
    go_wp2_with fail
    refine bodyPost_ret (results_cell_row rfl _ _ _ _ _ _ _ rfl (heap_alloc_new w _) Tryz.underlying99 rfl (by kernel_rfl)) rfl ?_
    exact ⟨rfl, (Below.refl _ _).alloc (Nat.le_refl _) _⟩
  have b13 : (k == 13) = false := by simpa using h13
  by_cases h15 : k = 15
  · subst h15
    go_enter Tryz.func69, Tryz.ntmps69
    go_wp2_with fail
    refine bodyPost_ret (results_cell_row rfl _ _ _ _ _ _ _ rfl (heap_alloc_new w _) Tryz.underlying99 rfl (by kernel_rfl)) rfl ?_
    exact ⟨rfl, (Below.refl _ _).alloc (Nat.le_refl _) _⟩
  have b15 : (k == 15) = false := by simpa using h15
  by_cases h18 : k = 18
  · subst h18
    go_enter Tryz.func69, Tryz.ntmps69
    go_wp2_with fail
    refine bodyPost_ret (results_cell_row rfl _ _ _ _ _ _ _ rfl (heap_alloc_new w _) Tryz.underlying99 rfl (by kernel_rfl)) rfl ?_
    exact ⟨rfl, (Below.refl _ _).alloc (Nat.le_refl _) _⟩
  have b18 : (k == 18) = false := by simpa using h18
  have hz : Hid (ofB k = .agg #[.bool false, .bool false, .bool false, .bool false, .bool false]) := by
    show _ = _
    have c3 : ((3 : Int) == k) = false := by rw [BEq.comm]; exact b3
    have c6 : ((6 : Int) == k) = false := by rw [BEq.comm]; exact b6
    have c17 : ((17 : Int) == k) = false := by rw [BEq.comm]; exact b17
    have c11 : ((11 : Int) == k) = false := by rw [BEq.comm]; exact b11
    have c13 : ((13 : Int) == k) = false := by rw [BEq.comm]; exact b13
    have c15 : ((15 : Int) == k) = false := by rw [BEq.comm]; exact b15
    have c18 : ((18 : Int) == k) = false := by rw [BEq.comm]; exact b18
    simp only [ofB, inB, List.any_cons, List.any_nil, c3, c6, c17, c11, c13, c15, c18, b13, b18, Bool.or_false]
  clear h3 h6 h17 h11 h13 h15 h18
  go_enter Tryz.func69, Tryz.ntmps69
  go_wp2_with fail
  refine bodyPost_ret (results_cell_row rfl _ _ _ _ _ _ _ rfl (heap_alloc_new w _) Tryz.underlying99 rfl (by kernel_rfl)) rfl ?_
  exact ⟨by rw [hz.out], (Below.refl _ _).alloc (Nat.le_refl _) _⟩
/-- is a type there just where it should be? -/
def fitsT (there : Bool) (t : PT) : Bool := if there then mayT t.er else plainB t.head
set_option maxHeartbeats 2000000 in
theorem aterm_fits_any (there : Bool) (t : PT) {w : World} (hl : LR.lies w t) (h1 : t.head.en ≤ 1000000) (h2 : t.head.kn ≤ 1000000) :
    Calls Tryz.prog 74 #[.bool there, aggR t.head] w fun e w' => e = .returned (.bool (fitsT there t)) ∧ Below w.heap.size w w' := by
  have HB := Lib.hid ((Below.refl w.heap.size w).alloc (Nat.le_refl _) (.cells #[.int .u8 t.head.kind, .int .i64 t.head.rho, .slice t.head.ep t.head.en t.head.ec, .slice t.head.kp t.head.kn t.head.kc] 28))
  have HL := Lib.hid (LR.lies_below HB.out t hl)
  clear hl
  cases there with
  | true =>
    go_enter Tryz.func74, Tryz.ntmps74
    go_wp2_with (go_at_call 93; refine (rtype_May_one HL.out rfl _ (by simp)).mono ?_; rintro e w2 ⟨rfl, hb⟩; have HB2 := Lib.hid hb; clear hb)
    go_ret
    exact ⟨rfl, HB.out.trans (((Below.refl _ _).alloc (Nat.le_refl _) _ |>.trans (HB2.out.mono (by simp))).mono HB.out.size)⟩
  | false =>
    have hw : IntKind.i64.wrap ((t.head.en : Int) + t.head.kn) = (t.head.en : Int) + t.head.kn := IntWalk.i64_in _ (by omega)
    have HP : Hid (plainB t.head = ((t.head.kind == 0) && (t.head.rho == 0) && ((t.head.en : Int) + t.head.kn == 0))) := by
      show _ = _
      unfold plainB
      rw [Bool.and_assoc (_ && _)]
      congr 1
      rw [Bool.eq_iff_iff]
      simp only [Bool.and_eq_true, beq_iff_eq]
      omega
    cases hk : (t.head.kind == 0) with
    | false =>
      rw [hk] at HP
      go_enter Tryz.func74, Tryz.ntmps74
      go_wp2_with fail
      go_ret
      exact ⟨ret_bool (by show _ = plainB _; rw [HP.out]; rfl), HB.out⟩
    | true =>
      rw [hk] at HP
      cases hr : (t.head.rho == 0) with
      | false =>
        rw [hr] at HP
        go_enter Tryz.func74, Tryz.ntmps74
        go_wp2_with fail
        go_ret
        exact ⟨ret_bool (by show _ = plainB _; rw [HP.out]; rfl), HB.out⟩
      | true =>
        rw [hr] at HP
        go_enter Tryz.func74, Tryz.ntmps74
        go_wp2_with fail
        go_ret
        exact ⟨ret_bool (by show _ = plainB _; rw [HP.out]; simp), HB.out⟩
end Go.Proofs.YtdlbjngpohkglaaGreatDoor
end
section
set_option linter.unusedVariables false
set_option maxRecDepth 100000
set_option linter.unusedSimpArgs false
namespace Go.Proofs.YtdlbjngpohkglaaGreatDoor
open Go.RowKit

theorem BoxA.range {W : World} {b : Nat} {a : AH} (h : BoxA W b a) : W.rangeAt b 0 (encAH a) := fun j v hj => by rw [Nat.zero_add]; exact h.c j v hj
set_option maxHeartbeats 4000000 in
theorem headed_region (a : AH) (h17 : a.kind = 17) (hk : a.kn ≤ 1000000) (w : World) :
    Calls Tryz.prog 70 #[aggT a] w fun e w' => e = .returned (.bool (headB a.hd a.kn)) ∧ Below w.heap.size w w' := by
  have HB := Lib.hid ((Below.refl w.heap.size w).alloc (Nat.le_refl _) (boxA a))
  have HA := Lib.hid (boxA_new w a)
  have e17 : (a.kind == 17) = true := by simp [h17]
  have E17 := Lib.hid h17
  clear h17
  go_enter Tryz.func70, Tryz.ntmps70
  go_upto_region 3 with fail
  obtain ⟨c0, c1, c2, c3, c4, c5, c6, c7, c8, c9, c10, c11, c12, c13, c14, c15, c16, c17, c18⟩ := HA.out.all
  clear c7 c8 c9 c10 c11 c12 c13 c14 c15 c16 c17
  generalize w.alloc (.cells #[.int .u8 a.kind, .int .u8 a.op, .int .i64 a.at_, .int .i64 a.n, .string a.name, .string a.arg, .string a.exn, .int .i64 a.rho, .slice a.rp a.rn a.rc, .slice a.ep a.en a.ec, .int .u8 a.ty.head.kind, .int .i64 a.ty.head.rho, .slice a.ty.head.ep a.ty.head.en a.ty.head.ec, .slice a.ty.head.kp a.ty.head.kn a.ty.head.kc, .int .u8 a.res.head.kind, .int .i64 a.res.head.rho, .slice a.res.head.ep a.res.head.en a.res.head.ec, .slice a.res.head.kp a.res.head.kn a.res.head.kc, .slice a.kp a.kn a.kc] 31) = W1 at *
  go_wp2_with fail
  all_goals (
    go_ret
    refine ⟨ret_bool ?_, HB.out⟩
    unfold headB
    rw [if_pos (show a.hd.kind = 17 from E17.out)]
    clear c0 c1 c2 c3 c4 c5 c6 c18
    simp_all [bareB, AH.hd]
    try (intros; omega))
/-- four kids are too many -/
theorem node4B_many (h : HeadV) (n : Nat) (hn : 3 < n) : node4B h n = false := by
  have hk : kidsI h.kind ≤ 3 := by
    unfold kidsI
    split
    · omega
    · split
      · omega
      · split
        · omega
        · split <;> omega
  have : ((n : Int) != kidsI h.kind) = true := by simp; omega
  unfold node4B
  rw [this]
  simp
theorem headB_other {a : AH} (h17 : a.kind ≠ 17) (h18 : a.kind ≠ 18) : headB a.hd a.kn = (decide ((a.kn : Int) ≤ 3) && node4B a.hd a.kn) := by
  unfold headB
  rw [if_neg (show ¬ a.hd.kind = 17 from h17), if_neg (show ¬ a.hd.kind = 18 from h18)]
  by_cases h : a.kn ≤ 3
  · have e : decide ((a.kn : Int) ≤ 3) = true := by simp; omega
    rw [e, Nat.min_eq_left (by omega)]; rfl
  · have e : decide ((a.kn : Int) ≤ 3) = false := by simp; omega
    rw [e, node4B_many _ _ (by omega)]; rfl
theorem toList_empty (s : ByteArray) : s.toList.isEmpty = decide (s.size = 0) := by
  rw [Lib.toList_data]
  obtain ⟨⟨l⟩⟩ := s
  cases l with
  | nil => rfl
  | cons b l => show false = decide (l.length + 1 = 0); simp
theorem headB_inst' (op at_ z : Int) (name arg exn : ByteArray) (m : Nat) : headB ⟨18, op, at_, z, name, arg, exn⟩ m = (decide ((m : Int) ≤ 3) && node4B ⟨2, op, at_, z, name, arg, exn⟩ m) := by
  show (bareB ⟨18, op, at_, z, name, arg, exn⟩ && nameB name && decide (0 ≤ at_) && ((m : Int) == 0)) = (decide ((m : Int) ≤ 3) && (!(decide ((0 : Int) < 0) || ((m : Int) != 0) || decide (at_ < 0)) && !(false || true && (op != 0)) && !(decide (z < 0) || decide (2147483647 < z) || true && (z != 0)) && (fitsB true name (nameB name) && fitsB false arg (nameB arg) && fitsB false exn (exnB exn))))
  show (((op == 0) && (z == 0) && arg.toList.isEmpty && exn.toList.isEmpty) && nameB name && decide (0 ≤ at_) && ((m : Int) == 0)) = _
  unfold fitsB
  rw [toList_empty, toList_empty]
  rw [Bool.eq_iff_iff]
  simp only [Bool.and_eq_true, Bool.or_eq_true, Bool.not_eq_true', Bool.or_eq_false_iff, beq_iff_eq, bne_iff_ne, decide_eq_true_eq, decide_eq_false_iff_not, bne_eq_false_iff_eq, Bool.false_or, Bool.true_and, Bool.not_true, Bool.not_false, Bool.or_false, Bool.false_and]
  constructor
  · rintro ⟨⟨⟨⟨⟨⟨h1, h2⟩, h3⟩, h4⟩, h5⟩, h6⟩, h7⟩
    exact ⟨by omega, ⟨⟨⟨by omega, by omega⟩, h1⟩, by omega, by omega⟩, ⟨h5, h3⟩, h4⟩
  · rintro ⟨h1, ⟨⟨⟨⟨_, h2⟩, h3⟩, h4⟩, h5, h6⟩, ⟨h7, h8⟩, h9⟩
    exact ⟨⟨⟨⟨⟨⟨h4, h6⟩, h8⟩, h9⟩, h7⟩, by omega⟩, h2⟩
set_option maxHeartbeats 4000000 in
theorem headed_other (a : AH) (h17 : a.kind ≠ 17) (h18 : a.kind ≠ 18) (hk0 : 0 ≤ a.kind) (hk1 : a.kind ≤ 255) (hk : a.kn ≤ 1000000) {w : World} (hv : Vr w) :
    Calls Tryz.prog 70 #[aggT a] w fun e w' => e = .returned (.bool (headB a.hd a.kn)) ∧ Below w.heap.size w w' := by
  have HB := Lib.hid ((Below.refl w.heap.size w).alloc (Nat.le_refl _) (boxA a))
  have HA := Lib.hid (boxA_new w a)
  have HV := Lib.hid hv
  have HR := Lib.hid (headB_other h17 h18)
  have e17 : (a.kind == 17) = false := by simpa using h17
  have e18 : (a.kind == 18) = false := by simpa using h18
  clear h17 h18 hv
  by_cases h3 : a.kn ≤ 3
  · have hle : decide ((a.kn : Int) ≤ 3) = true := by simp; omega
    rw [hle, Bool.true_and] at HR
    go_enter Tryz.func70, Tryz.ntmps70
    go_upto_region 2 with fail
    obtain ⟨c0, c1, c2, c3, c4, c5, c6, c7, c8, c9, c10, c11, c12, c13, c14, c15, c16, c17, c18⟩ := HA.out.all
    clear c1 c2 c3 c4 c5 c6 c7 c8 c9 c10 c11 c12 c13 c14 c15 c16 c17
    go_wp2_with (first
      | (refine wpList_load_midG (by rfl) 31 _ rfl w.heap.size 0 rfl [.int .u8 a.kind, .int .u8 a.op, .int .i64 a.at_, .int .i64 a.n, .string a.name, .string a.arg, .string a.exn, .int .i64 a.rho, .slice a.rp a.rn a.rc, .slice a.ep a.en a.ec, .int .u8 a.ty.head.kind, .int .i64 a.ty.head.rho, .slice a.ty.head.ep a.ty.head.en a.ty.head.ec, .slice a.ty.head.kp a.ty.head.kn a.ty.head.kc, .int .u8 a.res.head.kind, .int .i64 a.res.head.rho, .slice a.res.head.ep a.res.head.en a.res.head.ec, .slice a.res.head.kp a.res.head.kn a.res.head.kc, .slice a.kp a.kn a.kc] _ HA.out.range Tryz.underlying31 rfl (by kernel_rfl) ?_)
      | (go_at_call 85; refine (aterm_stub_any a (show a.kn ≤ 1000 by omega) _).mono ?_; rintro e w2 ⟨⟨p2, c2', rfl, hrow⟩, hb⟩; have HROW := Lib.hid hrow; have HB2 := Lib.hid (HB.out.trans (hb.mono HB.out.size)); clear hrow hb)
      | (go_at_call 84; refine (term_May_stub (HV.out.below HB2.out) (t := ⟨(a : AH).hd, p2, a.kn, c2'⟩) HROW.out (show a.kn ≤ 1000 by omega) hk0 hk1).mono ?_; rintro e w3 ⟨rfl, hb⟩; have HB3 := Lib.hid (HB2.out.trans (hb.mono HB2.out.size)); clear hb))
    go_ret
    exact ⟨ret_bool HR.out.symm, HB3.out⟩
  · have hle : decide ((a.kn : Int) ≤ 3) = false := by simp; omega
    rw [hle, Bool.false_and] at HR
    go_enter Tryz.func70, Tryz.ntmps70
    go_upto_region 2 with fail
    obtain ⟨c0, c1, c2, c3, c4, c5, c6, c7, c8, c9, c10, c11, c12, c13, c14, c15, c16, c17, c18⟩ := HA.out.all
    clear c1 c2 c3 c4 c5 c6 c7 c8 c9 c10 c11 c12 c13 c14 c15 c16 c17
    go_wp2_with fail
    go_ret
    exact ⟨ret_bool HR.out.symm, HB.out⟩
set_option maxHeartbeats 4000000 in
theorem headed_inst (a : AH) (h18 : a.kind = 18) (hk : a.kn ≤ 1000000) {w : World} (hv : Vr w) :
    Calls Tryz.prog 70 #[aggT a] w fun e w' => e = .returned (.bool (headB a.hd a.kn)) ∧ Below w.heap.size w w' := by
  have HB0 := Lib.hid ((Below.refl w.heap.size w).alloc (Nat.le_refl _) (boxA a))
  have HB := Lib.hid ((Below.refl w.heap.size w).alloc (Nat.le_refl _) (boxA {a with kind := 2}))
  have HA0 := Lib.hid (boxA_new w a)
  have HA := Lib.hid (boxA_new w {a with kind := 2})
  have HV := Lib.hid hv
  have HR : Hid (headB a.hd a.kn = (decide ((a.kn : Int) ≤ 3) && node4B ({a with kind := 2} : AH).hd a.kn)) := by
    show _ = _
    have := headB_inst' a.op a.at_ a.n a.name a.arg a.exn a.kn
    rw [← h18] at this
    exact this
  have e17 : (a.kind == 17) = false := by simp; omega
  have e18 : (a.kind == 18) = true := by simpa using h18
  clear h18 hv
  go_enter Tryz.func70, Tryz.ntmps70
  have c18 := HA.out.c 18 _ rfl
  by_cases h3 : a.kn ≤ 3
  · have hle : decide ((a.kn : Int) ≤ 3) = true := by simp; omega
    rw [hle, Bool.true_and] at HR
    go_upto_region 6 with fail
    go_wp2_with (first
      | (refine wpList_load_midG (by rfl) 31 _ rfl w.heap.size 0 rfl [.int .u8 2, .int .u8 a.op, .int .i64 a.at_, .int .i64 a.n, .string a.name, .string a.arg, .string a.exn, .int .i64 a.rho, .slice a.rp a.rn a.rc, .slice a.ep a.en a.ec, .int .u8 a.ty.head.kind, .int .i64 a.ty.head.rho, .slice a.ty.head.ep a.ty.head.en a.ty.head.ec, .slice a.ty.head.kp a.ty.head.kn a.ty.head.kc, .int .u8 a.res.head.kind, .int .i64 a.res.head.rho, .slice a.res.head.ep a.res.head.en a.res.head.ec, .slice a.res.head.kp a.res.head.kn a.res.head.kc, .slice a.kp a.kn a.kc] _ HA.out.range Tryz.underlying31 rfl (by kernel_rfl) ?_)
      | (go_at_call 85; refine (aterm_stub_any {a with kind := 2} (show a.kn ≤ 1000 by omega) _).mono ?_; rintro e w2 ⟨⟨p2, c2', rfl, hrow⟩, hb⟩; have HROW := Lib.hid hrow; have HB2 := Lib.hid (HB.out.trans (hb.mono HB.out.size)); clear hrow hb)
      | (go_at_call 84; refine (term_May_stub (HV.out.below HB2.out) (t := ⟨({a with kind := 2} : AH).hd, p2, a.kn, c2'⟩) HROW.out (show a.kn ≤ 1000 by omega) (show (0 : Int) ≤ 2 by omega) (show (2 : Int) ≤ 255 by omega)).mono ?_; rintro e w3 ⟨rfl, hb⟩; have HB3 := Lib.hid (HB2.out.trans (hb.mono HB2.out.size)); clear hb))
    go_ret
    exact ⟨ret_bool HR.out.symm, HB3.out⟩
  · have hle : decide ((a.kn : Int) ≤ 3) = false := by simp; omega
    rw [hle, Bool.false_and] at HR
    go_upto_region 6 with fail
    go_wp2_with fail
    go_ret
    exact ⟨ret_bool HR.out.symm, HB.out⟩
theorem aterm_headed_any (a : AH) (hk0 : 0 ≤ a.kind) (hk1 : a.kind ≤ 255) (hk : a.kn ≤ 1000000) {w : World} (hv : Vr w) :
    Calls Tryz.prog 70 #[aggT a] w fun e w' => e = .returned (.bool (headB a.hd a.kn)) ∧ Below w.heap.size w w' := by
  by_cases h17 : a.kind = 17
  · exact headed_region a h17 hk w
  · by_cases h18 : a.kind = 18
    · exact headed_inst a h18 hk hv
    · exact headed_other a h17 h18 hk0 hk1 hk hv
end Go.Proofs.YtdlbjngpohkglaaGreatDoor
end
section
set_option linter.unusedVariables false
set_option maxRecDepth 100000
set_option linter.unusedSimpArgs false
namespace Go.Proofs.YtdlbjngpohkglaaGreatDoor
open Go.RowKit

/-- the row of the words between kids -/
def BtRow (W : World) (g : Nat) (v : Value) (p : Option Addr) (bt : List ByteArray) : Prop :=
  bt = [] ∨ ∃ b, p = some ⟨b, 0, none⟩ ∧ b < W.heap.size ∧ b ≠ g ∧ v.ownBlock ≠ some b ∧ RowE encS 1 W p bt
theorem BtRow.at {W W' : World} {g : Nat} {v v' : Value} {p : Option Addr} {bt : List ByteArray} (h : BtRow W g v p bt) (ht : Wrote g v v' W W') {j : Nat} {s : ByteArray} (hs : bt[j]? = some s) : ∃ b, p = some ⟨b, 0, none⟩ ∧ W'.cell? ⟨b, j, none⟩ = some (.string s) := by
  rcases h with h | ⟨b, hp, hb, hbg, hbv, hr⟩
  · subst h; simp at hs
  · subst hp
    obtain ⟨b', o, hp, hc⟩ := (hr.block (ht.block b hb hbg hbv) ht.size).str hs
    injection hp with hp
    injection hp with h1 h2
    subst h1
    subst h2
    exact ⟨_, rfl, by simpa using hc⟩
/-- a kid's copy, beside the writer and the node -/
structure KSt (w0 W1 : World) (v1 : Value) (g : Nat) (a : AH) (bX : Nat) (x : AH) (L : List ByteArray) (W : World) (v : Value) : Prop where
  st : DSt w0 W1 v1 g a L W v
  box : BoxA W bX x
  own : v.ownBlock ≠ some bX
  ne : bX ≠ g
theorem KSt.step {w0 W1 W W' : World} {v1 v v' : Value} {g bX : Nat} {a x : AH} {L L' : List ByteArray} (h : KSt w0 W1 v1 g a bX x L W v) (hg : w0.heap.size ≤ g) (hg1 : g < W1.heap.size) (hw : WrS g L' W' v') (ht : Wrote g v v' W W') : KSt w0 W1 v1 g a bX x L' W' v' := by
  have hlt := (Array.getElem?_eq_some_iff.1 h.box.blk).1
  refine ⟨h.st.step hg hg1 hw ht, ⟨?_⟩, ht.own _ hlt h.own, h.ne⟩
  rw [ht.block _ hlt h.ne h.own]
  exact h.box.blk
theorem KSt.new {w0 W1 W : World} {v1 v : Value} {g : Nat} {a : AH} {L : List ByteArray} (h : DSt w0 W1 v1 g a L W v) (hg1 : g < W1.heap.size) (x : AH) : KSt w0 W1 v1 g a W.heap.size x L (W.alloc (boxA x)) v :=
  ⟨h.below' ((Below.refl _ _).alloc (Nat.le_refl _) _), boxA_new _ _, fun e => by have := (h.wr.from _ e).2; omega, by have := h.wr.lt; omega⟩
theorem kidsTo_le (bt : List ByteArray) (ks : List (List ByteArray)) : ∀ i j, i ≤ j → (wordsP (kidsTo bt ks i)).length ≤ (wordsP (kidsTo bt ks j)).length := by
  intro i j h
  induction j with
  | zero => have : i = 0 := by omega
            subst this; exact Nat.le_refl _
  | succ j ih =>
    by_cases hij : i = j + 1
    · subst hij; exact Nat.le_refl _
    · have h1 := ih (by omega)
      rw [kidsTo, wordsP_app, List.length_append]
      omega
def TermAt (w0 : World) (g : Nat) (x : PA) : Prop := PutsAt w0 g 42 #[.pointer (some ⟨g, 0, none⟩), aggT x.head] (wordsP (piecesT x))
set_option maxHeartbeats 4000000 in
theorem kids_any {w0 : World} {g : Nat} (hE : DEnv w0 g) {a : AH} {l : List PA} (hN : NodeA w0 a l) (hf : ∀ x ∈ l, TermAt w0 g x) {bt : List ByteArray} (hbt : ∀ s ∈ bt, s.size < 4294967281) (p : Option Addr) (n c : Nat) (hn : bt.length = n) (hn2 : n ≤ 1000) (hle : l.length ≤ n + 1)
    {W : World} {v : Value} {L : List ByteArray} (hb : Below w0.heap.size w0 W) (hw : WrS g L W v) (hM : L.length + (wordsP (kidsP bt (l.map piecesT))).length ≤ 1000000000000) (hr : BtRow W g v p bt) :
    PutsTo g 77 #[.pointer (some ⟨g, 0, none⟩), aggT a, .slice p n c] (wordsP (kidsP bt (l.map piecesT))) L W v W := by
  have hR : RowTA w0 a.kp a.kn a.kc l := hN.rowT
  have HR := Lib.hid hR
  have hkl := hR.row.len
  have hmx := hR.row.max
  have HKL := Lib.hid hkl
  have HF := Lib.hid hf
  have HBT := Lib.hid hbt
  have HN := Lib.hid hn
  have HRB := Lib.hid hr
  have HE := Lib.hid hE
  have HG := Lib.hid hE.hg
  have HG1 := Lib.hid hw.lt
  have HM := Lib.hid hM
  have HD := Lib.hid (DSt.init hb hw a)
  have hle' : a.kn ≤ n + 1 := by omega
  clear hE hb hw hM hN hf hbt hr hR hn hkl hle
  show Calls _ _ _ _ _
  go_enter Tryz.func77, Tryz.ntmps77
  go_upto_region 1 with fail
  generalize hW0 : W.alloc (boxA a) = W0 at *
  clear hW0
  have c18 := HD.out.box.c 18 _ rfl
  go_wp2_with fail
  go_loopw [11] (fun i wr => ∃ (k : Nat) (v1 : Value), k ≤ a.kn ∧ i = .int .i64 k ∧ DSt w0 W v g a (L ++ wordsP (kidsTo bt (l.map piecesT) k)) wr v1) (fun i _ => a.kn - (intOf i).toNat)
  case atStart => exact ⟨0, _, by omega, rfl, by simpa [wordsP, kidsTo] using HD.out⟩
  case round =>
    obtain ⟨k, v1, hk, rfl, hd⟩ := hrel
    have HD := Lib.hid hd
    clear hd c18
    by_cases hlt : k < a.kn
    · obtain ⟨y, hx⟩ := HR.out.at (j := k) hlt
      obtain ⟨b, o, hbo, hbl, hcs⟩ := (HR.out.below HD.out.below).kid hx
      obtain ⟨x, m, hxe⟩ : ∃ x m, y = Rose.node x m := ⟨y.head, y.kids, Rose.eta y⟩
      subst hxe
      have HCS := Lib.hid (CellsA.c (show CellsA wr b (o + k * 19) x from hcs))
      rw [hbo]
      have HT := Lib.hid (show PutsAt w0 g 42 #[.pointer (some ⟨g, 0, none⟩), aggT x] (wordsP (piecesT (.node x m))) from HF.out _ (List.mem_of_getElem? hx))
      have hgd : (l.map piecesT).getD k [] = piecesT (.node x m) := by
        rw [List.getD_eq_getElem?_getD, List.getElem?_map, hx]; rfl
      have HTO : Hid (wordsP (kidsTo bt (l.map piecesT) (k + 1)) = wordsP (kidsTo bt (l.map piecesT) k) ++ (wordsP (betw bt k) ++ wordsP (piecesT (.node x m)))) := by
        show _ = _
        rw [kidsTo, wordsP_app, wordsP_app, hgd]
      have HSUM : Hid (L.length + ((wordsP (kidsTo bt (l.map piecesT) k)).length + ((wordsP (betw bt k)).length + (wordsP (piecesT (.node x m))).length)) ≤ 1000000000000) := by
        have h1 := HM.out
        have h2 := kidsTo_le bt (l.map piecesT) (k + 1) (l.map piecesT).length (by rw [List.length_map, HKL.out]; exact hlt)
        rw [HTO.out] at h2
        unfold kidsP at h1
        simp only [List.length_append] at h2
        show _ ≤ _
        omega
      clear hx hbl hcs hbo hgd
      have hal : (wr.alloc (.cells #[.int .u8 0, .int .u8 0, .int .i64 0, .int .i64 0, .string ⟨#[]⟩, .string ⟨#[]⟩, .string ⟨#[]⟩, .int .i64 0, .slice none 0 0, .slice none 0 0, .int .u8 0, .int .i64 0, .slice none 0 0, .slice none 0 0, .int .u8 0, .int .i64 0, .slice none 0 0, .slice none 0 0, .slice none 0 0] 31)).heap[wr.heap.size]? = some (.cells #[.int .u8 0, .int .u8 0, .int .i64 0, .int .i64 0, .string ⟨#[]⟩, .string ⟨#[]⟩, .string ⟨#[]⟩, .int .i64 0, .slice none 0 0, .slice none 0 0, .int .u8 0, .int .i64 0, .slice none 0 0, .slice none 0 0, .int .u8 0, .int .i64 0, .slice none 0 0, .slice none 0 0, .slice none 0 0] 31 (0, 0)) := heap_alloc_new wr _
      have HAL := Lib.hid hal
      clear hal
      have HK := Lib.hid (KSt.new HD.out HG1.out x)
      by_cases k0 : 0 < k
      · obtain ⟨j, hj⟩ : ∃ j, k = j + 1 := ⟨k - 1, by omega⟩
        have hkj : k - 1 = j := by omega
        have HKJ := Lib.hid hkj
        have hwr : IntKind.i64.wrap ((k : Int) - 1) = (j : Int) := by rw [show (k : Int) - 1 = (j : Int) by omega]; exact IntWalk.i64_in _ (by omega)
        have hj0 : (0 : Int) ≤ (j : Int) := by omega
        have hjn : (j : Int) < (n : Int) := by omega
        obtain ⟨s, hs⟩ := get_of_lt (l := bt) (j := j) (by rw [HN.out]; omega)
        clear hj hkj
        obtain ⟨bb, rfl, s0⟩ := HRB.out.at (HD.out.wrote.trans (Wrote.of_below ((Below.refl _ _).alloc (Nat.le_refl _) (boxA x)))) hs
        have s0 : (wr.alloc (.cells (encAH x).toArray 31)).cell? ⟨bb, j, none⟩ = some (.string s) := s0
        have hsz := HBT.out s (List.mem_of_getElem? hs)
        have hbtd : bt.getD j ⟨#[]⟩ = s := by rw [List.getD_eq_getElem?_getD, hs]; rfl
        by_cases hs0 : s.size = 0
        · have HBW : Hid (betw bt k = []) := by show _ = _; unfold betw; rw [if_neg (by rw [HKJ.out, hbtd]; omega)]
          have hs1 : s.toList.isEmpty = true := by rw [toList_empty]; simpa using hs0
          clear hs hbtd hs0
          go_wp2_with (first
            | (refine wpList_load_mid rfl 31 _ rfl b (o + k * 19) rfl (encAH x) _ HCS.out Tryz.underlying31 rfl (by kernel_rfl) ?_)
            | (refine wpList_store_row rfl 31 _ _ rfl wr.heap.size (encAH x).toArray rfl rfl 31 _ HAL.out (by kernel_rfl) rfl (all_oneCell_toArray (encAH_one x)) ?_; rw [World.setRow_alloc_new])
            | (refine wpList_load_row rfl 31 _ rfl wr.heap.size rfl 31 _ (0, 0) _ HK.out.box.blk Tryz.underlying31 rfl (by kernel_rfl) ?_)
            | (go_at_call 42; refine (HT.out _ _ _ HK.out.st.below HK.out.st.wr (by have := HSUM.out; simp only [List.length_append] at this ⊢; omega)).mono ?_; rintro e w8 ⟨rfl, v8, hw8, ht8⟩; have HK := Lib.hid (HK.out.step HG.out HG1.out hw8 ht8); clear hw8 ht8))
          go_roundw
          case rel => exact ⟨k + 1, _, by omega, by go_num, by rw [HTO.out, HBW.out, ← List.append_assoc]; simpa [wordsP] using HK.out.st⟩
          case measure => simp [intOf]; omega
        · have HBW : Hid (betw bt k = [s]) := by show _ = _; unfold betw; rw [HKJ.out, hbtd, if_pos ⟨k0, hs0⟩]
          have hs1 : s.toList.isEmpty = false := by rw [toList_empty]; simpa using hs0
          clear hs hbtd hs0
          go_wp2_with (first
            | (refine wpList_load_mid rfl 31 _ rfl b (o + k * 19) rfl (encAH x) _ HCS.out Tryz.underlying31 rfl (by kernel_rfl) ?_)
            | (refine wpList_store_row rfl 31 _ _ rfl wr.heap.size (encAH x).toArray rfl rfl 31 _ HAL.out (by kernel_rfl) rfl (all_oneCell_toArray (encAH_one x)) ?_; rw [World.setRow_alloc_new])
            | (refine wpList_load_row rfl 31 _ rfl wr.heap.size rfl 31 _ (0, 0) _ HK.out.box.blk Tryz.underlying31 rfl (by kernel_rfl) ?_)
            | (first | (go_at_call 57; refine (put_cs HE.out HK.out.st.below HK.out.st.wr 1 (by omega) _ (by simp [strsOf, strOf, encS]) rfl _ _ (by simp) (by intro s' hs'; rcases List.mem_cons.1 hs' with rfl | hs'; exact hsz; cases hs') (by have := HSUM.out; rw [HBW.out] at this; simp only [strsOf, strOf, List.map_cons, List.map_nil, List.length_append] at this ⊢; omega)).mono ?_; rintro e w8 ⟨rfl, v8, hw8, ht8⟩; have HK := Lib.hid (HK.out.step HG.out HG1.out hw8 ht8); clear hw8 ht8) | (go_at_call 42; refine (HT.out _ _ _ HK.out.st.below HK.out.st.wr (by have := HSUM.out; rw [HBW.out] at this; simp only [strsOf, strOf, List.map_cons, List.map_nil, List.length_append] at this ⊢; omega)).mono ?_; rintro e w8 ⟨rfl, v8, hw8, ht8⟩; have HK := Lib.hid (HK.out.step HG.out HG1.out hw8 ht8); clear hw8 ht8)))
          go_roundw
          case rel => exact ⟨k + 1, _, by omega, by go_num, by rw [HTO.out, HBW.out]; simpa [List.append_assoc, strsOf, strOf] using HK.out.st⟩
          case measure => simp [intOf]; omega
      · have HBW : Hid (betw bt k = []) := by show _ = _; unfold betw; rw [if_neg (by omega)]
        go_wp2_with (first
          | (refine wpList_load_mid rfl 31 _ rfl b (o + k * 19) rfl (encAH x) _ HCS.out Tryz.underlying31 rfl (by kernel_rfl) ?_)
          | (refine wpList_store_row rfl 31 _ _ rfl wr.heap.size (encAH x).toArray rfl rfl 31 _ HAL.out (by kernel_rfl) rfl (all_oneCell_toArray (encAH_one x)) ?_; rw [World.setRow_alloc_new])
          | (refine wpList_load_row rfl 31 _ rfl wr.heap.size rfl 31 _ (0, 0) _ HK.out.box.blk Tryz.underlying31 rfl (by kernel_rfl) ?_)
          | (go_at_call 42; refine (HT.out _ _ _ HK.out.st.below HK.out.st.wr (by have := HSUM.out; simp only [List.length_append] at this ⊢; omega)).mono ?_; rintro e w8 ⟨rfl, v8, hw8, ht8⟩; have HK := Lib.hid (HK.out.step HG.out HG1.out hw8 ht8); clear hw8 ht8))
        go_roundw
        case rel => exact ⟨k + 1, _, by omega, by go_num, by rw [HTO.out, HBW.out, ← List.append_assoc]; simpa [wordsP] using HK.out.st⟩
        case measure => simp [intOf]; omega
    · have hkn : k = a.kn := by omega
      have hfull : kidsTo bt (l.map piecesT) k = kidsP bt (l.map piecesT) := by unfold kidsP; rw [List.length_map, HKL.out, hkn]
      rw [hfull] at HD
      go_wp2_with fail
      go_end0
      exact ⟨rfl, _, HD.out.wr, HD.out.wrote⟩
end Go.Proofs.YtdlbjngpohkglaaGreatDoor
end
