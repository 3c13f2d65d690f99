/- Part 39 of the texts: Reg, Onc2. -/
import Derived.Test.YtdlbjngpohkglaaGreatDoorG31
import Derived.Test.YtdlbjngpohkglaaGreatDoorG30
import Derived.Test.YtdlbjngpohkglaaGreatDoorG23
import Derived.Test.YtdlbjngpohkglaaGreatDoorG12
section
set_option linter.unusedVariables false
set_option maxRecDepth 100000
set_option linter.unusedSimpArgs false
namespace Go.Proofs.YtdlbjngpohkglaaGreatDoor
open Go.RowKit Go.Shelf

set_option maxHeartbeats 1000000 in
theorem regions1_any (x L : Int) (g : Nat) {W : World} (hg : W.cell? ⟨g, 0, none⟩ = some (.int .i64 L)) :
    Calls Tryz.prog 87 #[.int .i64 x, .pointer (some ⟨g, 0, none⟩)] W fun e w' => e = .returned (.bool (decide (x < L))) ∧ w' = W := by
  go_enter Tryz.func87, Tryz.ntmps87
  go_wp2_with fail
  go_ret
  exact ⟨rfl, rfl⟩
theorem cfunc_rhos {W : World} {p : Option Addr} {n c : Nat} {l : List Int} (hr : IsRow encN 1 W p n c l) {g : Nat} {L : Int} (hg : W.cell? ⟨g, 0, none⟩ = some (.int .i64 L)) :
    Calls Tryz.prog 86 #[.slice p n c, .func (.func 87) #[] #[.pointer (some ⟨g, 0, none⟩)]] W fun e w' => e = .returned (.bool (l.any (fun r => decide (r < L)))) ∧ Below W.heap.size W w' := by
  have hln := hr.len
  have hmx := hr.max
  rcases hr.row with h | ⟨b, o, hp, hb, hc⟩
  · subst h
    obtain rfl : n = 0 := by simpa using hln.symm
    refine (Tryz.slices_ContainsFunc_empty_f86 (α := Int) p c _ W).mono ?_
    rintro e w' ⟨rfl, rfl⟩
    exact ⟨rfl, Below.refl _ _⟩
  · subst hp
    have hcc : ∀ j, j < l.length → W.cell? ⟨b, o + j, none⟩ = some (Value.int .i64 (l[j]!)) := fun j hj => by
      have := hc j (l[j]!) (by rw [List.getElem?_eq_getElem hj, getElem!_pos l j hj]) 0 (.int .i64 (l[j]!)) rfl
      simpa using this
    refine (Tryz.slices_ContainsFunc_f86 (α := Int) (Value.int .i64) (fun r : Int => decide (r < L)) 87 #[.pointer (some ⟨g, 0, none⟩)] (fun args w => rfl) b o n c l W ?_ (by omega) (by omega) hcc).mono ?_
    · intro W' x hb'
      refine (regions1_any x L g (by rw [hb'.cell (cell_block hg)]; exact hg)).mono ?_
      rintro e w' ⟨rfl, rfl⟩
      exact ⟨rfl, 0, rfl⟩
    · rintro e w' ⟨rfl, q, rfl⟩
      rw [List.take_of_length_le (by omega)]
      exact ⟨rfl, rfl, rfl, rfl, Nat.le_refl _, fun _ _ => rfl⟩
/-- may a node's regions be? -/
def regB (a : AH) (fr fh : Bool) : Bool :=
  !((!fr && (a.rho != 0)) || (decide (a.rho < 0) || (a.kind == 17) && decide (a.rho < 1)) || (!fh && decide (0 < a.rn))) && !(a.rhos.any (fun r => decide (r < if a.kind = 13 then 1 else 0)))
set_option maxHeartbeats 4000000 in
theorem regions_13 (a : AH) (fr fh fe ft fs : Bool) {w : World} (hr : IsRow encN 1 w a.rp a.rn a.rc a.rhos) (h13 : a.kind = 13) :
    Calls Tryz.prog 71 #[aggT a, .agg #[.bool fr, .bool fh, .bool fe, .bool ft, .bool fs]] w fun e w' => e = .returned (.bool (regB a fr fh)) ∧ Below w.heap.size w w' := by
  have HR := Lib.hid hr
  have HQ : Hid (regB a fr fh = (!((!fr && (a.rho != 0)) || (decide (a.rho < 0) || false && decide (a.rho < 1)) || (!fh && decide (0 < a.rn))) && !(a.rhos.any (fun r => decide (r < 1))))) := by
    show _ = _; unfold regB; rw [if_pos h13]; simp [h13]
  have e13 : (a.kind == 13) = true := by simp [h13]
  have e17 : (a.kind == 17) = false := by simp [h13]
  clear hr h13
  have HB := Lib.hid (((Below.refl w.heap.size w).alloc (Nat.le_refl _) (boxA a)).alloc (by simp) (.cells #[.bool fr, .bool fh, .bool fe, .bool ft, .bool fs] 99))
  have HB3 := Lib.hid (HB.out.alloc HB.out.size (.cells #[.int .i64 1] 3))
  have HA0 := Lib.hid (((boxA_new w a).below ((Below.refl _ _).alloc (Nat.le_refl _) (.cells #[.bool fr, .bool fh, .bool fe, .bool ft, .bool fs] 99))).below ((Below.refl _ _).alloc (Nat.le_refl _) (.cells #[.int .i64 0] 3)))
  have HA3 := Lib.hid (((boxA_new w a).below ((Below.refl _ _).alloc (Nat.le_refl _) (.cells #[.bool fr, .bool fh, .bool fe, .bool ft, .bool fs] 99))).below ((Below.refl _ _).alloc (Nat.le_refl _) (.cells #[.int .i64 1] 3)))
  have HCF := Lib.hid (cfunc_rhos (HR.out.below HB3.out) (g := w.heap.size + 2) (L := 1) (by rw [show w.heap.size + 2 = ((w.alloc (boxA a)).alloc (.cells #[.bool fr, .bool fh, .bool fe, .bool ft, .bool fs] 99)).heap.size by simp, cell_new]; rfl))
  have f0 : (((w.alloc (boxA a)).alloc (.cells #[.bool fr, .bool fh, .bool fe, .bool ft, .bool fs] 99)).alloc (.cells #[.int .i64 1] 3)).cell? ⟨w.heap.size + 1, 0, none⟩ = some (.bool fr) := by go_simp
  have f1 : (((w.alloc (boxA a)).alloc (.cells #[.bool fr, .bool fh, .bool fe, .bool ft, .bool fs] 99)).alloc (.cells #[.int .i64 1] 3)).cell? ⟨w.heap.size + 1, 1, none⟩ = some (.bool fh) := by go_simp
  have d0 := HA0.out.c 0 _ rfl
  have c0 := HA3.out.c 0 _ rfl
  have c7 := HA3.out.c 7 _ rfl
  have c8 := HA3.out.c 8 _ rfl
  have h03 := HR.out.max
  generalize a.rhos.any (fun r => decide (r < 1)) = R at *
  go_enter Tryz.func71, Tryz.ntmps71
  go_upto_region 4 with fail
  generalize ((w.alloc (.cells #[.int .u8 a.kind, .int .u8 a.op, .int .i64 a.at_, .int .i64 a.n, .string a.name, .string a.arg, .string a.exn, .int .i64 a.rho, .slice a.rp a.rn a.rc, .slice a.ep a.en a.ec, .int .u8 a.ty.head.kind, .int .i64 a.ty.head.rho, .slice a.ty.head.ep a.ty.head.en a.ty.head.ec, .slice a.ty.head.kp a.ty.head.kn a.ty.head.kc, .int .u8 a.res.head.kind, .int .i64 a.res.head.rho, .slice a.res.head.ep a.res.head.en a.res.head.ec, .slice a.res.head.kp a.res.head.kn a.res.head.kc, .slice a.kp a.kn a.kc] 31)).alloc (.cells #[.bool fr, .bool fh, .bool fe, .bool ft, .bool fs] 99)).alloc (.cells #[.int .i64 1] 3) = W3 at *
  cases fr <;> cases fh
  all_goals (
    go_wp2_with (go_at_call 86; refine HCF.out.mono ?_; rintro e w4 ⟨rfl, hb⟩; have HB4 := Lib.hid (HB3.out.trans (hb.mono HB3.out.size)); clear hb)
    all_goals (
      go_ret
      refine ⟨ret_bool ?_, by first | exact HB4.out | exact HB3.out⟩
      rw [HQ.out]
      clear c0 c7 c8 d0 f0 f1 HA0 HA3 HCF HB
      simp_all
      try omega))
set_option maxHeartbeats 4000000 in
theorem regions_no (a : AH) (fr fh fe ft fs : Bool) {w : World} (hr : IsRow encN 1 w a.rp a.rn a.rc a.rhos) (h13 : a.kind ≠ 13) :
    Calls Tryz.prog 71 #[aggT a, .agg #[.bool fr, .bool fh, .bool fe, .bool ft, .bool fs]] w fun e w' => e = .returned (.bool (regB a fr fh)) ∧ Below w.heap.size w w' := by
  have HR := Lib.hid hr
  have HQ : Hid (regB a fr fh = (!((!fr && (a.rho != 0)) || (decide (a.rho < 0) || (a.kind == 17) && decide (a.rho < 1)) || (!fh && decide (0 < a.rn))) && !(a.rhos.any (fun r => decide (r < 0))))) := by
    show _ = _; unfold regB; rw [if_neg h13]
  have e13 : (a.kind == 13) = false := by simp [h13]
  clear hr h13
  cases e17 : (a.kind == 17)
  · rw [e17] at HQ
    have HB := Lib.hid (((Below.refl w.heap.size w).alloc (Nat.le_refl _) (boxA a)).alloc (by simp) (.cells #[.bool fr, .bool fh, .bool fe, .bool ft, .bool fs] 99))
    have HB3 := Lib.hid (HB.out.alloc HB.out.size (.cells #[.int .i64 0] 3))
    have HA0 := Lib.hid (((boxA_new w a).below ((Below.refl _ _).alloc (Nat.le_refl _) (.cells #[.bool fr, .bool fh, .bool fe, .bool ft, .bool fs] 99))).below ((Below.refl _ _).alloc (Nat.le_refl _) (.cells #[.int .i64 0] 3)))
    have HA3 := Lib.hid (((boxA_new w a).below ((Below.refl _ _).alloc (Nat.le_refl _) (.cells #[.bool fr, .bool fh, .bool fe, .bool ft, .bool fs] 99))).below ((Below.refl _ _).alloc (Nat.le_refl _) (.cells #[.int .i64 0] 3)))
    have HCF := Lib.hid (cfunc_rhos (HR.out.below HB3.out) (g := w.heap.size + 2) (L := 0) (by rw [show w.heap.size + 2 = ((w.alloc (boxA a)).alloc (.cells #[.bool fr, .bool fh, .bool fe, .bool ft, .bool fs] 99)).heap.size by simp, cell_new]; rfl))
    have f0 : (((w.alloc (boxA a)).alloc (.cells #[.bool fr, .bool fh, .bool fe, .bool ft, .bool fs] 99)).alloc (.cells #[.int .i64 0] 3)).cell? ⟨w.heap.size + 1, 0, none⟩ = some (.bool fr) := by go_simp
    have f1 : (((w.alloc (boxA a)).alloc (.cells #[.bool fr, .bool fh, .bool fe, .bool ft, .bool fs] 99)).alloc (.cells #[.int .i64 0] 3)).cell? ⟨w.heap.size + 1, 1, none⟩ = some (.bool fh) := by go_simp
    have d0 := HA0.out.c 0 _ rfl
    have c0 := HA3.out.c 0 _ rfl
    have c7 := HA3.out.c 7 _ rfl
    have c8 := HA3.out.c 8 _ rfl
    have h03 := HR.out.max
    generalize a.rhos.any (fun r => decide (r < 0)) = R at *
    go_enter Tryz.func71, Tryz.ntmps71
    go_upto_region 4 with fail
    generalize ((w.alloc (.cells #[.int .u8 a.kind, .int .u8 a.op, .int .i64 a.at_, .int .i64 a.n, .string a.name, .string a.arg, .string a.exn, .int .i64 a.rho, .slice a.rp a.rn a.rc, .slice a.ep a.en a.ec, .int .u8 a.ty.head.kind, .int .i64 a.ty.head.rho, .slice a.ty.head.ep a.ty.head.en a.ty.head.ec, .slice a.ty.head.kp a.ty.head.kn a.ty.head.kc, .int .u8 a.res.head.kind, .int .i64 a.res.head.rho, .slice a.res.head.ep a.res.head.en a.res.head.ec, .slice a.res.head.kp a.res.head.kn a.res.head.kc, .slice a.kp a.kn a.kc] 31)).alloc (.cells #[.bool fr, .bool fh, .bool fe, .bool ft, .bool fs] 99)).alloc (.cells #[.int .i64 0] 3) = W3 at *
    cases fr <;> cases fh
    all_goals (
      go_wp2_with (go_at_call 86; refine HCF.out.mono ?_; rintro e w4 ⟨rfl, hb⟩; have HB4 := Lib.hid (HB3.out.trans (hb.mono HB3.out.size)); clear hb)
      all_goals (
        go_ret
        refine ⟨ret_bool ?_, by first | exact HB4.out | exact HB3.out⟩
        rw [HQ.out]
        clear c0 c7 c8 d0 f0 f1 HA0 HA3 HCF HB
        simp_all
        try omega))
  · rw [e17] at HQ
    have HB := Lib.hid (((Below.refl w.heap.size w).alloc (Nat.le_refl _) (boxA a)).alloc (by simp) (.cells #[.bool fr, .bool fh, .bool fe, .bool ft, .bool fs] 99))
    have HB3 := Lib.hid (HB.out.alloc HB.out.size (.cells #[.int .i64 0] 3))
    have HA0 := Lib.hid (((boxA_new w a).below ((Below.refl _ _).alloc (Nat.le_refl _) (.cells #[.bool fr, .bool fh, .bool fe, .bool ft, .bool fs] 99))).below ((Below.refl _ _).alloc (Nat.le_refl _) (.cells #[.int .i64 0] 3)))
    have HA3 := Lib.hid (((boxA_new w a).below ((Below.refl _ _).alloc (Nat.le_refl _) (.cells #[.bool fr, .bool fh, .bool fe, .bool ft, .bool fs] 99))).below ((Below.refl _ _).alloc (Nat.le_refl _) (.cells #[.int .i64 0] 3)))
    have HCF := Lib.hid (cfunc_rhos (HR.out.below HB3.out) (g := w.heap.size + 2) (L := 0) (by rw [show w.heap.size + 2 = ((w.alloc (boxA a)).alloc (.cells #[.bool fr, .bool fh, .bool fe, .bool ft, .bool fs] 99)).heap.size by simp, cell_new]; rfl))
    have f0 : (((w.alloc (boxA a)).alloc (.cells #[.bool fr, .bool fh, .bool fe, .bool ft, .bool fs] 99)).alloc (.cells #[.int .i64 0] 3)).cell? ⟨w.heap.size + 1, 0, none⟩ = some (.bool fr) := by go_simp
    have f1 : (((w.alloc (boxA a)).alloc (.cells #[.bool fr, .bool fh, .bool fe, .bool ft, .bool fs] 99)).alloc (.cells #[.int .i64 0] 3)).cell? ⟨w.heap.size + 1, 1, none⟩ = some (.bool fh) := by go_simp
    have d0 := HA0.out.c 0 _ rfl
    have c0 := HA3.out.c 0 _ rfl
    have c7 := HA3.out.c 7 _ rfl
    have c8 := HA3.out.c 8 _ rfl
    have h03 := HR.out.max
    generalize a.rhos.any (fun r => decide (r < 0)) = R at *
    go_enter Tryz.func71, Tryz.ntmps71
    go_upto_region 4 with fail
    generalize ((w.alloc (.cells #[.int .u8 a.kind, .int .u8 a.op, .int .i64 a.at_, .int .i64 a.n, .string a.name, .string a.arg, .string a.exn, .int .i64 a.rho, .slice a.rp a.rn a.rc, .slice a.ep a.en a.ec, .int .u8 a.ty.head.kind, .int .i64 a.ty.head.rho, .slice a.ty.head.ep a.ty.head.en a.ty.head.ec, .slice a.ty.head.kp a.ty.head.kn a.ty.head.kc, .int .u8 a.res.head.kind, .int .i64 a.res.head.rho, .slice a.res.head.ep a.res.head.en a.res.head.ec, .slice a.res.head.kp a.res.head.kn a.res.head.kc, .slice a.kp a.kn a.kc] 31)).alloc (.cells #[.bool fr, .bool fh, .bool fe, .bool ft, .bool fs] 99)).alloc (.cells #[.int .i64 0] 3) = W3 at *
    cases fr <;> cases fh
    all_goals (
      go_wp2_with (go_at_call 86; refine HCF.out.mono ?_; rintro e w4 ⟨rfl, hb⟩; have HB4 := Lib.hid (HB3.out.trans (hb.mono HB3.out.size)); clear hb)
      all_goals (
        go_ret
        refine ⟨ret_bool ?_, by first | exact HB4.out | exact HB3.out⟩
        rw [HQ.out]
        clear c0 c7 c8 d0 f0 f1 HA0 HA3 HCF HB
        simp_all
        try omega))
theorem regions_any (a : AH) (fr fh fe ft fs : Bool) {w : World} (hr : IsRow encN 1 w a.rp a.rn a.rc a.rhos) :
    Calls Tryz.prog 71 #[aggT a, .agg #[.bool fr, .bool fh, .bool fe, .bool ft, .bool fs]] w fun e w' => e = .returned (.bool (regB a fr fh)) ∧ Below w.heap.size w w' := by
  by_cases h13 : a.kind = 13
  · exact regions_13 a fr fh fe ft fs hr h13
  · exact regions_no a fr fh fe ft fs hr h13
end Go.Proofs.YtdlbjngpohkglaaGreatDoor
end
section
set_option linter.unusedVariables false
set_option maxRecDepth 100000
set_option linter.unusedSimpArgs false
namespace Go.Proofs.YtdlbjngpohkglaaGreatDoor
open Go.RowKit Go.Lib

set_option maxHeartbeats 1000000 in
theorem values_any (p : Option Addr) (n c : Nat) (w : World) :
    Calls Tryz.prog 89 #[.slice p n c] w fun e w' => e = .returned (.func (.func 107) #[] #[.pointer (some ⟨w.heap.size, 0, none⟩)]) ∧ w' = w.alloc (.cells #[.slice p n c] 24) := by
  go_enter Tryz.func89, Tryz.ntmps89
  go_wp2_with fail
  go_ret
  exact ⟨rfl, rfl⟩
set_option maxHeartbeats 1000000 in
theorem collect_any (Bs : Nat) (sv : Value) (xs : List Int) (hbytes : xs.length * 8 ≤ 140737488351232) (w : World)
    (hBs : Bs < w.heap.size) (hcs : w.cell? ⟨Bs, 0, none⟩ = some sv) (hI : IntsB w.heap.size w sv xs) :
    Calls Tryz.prog 105 #[.func (.func 107) #[] #[.pointer (some ⟨Bs, 0, none⟩)]] w fun e W' => ∃ v, e = .returned v ∧ OwnE encN 1 W' w.heap.size 3 v xs.length xs ∧ Below w.heap.size w W' := by
  have HC := Lib.hid (appendSeq_any Bs sv xs hbytes w hBs hcs hI)
  clear hcs hI
  go_enter Tryz.func105, Tryz.ntmps105
  go_wp2_with (go_at_call 130; refine HC.out.mono ?_; rintro e w2 ⟨v, rfl, hown, hb⟩; have HO := Lib.hid hown; have HB := Lib.hid hb; clear hown hb)
  go_ret
  refine ⟨_, rfl, ?_, HB.out⟩
  show World.ownsRow _ _ _ _ _ _ _
  rw [flatN]
  exact HO.out
theorem intsB_of {w : World} {p : Option Addr} {n c : Nat} {l : List Int} (h : IsRow encN 1 w p n c l) : IntsB w.heap.size w (.slice p n c) l := by
  rcases h.row with h0 | ⟨b, o, hp, hb, hc⟩
  · left
    subst h0
    have : n = 0 := by simpa using h.len.symm
    subst this
    exact ⟨p, c, rfl, rfl⟩
  · refine .inr ⟨b, o, c, by rw [hp, h.len], hb, fun j hj => ?_⟩
    have := hc j (l[j]) (List.getElem?_eq_getElem hj) 0 (.int .i64 l[j]) rfl
    rw [List.getElem?_eq_getElem hj]
    simpa using this
set_option maxHeartbeats 2000000 in
theorem sorted_any (Bs : Nat) (sv : Value) (xs : List Int) (hn : xs.length ≤ 1000000) (w : World)
    (hBs : Bs < w.heap.size) (hcs : w.cell? ⟨Bs, 0, none⟩ = some sv) (hI : IntsB w.heap.size w sv xs) :
    Calls Tryz.prog 88 #[.func (.func 107) #[] #[.pointer (some ⟨Bs, 0, none⟩)]] w fun e W' => ∃ v, e = .returned v ∧ OwnE encN 1 W' w.heap.size 3 v xs.length (msortI xs) ∧ Below w.heap.size w W' := by
  have HC := Lib.hid (collect_any Bs sv xs (by omega) w hBs hcs hI)
  clear hcs hI
  go_enter Tryz.func88, Tryz.ntmps88
  go_upto_region 2 with (go_at_call 105; refine HC.out.mono ?_; rintro e w2 ⟨v, rfl, hown, hb⟩; have HO := Lib.hid hown; have HB := Lib.hid hb; clear hown hb)
  rcases HO.out.2 with ⟨hv, h0⟩ | ⟨g, cap, cur, hv, hb, hg, hn', hm, hs, ht⟩
  · subst hv
    have hx : xs = [] := List.eq_nil_of_length_eq_zero h0
    subst hx
    go_wp2_with (go_at_call 106; refine (Tryz.slices_Sort_int_none none 0 w2).mono ?_; rintro e w3 ⟨rfl, rfl⟩)
    go_ret
    exact ⟨_, rfl, by rw [show msortI [] = [] by simp [msortI]]; exact OwnE.nil _ _ _ _ _, HB.out⟩
  · subst hv
    clear hg hs ht
    go_wp2_with (go_at_call 106; refine (sortN_any g cap xs.length xs w.heap.size w2 HO.out (by omega)).mono ?_; rintro e w3 ⟨rfl, hown3, hg3⟩; have HO3 := Lib.hid hown3; have HB3 := Lib.hid (HB.out.grown hg3 HB.out.size (fun b hb' => by injection hb' with hb'; omega)); clear hown3 hg3)
    go_ret
    exact ⟨_, rfl, HO3.out, HB3.out⟩
/-- does no number stand twice? -/
def onceB (l : List Int) : Bool := decide (((sortI l).length : Int) = l.length)
set_option maxHeartbeats 2000000 in
theorem once_any {p : Option Addr} {n c : Nat} {l : List Int} {w : World} (h : IsRow encN 1 w p n c l) (hn : n ≤ 1000000) :
    Calls Tryz.prog 72 #[.slice p n c] w fun e w' => e = .returned (.bool (onceB l)) ∧ Below w.heap.size w w' := by
  have HI := Lib.hid (intsB_of h)
  have hln := h.len
  have HLN := Lib.hid hln
  have HB1 := Lib.hid ((Below.refl w.heap.size w).alloc (Nat.le_refl _) (.cells #[.slice p n c] 24))
  have HS := Lib.hid (sorted_any w.heap.size (.slice p n c) l (by omega) (w.alloc (.cells #[.slice p n c] 24)) (by simp) (by rw [cell_new]; rfl) (by
    rcases HI.out.below HB1.out with h | ⟨b, off, cap, h1, h2, h3⟩
    · exact .inl h
    · exact .inr ⟨b, off, cap, h1, by have := HB1.out.size; omega, h3⟩))
  have HM : Hid (compact (msortI l) = sortI l) := compact_msortI l
  clear h hln
  go_enter Tryz.func72, Tryz.ntmps72
  go_upto_region 2 with (first
    | (go_at_call 89; refine (values_any p n c w).mono ?_; rintro e w1 ⟨rfl, rfl⟩)
    | (go_at_call 88; refine HS.out.mono ?_; rintro e w2 ⟨v, rfl, hown, hb⟩; have HO := Lib.hid hown; have HB := Lib.hid (HB1.out.trans (hb.mono HB1.out.size)); clear hown hb))
  have hbool : ∀ m : Nat, ((m : Int) == (n : Int)) = decide ((m : Int) = n) := fun m => rfl
  rcases HO.out.2 with ⟨hv, h0⟩ | ⟨g, cap, cur, hv, hb, hg, hn', hm, hs, ht⟩
  · subst hv
    have hx : l = [] := List.eq_nil_of_length_eq_zero h0
    subst hx
    have hn0 : n = 0 := by simpa using HLN.out.symm
    subst hn0
    go_wp2_with (go_at_call 90; refine (Tryz.slices_Compact_int_empty none 0 w2).mono ?_; rintro e w3 ⟨rfl, rfl⟩)
    go_ret
    exact ⟨rfl, HB.out⟩
  · subst hv
    have hcap : l.length ≤ cap := hn'
    clear hg hs ht
    have hn2 : l.length ≤ 1000000000 := by have := HLN.out; omega
    have HCP := Lib.hid (compactN_any g cap l.length (msortI l) (w.alloc (.cells #[.slice p n c] 24)).heap.size w2 HO.out hcap hn2)
    go_wp2_with (go_at_call 90; refine HCP.out.mono ?_; rintro e w3 ⟨m, rfl, hm1, hown3, hg3⟩; have HO3 := Lib.hid hown3; have HB3 := Lib.hid (HB.out.grown hg3 HB.out.size (fun b hb' => by injection hb' with hb'; have := HB1.out.size; omega)); clear hown3 hg3)
    go_ret
    refine ⟨ret_bool ?_, HB3.out⟩
    have h1 := HO3.out.len encN_len (by omega)
    rw [HM.out] at h1
    unfold onceB
    rw [← h1, HLN.out]
/-! The plain law: the document's regions. -/
theorem sortI_fold (l : List Int) : sortI l = l.foldl (fun e a => putI a e) [] := by
  obtain ⟨h1, h2⟩ := foldI l [] (by simp [Rising])
  exact (eq_sortI h1 (fun x => by rw [h2]; simp)).symm
theorem sortI_snoc (l : List Int) (x : Int) : sortI (l ++ [x]) = putI x (sortI l) := by
  rw [sortI_fold, List.foldl_append, ← sortI_fold]; rfl
theorem snoc_ind {α : Type} {P : List α → Prop} (h0 : P []) (h1 : ∀ l x, P l → P (l ++ [x])) (l : List α) : P l := by
  have : ∀ m : List α, P m.reverse := by
    intro m
    induction m with
    | nil => exact h0
    | cons x m ih => rw [List.reverse_cons]; exact h1 _ x ih
  have h := this l.reverse
  rwa [List.reverse_reverse] at h
theorem sortI_le (l : List Int) : (sortI l).length ≤ l.length := by
  refine snoc_ind (P := fun l => (sortI l).length ≤ l.length) (by simp [sortI_fold]) (fun l x ih => ?_) l
  rw [sortI_snoc]
  have := putI_length x (sortI l)
  simp only [List.length_append, List.length_cons, List.length_nil]
  omega
theorem once_iff (l : List Int) : onceB l = true ↔ ∀ i x, l[i]? = some x → inN (l.take i) x = false := by
  unfold onceB
  rw [decide_eq_true_iff]
  refine snoc_ind (P := fun l => ((sortI l).length : Int) = l.length ↔ ∀ i x, l[i]? = some x → inN (l.take i) x = false) (by simp [sortI_fold]) (fun l x ih => ?_) l
  · rw [sortI_snoc]
    have h1 := sortI_le l
    by_cases hx : inN (sortI l) x = true
    · have h2 : putI x (sortI l) = sortI l := by unfold putI; rw [if_pos hx]
      rw [h2]
      constructor
      · intro h
        simp only [List.length_append, List.length_cons, List.length_nil] at h
        omega
      · intro h
        have h3 := h l.length x (by simp)
        have h4 : x ∈ l := by
          have : x ∈ sortI l := by simpa [inN] using hx
          rwa [mem_sortI] at this
        simp [inN] at h3
        exact absurd rfl (h3 x h4)
    · have h2 : putI x (sortI l) = putPosI x (sortI l) := by unfold putI; rw [if_neg hx]
      rw [h2, putPosI_length]
      have hx' : x ∉ l := by
        intro h
        apply hx
        have : x ∈ sortI l := by rw [mem_sortI]; exact h
        simpa [inN] using this
      simp only [List.length_append, List.length_cons, List.length_nil]
      constructor
      · intro h i y hi
        by_cases hil : i < l.length
        · rw [List.getElem?_append_left hil] at hi
          rw [List.take_append_of_le_length (by omega)]
          exact ih.1 (by omega) i y hi
        · have : i = l.length := by
            have := (List.getElem?_eq_some_iff.1 hi).1
            simp at this; omega
          subst this
          simp at hi
          subst hi
          simp [inN]
          exact fun y hy e => hx' (e ▸ hy)
      · intro h
        have := ih.2 (fun i y hi => by
          have hil : i < l.length := (List.getElem?_eq_some_iff.1 hi).1
          have := h i y (by rw [List.getElem?_append_left hil]; exact hi)
          rwa [List.take_append_of_le_length (by omega)] at this)
        omega
end Go.Proofs.YtdlbjngpohkglaaGreatDoor
end
