/- Part 30 of the texts: RtC, Sz. -/
import Derived.Test.YtdlbjngpohkglaaGreatDoorG29
import Derived.Test.YtdlbjngpohkglaaGreatDoorG16
section
set_option linter.unusedVariables false
set_option maxRecDepth 100000
set_option linter.unusedSimpArgs false
namespace Go.Proofs.YtdlbjngpohkglaaGreatDoor
open Go.RowKit Go.Sort Go.Lib

theorem kids_le (l : List PT) : l.length ≤ sizes l := by
  unfold sizes
  induction l with
  | nil => simp
  | cons x l ih => have := Rose.size_pos x; simp only [List.length_cons, List.map_cons, List.sum_cons]; omega
structure NodeB (w : World) (a : BH) (l : List PB) : Prop where
  own : BH.Own a
  len : l.length = a.kn
  row : RowE LB.encT 3 w a.kp l
  each : ∀ t ∈ l, LB.lies w t
theorem nodeB_in {w : World} {a : BH} {l : List PB} (h : LB.lies w (.node a l)) : NodeB w a l := by
  rw [Laid.lies_node] at h
  exact ⟨h.1, h.2.1, h.2.2.1, h.2.2.2⟩
theorem NodeB.below {w w' : World} {a : BH} {l : List PB} (h : NodeB w a l) (hb : Below w.heap.size w w') : NodeB w' a l := ⟨h.own, h.len, h.row.below hb, fun t ht => LB.lies_below hb t (h.each t ht)⟩
theorem NodeB.kid {w : World} {a : BH} {l : List PB} (h : NodeB w a l) {j : Nat} {t : PB} (hx : l[j]? = some t) :
    ∃ b o, a.kp = some ⟨b, o, none⟩ ∧ b < w.heap.size ∧ w.cell? ⟨b, o + j * 3, none⟩ = some (.int .u8 t.head.kind) ∧ w.cell? ⟨b, o + j * 3 + 1, none⟩ = some (.int .i64 t.head.var) ∧ w.cell? ⟨b, o + j * 3 + 2, none⟩ = some (.slice t.head.kp t.head.kn t.head.kc) := by
  obtain ⟨b, o, hp, hb, hc⟩ := h.row.elem hx
  exact ⟨b, o, hp, hb, by simpa using hc 0 _ rfl, hc 1 _ rfl, hc 2 _ rfl⟩
theorem join2 (tx ty dd : ByteArray) : joinB ([⟨#[40]⟩, tx, ⟨#[42]⟩, ty] ++ [⟨#[64]⟩, dd, ⟨#[41]⟩]) = ⟨#[40, 32]⟩ ++ tx ++ ⟨#[32, 42, 32]⟩ ++ ty ++ (⟨#[32, 64, 32]⟩ ++ dd ++ ⟨#[32, 41]⟩) := by
  apply ByteArray.ext
  simp [joinB, Lib.join_cons, Lib.joinTail]
theorem join3 (tx dd : ByteArray) : joinB ([⟨#[40, 32, 114, 101, 102]⟩, tx] ++ [⟨#[64]⟩, dd, ⟨#[41]⟩]) = ⟨#[40, 32, 114, 101, 102, 32]⟩ ++ tx ++ (⟨#[32, 64, 32]⟩ ++ dd ++ ⟨#[32, 41]⟩) := by
  apply ByteArray.ext
  simp [joinB, Lib.join_cons, Lib.joinTail]
theorem join4 (tx ty ta dd : ByteArray) : joinB ([⟨#[40]⟩, tx, ⟨#[45, 62]⟩, ty, ⟨#[33]⟩, ta] ++ [⟨#[64]⟩, dd, ⟨#[41]⟩]) = ⟨#[40, 32]⟩ ++ tx ++ ⟨#[32, 45, 62, 32]⟩ ++ ty ++ ⟨#[32, 33, 32]⟩ ++ ta ++ (⟨#[32, 64, 32]⟩ ++ dd ++ ⟨#[32, 41]⟩) := by
  apply ByteArray.ext
  simp [joinB, Lib.join_cons, Lib.joinTail]
/-- what the reference's Text answers -/
def RTextAt (x : PT) (W : World) : Prop := Calls Tryz.prog 31 #[aggR x.head] W fun e w' => e = .returned (.string (textT x.er)) ∧ Below W.heap.size W w'
def REffTextAt (a : RH) (w : World) : Prop := ∀ W, Below w.heap.size w W → Calls Tryz.prog 30 #[.slice a.ep a.en a.ec] W fun e w' => e = .returned (.string (textA (effL a.eff))) ∧ Below W.heap.size W w'
theorem boxR_cells {w w1 : World} {a : RH} (hb : Below (w.heap.size + 1) (w.alloc (.cells #[.int .u8 a.kind, .int .i64 a.rho, .slice a.ep a.en a.ec, .slice a.kp a.kn a.kc] 28)) w1) :
    w1.cell? ⟨w.heap.size, 0, none⟩ = some (.int .u8 a.kind) ∧ w1.cell? ⟨w.heap.size, 1, none⟩ = some (.int .i64 a.rho) ∧ w1.cell? ⟨w.heap.size, 2, none⟩ = some (.slice a.ep a.en a.ec) ∧ w1.cell? ⟨w.heap.size, 3, none⟩ = some (.slice a.kp a.kn a.kc) := by
  refine ⟨?_, ?_, ?_, ?_⟩ <;> (rw [hb.cell (by simp), cell_new]; rfl)
set_option maxHeartbeats 4000000 in
theorem ref_Text12_of {a : RH} {l : List PT} {w : World} (hN : NodeIn w a l) (hn : nodeB a.plain a.kn = true) (he : REffTextAt a w) (hs : (textT (PT.er (.node a l))).size ≤ 1000000000000) (hf : ∀ x ∈ l, ∀ W, Below w.heap.size w W → RTextAt x W) :
    RTextAt (.node a l) w := by
  have HBX := Lib.hid ((Below.refl w.heap.size w).alloc (Nat.le_refl _) (.cells #[.int .u8 a.kind, .int .i64 a.rho, .slice a.ep a.en a.ec, .slice a.kp a.kn a.kc] 28))
  have hkm := hN.own.kmax
  have hr1 := hN.own.r1
  have HDS := Lib.hid (decB_size a.rho hN.own.r0 hN.own.r1)
  have HN := Lib.hid hN
  have HEF := Lib.hid he
  have HS := Lib.hid hs
  have HF := Lib.hid hf
  have HTX := Lib.hid (textT_er a l)
  have hnl := hN.kids.len
  have HKS : Hid (∀ x ∈ l, (textT (PT.er x)).size ≤ 1000000000000) := fun x hx => Nat.le_trans (nodeText_mem (by rw [hnl]; exact hn) hx) hs
  show Calls _ _ #[aggR a] w _
  clear hN he hs hf
  obtain ⟨kd, rr, ep, en, ec, eff, kp, kn, kc⟩ := a
  simp only at hkm hnl hr1
  have hds : (decB rr).size ≤ 21 := HDS.out
  by_cases h1 : kd = 1
  · subst h1
    have HR : Hid (textT (PT.er (.node ⟨1, rr, ep, en, ec, eff, kp, kn, kc⟩ l)) = ⟨#[105, 110, 116]⟩) := by show _ = _; rw [HTX.out]; rfl
    clear hn
    go_enter Tryz.func31, Tryz.ntmps31
    go_wp2_with fail
    go_ret
    exact ⟨ret_str HR.out.symm, HBX.out⟩
  by_cases h2 : kd = 2
  · subst h2
    obtain rfl : kn = 2 := by unfold nodeB at hn; simp [RH.plain] at hn; exact hn.2
    obtain ⟨x, y, rfl⟩ : ∃ x y, l = [x, y] := by match l, hnl with | [y, z], _ => exact ⟨y, z, rfl⟩
    have h0 : 0 ≤ rr := by unfold nodeB at hn; simp [RH.plain] at hn; first | exact of_decide_eq_true hn.1 | exact hn.1
    have HJ : Hid (textT (PT.er (.node ⟨2, rr, ep, en, ec, eff, kp, 2, kc⟩ [x, y])) = ⟨#[40, 32]⟩ ++ textT (PT.er x) ++ ⟨#[32, 42, 32]⟩ ++ textT (PT.er y) ++ (⟨#[32, 64, 32]⟩ ++ decB rr ++ ⟨#[32, 41]⟩)) := by show _ = _; rw [HTX.out]; exact (join2 _ _ _)
    have hsx := HKS.out x (by simp)
    have hsy := HKS.out y (by simp)
    clear hn
    obtain ⟨b, o, rfl, hbl, d0, d1, d2, d3⟩ := HN.out.rowT.kid (j := 0) rfl
    obtain ⟨b', o', hbo, hbl', e0, e1, e2, e3⟩ := HN.out.rowT.kid (j := 1) rfl
    cases hbo
    simp only [Nat.zero_mul, Nat.add_zero, Nat.one_mul] at d0 d1 d2 d3 e0 e1 e2 e3
    have HKC : Hid (∀ W, Below w.heap.size w W → (W.cell? ⟨b, o, none⟩ = some (.int .u8 x.head.kind) ∧ W.cell? ⟨b, o + 1, none⟩ = some (.int .i64 x.head.rho) ∧ W.cell? ⟨b, o + 2, none⟩ = some (.slice x.head.ep x.head.en x.head.ec) ∧ W.cell? ⟨b, o + 3, none⟩ = some (.slice x.head.kp x.head.kn x.head.kc)) ∧
        (W.cell? ⟨b, o + 4, none⟩ = some (.int .u8 y.head.kind) ∧ W.cell? ⟨b, o + 4 + 1, none⟩ = some (.int .i64 y.head.rho) ∧ W.cell? ⟨b, o + 4 + 2, none⟩ = some (.slice y.head.ep y.head.en y.head.ec) ∧ W.cell? ⟨b, o + 4 + 3, none⟩ = some (.slice y.head.kp y.head.kn y.head.kc))) := fun W h =>
      ⟨⟨by rw [h.cell hbl]; exact d0, by rw [h.cell hbl]; exact d1, by rw [h.cell hbl]; exact d2, by rw [h.cell hbl]; exact d3⟩, ⟨by rw [h.cell hbl]; exact e0, by rw [h.cell hbl]; exact e1, by rw [h.cell hbl]; exact e2, by rw [h.cell hbl]; exact e3⟩⟩
    have HK : Hid (∀ t ∈ [x, y], ∀ W, Below w.heap.size w W → Calls Tryz.prog 31 #[aggR t.head] W fun e w' => e = .returned (.string (textT (PT.er t))) ∧ Below W.heap.size W w') := fun t ht W h => HF.out t ht W h
    have H0 := Lib.hid h0
    go_enter Tryz.func31, Tryz.ntmps31
    go_wp2_with fail
    refine (ref_Digits_pos H0.out hr1 _).mono ?_
    rintro e w1 ⟨rfl, hb⟩
    have HB1 := Lib.hid (HBX.out.trans (hb.mono HBX.out.size))
    have HC1 : Hid (Below (w.heap.size + 1) (w.alloc (.cells #[.int .u8 2, .int .i64 rr, .slice ep en ec, .slice (some ⟨b, o, none⟩) 2 kc] 28)) w1) := by show Below _ _ _; simpa using hb
    clear hb d0 d1 d2 d3 e0 e1 e2 e3
    have HBC := Lib.hid (fun w1 => boxR_cells (w := w) (w1 := w1) (a := ⟨2, rr, ep, en, ec, eff, some ⟨b, o, none⟩, 2, kc⟩))
    obtain ⟨c0, c1, c2, c3⟩ := HBC.out _ HC1.out
    obtain ⟨⟨d0, d1, d2, d3⟩, e0, e1, e2, e3⟩ := HKC.out _ HB1.out
    go_wp2_with fail
    refine ((HK.out x (by simp) _ HB1.out)).mono ?_
    rintro e w2 ⟨rfl, hb⟩
    have HB2 := Lib.hid (HB1.out.trans (hb.mono HB1.out.size))
    have HC2 := Lib.hid (HC1.out.trans (hb.mono (by have := HC1.out.size; simpa using this)))
    clear hb d0 d1 d2 d3 e0 e1 e2 e3 c0 c1 c2 c3
    obtain ⟨c0, c1, c2, c3⟩ := HBC.out _ HC2.out
    obtain ⟨⟨d0, d1, d2, d3⟩, e0, e1, e2, e3⟩ := HKC.out _ HB2.out
    go_wp2_with fail
    refine ((HK.out y (by simp) _ HB2.out)).mono ?_
    rintro e w3 ⟨rfl, hb⟩
    have HB3 := Lib.hid (HB2.out.trans (hb.mono HB2.out.size))
    have HC3 := Lib.hid (HC2.out.trans (hb.mono (by have := HC2.out.size; simpa using this)))
    clear hb d0 d1 d2 d3 e0 e1 e2 e3 c0 c1 c2 c3
    obtain ⟨c0, c1, c2, c3⟩ := HBC.out _ HC3.out
    obtain ⟨⟨d0, d1, d2, d3⟩, e0, e1, e2, e3⟩ := HKC.out _ HB3.out
    go_wp2_with fail
    go_ret
    exact ⟨ret_str HJ.out.symm, HB3.out⟩
  by_cases h4 : kd = 4
  · subst h4
    have hta : (textA (effL eff)).size ≤ 1000000000000 := by
      have h := HS.out
      rw [HTX.out] at h
      refine Nat.le_trans (joinB_mem ?_) h
      show textA (effL eff) ∈ partsL (RH.plain ⟨4, rr, ep, en, ec, eff, kp, kn, kc⟩) _ _ ++ _
      simp [partsL, RH.plain]
    obtain rfl : kn = 2 := by unfold nodeB at hn; simp [RH.plain] at hn; exact hn.2
    obtain ⟨x, y, rfl⟩ : ∃ x y, l = [x, y] := by match l, hnl with | [y, z], _ => exact ⟨y, z, rfl⟩
    have h0 : 0 ≤ rr := by unfold nodeB at hn; simp [RH.plain] at hn; first | exact of_decide_eq_true hn.1 | exact hn.1
    have HJ : Hid (textT (PT.er (.node ⟨4, rr, ep, en, ec, eff, kp, 2, kc⟩ [x, y])) = ⟨#[40, 32]⟩ ++ textT (PT.er x) ++ ⟨#[32, 45, 62, 32]⟩ ++ textT (PT.er y) ++ ⟨#[32, 33, 32]⟩ ++ textA (effL eff) ++ (⟨#[32, 64, 32]⟩ ++ decB rr ++ ⟨#[32, 41]⟩)) := by show _ = _; rw [HTX.out]; exact (join4 _ _ _ _)
    have hsx := HKS.out x (by simp)
    have hsy := HKS.out y (by simp)
    clear hn
    obtain ⟨b, o, rfl, hbl, d0, d1, d2, d3⟩ := HN.out.rowT.kid (j := 0) rfl
    obtain ⟨b', o', hbo, hbl', e0, e1, e2, e3⟩ := HN.out.rowT.kid (j := 1) rfl
    cases hbo
    simp only [Nat.zero_mul, Nat.add_zero, Nat.one_mul] at d0 d1 d2 d3 e0 e1 e2 e3
    have HKC : Hid (∀ W, Below w.heap.size w W → (W.cell? ⟨b, o, none⟩ = some (.int .u8 x.head.kind) ∧ W.cell? ⟨b, o + 1, none⟩ = some (.int .i64 x.head.rho) ∧ W.cell? ⟨b, o + 2, none⟩ = some (.slice x.head.ep x.head.en x.head.ec) ∧ W.cell? ⟨b, o + 3, none⟩ = some (.slice x.head.kp x.head.kn x.head.kc)) ∧
        (W.cell? ⟨b, o + 4, none⟩ = some (.int .u8 y.head.kind) ∧ W.cell? ⟨b, o + 4 + 1, none⟩ = some (.int .i64 y.head.rho) ∧ W.cell? ⟨b, o + 4 + 2, none⟩ = some (.slice y.head.ep y.head.en y.head.ec) ∧ W.cell? ⟨b, o + 4 + 3, none⟩ = some (.slice y.head.kp y.head.kn y.head.kc))) := fun W h =>
      ⟨⟨by rw [h.cell hbl]; exact d0, by rw [h.cell hbl]; exact d1, by rw [h.cell hbl]; exact d2, by rw [h.cell hbl]; exact d3⟩, ⟨by rw [h.cell hbl]; exact e0, by rw [h.cell hbl]; exact e1, by rw [h.cell hbl]; exact e2, by rw [h.cell hbl]; exact e3⟩⟩
    have HK : Hid (∀ t ∈ [x, y], ∀ W, Below w.heap.size w W → Calls Tryz.prog 31 #[aggR t.head] W fun e w' => e = .returned (.string (textT (PT.er t))) ∧ Below W.heap.size W w') := fun t ht W h => HF.out t ht W h
    have H0 := Lib.hid h0
    go_enter Tryz.func31, Tryz.ntmps31
    go_wp2_with fail
    refine (ref_Digits_pos H0.out hr1 _).mono ?_
    rintro e w1 ⟨rfl, hb⟩
    have HB1 := Lib.hid (HBX.out.trans (hb.mono HBX.out.size))
    have HC1 : Hid (Below (w.heap.size + 1) (w.alloc (.cells #[.int .u8 4, .int .i64 rr, .slice ep en ec, .slice (some ⟨b, o, none⟩) 2 kc] 28)) w1) := by show Below _ _ _; simpa using hb
    clear hb d0 d1 d2 d3 e0 e1 e2 e3
    have HBC := Lib.hid (fun w1 => boxR_cells (w := w) (w1 := w1) (a := ⟨4, rr, ep, en, ec, eff, some ⟨b, o, none⟩, 2, kc⟩))
    obtain ⟨c0, c1, c2, c3⟩ := HBC.out _ HC1.out
    obtain ⟨⟨d0, d1, d2, d3⟩, e0, e1, e2, e3⟩ := HKC.out _ HB1.out
    go_wp2_with fail
    refine ((HK.out x (by simp) _ HB1.out)).mono ?_
    rintro e w2 ⟨rfl, hb⟩
    have HB2 := Lib.hid (HB1.out.trans (hb.mono HB1.out.size))
    have HC2 := Lib.hid (HC1.out.trans (hb.mono (by have := HC1.out.size; simpa using this)))
    clear hb d0 d1 d2 d3 e0 e1 e2 e3 c0 c1 c2 c3
    obtain ⟨c0, c1, c2, c3⟩ := HBC.out _ HC2.out
    obtain ⟨⟨d0, d1, d2, d3⟩, e0, e1, e2, e3⟩ := HKC.out _ HB2.out
    go_wp2_with fail
    refine ((HK.out y (by simp) _ HB2.out)).mono ?_
    rintro e w3 ⟨rfl, hb⟩
    have HB3 := Lib.hid (HB2.out.trans (hb.mono HB2.out.size))
    have HC3 := Lib.hid (HC2.out.trans (hb.mono (by have := HC2.out.size; simpa using this)))
    clear hb d0 d1 d2 d3 e0 e1 e2 e3 c0 c1 c2 c3
    obtain ⟨c0, c1, c2, c3⟩ := HBC.out _ HC3.out
    obtain ⟨⟨d0, d1, d2, d3⟩, e0, e1, e2, e3⟩ := HKC.out _ HB3.out
    go_wp2_with fail
    refine (HEF.out _ HB3.out).mono ?_
    rintro e w4 ⟨rfl, hb⟩
    have HB4 := Lib.hid (HB3.out.trans (hb.mono HB3.out.size))
    clear hb d0 d1 d2 d3 e0 e1 e2 e3 c0 c1 c2 c3
    go_wp2_with fail
    go_ret
    exact ⟨ret_str HJ.out.symm, HB4.out⟩
  by_cases h3 : kd = 3
  · subst h3
    obtain rfl : kn = 1 := by unfold nodeB at hn; simp [RH.plain] at hn; exact hn.2
    obtain ⟨x, rfl⟩ := List.length_eq_one_iff.1 hnl
    have h0 : 0 ≤ rr := by unfold nodeB at hn; simp [RH.plain] at hn; first | exact of_decide_eq_true hn.1 | exact hn.1
    have HJ : Hid (textT (PT.er (.node ⟨3, rr, ep, en, ec, eff, kp, 1, kc⟩ [x])) = ⟨#[40, 32, 114, 101, 102, 32]⟩ ++ textT (PT.er x) ++ (⟨#[32, 64, 32]⟩ ++ decB rr ++ ⟨#[32, 41]⟩)) := by show _ = _; rw [HTX.out]; exact (join3 _ _)
    have hsx := HKS.out x (by simp)
    clear hn
    obtain ⟨b, o, rfl, hbl, d0, d1, d2, d3⟩ := HN.out.rowT.kid (j := 0) rfl
    simp only [Nat.zero_mul, Nat.add_zero] at d0 d1 d2 d3
    have HKC : Hid (∀ W, Below w.heap.size w W → (W.cell? ⟨b, o, none⟩ = some (.int .u8 x.head.kind) ∧ W.cell? ⟨b, o + 1, none⟩ = some (.int .i64 x.head.rho) ∧ W.cell? ⟨b, o + 2, none⟩ = some (.slice x.head.ep x.head.en x.head.ec) ∧ W.cell? ⟨b, o + 3, none⟩ = some (.slice x.head.kp x.head.kn x.head.kc))) := fun W h =>
      ⟨by rw [h.cell hbl]; exact d0, by rw [h.cell hbl]; exact d1, by rw [h.cell hbl]; exact d2, by rw [h.cell hbl]; exact d3⟩
    have H0 := Lib.hid h0
    go_enter Tryz.func31, Tryz.ntmps31
    go_wp2_with fail
    refine (ref_Digits_pos H0.out hr1 _).mono ?_
    rintro e w1 ⟨rfl, hb⟩
    have HB1 := Lib.hid (HBX.out.trans (hb.mono HBX.out.size))
    have HC1 : Hid (Below (w.heap.size + 1) (w.alloc (.cells #[.int .u8 3, .int .i64 rr, .slice ep en ec, .slice (some ⟨b, o, none⟩) 1 kc] 28)) w1) := by show Below _ _ _; simpa using hb
    clear hb d0 d1 d2 d3
    have HBC := Lib.hid (fun w1 => boxR_cells (w := w) (w1 := w1) (a := ⟨3, rr, ep, en, ec, eff, some ⟨b, o, none⟩, 1, kc⟩))
    obtain ⟨c0, c1, c2, c3⟩ := HBC.out _ HC1.out
    obtain ⟨d0, d1, d2, d3⟩ := HKC.out _ HB1.out
    go_wp2_with fail
    refine ((show Calls Tryz.prog 31 #[aggR x.head] _ fun e w' => e = .returned (.string (textT (PT.er x))) ∧ Below _ _ w' from HF.out x (by simp) _ HB1.out)).mono ?_
    rintro e w2 ⟨rfl, hb⟩
    have HB2 := Lib.hid (HB1.out.trans (hb.mono HB1.out.size))
    have HC2 := Lib.hid (HC1.out.trans (hb.mono (by have := HC1.out.size; simpa using this)))
    clear hb d0 d1 d2 d3 c0 c1 c2 c3
    obtain ⟨c0, c1, c2, c3⟩ := HBC.out _ HC2.out
    go_wp2_with fail
    go_ret
    exact ⟨ret_str HJ.out.symm, HB2.out⟩
  · exfalso
    simp [nodeB, RH.plain, h1, h2, h3, h4] at hn

theorem joinB_le (l : List ByteArray) : (joinB l).size ≤ (l.map ByteArray.size).sum + l.length := by
  rw [joinB_size]
  cases l with
  | nil => simp [Lib.join]
  | cons x r =>
    rw [List.map_cons, Lib.join_cons, List.length_append, Lib.joinTail_length]
    have e : Lib.lens (r.map (·.data.toList)) = (r.map ByteArray.size).sum := by
      unfold Lib.lens
      rw [List.map_map]
      congr 1
    rw [e]
    simp only [List.map_cons, List.sum_cons, List.length_cons, List.length_nil, List.length_map, Array.length_toList]
    have : x.data.size = x.size := rfl
    omega
theorem textA_le {l : List Atom} (hg : greatB l = false) (hok : ∀ x ∈ l, okAt x) : (textA (effL l)).size ≤ 100000400 := by
  unfold textA
  split
  · decide
  · have h := join_len 1000000 [32, 44, 32] (((effL l).map textOne).map (·.data.toList)) (by
      intro y hy
      simp only [List.mem_map] at hy
      obtain ⟨z, ⟨a, ha, rfl⟩, rfl⟩ := hy
      have ha' : a ∈ l ∧ atomB a = true := by
        unfold effL at ha
        rw [mem_sortA, List.mem_filter] at ha; exact ha
      have := textOne_size hg hok a ha'.1 ha'.2
      show (textOne a).data.toList.length ≤ _
      rw [Array.length_toList]; exact this)
    have h2 := effL_length l
    have h3 := greatB_len' hg
    simp only [List.length_map] at h
    show (Lib.join _ _).toArray.size ≤ _
    rw [List.size_toArray]
    refine Nat.le_trans h ?_
    refine Nat.le_trans (Nat.mul_le_mul_right _ (show (effL l).length ≤ 100 by omega)) (by decide)
theorem getD_sum : ∀ l : List ByteArray, (l.getD 0 .empty).size + (l.getD 1 .empty).size ≤ (l.map ByteArray.size).sum
  | [] => by simp
  | [x] => by simp
  | x :: y :: l => by simp
theorem text_le (t : PT) {w : World} : LR.lies w t → effsOK t.er = true → (textT t.er).size ≤ 100000500 * t.size := by
  refine Rose.ind (P := fun (t : PT) => LR.lies w t → effsOK t.er = true → (textT t.er).size ≤ 100000500 * t.size) (fun a l ih hl h => ?_) t
  have HN := nodeIn hl
  rw [PT.er_node, effsOK_node, Bool.and_eq_true, List.all_map, List.all_eq_true] at h
  have hta : (textA (effL a.plain.eff)).size ≤ 100000400 := textA_le (show greatB a.eff = false by simpa [RH.plain] using h.1) HN.own.ok
  have hd : (decB a.plain.rho).size ≤ 21 := decB_size a.rho HN.own.r0 HN.own.r1
  have hk := getD_sum (l.map (fun t => textT (PT.er t)))
  have hsum := sum_le_mul (fun t => (textT (PT.er t)).size) Rose.size 100000500 l (fun x hx => ih x hx (HN.each x hx) (h.2 x hx))
  rw [List.map_map] at hk
  rw [textT_er, Rose.size_node]
  have hk' : ((l.map (fun t => textT (PT.er t))).getD 0 .empty).size + ((l.map (fun t => textT (PT.er t))).getD 1 .empty).size ≤ (l.map (fun t => (textT (PT.er t)).size)).sum := hk
  unfold nodeText
  generalize (l.map (fun t => textT (PT.er t))).getD 0 .empty = k0 at hk' ⊢
  generalize (l.map (fun t => textT (PT.er t))).getD 1 .empty = k1 at hk' ⊢
  have z0 : bInt.size = 3 := rfl
  have z1 : (⟨#[40]⟩ : ByteArray).size = 1 := rfl
  have z2 : (⟨#[42]⟩ : ByteArray).size = 1 := rfl
  have z3 : (⟨#[40, 32, 114, 101, 102]⟩ : ByteArray).size = 5 := rfl
  have z4 : (⟨#[45, 62]⟩ : ByteArray).size = 2 := rfl
  have z5 : (⟨#[33]⟩ : ByteArray).size = 1 := rfl
  have z6 : (⟨#[64]⟩ : ByteArray).size = 1 := rfl
  have z7 : (⟨#[41]⟩ : ByteArray).size = 1 := rfl
  split
  · omega
  · refine Nat.le_trans (joinB_le _) ?_
    unfold partsL atL
    split
    · simp only [List.map_append, List.map_cons, List.map_nil, List.sum_append_nat, List.sum_cons, List.sum_nil, List.length_append, List.length_cons, List.length_nil]; omega
    · split
      · simp only [List.map_append, List.map_cons, List.map_nil, List.sum_append_nat, List.sum_cons, List.sum_nil, List.length_append, List.length_cons, List.length_nil]; omega
      · simp only [List.map_append, List.map_cons, List.map_nil, List.sum_append_nat, List.sum_cons, List.sum_nil, List.length_append, List.length_cons, List.length_nil]; omega
theorem text_small {t : PT} {w : World} (hl : LR.lies w t) (hp : SmallP t) : (textT t.er).size ≤ 1000000000000 := by
  have h := text_le t hl hp.effs
  have := hp.size
  omega
theorem rtextAt_any (t : PT) : ∀ w, LR.lies w t → textOK t = true → (textT t.er).size ≤ 1000000000000 → RTextAt t w := by
  refine Rose.ind (P := fun (t : PT) => ∀ w, LR.lies w t → textOK t = true → (textT t.er).size ≤ 1000000000000 → RTextAt t w) (fun a l ih => ?_) t
  intro w hl ho hs
  have HN := nodeIn hl
  rw [textOK_node, Bool.and_eq_true, Bool.and_eq_true, List.all_eq_true] at ho
  obtain ⟨⟨hn, hg⟩, hk⟩ := ho
  have hg : greatB a.eff = false := by simpa using hg
  have hsz := textOne_size hg HN.own.ok
  have hlen := greatB_len' hg
  refine ref_Text12_of HN (by rw [← HN.kids.len]; exact hn) ?_ hs ?_
  · intro W hW
    exact ref_Text_any (HN.own.eff.below hW) (by have := HN.own.eff.len; omega) (fun x hx => (HN.own.ok x hx).r1) hsz
  · intro x hx W hW
    exact ih x hx W (LR.lies_below hW x (HN.each x hx)) (hk x hx) (Nat.le_trans (nodeText_mem hn hx) hs)
end Go.Proofs.YtdlbjngpohkglaaGreatDoor
end
section
set_option linter.unusedVariables false
set_option maxRecDepth 100000
set_option linter.unusedSimpArgs false
namespace Go.Proofs.YtdlbjngpohkglaaGreatDoor
open Go.RowKit Go.Sort Go.Lib

theorem textOne_size2 {l : List Atom} (hg : greatB l = false) (hok : ∀ x ∈ l, okAt x) : ∀ a ∈ l, atomB a = true → (textOne a).size ≤ 200 := by
  intro a ha _
  have h := hok a ha
  have hs : a.exn.size ≤ 100 := by
    unfold greatB at hg
    simp only [Bool.or_eq_false_iff, List.any_eq_false] at hg
    have := hg.2 a ha
    simp at this
    omega
  have hd := decB_size a.rho h.r0 h.r1
  have e1 : bGet.size = 3 := rfl
  have e2 : bPut.size = 3 := rfl
  have e3 : bExn.size = 3 := rfl
  have e4 : bSp.size = 1 := rfl
  unfold textOne
  split
  · simp only [ByteArray.size_append]; omega
  · split <;> (simp only [ByteArray.size_append]; omega)

theorem textA_le2 {l : List Atom} (hg : greatB l = false) (hok : ∀ x ∈ l, okAt x) : (textA (effL l)).size ≤ 30000 := by
  unfold textA
  split
  · decide
  · have h := join_len 200 [32, 44, 32] (((effL l).map textOne).map (·.data.toList)) (by
      intro y hy
      simp only [List.mem_map] at hy
      obtain ⟨z, ⟨a, ha, rfl⟩, rfl⟩ := hy
      have ha' : a ∈ l ∧ atomB a = true := by
        unfold effL at ha
        rw [mem_sortA, List.mem_filter] at ha; exact ha
      have := textOne_size2 hg hok a ha'.1 ha'.2
      show (textOne a).data.toList.length ≤ _
      rw [Array.length_toList]; exact this)
    have h2 := effL_length l
    have h3 := greatB_len' hg
    simp only [List.length_map] at h
    show (Lib.join _ _).toArray.size ≤ _
    rw [List.size_toArray]
    refine Nat.le_trans h ?_
    refine Nat.le_trans (Nat.mul_le_mul_right _ (show (effL l).length ≤ 100 by omega)) (by decide)
theorem text_le2 (t : PT) {w : World} : LR.lies w t → effsOK t.er = true → (textT t.er).size ≤ 40000 * t.size := by
  refine Rose.ind (P := fun (t : PT) => LR.lies w t → effsOK t.er = true → (textT t.er).size ≤ 40000 * t.size) (fun a l ih hl h => ?_) t
  have HN := nodeIn hl
  rw [PT.er_node, effsOK_node, Bool.and_eq_true, List.all_map, List.all_eq_true] at h
  have hta : (textA (effL a.plain.eff)).size ≤ 30000 := textA_le2 (show greatB a.eff = false by simpa [RH.plain] using h.1) HN.own.ok
  have hd : (decB a.plain.rho).size ≤ 21 := decB_size a.rho HN.own.r0 HN.own.r1
  have hk := getD_sum (l.map (fun t => textT (PT.er t)))
  have hsum := sum_le_mul (fun t => (textT (PT.er t)).size) Rose.size 40000 l (fun x hx => ih x hx (HN.each x hx) (h.2 x hx))
  rw [List.map_map] at hk
  rw [textT_er, Rose.size_node]
  have hk' : ((l.map (fun t => textT (PT.er t))).getD 0 .empty).size + ((l.map (fun t => textT (PT.er t))).getD 1 .empty).size ≤ (l.map (fun t => (textT (PT.er t)).size)).sum := hk
  unfold nodeText
  generalize (l.map (fun t => textT (PT.er t))).getD 0 .empty = k0 at hk' ⊢
  generalize (l.map (fun t => textT (PT.er t))).getD 1 .empty = k1 at hk' ⊢
  have z0 : bInt.size = 3 := rfl
  have z1 : (⟨#[40]⟩ : ByteArray).size = 1 := rfl
  have z2 : (⟨#[42]⟩ : ByteArray).size = 1 := rfl
  have z3 : (⟨#[40, 32, 114, 101, 102]⟩ : ByteArray).size = 5 := rfl
  have z4 : (⟨#[45, 62]⟩ : ByteArray).size = 2 := rfl
  have z5 : (⟨#[33]⟩ : ByteArray).size = 1 := rfl
  have z6 : (⟨#[64]⟩ : ByteArray).size = 1 := rfl
  have z7 : (⟨#[41]⟩ : ByteArray).size = 1 := rfl
  split
  · omega
  · refine Nat.le_trans (joinB_le _) ?_
    unfold partsL atL
    split
    · simp only [List.map_append, List.map_cons, List.map_nil, List.sum_append_nat, List.sum_cons, List.sum_nil, List.length_append, List.length_cons, List.length_nil]; omega
    · split
      · simp only [List.map_append, List.map_cons, List.map_nil, List.sum_append_nat, List.sum_cons, List.sum_nil, List.length_append, List.length_cons, List.length_nil]; omega
      · simp only [List.map_append, List.map_cons, List.map_nil, List.sum_append_nat, List.sum_cons, List.sum_nil, List.length_append, List.length_cons, List.length_nil]; omega
end Go.Proofs.YtdlbjngpohkglaaGreatDoor
end
