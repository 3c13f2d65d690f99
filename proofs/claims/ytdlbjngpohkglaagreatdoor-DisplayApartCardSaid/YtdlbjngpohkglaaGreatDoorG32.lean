/- Part 32 of the texts: An, Am. -/
import Derived.Test.YtdlbjngpohkglaaGreatDoorG31
import Derived.Test.YtdlbjngpohkglaaGreatDoorG21
import Derived.Test.YtdlbjngpohkglaaGreatDoorG22
section
set_option linter.unusedVariables false
set_option maxRecDepth 100000
set_option linter.unusedSimpArgs false
namespace Go.Proofs.YtdlbjngpohkglaaGreatDoor
open Go.RowKit

/-- the boxes of aterm.node -/
structure AnS (w W : World) (g : Nat) (a : AH) (b0 b1 b2 b3 b4 : Bool) : Prop where
  box : BoxA W w.heap.size a
  f : W.heap[g]? = some (.cells #[.bool b0, .bool b1, .bool b2, .bool b3, .bool b4] 99 (0, 0))
  below : Below w.heap.size w W
theorem AnS.drop {w W W' : World} {g : Nat} {a : AH} {b0 b1 b2 b3 b4 : Bool} (h : AnS w W g a b0 b1 b2 b3 b4) (hb : Below W.heap.size W W') : AnS w W' g a b0 b1 b2 b3 b4 :=
  ⟨h.box.below hb, by rw [hb.block g (Array.getElem?_eq_some_iff.1 h.f).1]; exact h.f, h.below.trans (hb.mono h.below.size)⟩
theorem AnS.cells {w W : World} {g : Nat} {a : AH} {b0 b1 b2 b3 b4 : Bool} (h : AnS w W g a b0 b1 b2 b3 b4) :
    (W.cell? ⟨g, 0, none⟩ = some (.bool b0) ∧ W.cell? ⟨g, 1, none⟩ = some (.bool b1) ∧ W.cell? ⟨g, 2, none⟩ = some (.bool b2) ∧ W.cell? ⟨g, 3, none⟩ = some (.bool b3) ∧ W.cell? ⟨g, 4, none⟩ = some (.bool b4)) ∧
    W.cell? ⟨w.heap.size, 0, none⟩ = some (.int .u8 a.kind) ∧ W.cell? ⟨w.heap.size, 8, none⟩ = some (.slice a.rp a.rn a.rc) ∧ W.cell? ⟨w.heap.size, 9, none⟩ = some (.slice a.ep a.en a.ec) ∧
    W.cell? ⟨w.heap.size, 10, none⟩ = some (.int .u8 a.ty.head.kind) ∧ W.cell? ⟨w.heap.size, 11, none⟩ = some (.int .i64 a.ty.head.rho) ∧ W.cell? ⟨w.heap.size, 12, none⟩ = some (.slice a.ty.head.ep a.ty.head.en a.ty.head.ec) ∧ W.cell? ⟨w.heap.size, 13, none⟩ = some (.slice a.ty.head.kp a.ty.head.kn a.ty.head.kc) ∧
    W.cell? ⟨w.heap.size, 14, none⟩ = some (.int .u8 a.res.head.kind) ∧ W.cell? ⟨w.heap.size, 15, none⟩ = some (.int .i64 a.res.head.rho) ∧ W.cell? ⟨w.heap.size, 16, none⟩ = some (.slice a.res.head.ep a.res.head.en a.res.head.ec) ∧ W.cell? ⟨w.heap.size, 17, none⟩ = some (.slice a.res.head.kp a.res.head.kn a.res.head.kc) := by
  have hf := h.f
  refine ⟨⟨?_, ?_, ?_, ?_, ?_⟩, h.box.c 0 _ rfl, h.box.c 8 _ rfl, h.box.c 9 _ rfl, h.box.c 10 _ rfl, h.box.c 11 _ rfl, h.box.c 12 _ rfl, h.box.c 13 _ rfl, h.box.c 14 _ rfl, h.box.c 15 _ rfl, h.box.c 16 _ rfl, h.box.c 17 _ rfl⟩ <;> simp [World.cell?, hf]
/-- a small type's head -/
theorem smallT_head {t : PT} {w : World} {n : Nat} (hl : LR.lies w t) (hs : SmallT t.er n) (hn : n ≤ 1000000) : t.head.en ≤ 1000000 ∧ t.head.kn ≤ 1000000 := by
  have hN := nodeIn' hl
  obtain ⟨a, l⟩ := t
  rw [PT.er_node] at hs
  have h1 := hs.kids
  have h2 := greatB_len' hs.eff
  have h3 := hN.own.eff.len
  have h4 := hN.kids.len
  simp only [List.length_map] at h1
  have h5 : a.eff.length ≤ 100 := h2
  have h6 : a.eff.length = a.en := h3
  have h7 : l.length = a.kn := h4
  show a.en ≤ 1000000 ∧ a.kn ≤ 1000000
  omega
set_option maxHeartbeats 4000000 in
theorem aterm_node_any (a : AH) {w : World} (ho : AH.Own w a) (hs : SmallN a) (hk : a.kn ≤ 1000000) (hv : Vr w) :
    Calls Tryz.prog 56 #[aggT a] w fun e w' => e = .returned (.bool (node13 a)) ∧ Below w.heap.size w w' := by
  have hel := greatB_len' hs.eff
  have hen : a.en ≤ 1000000 := by have := ho.eff.len; omega
  obtain ⟨ht1, ht2⟩ := smallT_head ho.ty hs.ty (by omega)
  obtain ⟨hr1, hr2⟩ := smallT_head ho.res hs.res (by omega)
  have HM : Hid (node13 a = (headB a.hd a.kn && regB a (inB [3, 6, 11, 13, 17, 18] a.kind) ((a.kind == 13) || (a.kind == 18)) && (!(a.kind == 13) || onceB a.rhos) && (!(inB [11, 13, 18] a.kind) || mayB a.eff) && (inB [11, 13, 18] a.kind || !decide (0 < a.en)) &&
    (fitsT (inB [11, 13, 15] a.kind) a.ty && fitsT (a.kind == 13) a.res))) := (nodeM_eq a ho.rhos.len ho.eff.len).symm
  have hen63 := ho.eff.max
  have CH : ∀ W, Below w.heap.size w W → Calls Tryz.prog 70 #[aggT a] W fun e w' => e = .returned (.bool (headB a.hd a.kn)) ∧ Below W.heap.size W w' := fun W hb => aterm_headed_any a ho.k0 ho.k1 hk (hv.below hb)
  have CR : ∀ W, Below w.heap.size w W → Calls Tryz.prog 71 #[aggT a, ofB a.kind] W fun e w' => e = .returned (.bool (regB a (inB [3, 6, 11, 13, 17, 18] a.kind) ((a.kind == 13) || (a.kind == 18)))) ∧ Below W.heap.size W w' := fun W hb => regions_any a _ _ _ _ _ (ho.rhos.below hb)
  have CO : ∀ W, Below w.heap.size w W → Calls Tryz.prog 72 #[.slice a.rp a.rn a.rc] W fun e w' => e = .returned (.bool (onceB a.rhos)) ∧ Below W.heap.size W w' := fun W hb => once_any (ho.rhos.below hb) (by have := hs.rhos; omega)
  have CM : ∀ W, Below w.heap.size w W → Calls Tryz.prog 73 #[.slice a.ep a.en a.ec] W fun e w' => e = .returned (.bool (mayB a.eff)) ∧ Below W.heap.size W w' := fun W hb => eff_May_is rfl (ho.eff.below hb)
  have CF1 : ∀ W, Below w.heap.size w W → Calls Tryz.prog 74 #[.bool (inB [11, 13, 15] a.kind), aggR a.ty.head] W fun e w' => e = .returned (.bool (fitsT (inB [11, 13, 15] a.kind) a.ty)) ∧ Below W.heap.size W w' := fun W hb => aterm_fits_any _ _ (LR.lies_below hb _ ho.ty) ht1 ht2
  have CF2 : ∀ W, Below w.heap.size w W → Calls Tryz.prog 74 #[.bool (a.kind == 13), aggR a.res.head] W fun e w' => e = .returned (.bool (fitsT (a.kind == 13) a.res)) ∧ Below W.heap.size W w' := fun W hb => aterm_fits_any _ _ (LR.lies_below hb _ ho.res) hr1 hr2
  have COf := Lib.hid (of_any a.kind (w.alloc (boxA a)))
  have HB0 := Lib.hid ((Below.refl w.heap.size w).alloc (Nat.le_refl _) (boxA a))
  have HA0 := Lib.hid (boxA_new w a)
  unfold ofB at COf CR
  clear ho hs hk hv hel ht1 ht2 hr1 hr2
  generalize headB a.hd a.kn = H at *
  generalize regB a (inB [3, 6, 11, 13, 17, 18] a.kind) ((a.kind == 13) || (a.kind == 18)) = R at *
  generalize onceB a.rhos = O at *
  generalize mayB a.eff = M at *
  generalize fitsT (inB [11, 13, 15] a.kind) a.ty = F1 at *
  generalize fitsT (a.kind == 13) a.res = F2 at *
  generalize inB [3, 6, 11, 13, 17, 18] a.kind = I1 at *
  generalize ((a.kind == 13) || (a.kind == 18)) = FH at *
  generalize inB [11, 13, 18] a.kind = I2 at *
  generalize inB [11, 13, 15] a.kind = I3 at *
  generalize h13 : (a.kind == 13) = K13 at *
  have HCH := Lib.hid CH
  have HCR := Lib.hid CR
  have HCO := Lib.hid CO
  have HCM := Lib.hid CM
  have HCF1 := Lib.hid CF1
  have HCF2 := Lib.hid CF2
  clear CH CR CO CM CF1 CF2
  have c0 := HA0.out.c 0 _ rfl
  go_enter Tryz.func56, Tryz.ntmps56
  go_upto_region 2 with (go_at_call 69; refine COf.out.mono ?_; rintro e w2 ⟨rfl, hb⟩; have HB2 := Lib.hid hb; clear hb)
  have HN : Hid (AnS w (w2.alloc (.cells #[.bool I1, .bool FH, .bool I2, .bool I3, .bool K13] 99)) w2.heap.size a I1 FH I2 I3 K13) :=
    Lib.hid ⟨(HA0.out.below HB2.out).below ((Below.refl _ _).alloc (Nat.le_refl _) _), heap_alloc_new w2 _, (HB0.out.trans (HB2.out.mono HB0.out.size)).alloc (HB0.out.trans (HB2.out.mono HB0.out.size)).size _⟩
  generalize w2.alloc (.cells #[.bool I1, .bool FH, .bool I2, .bool I3, .bool K13] 99) = W at *
  clear c0 COf HB0 HA0
  generalize w2.heap.size = g at *
  clear HB2
  obtain ⟨⟨f0, f1, f2, f3, f4⟩, c0, c8, c9, c10, c11, c12, c13, c14, c15, c16, c17⟩ := HN.out.cells
  cases H with
  | false =>
    go_wp2_with (first
      | (refine wpList_load_row rfl 31 _ rfl w.heap.size rfl 31 _ (0, 0) _ HN.out.box.blk Tryz.underlying31 rfl (by kernel_rfl) ?_)
      | (go_at_call 70; refine (HCH.out _ HN.out.below).mono ?_; rintro e w8 ⟨rfl, hb⟩; have HN := Lib.hid (HN.out.drop hb); clear hb f0 f1 f2 f3 f4 c0 c8 c9 c10 c11 c12 c13 c14 c15 c16 c17; obtain ⟨⟨f0, f1, f2, f3, f4⟩, c0, c8, c9, c10, c11, c12, c13, c14, c15, c16, c17⟩ := HN.out.cells))
    go_ret
    exact ⟨ret_bool (by rw [HM.out]; rfl), HN.out.below⟩
  | true =>
    rw [Bool.true_and] at HM
    cases R with
    | false =>
      go_wp2_with (first
        | (refine wpList_load_row rfl 31 _ rfl w.heap.size rfl 31 _ (0, 0) _ HN.out.box.blk Tryz.underlying31 rfl (by kernel_rfl) ?_)
        | (go_at_call 70; refine (HCH.out _ HN.out.below).mono ?_; rintro e w8 ⟨rfl, hb⟩; have HN := Lib.hid (HN.out.drop hb); clear hb f0 f1 f2 f3 f4 c0 c8 c9 c10 c11 c12 c13 c14 c15 c16 c17; obtain ⟨⟨f0, f1, f2, f3, f4⟩, c0, c8, c9, c10, c11, c12, c13, c14, c15, c16, c17⟩ := HN.out.cells)
        | (go_at_call 71; refine (HCR.out _ HN.out.below).mono ?_; rintro e w8 ⟨rfl, hb⟩; have HN := Lib.hid (HN.out.drop hb); clear hb f0 f1 f2 f3 f4 c0 c8 c9 c10 c11 c12 c13 c14 c15 c16 c17; obtain ⟨⟨f0, f1, f2, f3, f4⟩, c0, c8, c9, c10, c11, c12, c13, c14, c15, c16, c17⟩ := HN.out.cells))
      go_ret
      exact ⟨ret_bool (by rw [HM.out]; rfl), HN.out.below⟩
    | true =>
      rw [Bool.true_and] at HM
      go_upto_region 4 with (first
        | (refine wpList_load_row rfl 31 _ rfl w.heap.size rfl 31 _ (0, 0) _ HN.out.box.blk Tryz.underlying31 rfl (by kernel_rfl) ?_)
        | (go_at_call 70; refine (HCH.out _ HN.out.below).mono ?_; rintro e w8 ⟨rfl, hb⟩; have HN := Lib.hid (HN.out.drop hb); clear hb f0 f1 f2 f3 f4 c0 c8 c9 c10 c11 c12 c13 c14 c15 c16 c17; obtain ⟨⟨f0, f1, f2, f3, f4⟩, c0, c8, c9, c10, c11, c12, c13, c14, c15, c16, c17⟩ := HN.out.cells)
        | (go_at_call 71; refine (HCR.out _ HN.out.below).mono ?_; rintro e w8 ⟨rfl, hb⟩; have HN := Lib.hid (HN.out.drop hb); clear hb f0 f1 f2 f3 f4 c0 c8 c9 c10 c11 c12 c13 c14 c15 c16 c17; obtain ⟨⟨f0, f1, f2, f3, f4⟩, c0, c8, c9, c10, c11, c12, c13, c14, c15, c16, c17⟩ := HN.out.cells))
      clear HCH HCR
      cases K13 with
      | true =>
        cases O with
        | false =>
          have HCFX := HCF1
          go_wp2_with (first
            | (go_at_call 72; refine (HCO.out _ HN.out.below).mono ?_; rintro e w8 ⟨rfl, hb⟩; have HN := Lib.hid (HN.out.drop hb); clear hb f0 f1 f2 f3 f4 c0 c8 c9 c10 c11 c12 c13 c14 c15 c16 c17; obtain ⟨⟨f0, f1, f2, f3, f4⟩, c0, c8, c9, c10, c11, c12, c13, c14, c15, c16, c17⟩ := HN.out.cells)
            | (go_at_call 73; refine (HCM.out _ HN.out.below).mono ?_; rintro e w8 ⟨rfl, hb⟩; have HN := Lib.hid (HN.out.drop hb); clear hb f0 f1 f2 f3 f4 c0 c8 c9 c10 c11 c12 c13 c14 c15 c16 c17; obtain ⟨⟨f0, f1, f2, f3, f4⟩, c0, c8, c9, c10, c11, c12, c13, c14, c15, c16, c17⟩ := HN.out.cells)
            | (go_at_call 74; refine (HCFX.out _ HN.out.below).mono ?_; rintro e w8 ⟨rfl, hb⟩; clear HCFX; have HCFX := HCF2; have HN := Lib.hid (HN.out.drop hb); clear hb f0 f1 f2 f3 f4 c0 c8 c9 c10 c11 c12 c13 c14 c15 c16 c17; obtain ⟨⟨f0, f1, f2, f3, f4⟩, c0, c8, c9, c10, c11, c12, c13, c14, c15, c16, c17⟩ := HN.out.cells))
          go_ret
          exact ⟨ret_bool (by rw [HM.out]; rfl), HN.out.below⟩
        | true =>
          cases I2 with
          | true =>
            cases M with
            | false =>
              have HCFX := HCF1
              go_wp2_with (first
                | (go_at_call 72; refine (HCO.out _ HN.out.below).mono ?_; rintro e w8 ⟨rfl, hb⟩; have HN := Lib.hid (HN.out.drop hb); clear hb f0 f1 f2 f3 f4 c0 c8 c9 c10 c11 c12 c13 c14 c15 c16 c17; obtain ⟨⟨f0, f1, f2, f3, f4⟩, c0, c8, c9, c10, c11, c12, c13, c14, c15, c16, c17⟩ := HN.out.cells)
                | (go_at_call 73; refine (HCM.out _ HN.out.below).mono ?_; rintro e w8 ⟨rfl, hb⟩; have HN := Lib.hid (HN.out.drop hb); clear hb f0 f1 f2 f3 f4 c0 c8 c9 c10 c11 c12 c13 c14 c15 c16 c17; obtain ⟨⟨f0, f1, f2, f3, f4⟩, c0, c8, c9, c10, c11, c12, c13, c14, c15, c16, c17⟩ := HN.out.cells)
                | (go_at_call 74; refine (HCFX.out _ HN.out.below).mono ?_; rintro e w8 ⟨rfl, hb⟩; clear HCFX; have HCFX := HCF2; have HN := Lib.hid (HN.out.drop hb); clear hb f0 f1 f2 f3 f4 c0 c8 c9 c10 c11 c12 c13 c14 c15 c16 c17; obtain ⟨⟨f0, f1, f2, f3, f4⟩, c0, c8, c9, c10, c11, c12, c13, c14, c15, c16, c17⟩ := HN.out.cells))
              go_ret
              exact ⟨ret_bool (by rw [HM.out]; rfl), HN.out.below⟩
            | true =>
              cases F1 with
              | false =>
                have HCFX := HCF1
                go_wp2_with (first
                  | (go_at_call 72; refine (HCO.out _ HN.out.below).mono ?_; rintro e w8 ⟨rfl, hb⟩; have HN := Lib.hid (HN.out.drop hb); clear hb f0 f1 f2 f3 f4 c0 c8 c9 c10 c11 c12 c13 c14 c15 c16 c17; obtain ⟨⟨f0, f1, f2, f3, f4⟩, c0, c8, c9, c10, c11, c12, c13, c14, c15, c16, c17⟩ := HN.out.cells)
                  | (go_at_call 73; refine (HCM.out _ HN.out.below).mono ?_; rintro e w8 ⟨rfl, hb⟩; have HN := Lib.hid (HN.out.drop hb); clear hb f0 f1 f2 f3 f4 c0 c8 c9 c10 c11 c12 c13 c14 c15 c16 c17; obtain ⟨⟨f0, f1, f2, f3, f4⟩, c0, c8, c9, c10, c11, c12, c13, c14, c15, c16, c17⟩ := HN.out.cells)
                  | (go_at_call 74; refine (HCFX.out _ HN.out.below).mono ?_; rintro e w8 ⟨rfl, hb⟩; clear HCFX; have HCFX := HCF2; have HN := Lib.hid (HN.out.drop hb); clear hb f0 f1 f2 f3 f4 c0 c8 c9 c10 c11 c12 c13 c14 c15 c16 c17; obtain ⟨⟨f0, f1, f2, f3, f4⟩, c0, c8, c9, c10, c11, c12, c13, c14, c15, c16, c17⟩ := HN.out.cells))
                go_ret
                exact ⟨ret_bool (by rw [HM.out]; rfl), HN.out.below⟩
              | true =>
                rw [Bool.true_and] at HM
                have HCFX := HCF1
                go_wp2_with (first
                  | (go_at_call 72; refine (HCO.out _ HN.out.below).mono ?_; rintro e w8 ⟨rfl, hb⟩; have HN := Lib.hid (HN.out.drop hb); clear hb f0 f1 f2 f3 f4 c0 c8 c9 c10 c11 c12 c13 c14 c15 c16 c17; obtain ⟨⟨f0, f1, f2, f3, f4⟩, c0, c8, c9, c10, c11, c12, c13, c14, c15, c16, c17⟩ := HN.out.cells)
                  | (go_at_call 73; refine (HCM.out _ HN.out.below).mono ?_; rintro e w8 ⟨rfl, hb⟩; have HN := Lib.hid (HN.out.drop hb); clear hb f0 f1 f2 f3 f4 c0 c8 c9 c10 c11 c12 c13 c14 c15 c16 c17; obtain ⟨⟨f0, f1, f2, f3, f4⟩, c0, c8, c9, c10, c11, c12, c13, c14, c15, c16, c17⟩ := HN.out.cells)
                  | (go_at_call 74; refine (HCFX.out _ HN.out.below).mono ?_; rintro e w8 ⟨rfl, hb⟩; clear HCFX; have HCFX := HCF2; have HN := Lib.hid (HN.out.drop hb); clear hb f0 f1 f2 f3 f4 c0 c8 c9 c10 c11 c12 c13 c14 c15 c16 c17; obtain ⟨⟨f0, f1, f2, f3, f4⟩, c0, c8, c9, c10, c11, c12, c13, c14, c15, c16, c17⟩ := HN.out.cells))
                go_ret
                exact ⟨ret_bool (by rw [HM.out]; rfl), HN.out.below⟩
          | false =>
            by_cases hE : 0 < a.en
            · rw [decide_eq_true hE] at HM
              have HCFX := HCF1
              go_wp2_with (first
                | (go_at_call 72; refine (HCO.out _ HN.out.below).mono ?_; rintro e w8 ⟨rfl, hb⟩; have HN := Lib.hid (HN.out.drop hb); clear hb f0 f1 f2 f3 f4 c0 c8 c9 c10 c11 c12 c13 c14 c15 c16 c17; obtain ⟨⟨f0, f1, f2, f3, f4⟩, c0, c8, c9, c10, c11, c12, c13, c14, c15, c16, c17⟩ := HN.out.cells)
                | (go_at_call 73; refine (HCM.out _ HN.out.below).mono ?_; rintro e w8 ⟨rfl, hb⟩; have HN := Lib.hid (HN.out.drop hb); clear hb f0 f1 f2 f3 f4 c0 c8 c9 c10 c11 c12 c13 c14 c15 c16 c17; obtain ⟨⟨f0, f1, f2, f3, f4⟩, c0, c8, c9, c10, c11, c12, c13, c14, c15, c16, c17⟩ := HN.out.cells)
                | (go_at_call 74; refine (HCFX.out _ HN.out.below).mono ?_; rintro e w8 ⟨rfl, hb⟩; clear HCFX; have HCFX := HCF2; have HN := Lib.hid (HN.out.drop hb); clear hb f0 f1 f2 f3 f4 c0 c8 c9 c10 c11 c12 c13 c14 c15 c16 c17; obtain ⟨⟨f0, f1, f2, f3, f4⟩, c0, c8, c9, c10, c11, c12, c13, c14, c15, c16, c17⟩ := HN.out.cells))
              go_ret
              exact ⟨ret_bool (by rw [HM.out]; rfl), HN.out.below⟩
            · rw [decide_eq_false hE] at HM
              cases F1 with
              | false =>
                have HCFX := HCF1
                go_wp2_with (first
                  | (go_at_call 72; refine (HCO.out _ HN.out.below).mono ?_; rintro e w8 ⟨rfl, hb⟩; have HN := Lib.hid (HN.out.drop hb); clear hb f0 f1 f2 f3 f4 c0 c8 c9 c10 c11 c12 c13 c14 c15 c16 c17; obtain ⟨⟨f0, f1, f2, f3, f4⟩, c0, c8, c9, c10, c11, c12, c13, c14, c15, c16, c17⟩ := HN.out.cells)
                  | (go_at_call 73; refine (HCM.out _ HN.out.below).mono ?_; rintro e w8 ⟨rfl, hb⟩; have HN := Lib.hid (HN.out.drop hb); clear hb f0 f1 f2 f3 f4 c0 c8 c9 c10 c11 c12 c13 c14 c15 c16 c17; obtain ⟨⟨f0, f1, f2, f3, f4⟩, c0, c8, c9, c10, c11, c12, c13, c14, c15, c16, c17⟩ := HN.out.cells)
                  | (go_at_call 74; refine (HCFX.out _ HN.out.below).mono ?_; rintro e w8 ⟨rfl, hb⟩; clear HCFX; have HCFX := HCF2; have HN := Lib.hid (HN.out.drop hb); clear hb f0 f1 f2 f3 f4 c0 c8 c9 c10 c11 c12 c13 c14 c15 c16 c17; obtain ⟨⟨f0, f1, f2, f3, f4⟩, c0, c8, c9, c10, c11, c12, c13, c14, c15, c16, c17⟩ := HN.out.cells))
                go_ret
                exact ⟨ret_bool (by rw [HM.out]; rfl), HN.out.below⟩
              | true =>
                rw [Bool.true_and] at HM
                have HCFX := HCF1
                go_wp2_with (first
                  | (go_at_call 72; refine (HCO.out _ HN.out.below).mono ?_; rintro e w8 ⟨rfl, hb⟩; have HN := Lib.hid (HN.out.drop hb); clear hb f0 f1 f2 f3 f4 c0 c8 c9 c10 c11 c12 c13 c14 c15 c16 c17; obtain ⟨⟨f0, f1, f2, f3, f4⟩, c0, c8, c9, c10, c11, c12, c13, c14, c15, c16, c17⟩ := HN.out.cells)
                  | (go_at_call 73; refine (HCM.out _ HN.out.below).mono ?_; rintro e w8 ⟨rfl, hb⟩; have HN := Lib.hid (HN.out.drop hb); clear hb f0 f1 f2 f3 f4 c0 c8 c9 c10 c11 c12 c13 c14 c15 c16 c17; obtain ⟨⟨f0, f1, f2, f3, f4⟩, c0, c8, c9, c10, c11, c12, c13, c14, c15, c16, c17⟩ := HN.out.cells)
                  | (go_at_call 74; refine (HCFX.out _ HN.out.below).mono ?_; rintro e w8 ⟨rfl, hb⟩; clear HCFX; have HCFX := HCF2; have HN := Lib.hid (HN.out.drop hb); clear hb f0 f1 f2 f3 f4 c0 c8 c9 c10 c11 c12 c13 c14 c15 c16 c17; obtain ⟨⟨f0, f1, f2, f3, f4⟩, c0, c8, c9, c10, c11, c12, c13, c14, c15, c16, c17⟩ := HN.out.cells))
                go_ret
                exact ⟨ret_bool (by rw [HM.out]; rfl), HN.out.below⟩
      | false =>
        cases I2 with
        | true =>
          cases M with
          | false =>
            have HCFX := HCF1
            go_wp2_with (first
              | (go_at_call 72; refine (HCO.out _ HN.out.below).mono ?_; rintro e w8 ⟨rfl, hb⟩; have HN := Lib.hid (HN.out.drop hb); clear hb f0 f1 f2 f3 f4 c0 c8 c9 c10 c11 c12 c13 c14 c15 c16 c17; obtain ⟨⟨f0, f1, f2, f3, f4⟩, c0, c8, c9, c10, c11, c12, c13, c14, c15, c16, c17⟩ := HN.out.cells)
              | (go_at_call 73; refine (HCM.out _ HN.out.below).mono ?_; rintro e w8 ⟨rfl, hb⟩; have HN := Lib.hid (HN.out.drop hb); clear hb f0 f1 f2 f3 f4 c0 c8 c9 c10 c11 c12 c13 c14 c15 c16 c17; obtain ⟨⟨f0, f1, f2, f3, f4⟩, c0, c8, c9, c10, c11, c12, c13, c14, c15, c16, c17⟩ := HN.out.cells)
              | (go_at_call 74; refine (HCFX.out _ HN.out.below).mono ?_; rintro e w8 ⟨rfl, hb⟩; clear HCFX; have HCFX := HCF2; have HN := Lib.hid (HN.out.drop hb); clear hb f0 f1 f2 f3 f4 c0 c8 c9 c10 c11 c12 c13 c14 c15 c16 c17; obtain ⟨⟨f0, f1, f2, f3, f4⟩, c0, c8, c9, c10, c11, c12, c13, c14, c15, c16, c17⟩ := HN.out.cells))
            go_ret
            exact ⟨ret_bool (by rw [HM.out]; rfl), HN.out.below⟩
          | true =>
            cases F1 with
            | false =>
              have HCFX := HCF1
              go_wp2_with (first
                | (go_at_call 72; refine (HCO.out _ HN.out.below).mono ?_; rintro e w8 ⟨rfl, hb⟩; have HN := Lib.hid (HN.out.drop hb); clear hb f0 f1 f2 f3 f4 c0 c8 c9 c10 c11 c12 c13 c14 c15 c16 c17; obtain ⟨⟨f0, f1, f2, f3, f4⟩, c0, c8, c9, c10, c11, c12, c13, c14, c15, c16, c17⟩ := HN.out.cells)
                | (go_at_call 73; refine (HCM.out _ HN.out.below).mono ?_; rintro e w8 ⟨rfl, hb⟩; have HN := Lib.hid (HN.out.drop hb); clear hb f0 f1 f2 f3 f4 c0 c8 c9 c10 c11 c12 c13 c14 c15 c16 c17; obtain ⟨⟨f0, f1, f2, f3, f4⟩, c0, c8, c9, c10, c11, c12, c13, c14, c15, c16, c17⟩ := HN.out.cells)
                | (go_at_call 74; refine (HCFX.out _ HN.out.below).mono ?_; rintro e w8 ⟨rfl, hb⟩; clear HCFX; have HCFX := HCF2; have HN := Lib.hid (HN.out.drop hb); clear hb f0 f1 f2 f3 f4 c0 c8 c9 c10 c11 c12 c13 c14 c15 c16 c17; obtain ⟨⟨f0, f1, f2, f3, f4⟩, c0, c8, c9, c10, c11, c12, c13, c14, c15, c16, c17⟩ := HN.out.cells))
              go_ret
              exact ⟨ret_bool (by rw [HM.out]; rfl), HN.out.below⟩
            | true =>
              rw [Bool.true_and] at HM
              have HCFX := HCF1
              go_wp2_with (first
                | (go_at_call 72; refine (HCO.out _ HN.out.below).mono ?_; rintro e w8 ⟨rfl, hb⟩; have HN := Lib.hid (HN.out.drop hb); clear hb f0 f1 f2 f3 f4 c0 c8 c9 c10 c11 c12 c13 c14 c15 c16 c17; obtain ⟨⟨f0, f1, f2, f3, f4⟩, c0, c8, c9, c10, c11, c12, c13, c14, c15, c16, c17⟩ := HN.out.cells)
                | (go_at_call 73; refine (HCM.out _ HN.out.below).mono ?_; rintro e w8 ⟨rfl, hb⟩; have HN := Lib.hid (HN.out.drop hb); clear hb f0 f1 f2 f3 f4 c0 c8 c9 c10 c11 c12 c13 c14 c15 c16 c17; obtain ⟨⟨f0, f1, f2, f3, f4⟩, c0, c8, c9, c10, c11, c12, c13, c14, c15, c16, c17⟩ := HN.out.cells)
                | (go_at_call 74; refine (HCFX.out _ HN.out.below).mono ?_; rintro e w8 ⟨rfl, hb⟩; clear HCFX; have HCFX := HCF2; have HN := Lib.hid (HN.out.drop hb); clear hb f0 f1 f2 f3 f4 c0 c8 c9 c10 c11 c12 c13 c14 c15 c16 c17; obtain ⟨⟨f0, f1, f2, f3, f4⟩, c0, c8, c9, c10, c11, c12, c13, c14, c15, c16, c17⟩ := HN.out.cells))
              go_ret
              exact ⟨ret_bool (by rw [HM.out]; rfl), HN.out.below⟩
        | false =>
          by_cases hE : 0 < a.en
          · rw [decide_eq_true hE] at HM
            have HCFX := HCF1
            go_wp2_with (first
              | (go_at_call 72; refine (HCO.out _ HN.out.below).mono ?_; rintro e w8 ⟨rfl, hb⟩; have HN := Lib.hid (HN.out.drop hb); clear hb f0 f1 f2 f3 f4 c0 c8 c9 c10 c11 c12 c13 c14 c15 c16 c17; obtain ⟨⟨f0, f1, f2, f3, f4⟩, c0, c8, c9, c10, c11, c12, c13, c14, c15, c16, c17⟩ := HN.out.cells)
              | (go_at_call 73; refine (HCM.out _ HN.out.below).mono ?_; rintro e w8 ⟨rfl, hb⟩; have HN := Lib.hid (HN.out.drop hb); clear hb f0 f1 f2 f3 f4 c0 c8 c9 c10 c11 c12 c13 c14 c15 c16 c17; obtain ⟨⟨f0, f1, f2, f3, f4⟩, c0, c8, c9, c10, c11, c12, c13, c14, c15, c16, c17⟩ := HN.out.cells)
              | (go_at_call 74; refine (HCFX.out _ HN.out.below).mono ?_; rintro e w8 ⟨rfl, hb⟩; clear HCFX; have HCFX := HCF2; have HN := Lib.hid (HN.out.drop hb); clear hb f0 f1 f2 f3 f4 c0 c8 c9 c10 c11 c12 c13 c14 c15 c16 c17; obtain ⟨⟨f0, f1, f2, f3, f4⟩, c0, c8, c9, c10, c11, c12, c13, c14, c15, c16, c17⟩ := HN.out.cells))
            go_ret
            exact ⟨ret_bool (by rw [HM.out]; rfl), HN.out.below⟩
          · rw [decide_eq_false hE] at HM
            cases F1 with
            | false =>
              have HCFX := HCF1
              go_wp2_with (first
                | (go_at_call 72; refine (HCO.out _ HN.out.below).mono ?_; rintro e w8 ⟨rfl, hb⟩; have HN := Lib.hid (HN.out.drop hb); clear hb f0 f1 f2 f3 f4 c0 c8 c9 c10 c11 c12 c13 c14 c15 c16 c17; obtain ⟨⟨f0, f1, f2, f3, f4⟩, c0, c8, c9, c10, c11, c12, c13, c14, c15, c16, c17⟩ := HN.out.cells)
                | (go_at_call 73; refine (HCM.out _ HN.out.below).mono ?_; rintro e w8 ⟨rfl, hb⟩; have HN := Lib.hid (HN.out.drop hb); clear hb f0 f1 f2 f3 f4 c0 c8 c9 c10 c11 c12 c13 c14 c15 c16 c17; obtain ⟨⟨f0, f1, f2, f3, f4⟩, c0, c8, c9, c10, c11, c12, c13, c14, c15, c16, c17⟩ := HN.out.cells)
                | (go_at_call 74; refine (HCFX.out _ HN.out.below).mono ?_; rintro e w8 ⟨rfl, hb⟩; clear HCFX; have HCFX := HCF2; have HN := Lib.hid (HN.out.drop hb); clear hb f0 f1 f2 f3 f4 c0 c8 c9 c10 c11 c12 c13 c14 c15 c16 c17; obtain ⟨⟨f0, f1, f2, f3, f4⟩, c0, c8, c9, c10, c11, c12, c13, c14, c15, c16, c17⟩ := HN.out.cells))
              go_ret
              exact ⟨ret_bool (by rw [HM.out]; rfl), HN.out.below⟩
            | true =>
              rw [Bool.true_and] at HM
              have HCFX := HCF1
              go_wp2_with (first
                | (go_at_call 72; refine (HCO.out _ HN.out.below).mono ?_; rintro e w8 ⟨rfl, hb⟩; have HN := Lib.hid (HN.out.drop hb); clear hb f0 f1 f2 f3 f4 c0 c8 c9 c10 c11 c12 c13 c14 c15 c16 c17; obtain ⟨⟨f0, f1, f2, f3, f4⟩, c0, c8, c9, c10, c11, c12, c13, c14, c15, c16, c17⟩ := HN.out.cells)
                | (go_at_call 73; refine (HCM.out _ HN.out.below).mono ?_; rintro e w8 ⟨rfl, hb⟩; have HN := Lib.hid (HN.out.drop hb); clear hb f0 f1 f2 f3 f4 c0 c8 c9 c10 c11 c12 c13 c14 c15 c16 c17; obtain ⟨⟨f0, f1, f2, f3, f4⟩, c0, c8, c9, c10, c11, c12, c13, c14, c15, c16, c17⟩ := HN.out.cells)
                | (go_at_call 74; refine (HCFX.out _ HN.out.below).mono ?_; rintro e w8 ⟨rfl, hb⟩; clear HCFX; have HCFX := HCF2; have HN := Lib.hid (HN.out.drop hb); clear hb f0 f1 f2 f3 f4 c0 c8 c9 c10 c11 c12 c13 c14 c15 c16 c17; obtain ⟨⟨f0, f1, f2, f3, f4⟩, c0, c8, c9, c10, c11, c12, c13, c14, c15, c16, c17⟩ := HN.out.cells))
              go_ret
              exact ⟨ret_bool (by rw [HM.out]; rfl), HN.out.below⟩
end Go.Proofs.YtdlbjngpohkglaaGreatDoor
end
section
set_option linter.unusedVariables false
set_option maxRecDepth 100000
set_option linter.unusedSimpArgs false
namespace Go.Proofs.YtdlbjngpohkglaaGreatDoor
open Go.RowKit

set_option maxHeartbeats 1000000 in
theorem aterm_Size1_any (a : AH) (b : Nat) (z : Int) (W : World) (h : IntBlk b z W) :
    Calls Tryz.prog 68 #[aggT a, .pointer (some ⟨b, 0, none⟩)] W fun e w' => e = .returned (.bool (plus1 a z).1) ∧ IntBlk b (plus1 a z).2 w' ∧ W.grownBy w' (some b) := by
  have HA := Lib.hid (h.below ((Below.refl _ _).alloc (Nat.le_refl _) (boxA a)))
  obtain ⟨q0, qf⟩ := HA.out.cells
  obtain ⟨Z, hZ⟩ : ∃ Z, IntKind.i64.wrap (z + 1) = Z := ⟨_, rfl⟩
  have HZ : Hid ((plus1 a z).2 = Z) := hZ
  clear h
  go_enter Tryz.func68, Tryz.ntmps68
  go_wp2_with fail
  go_ret
  refine ⟨rfl, ?_⟩
  rw [HZ.out]
  exact ⟨HA.out.set Z, (World.grownBy_alloc W _ _).trans (grown_setCell1 _ _ _ _)⟩
theorem fvA_Size {w0 : World} {b : Nat} (hb : w0.heap.size ≤ b) : FvA w0 (some b) 68 #[.pointer (some ⟨b, 0, none⟩)] (IntBlk b) (fun _ => True) plus1 where
  eg := fun args w => rfl
  hb := fun b' h => by injection h with h; omega
  lt := fun b' h s W hi => by injection h with h; rw [← h]; exact hi.lt
  inv := fun s W W' hi hbl => hi.below hbl
  call := fun a s W _ _ hi => aterm_Size1_any a b s W hi
set_option maxHeartbeats 1000000 in
theorem aterm_Size_any {w : World} {p : Option Addr} {n c : Nat} {l : List PA} (hr : RowTA w p n c l) {m : Nat} (hm : (nodesL l).length = m) (h3 : m ≤ 1000000) :
    Calls Tryz.prog 54 #[.slice p n c] w fun e w' => e = .returned (.int .i64 m) ∧ Below w.heap.size w w' := by
  have HE := Lib.hid (aterm_each_any (fvA_Size (w0 := w) (b := w.heap.size) (Nat.le_refl _)) l p n c hr (fun _ _ => trivial))
  have HP : Hid (stepAll plus1 (nodesL l) 0 = (true, (m : Int))) := by
    show _ = _
    rw [plus1_all (nodesL l) 0 (by omega) (by omega), hm]
    congr 1
    omega
  have HI : Hid (IntBlk w.heap.size 0 (w.alloc (.cells #[.int .i64 0] 3))) := heap_alloc_new w _
  have HB := Lib.hid ((Below.refl w.heap.size w).alloc (Nat.le_refl _) (.cells #[.int .i64 0] 3))
  have HG := Lib.hid (World.grownBy_alloc w (.cells #[.int .i64 0] 3) (some w.heap.size))
  clear hr hm
  go_enter Tryz.func54, Tryz.ntmps54
  go_wp2_with (go_at_call 55; refine (HE.out 0 _ HB.out HI.out).mono ?_; rw [HP.out]; rintro e w2 ⟨rfl, hi2, hg2⟩; obtain ⟨q0, qf⟩ := hi2.cells; have HG2 := Lib.hid (HG.out.trans hg2); clear hi2 hg2)
  go_ret
  exact ⟨rfl, held_under HG2.out (Nat.le_refl _) (fun b hb => by injection hb with hb; omega)⟩
/-- a row made of one term -/
theorem rowTA_made {w : World} {t : PA} (hl : LA.lies w t) (e : TypeId) (gs : Nat) (hgs : w.heap.size = gs) : RowTA (w.alloc (.cells #[.int .u8 t.head.kind, .int .u8 t.head.op, .int .i64 t.head.at_, .int .i64 t.head.n, .string t.head.name, .string t.head.arg, .string t.head.exn, .int .i64 t.head.rho, .slice t.head.rp t.head.rn t.head.rc, .slice t.head.ep t.head.en t.head.ec, .int .u8 t.head.ty.head.kind, .int .i64 t.head.ty.head.rho, .slice t.head.ty.head.ep t.head.ty.head.en t.head.ty.head.ec, .slice t.head.ty.head.kp t.head.ty.head.kn t.head.ty.head.kc, .int .u8 t.head.res.head.kind, .int .i64 t.head.res.head.rho, .slice t.head.res.head.ep t.head.res.head.en t.head.res.head.ec, .slice t.head.res.head.kp t.head.res.head.kn t.head.res.head.kc, .slice t.head.kp t.head.kn t.head.kc] e)) (some ⟨gs, 0, none⟩) 1 1 [t] := by
  subst hgs
  refine ⟨row_made LAlen (by omega) w e [t] 1 _ ?_ rfl (by decide), fun x hx => ?_⟩
  · simp [Laid.encT, LA, encAH]
  · have : x = t := by simpa using hx
    subst this
    exact LA.lies_below ((Below.refl _ w).alloc (Nat.le_refl _) _) x hl
/-- what each node of a term that lies is good for -/
theorem nodes_own {w : World} (t : PA) : LA.lies w t → ∀ a ∈ Rose.nodes t, AH.Own w a ∧ a.kn ≤ t.size := by
  refine Rose.ind (P := fun (t : PA) => LA.lies w t → ∀ a ∈ Rose.nodes t, AH.Own w a ∧ a.kn ≤ t.size) (fun a l ih hl x hx => ?_) t
  have hN := nodeA hl
  rw [Rose.nodes_node, List.mem_cons] at hx
  rw [Rose.size_node]
  rcases hx with rfl | hx
  · refine ⟨hN.own, ?_⟩
    have h1 := kidsA_le l
    have h2 := hN.kids.len
    omega
  · rw [List.mem_flatten] at hx
    obtain ⟨m, hm, hx⟩ := hx
    obtain ⟨y, hy, rfl⟩ := List.mem_map.1 hm
    obtain ⟨h1, h2⟩ := ih y hy (hN.each y hy) x hx
    have h3 : y.size ≤ (l.map Rose.size).sum := le_sum_of_mem (List.mem_map_of_mem hy)
    exact ⟨h1, by omega⟩
def nodeU (a : AH) (_ : Unit) : Bool × Unit := (node13 a, ())
theorem stepAll_nodeU : ∀ l : List AH, (stepAll nodeU l ()).1 = l.all node13
  | [] => rfl
  | a :: l => by
    show (if (node13 a) = true then stepAll nodeU l () else (false, ())).1 = _
    rw [List.all_cons]
    cases h : node13 a
    · rfl
    · rw [if_pos rfl, stepAll_nodeU l]; rfl
theorem fvA_node {w0 : World} (hv : Vr w0) : FvA w0 none 56 #[] (fun (_ : Unit) _ => True) (fun a => AH.Own w0 a ∧ SmallN a ∧ a.kn ≤ 1000000) nodeU where
  eg := fun args w => rfl
  hb := fun b' h => by cases h
  lt := fun b' h => by cases h
  inv := fun _ _ _ _ _ => trivial
  call := fun a s W ok hb _ => by
    refine (aterm_node_any a (LA.below ok.1 hb) ok.2.1 ok.2.2 (hv.below hb)).mono ?_
    rintro e w' ⟨rfl, hb'⟩
    exact ⟨rfl, trivial, hb'.os, hb'.tape, hb'.output, hb'.size, fun k hk _ => hb'.block k hk⟩
/-- may a term be? -/
def mayA (t : PA) : Bool := (Rose.nodes t).all node13
set_option maxHeartbeats 4000000 in
theorem aterm_May_any (t : PA) {w : World} (hl : LA.lies w t) (hs : SmallNs t) (hz : t.size ≤ 1000) (hv : Vr w) :
    Calls Tryz.prog 41 #[aggT t.head] w fun e w' => e = .returned (.bool (mayA t)) ∧ Below w.heap.size w w' := by
  have HB := Lib.hid ((Below.refl w.heap.size w).alloc (Nat.le_refl _) (boxA t.head))
  have HBX := Lib.hid (boxA_new w t.head)
  have HV := Lib.hid hv
  have HROW := Lib.hid (fun (W : World) (hb : Below w.heap.size w W) (e : TypeId) (gs : Nat) (h : W.heap.size = gs) => rowTA_made (LA.lies_below hb t hl) e gs h)
  have hlen : (nodesL [t]).length = t.size := by simp [nodesL, nodes_length]
  have HSA : Hid ((stepAll nodeU (nodesL [t]) ()).1 = mayA t) := by
    show _ = _
    rw [stepAll_nodeU]; simp [nodesL, mayA]
  have HOK := Lib.hid (fun (W : World) (hb : Below w.heap.size w W) (a : AH) (ha : a ∈ nodesL [t]) => (show AH.Own W a ∧ SmallN a ∧ a.kn ≤ 1000000 by
    have ha' : a ∈ Rose.nodes t := by simpa [nodesL] using ha
    obtain ⟨h1, h2⟩ := nodes_own t hl a ha'
    exact ⟨LA.below h1 hb, hs a ha', by omega⟩))
  have hle : decide ((t.size : Int) ≤ 40000) = true := by simp; omega
  have HLEN := Lib.hid hlen
  clear hl hs hv hlen
  go_enter Tryz.func41, Tryz.ntmps41
  go_wp2_with (first
    | (refine wpList_load_row rfl 31 _ rfl w.heap.size rfl 31 _ (0, 0) _ HBX.out.blk Tryz.underlying31 rfl (by kernel_rfl) ?_)
    | (refine wpList_load_midG (by rfl) 31 _ rfl w.heap.size 0 rfl [.int .u8 t.head.kind, .int .u8 t.head.op, .int .i64 t.head.at_, .int .i64 t.head.n, .string t.head.name, .string t.head.arg, .string t.head.exn, .int .i64 t.head.rho, .slice t.head.rp t.head.rn t.head.rc, .slice t.head.ep t.head.en t.head.ec, .int .u8 t.head.ty.head.kind, .int .i64 t.head.ty.head.rho, .slice t.head.ty.head.ep t.head.ty.head.en t.head.ty.head.ec, .slice t.head.ty.head.kp t.head.ty.head.kn t.head.ty.head.kc, .int .u8 t.head.res.head.kind, .int .i64 t.head.res.head.rho, .slice t.head.res.head.ep t.head.res.head.en t.head.res.head.ec, .slice t.head.res.head.kp t.head.res.head.kn t.head.res.head.kc, .slice t.head.kp t.head.kn t.head.kc] _ HBX.out.range Tryz.underlying31 rfl (by kernel_rfl) ?_)
    | (go_at_call 54; refine (aterm_Size_any (HROW.out _ HB.out _ _ (by simp)) HLEN.out (by omega)).mono ?_; rintro e w2 ⟨rfl, hb⟩; have HB2 := Lib.hid ((HB.out.alloc HB.out.size _).trans (hb.mono (HB.out.alloc HB.out.size _).size)); have HBX := Lib.hid ((HBX.out.below ((Below.refl _ _).alloc (Nat.le_refl _) _)).below hb); clear hb)
    | (go_at_call 55; refine (aterm_each_any (fvA_node (HV.out.below (HB2.out.alloc HB2.out.size _))) [t] _ _ _ (HROW.out _ HB2.out _ _ (by simp)) (fun a ha => HOK.out _ (HB2.out.alloc HB2.out.size _) a ha) () _ (Below.refl _ _) trivial).mono ?_; rw [HSA.out]; rintro e w3 ⟨rfl, _, hg3⟩; have HB3 := Lib.hid (held_under hg3 (Nat.le_refl _) (fun b h => by cases h)); clear hg3))
  go_ret
  exact ⟨rfl, HB2.out.trans (((Below.refl _ w2).alloc (Nat.le_refl _) _ |>.trans (HB3.out.mono (by simp))).mono HB2.out.size)⟩
end Go.Proofs.YtdlbjngpohkglaaGreatDoor
end
