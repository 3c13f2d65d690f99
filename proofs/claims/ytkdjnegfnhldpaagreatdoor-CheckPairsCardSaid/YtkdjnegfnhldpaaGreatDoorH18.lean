/- Part 18: An, Am, Ck. -/
import Derived.Test.YtkdjnegfnhldpaaGreatDoorH17
import Derived.Test.YtkdjnegfnhldpaaGreatDoorH15
import Derived.Test.YtkdjnegfnhldpaaGreatDoorH11
import Derived.Test.YtkdjnegfnhldpaaGreatDoorH12
set_option linter.unusedVariables false
set_option maxRecDepth 100000
set_option linter.unusedSimpArgs false
namespace Go.Proofs.YtkdjnegfnhldpaaGreatDoor
open Go.Lib (hid)
section
open Go.RowKit
structure AnS (w W : World) (g : Nat) (a : AH) (b0 b1 b2 b3 b4 : Bool) : Prop where
  box : BoxA W w.heap.size a
  f : W.heap[g]? = some (.cells #[.bool b0, .bool b1, .bool b2, .bool b3, .bool b4] 137 (0, 0))
  below : Below w.heap.size w W
theorem AnS.drop {w W W' : World} {g : Nat} {a : AH} {b0 b1 b2 b3 b4 : Bool} (h : AnS w W g a b0 b1 b2 b3 b4) (hb : Below W.heap.size W W') : AnS w W' g a b0 b1 b2 b3 b4 :=
  ⟨h.box.below hb, by rw [hb.block g (Array.getElem?_eq_some_iff.1 h.f).1]; exact h.f, h.below.trans (hb.mono h.below.size)⟩
theorem AnS.cells {w W : World} {g : Nat} {a : AH} {b0 b1 b2 b3 b4 : Bool} (h : AnS w W g a b0 b1 b2 b3 b4) :
    (W.cell? ⟨g, 0, none⟩ = some (.bool b0) ∧ W.cell? ⟨g, 1, none⟩ = some (.bool b1) ∧ W.cell? ⟨g, 2, none⟩ = some (.bool b2) ∧ W.cell? ⟨g, 3, none⟩ = some (.bool b3) ∧ W.cell? ⟨g, 4, none⟩ = some (.bool b4)) ∧
    W.cell? ⟨w.heap.size, 0, none⟩ = some (.int .u8 a.kind) ∧ W.cell? ⟨w.heap.size, 8, none⟩ = some (.slice a.rp a.rn a.rc) ∧ W.cell? ⟨w.heap.size, 9, none⟩ = some (.slice a.ep a.en a.ec) ∧
    W.cell? ⟨w.heap.size, 10, none⟩ = some (.int .u8 a.ty.head.kind) ∧ W.cell? ⟨w.heap.size, 11, none⟩ = some (.int .i64 a.ty.head.rho) ∧ W.cell? ⟨w.heap.size, 12, none⟩ = some (.slice a.ty.head.ep a.ty.head.en a.ty.head.ec) ∧ W.cell? ⟨w.heap.size, 13, none⟩ = some (.slice a.ty.head.kp a.ty.head.kn a.ty.head.kc) ∧
    W.cell? ⟨w.heap.size, 14, none⟩ = some (.int .u8 a.res.head.kind) ∧ W.cell? ⟨w.heap.size, 15, none⟩ = some (.int .i64 a.res.head.rho) ∧ W.cell? ⟨w.heap.size, 16, none⟩ = some (.slice a.res.head.ep a.res.head.en a.res.head.ec) ∧ W.cell? ⟨w.heap.size, 17, none⟩ = some (.slice a.res.head.kp a.res.head.kn a.res.head.kc) := by
  have hf := h.f
  refine ⟨⟨?_, ?_, ?_, ?_, ?_⟩, h.box.c 0 _ rfl, h.box.c 8 _ rfl, h.box.c 9 _ rfl, h.box.c 10 _ rfl, h.box.c 11 _ rfl, h.box.c 12 _ rfl, h.box.c 13 _ rfl, h.box.c 14 _ rfl, h.box.c 15 _ rfl, h.box.c 16 _ rfl, h.box.c 17 _ rfl⟩ <;> simp [World.cell?, hf]
theorem smallT_head {t : PT} {w : World} {n : Nat} (hl : LR.lies w t) (hs : SmallT t.er n) (hn : n ≤ 1000000) : t.head.en ≤ 1000000 ∧ t.head.kn ≤ 1000000 := by
  have hN := nodeIn' hl
  obtain ⟨a, l⟩ := t
  rw [PT.er_node] at hs
  have h1 := hs.kids
  have h2 := greatB_len' hs.eff
  have h3 := hN.own.eff.len
  have h4 := hN.kids.len
  simp only [List.length_map] at h1
  have h5 : a.eff.length ≤ 100 := h2
  have h6 : a.eff.length = a.en := h3
  have h7 : l.length = a.kn := h4
  show a.en ≤ 1000000 ∧ a.kn ≤ 1000000
  omega
set_option maxHeartbeats 4000000 in
theorem aterm_node_any (a : AH) {w : World} (ho : AH.Own w a) (hs : SmallN a) (hk : a.kn ≤ 1000000) (hv : Vr w) :
    Calls Tryz.prog 60 #[aggT a] w fun e w' => e = .returned (.bool (node13 a)) ∧ Below w.heap.size w w' := by
  have hel := greatB_len' hs.eff
  have hen : a.en ≤ 1000000 := by have := ho.eff.len; omega
  obtain ⟨ht1, ht2⟩ := smallT_head ho.ty hs.ty (by omega)
  obtain ⟨hr1, hr2⟩ := smallT_head ho.res hs.res (by omega)
  have HM : Hid (node13 a = (headB a.hd a.kn && regB a (inB [3, 6, 11, 13, 17, 18] a.kind) ((a.kind == 13) || (a.kind == 18)) && (!(a.kind == 13) || onceB a.rhos) && (!(inB [11, 13, 18] a.kind) || mayB a.eff) && (inB [11, 13, 18] a.kind || !decide (0 < a.en)) &&
    (fitsT (inB [11, 13, 15] a.kind) a.ty && fitsT (a.kind == 13) a.res))) := (nodeM_eq a ho.rhos.len ho.eff.len).symm
  have hen63 := ho.eff.max
  have CH : ∀ W, Below w.heap.size w W → Calls Tryz.prog 90 #[aggT a] W fun e w' => e = .returned (.bool (headB a.hd a.kn)) ∧ Below W.heap.size W w' := fun W hb => aterm_headed_any a ho.k0 ho.k1 hk (hv.below hb)
  have CR : ∀ W, Below w.heap.size w W → Calls Tryz.prog 91 #[aggT a, ofB a.kind] W fun e w' => e = .returned (.bool (regB a (inB [3, 6, 11, 13, 17, 18] a.kind) ((a.kind == 13) || (a.kind == 18)))) ∧ Below W.heap.size W w' := fun W hb => regions_any a _ _ _ _ _ (ho.rhos.below hb)
  have CO : ∀ W, Below w.heap.size w W → Calls Tryz.prog 92 #[.slice a.rp a.rn a.rc] W fun e w' => e = .returned (.bool (onceB a.rhos)) ∧ Below W.heap.size W w' := fun W hb => once_any (ho.rhos.below hb) (by have := hs.rhos; omega)
  have CM : ∀ W, Below w.heap.size w W → Calls Tryz.prog 93 #[.slice a.ep a.en a.ec] W fun e w' => e = .returned (.bool (mayB a.eff)) ∧ Below W.heap.size W w' := fun W hb => eff_May_is rfl (ho.eff.below hb)
  have CF1 : ∀ W, Below w.heap.size w W → Calls Tryz.prog 94 #[.bool (inB [11, 13, 15] a.kind), aggR a.ty.head] W fun e w' => e = .returned (.bool (fitsT (inB [11, 13, 15] a.kind) a.ty)) ∧ Below W.heap.size W w' := fun W hb => aterm_fits_any _ _ (LR.lies_below hb _ ho.ty) ht1 ht2
  have CF2 : ∀ W, Below w.heap.size w W → Calls Tryz.prog 94 #[.bool (a.kind == 13), aggR a.res.head] W fun e w' => e = .returned (.bool (fitsT (a.kind == 13) a.res)) ∧ Below W.heap.size W w' := fun W hb => aterm_fits_any _ _ (LR.lies_below hb _ ho.res) hr1 hr2
  have COf := hid (of_any a.kind (w.alloc (boxA a)))
  have HB0 := hid ((Below.refl w.heap.size w).alloc (Nat.le_refl _) (boxA a))
  have HA0 := hid (boxA_new w a)
  unfold ofB at COf CR
  clear ho hs hk hv hel ht1 ht2 hr1 hr2
  generalize headB a.hd a.kn = H at *
  generalize regB a (inB [3, 6, 11, 13, 17, 18] a.kind) ((a.kind == 13) || (a.kind == 18)) = R at *
  generalize onceB a.rhos = O at *
  generalize mayB a.eff = M at *
  generalize fitsT (inB [11, 13, 15] a.kind) a.ty = F1 at *
  generalize fitsT (a.kind == 13) a.res = F2 at *
  generalize inB [3, 6, 11, 13, 17, 18] a.kind = I1 at *
  generalize ((a.kind == 13) || (a.kind == 18)) = FH at *
  generalize inB [11, 13, 18] a.kind = I2 at *
  generalize inB [11, 13, 15] a.kind = I3 at *
  generalize h13 : (a.kind == 13) = K13 at *
  have HCH := hid CH
  have HCR := hid CR
  have HCO := hid CO
  have HCM := hid CM
  have HCF1 := hid CF1
  have HCF2 := hid CF2
  clear CH CR CO CM CF1 CF2
  have c0 := HA0.out.c 0 _ rfl
  go_enter Tryz.func60, Tryz.ntmps60
  go_upto_region 2 with (go_at_call 89; refine COf.out.mono ?_; rintro e w2 ⟨rfl, hb⟩; have HB2 := hid hb; clear hb)
  have HN : Hid (AnS w (w2.alloc (.cells #[.bool I1, .bool FH, .bool I2, .bool I3, .bool K13] 137)) w2.heap.size a I1 FH I2 I3 K13) :=
    hid ⟨(HA0.out.below HB2.out).below ((Below.refl _ _).alloc (Nat.le_refl _) _), heap_alloc_new w2 _, (HB0.out.trans (HB2.out.mono HB0.out.size)).alloc (HB0.out.trans (HB2.out.mono HB0.out.size)).size _⟩
  generalize w2.alloc (.cells #[.bool I1, .bool FH, .bool I2, .bool I3, .bool K13] 137) = W at *
  clear c0 COf HB0 HA0
  generalize w2.heap.size = g at *
  clear HB2
  obtain ⟨⟨f0, f1, f2, f3, f4⟩, c0, c8, c9, c10, c11, c12, c13, c14, c15, c16, c17⟩ := HN.out.cells
  cases H with
  | false =>
    go_wp2_with (first
      | (refine wpList_load_row rfl 31 _ rfl w.heap.size rfl 31 _ (0, 0) _ HN.out.box.blk Tryz.underlying31 rfl (by kernel_rfl) ?_)
      | (go_at_call 90; refine (HCH.out _ HN.out.below).mono ?_; rintro e w8 ⟨rfl, hb⟩; have HN := hid (HN.out.drop hb); clear hb f0 f1 f2 f3 f4 c0 c8 c9 c10 c11 c12 c13 c14 c15 c16 c17; obtain ⟨⟨f0, f1, f2, f3, f4⟩, c0, c8, c9, c10, c11, c12, c13, c14, c15, c16, c17⟩ := HN.out.cells))
    go_ret
    exact ⟨ret_bool (by rw [HM.out]; rfl), HN.out.below⟩
  | true =>
    rw [Bool.true_and] at HM
    cases R with
    | false =>
      go_wp2_with (first
        | (refine wpList_load_row rfl 31 _ rfl w.heap.size rfl 31 _ (0, 0) _ HN.out.box.blk Tryz.underlying31 rfl (by kernel_rfl) ?_)
        | (go_at_call 90; refine (HCH.out _ HN.out.below).mono ?_; rintro e w8 ⟨rfl, hb⟩; have HN := hid (HN.out.drop hb); clear hb f0 f1 f2 f3 f4 c0 c8 c9 c10 c11 c12 c13 c14 c15 c16 c17; obtain ⟨⟨f0, f1, f2, f3, f4⟩, c0, c8, c9, c10, c11, c12, c13, c14, c15, c16, c17⟩ := HN.out.cells)
        | (go_at_call 91; refine (HCR.out _ HN.out.below).mono ?_; rintro e w8 ⟨rfl, hb⟩; have HN := hid (HN.out.drop hb); clear hb f0 f1 f2 f3 f4 c0 c8 c9 c10 c11 c12 c13 c14 c15 c16 c17; obtain ⟨⟨f0, f1, f2, f3, f4⟩, c0, c8, c9, c10, c11, c12, c13, c14, c15, c16, c17⟩ := HN.out.cells))
      go_ret
      exact ⟨ret_bool (by rw [HM.out]; rfl), HN.out.below⟩
    | true =>
      rw [Bool.true_and] at HM
      go_upto_region 4 with (first
        | (refine wpList_load_row rfl 31 _ rfl w.heap.size rfl 31 _ (0, 0) _ HN.out.box.blk Tryz.underlying31 rfl (by kernel_rfl) ?_)
        | (go_at_call 90; refine (HCH.out _ HN.out.below).mono ?_; rintro e w8 ⟨rfl, hb⟩; have HN := hid (HN.out.drop hb); clear hb f0 f1 f2 f3 f4 c0 c8 c9 c10 c11 c12 c13 c14 c15 c16 c17; obtain ⟨⟨f0, f1, f2, f3, f4⟩, c0, c8, c9, c10, c11, c12, c13, c14, c15, c16, c17⟩ := HN.out.cells)
        | (go_at_call 91; refine (HCR.out _ HN.out.below).mono ?_; rintro e w8 ⟨rfl, hb⟩; have HN := hid (HN.out.drop hb); clear hb f0 f1 f2 f3 f4 c0 c8 c9 c10 c11 c12 c13 c14 c15 c16 c17; obtain ⟨⟨f0, f1, f2, f3, f4⟩, c0, c8, c9, c10, c11, c12, c13, c14, c15, c16, c17⟩ := HN.out.cells))
      clear HCH HCR
      cases K13 with
      | true =>
        cases O with
        | false =>
          have HCFX := HCF1
          go_wp2_with (first
            | (go_at_call 92; refine (HCO.out _ HN.out.below).mono ?_; rintro e w8 ⟨rfl, hb⟩; have HN := hid (HN.out.drop hb); clear hb f0 f1 f2 f3 f4 c0 c8 c9 c10 c11 c12 c13 c14 c15 c16 c17; obtain ⟨⟨f0, f1, f2, f3, f4⟩, c0, c8, c9, c10, c11, c12, c13, c14, c15, c16, c17⟩ := HN.out.cells)
            | (go_at_call 93; refine (HCM.out _ HN.out.below).mono ?_; rintro e w8 ⟨rfl, hb⟩; have HN := hid (HN.out.drop hb); clear hb f0 f1 f2 f3 f4 c0 c8 c9 c10 c11 c12 c13 c14 c15 c16 c17; obtain ⟨⟨f0, f1, f2, f3, f4⟩, c0, c8, c9, c10, c11, c12, c13, c14, c15, c16, c17⟩ := HN.out.cells)
            | (go_at_call 94; refine (HCFX.out _ HN.out.below).mono ?_; rintro e w8 ⟨rfl, hb⟩; clear HCFX; have HCFX := HCF2; have HN := hid (HN.out.drop hb); clear hb f0 f1 f2 f3 f4 c0 c8 c9 c10 c11 c12 c13 c14 c15 c16 c17; obtain ⟨⟨f0, f1, f2, f3, f4⟩, c0, c8, c9, c10, c11, c12, c13, c14, c15, c16, c17⟩ := HN.out.cells))
          go_ret
          exact ⟨ret_bool (by rw [HM.out]; rfl), HN.out.below⟩
        | true =>
          cases I2 with
          | true =>
            cases M with
            | false =>
              have HCFX := HCF1
              go_wp2_with (first
                | (go_at_call 92; refine (HCO.out _ HN.out.below).mono ?_; rintro e w8 ⟨rfl, hb⟩; have HN := hid (HN.out.drop hb); clear hb f0 f1 f2 f3 f4 c0 c8 c9 c10 c11 c12 c13 c14 c15 c16 c17; obtain ⟨⟨f0, f1, f2, f3, f4⟩, c0, c8, c9, c10, c11, c12, c13, c14, c15, c16, c17⟩ := HN.out.cells)
                | (go_at_call 93; refine (HCM.out _ HN.out.below).mono ?_; rintro e w8 ⟨rfl, hb⟩; have HN := hid (HN.out.drop hb); clear hb f0 f1 f2 f3 f4 c0 c8 c9 c10 c11 c12 c13 c14 c15 c16 c17; obtain ⟨⟨f0, f1, f2, f3, f4⟩, c0, c8, c9, c10, c11, c12, c13, c14, c15, c16, c17⟩ := HN.out.cells)
                | (go_at_call 94; refine (HCFX.out _ HN.out.below).mono ?_; rintro e w8 ⟨rfl, hb⟩; clear HCFX; have HCFX := HCF2; have HN := hid (HN.out.drop hb); clear hb f0 f1 f2 f3 f4 c0 c8 c9 c10 c11 c12 c13 c14 c15 c16 c17; obtain ⟨⟨f0, f1, f2, f3, f4⟩, c0, c8, c9, c10, c11, c12, c13, c14, c15, c16, c17⟩ := HN.out.cells))
              go_ret
              exact ⟨ret_bool (by rw [HM.out]; rfl), HN.out.below⟩
            | true =>
              cases F1 with
              | false =>
                have HCFX := HCF1
                go_wp2_with (first
                  | (go_at_call 92; refine (HCO.out _ HN.out.below).mono ?_; rintro e w8 ⟨rfl, hb⟩; have HN := hid (HN.out.drop hb); clear hb f0 f1 f2 f3 f4 c0 c8 c9 c10 c11 c12 c13 c14 c15 c16 c17; obtain ⟨⟨f0, f1, f2, f3, f4⟩, c0, c8, c9, c10, c11, c12, c13, c14, c15, c16, c17⟩ := HN.out.cells)
                  | (go_at_call 93; refine (HCM.out _ HN.out.below).mono ?_; rintro e w8 ⟨rfl, hb⟩; have HN := hid (HN.out.drop hb); clear hb f0 f1 f2 f3 f4 c0 c8 c9 c10 c11 c12 c13 c14 c15 c16 c17; obtain ⟨⟨f0, f1, f2, f3, f4⟩, c0, c8, c9, c10, c11, c12, c13, c14, c15, c16, c17⟩ := HN.out.cells)
                  | (go_at_call 94; refine (HCFX.out _ HN.out.below).mono ?_; rintro e w8 ⟨rfl, hb⟩; clear HCFX; have HCFX := HCF2; have HN := hid (HN.out.drop hb); clear hb f0 f1 f2 f3 f4 c0 c8 c9 c10 c11 c12 c13 c14 c15 c16 c17; obtain ⟨⟨f0, f1, f2, f3, f4⟩, c0, c8, c9, c10, c11, c12, c13, c14, c15, c16, c17⟩ := HN.out.cells))
                go_ret
                exact ⟨ret_bool (by rw [HM.out]; rfl), HN.out.below⟩
              | true =>
                rw [Bool.true_and] at HM
                have HCFX := HCF1
                go_wp2_with (first
                  | (go_at_call 92; refine (HCO.out _ HN.out.below).mono ?_; rintro e w8 ⟨rfl, hb⟩; have HN := hid (HN.out.drop hb); clear hb f0 f1 f2 f3 f4 c0 c8 c9 c10 c11 c12 c13 c14 c15 c16 c17; obtain ⟨⟨f0, f1, f2, f3, f4⟩, c0, c8, c9, c10, c11, c12, c13, c14, c15, c16, c17⟩ := HN.out.cells)
                  | (go_at_call 93; refine (HCM.out _ HN.out.below).mono ?_; rintro e w8 ⟨rfl, hb⟩; have HN := hid (HN.out.drop hb); clear hb f0 f1 f2 f3 f4 c0 c8 c9 c10 c11 c12 c13 c14 c15 c16 c17; obtain ⟨⟨f0, f1, f2, f3, f4⟩, c0, c8, c9, c10, c11, c12, c13, c14, c15, c16, c17⟩ := HN.out.cells)
                  | (go_at_call 94; refine (HCFX.out _ HN.out.below).mono ?_; rintro e w8 ⟨rfl, hb⟩; clear HCFX; have HCFX := HCF2; have HN := hid (HN.out.drop hb); clear hb f0 f1 f2 f3 f4 c0 c8 c9 c10 c11 c12 c13 c14 c15 c16 c17; obtain ⟨⟨f0, f1, f2, f3, f4⟩, c0, c8, c9, c10, c11, c12, c13, c14, c15, c16, c17⟩ := HN.out.cells))
                go_ret
                exact ⟨ret_bool (by rw [HM.out]; rfl), HN.out.below⟩
          | false =>
            by_cases hE : 0 < a.en
            · rw [decide_eq_true hE] at HM
              have HCFX := HCF1
              go_wp2_with (first
                | (go_at_call 92; refine (HCO.out _ HN.out.below).mono ?_; rintro e w8 ⟨rfl, hb⟩; have HN := hid (HN.out.drop hb); clear hb f0 f1 f2 f3 f4 c0 c8 c9 c10 c11 c12 c13 c14 c15 c16 c17; obtain ⟨⟨f0, f1, f2, f3, f4⟩, c0, c8, c9, c10, c11, c12, c13, c14, c15, c16, c17⟩ := HN.out.cells)
                | (go_at_call 93; refine (HCM.out _ HN.out.below).mono ?_; rintro e w8 ⟨rfl, hb⟩; have HN := hid (HN.out.drop hb); clear hb f0 f1 f2 f3 f4 c0 c8 c9 c10 c11 c12 c13 c14 c15 c16 c17; obtain ⟨⟨f0, f1, f2, f3, f4⟩, c0, c8, c9, c10, c11, c12, c13, c14, c15, c16, c17⟩ := HN.out.cells)
                | (go_at_call 94; refine (HCFX.out _ HN.out.below).mono ?_; rintro e w8 ⟨rfl, hb⟩; clear HCFX; have HCFX := HCF2; have HN := hid (HN.out.drop hb); clear hb f0 f1 f2 f3 f4 c0 c8 c9 c10 c11 c12 c13 c14 c15 c16 c17; obtain ⟨⟨f0, f1, f2, f3, f4⟩, c0, c8, c9, c10, c11, c12, c13, c14, c15, c16, c17⟩ := HN.out.cells))
              go_ret
              exact ⟨ret_bool (by rw [HM.out]; rfl), HN.out.below⟩
            · rw [decide_eq_false hE] at HM
              cases F1 with
              | false =>
                have HCFX := HCF1
                go_wp2_with (first
                  | (go_at_call 92; refine (HCO.out _ HN.out.below).mono ?_; rintro e w8 ⟨rfl, hb⟩; have HN := hid (HN.out.drop hb); clear hb f0 f1 f2 f3 f4 c0 c8 c9 c10 c11 c12 c13 c14 c15 c16 c17; obtain ⟨⟨f0, f1, f2, f3, f4⟩, c0, c8, c9, c10, c11, c12, c13, c14, c15, c16, c17⟩ := HN.out.cells)
                  | (go_at_call 93; refine (HCM.out _ HN.out.below).mono ?_; rintro e w8 ⟨rfl, hb⟩; have HN := hid (HN.out.drop hb); clear hb f0 f1 f2 f3 f4 c0 c8 c9 c10 c11 c12 c13 c14 c15 c16 c17; obtain ⟨⟨f0, f1, f2, f3, f4⟩, c0, c8, c9, c10, c11, c12, c13, c14, c15, c16, c17⟩ := HN.out.cells)
                  | (go_at_call 94; refine (HCFX.out _ HN.out.below).mono ?_; rintro e w8 ⟨rfl, hb⟩; clear HCFX; have HCFX := HCF2; have HN := hid (HN.out.drop hb); clear hb f0 f1 f2 f3 f4 c0 c8 c9 c10 c11 c12 c13 c14 c15 c16 c17; obtain ⟨⟨f0, f1, f2, f3, f4⟩, c0, c8, c9, c10, c11, c12, c13, c14, c15, c16, c17⟩ := HN.out.cells))
                go_ret
                exact ⟨ret_bool (by rw [HM.out]; rfl), HN.out.below⟩
              | true =>
                rw [Bool.true_and] at HM
                have HCFX := HCF1
                go_wp2_with (first
                  | (go_at_call 92; refine (HCO.out _ HN.out.below).mono ?_; rintro e w8 ⟨rfl, hb⟩; have HN := hid (HN.out.drop hb); clear hb f0 f1 f2 f3 f4 c0 c8 c9 c10 c11 c12 c13 c14 c15 c16 c17; obtain ⟨⟨f0, f1, f2, f3, f4⟩, c0, c8, c9, c10, c11, c12, c13, c14, c15, c16, c17⟩ := HN.out.cells)
                  | (go_at_call 93; refine (HCM.out _ HN.out.below).mono ?_; rintro e w8 ⟨rfl, hb⟩; have HN := hid (HN.out.drop hb); clear hb f0 f1 f2 f3 f4 c0 c8 c9 c10 c11 c12 c13 c14 c15 c16 c17; obtain ⟨⟨f0, f1, f2, f3, f4⟩, c0, c8, c9, c10, c11, c12, c13, c14, c15, c16, c17⟩ := HN.out.cells)
                  | (go_at_call 94; refine (HCFX.out _ HN.out.below).mono ?_; rintro e w8 ⟨rfl, hb⟩; clear HCFX; have HCFX := HCF2; have HN := hid (HN.out.drop hb); clear hb f0 f1 f2 f3 f4 c0 c8 c9 c10 c11 c12 c13 c14 c15 c16 c17; obtain ⟨⟨f0, f1, f2, f3, f4⟩, c0, c8, c9, c10, c11, c12, c13, c14, c15, c16, c17⟩ := HN.out.cells))
                go_ret
                exact ⟨ret_bool (by rw [HM.out]; rfl), HN.out.below⟩
      | false =>
        cases I2 with
        | true =>
          cases M with
          | false =>
            have HCFX := HCF1
            go_wp2_with (first
              | (go_at_call 92; refine (HCO.out _ HN.out.below).mono ?_; rintro e w8 ⟨rfl, hb⟩; have HN := hid (HN.out.drop hb); clear hb f0 f1 f2 f3 f4 c0 c8 c9 c10 c11 c12 c13 c14 c15 c16 c17; obtain ⟨⟨f0, f1, f2, f3, f4⟩, c0, c8, c9, c10, c11, c12, c13, c14, c15, c16, c17⟩ := HN.out.cells)
              | (go_at_call 93; refine (HCM.out _ HN.out.below).mono ?_; rintro e w8 ⟨rfl, hb⟩; have HN := hid (HN.out.drop hb); clear hb f0 f1 f2 f3 f4 c0 c8 c9 c10 c11 c12 c13 c14 c15 c16 c17; obtain ⟨⟨f0, f1, f2, f3, f4⟩, c0, c8, c9, c10, c11, c12, c13, c14, c15, c16, c17⟩ := HN.out.cells)
              | (go_at_call 94; refine (HCFX.out _ HN.out.below).mono ?_; rintro e w8 ⟨rfl, hb⟩; clear HCFX; have HCFX := HCF2; have HN := hid (HN.out.drop hb); clear hb f0 f1 f2 f3 f4 c0 c8 c9 c10 c11 c12 c13 c14 c15 c16 c17; obtain ⟨⟨f0, f1, f2, f3, f4⟩, c0, c8, c9, c10, c11, c12, c13, c14, c15, c16, c17⟩ := HN.out.cells))
            go_ret
            exact ⟨ret_bool (by rw [HM.out]; rfl), HN.out.below⟩
          | true =>
            cases F1 with
            | false =>
              have HCFX := HCF1
              go_wp2_with (first
                | (go_at_call 92; refine (HCO.out _ HN.out.below).mono ?_; rintro e w8 ⟨rfl, hb⟩; have HN := hid (HN.out.drop hb); clear hb f0 f1 f2 f3 f4 c0 c8 c9 c10 c11 c12 c13 c14 c15 c16 c17; obtain ⟨⟨f0, f1, f2, f3, f4⟩, c0, c8, c9, c10, c11, c12, c13, c14, c15, c16, c17⟩ := HN.out.cells)
                | (go_at_call 93; refine (HCM.out _ HN.out.below).mono ?_; rintro e w8 ⟨rfl, hb⟩; have HN := hid (HN.out.drop hb); clear hb f0 f1 f2 f3 f4 c0 c8 c9 c10 c11 c12 c13 c14 c15 c16 c17; obtain ⟨⟨f0, f1, f2, f3, f4⟩, c0, c8, c9, c10, c11, c12, c13, c14, c15, c16, c17⟩ := HN.out.cells)
                | (go_at_call 94; refine (HCFX.out _ HN.out.below).mono ?_; rintro e w8 ⟨rfl, hb⟩; clear HCFX; have HCFX := HCF2; have HN := hid (HN.out.drop hb); clear hb f0 f1 f2 f3 f4 c0 c8 c9 c10 c11 c12 c13 c14 c15 c16 c17; obtain ⟨⟨f0, f1, f2, f3, f4⟩, c0, c8, c9, c10, c11, c12, c13, c14, c15, c16, c17⟩ := HN.out.cells))
              go_ret
              exact ⟨ret_bool (by rw [HM.out]; rfl), HN.out.below⟩
            | true =>
              rw [Bool.true_and] at HM
              have HCFX := HCF1
              go_wp2_with (first
                | (go_at_call 92; refine (HCO.out _ HN.out.below).mono ?_; rintro e w8 ⟨rfl, hb⟩; have HN := hid (HN.out.drop hb); clear hb f0 f1 f2 f3 f4 c0 c8 c9 c10 c11 c12 c13 c14 c15 c16 c17; obtain ⟨⟨f0, f1, f2, f3, f4⟩, c0, c8, c9, c10, c11, c12, c13, c14, c15, c16, c17⟩ := HN.out.cells)
                | (go_at_call 93; refine (HCM.out _ HN.out.below).mono ?_; rintro e w8 ⟨rfl, hb⟩; have HN := hid (HN.out.drop hb); clear hb f0 f1 f2 f3 f4 c0 c8 c9 c10 c11 c12 c13 c14 c15 c16 c17; obtain ⟨⟨f0, f1, f2, f3, f4⟩, c0, c8, c9, c10, c11, c12, c13, c14, c15, c16, c17⟩ := HN.out.cells)
                | (go_at_call 94; refine (HCFX.out _ HN.out.below).mono ?_; rintro e w8 ⟨rfl, hb⟩; clear HCFX; have HCFX := HCF2; have HN := hid (HN.out.drop hb); clear hb f0 f1 f2 f3 f4 c0 c8 c9 c10 c11 c12 c13 c14 c15 c16 c17; obtain ⟨⟨f0, f1, f2, f3, f4⟩, c0, c8, c9, c10, c11, c12, c13, c14, c15, c16, c17⟩ := HN.out.cells))
              go_ret
              exact ⟨ret_bool (by rw [HM.out]; rfl), HN.out.below⟩
        | false =>
          by_cases hE : 0 < a.en
          · rw [decide_eq_true hE] at HM
            have HCFX := HCF1
            go_wp2_with (first
              | (go_at_call 92; refine (HCO.out _ HN.out.below).mono ?_; rintro e w8 ⟨rfl, hb⟩; have HN := hid (HN.out.drop hb); clear hb f0 f1 f2 f3 f4 c0 c8 c9 c10 c11 c12 c13 c14 c15 c16 c17; obtain ⟨⟨f0, f1, f2, f3, f4⟩, c0, c8, c9, c10, c11, c12, c13, c14, c15, c16, c17⟩ := HN.out.cells)
              | (go_at_call 93; refine (HCM.out _ HN.out.below).mono ?_; rintro e w8 ⟨rfl, hb⟩; have HN := hid (HN.out.drop hb); clear hb f0 f1 f2 f3 f4 c0 c8 c9 c10 c11 c12 c13 c14 c15 c16 c17; obtain ⟨⟨f0, f1, f2, f3, f4⟩, c0, c8, c9, c10, c11, c12, c13, c14, c15, c16, c17⟩ := HN.out.cells)
              | (go_at_call 94; refine (HCFX.out _ HN.out.below).mono ?_; rintro e w8 ⟨rfl, hb⟩; clear HCFX; have HCFX := HCF2; have HN := hid (HN.out.drop hb); clear hb f0 f1 f2 f3 f4 c0 c8 c9 c10 c11 c12 c13 c14 c15 c16 c17; obtain ⟨⟨f0, f1, f2, f3, f4⟩, c0, c8, c9, c10, c11, c12, c13, c14, c15, c16, c17⟩ := HN.out.cells))
            go_ret
            exact ⟨ret_bool (by rw [HM.out]; rfl), HN.out.below⟩
          · rw [decide_eq_false hE] at HM
            cases F1 with
            | false =>
              have HCFX := HCF1
              go_wp2_with (first
                | (go_at_call 92; refine (HCO.out _ HN.out.below).mono ?_; rintro e w8 ⟨rfl, hb⟩; have HN := hid (HN.out.drop hb); clear hb f0 f1 f2 f3 f4 c0 c8 c9 c10 c11 c12 c13 c14 c15 c16 c17; obtain ⟨⟨f0, f1, f2, f3, f4⟩, c0, c8, c9, c10, c11, c12, c13, c14, c15, c16, c17⟩ := HN.out.cells)
                | (go_at_call 93; refine (HCM.out _ HN.out.below).mono ?_; rintro e w8 ⟨rfl, hb⟩; have HN := hid (HN.out.drop hb); clear hb f0 f1 f2 f3 f4 c0 c8 c9 c10 c11 c12 c13 c14 c15 c16 c17; obtain ⟨⟨f0, f1, f2, f3, f4⟩, c0, c8, c9, c10, c11, c12, c13, c14, c15, c16, c17⟩ := HN.out.cells)
                | (go_at_call 94; refine (HCFX.out _ HN.out.below).mono ?_; rintro e w8 ⟨rfl, hb⟩; clear HCFX; have HCFX := HCF2; have HN := hid (HN.out.drop hb); clear hb f0 f1 f2 f3 f4 c0 c8 c9 c10 c11 c12 c13 c14 c15 c16 c17; obtain ⟨⟨f0, f1, f2, f3, f4⟩, c0, c8, c9, c10, c11, c12, c13, c14, c15, c16, c17⟩ := HN.out.cells))
              go_ret
              exact ⟨ret_bool (by rw [HM.out]; rfl), HN.out.below⟩
            | true =>
              rw [Bool.true_and] at HM
              have HCFX := HCF1
              go_wp2_with (first
                | (go_at_call 92; refine (HCO.out _ HN.out.below).mono ?_; rintro e w8 ⟨rfl, hb⟩; have HN := hid (HN.out.drop hb); clear hb f0 f1 f2 f3 f4 c0 c8 c9 c10 c11 c12 c13 c14 c15 c16 c17; obtain ⟨⟨f0, f1, f2, f3, f4⟩, c0, c8, c9, c10, c11, c12, c13, c14, c15, c16, c17⟩ := HN.out.cells)
                | (go_at_call 93; refine (HCM.out _ HN.out.below).mono ?_; rintro e w8 ⟨rfl, hb⟩; have HN := hid (HN.out.drop hb); clear hb f0 f1 f2 f3 f4 c0 c8 c9 c10 c11 c12 c13 c14 c15 c16 c17; obtain ⟨⟨f0, f1, f2, f3, f4⟩, c0, c8, c9, c10, c11, c12, c13, c14, c15, c16, c17⟩ := HN.out.cells)
                | (go_at_call 94; refine (HCFX.out _ HN.out.below).mono ?_; rintro e w8 ⟨rfl, hb⟩; clear HCFX; have HCFX := HCF2; have HN := hid (HN.out.drop hb); clear hb f0 f1 f2 f3 f4 c0 c8 c9 c10 c11 c12 c13 c14 c15 c16 c17; obtain ⟨⟨f0, f1, f2, f3, f4⟩, c0, c8, c9, c10, c11, c12, c13, c14, c15, c16, c17⟩ := HN.out.cells))
              go_ret
              exact ⟨ret_bool (by rw [HM.out]; rfl), HN.out.below⟩
end
section
open Go.RowKit
set_option maxHeartbeats 1000000 in
theorem aterm_Size1_any (a : AH) (b : Nat) (z : Int) (W : World) (h : IntBlk b z W) :
    Calls Tryz.prog 88 #[aggT a, .pointer (some ⟨b, 0, none⟩)] W fun e w' => e = .returned (.bool (plus1 a z).1) ∧ IntBlk b (plus1 a z).2 w' ∧ W.grownBy w' (some b) := by
  have HA := hid (h.below ((Below.refl _ _).alloc (Nat.le_refl _) (boxA a)))
  obtain ⟨q0, qf⟩ := HA.out.cells
  obtain ⟨Z, hZ⟩ : ∃ Z, IntKind.i64.wrap (z + 1) = Z := ⟨_, rfl⟩
  have HZ : Hid ((plus1 a z).2 = Z) := hZ
  clear h
  go_enter Tryz.func88, Tryz.ntmps88
  go_wp2_with fail
  go_ret
  refine ⟨rfl, ?_⟩
  rw [HZ.out]
  exact ⟨HA.out.set Z, (World.grownBy_alloc W _ _).trans (grown_setCell1 _ _ _ _)⟩
theorem fvA_Size {w0 : World} {b : Nat} (hb : w0.heap.size ≤ b) : FvA w0 (some b) 88 #[.pointer (some ⟨b, 0, none⟩)] (IntBlk b) (fun _ => True) plus1 where
  eg := fun args w => rfl
  hb := fun b' h => by injection h with h; omega
  lt := fun b' h s W hi => by injection h with h; rw [← h]; exact hi.lt
  inv := fun s W W' hi hbl => hi.below hbl
  call := fun a s W _ _ hi => aterm_Size1_any a b s W hi
set_option maxHeartbeats 1000000 in
theorem aterm_Size_any {w : World} {p : Option Addr} {n c : Nat} {l : List PA} (hr : RowTA w p n c l) {m : Nat} (hm : (nodesL l).length = m) (h3 : m ≤ 1000000) :
    Calls Tryz.prog 58 #[.slice p n c] w fun e w' => e = .returned (.int .i64 m) ∧ Below w.heap.size w w' := by
  have HE := hid (aterm_each_any (fvA_Size (w0 := w) (b := w.heap.size) (Nat.le_refl _)) l p n c hr (fun _ _ => trivial))
  have HP : Hid (stepAll plus1 (nodesL l) 0 = (true, (m : Int))) := by
    show _ = _
    rw [plus1_all (nodesL l) 0 (by omega) (by omega), hm]
    congr 1
    omega
  have HI : Hid (IntBlk w.heap.size 0 (w.alloc (.cells #[.int .i64 0] 3))) := heap_alloc_new w _
  have HB := hid ((Below.refl w.heap.size w).alloc (Nat.le_refl _) (.cells #[.int .i64 0] 3))
  have HG := hid (World.grownBy_alloc w (.cells #[.int .i64 0] 3) (some w.heap.size))
  clear hr hm
  go_enter Tryz.func58, Tryz.ntmps58
  go_wp2_with (go_at_call 59; refine (HE.out 0 _ HB.out HI.out).mono ?_; rw [HP.out]; rintro e w2 ⟨rfl, hi2, hg2⟩; obtain ⟨q0, qf⟩ := hi2.cells; have HG2 := hid (HG.out.trans hg2); clear hi2 hg2)
  go_ret
  exact ⟨rfl, held_under HG2.out (Nat.le_refl _) (fun b hb => by injection hb with hb; omega)⟩
theorem rowTA_made {w : World} {t : PA} (hl : LA.lies w t) (e : TypeId) (gs : Nat) (hgs : w.heap.size = gs) : RowTA (w.alloc (.cells #[.int .u8 t.head.kind, .int .u8 t.head.op, .int .i64 t.head.at_, .int .i64 t.head.n, .string t.head.name, .string t.head.arg, .string t.head.exn, .int .i64 t.head.rho, .slice t.head.rp t.head.rn t.head.rc, .slice t.head.ep t.head.en t.head.ec, .int .u8 t.head.ty.head.kind, .int .i64 t.head.ty.head.rho, .slice t.head.ty.head.ep t.head.ty.head.en t.head.ty.head.ec, .slice t.head.ty.head.kp t.head.ty.head.kn t.head.ty.head.kc, .int .u8 t.head.res.head.kind, .int .i64 t.head.res.head.rho, .slice t.head.res.head.ep t.head.res.head.en t.head.res.head.ec, .slice t.head.res.head.kp t.head.res.head.kn t.head.res.head.kc, .slice t.head.kp t.head.kn t.head.kc] e)) (some ⟨gs, 0, none⟩) 1 1 [t] := by
  subst hgs
  refine ⟨row_made LAlen (by omega) w e [t] 1 _ ?_ rfl (by decide), fun x hx => ?_⟩
  · simp [Laid.encT, LA, encAH]
  · have : x = t := by simpa using hx
    subst this
    exact LA.lies_below ((Below.refl _ w).alloc (Nat.le_refl _) _) x hl
theorem nodes_own {w : World} (t : PA) : LA.lies w t → ∀ a ∈ Rose.nodes t, AH.Own w a ∧ a.kn ≤ t.size := by
  refine Rose.ind (P := fun (t : PA) => LA.lies w t → ∀ a ∈ Rose.nodes t, AH.Own w a ∧ a.kn ≤ t.size) (fun a l ih hl x hx => ?_) t
  have hN := nodeA hl
  rw [Rose.nodes_node, List.mem_cons] at hx
  rw [Rose.size_node]
  rcases hx with rfl | hx
  · refine ⟨hN.own, ?_⟩
    have h1 := kidsA_le l
    have h2 := hN.kids.len
    omega
  · rw [List.mem_flatten] at hx
    obtain ⟨m, hm, hx⟩ := hx
    obtain ⟨y, hy, rfl⟩ := List.mem_map.1 hm
    obtain ⟨h1, h2⟩ := ih y hy (hN.each y hy) x hx
    have h3 : y.size ≤ (l.map Rose.size).sum := le_sum_of_mem (List.mem_map_of_mem hy)
    exact ⟨h1, by omega⟩
def nodeU (a : AH) (_ : Unit) : Bool × Unit := (node13 a, ())
theorem stepAll_nodeU : ∀ l : List AH, (stepAll nodeU l ()).1 = l.all node13
  | [] => rfl
  | a :: l => by
    show (if (node13 a) = true then stepAll nodeU l () else (false, ())).1 = _
    rw [List.all_cons]
    cases h : node13 a
    · rfl
    · rw [if_pos rfl, stepAll_nodeU l]; rfl
theorem fvA_node {w0 : World} (hv : Vr w0) : FvA w0 none 60 #[] (fun (_ : Unit) _ => True) (fun a => AH.Own w0 a ∧ SmallN a ∧ a.kn ≤ 1000000) nodeU where
  eg := fun args w => rfl
  hb := fun b' h => by cases h
  lt := fun b' h => by cases h
  inv := fun _ _ _ _ _ => trivial
  call := fun a s W ok hb _ => by
    refine (aterm_node_any a (LA.below ok.1 hb) ok.2.1 ok.2.2 (hv.below hb)).mono ?_
    rintro e w' ⟨rfl, hb'⟩
    exact ⟨rfl, trivial, hb'.os, hb'.tape, hb'.output, hb'.size, fun k hk _ => hb'.block k hk⟩
def mayA (t : PA) : Bool := (Rose.nodes t).all node13
set_option maxHeartbeats 4000000 in
theorem aterm_May_any (t : PA) {w : World} (hl : LA.lies w t) (hs : SmallNs t) (hz : t.size ≤ 1000) (hv : Vr w) :
    Calls Tryz.prog 35 #[aggT t.head] w fun e w' => e = .returned (.bool (mayA t)) ∧ Below w.heap.size w w' := by
  have HB := hid ((Below.refl w.heap.size w).alloc (Nat.le_refl _) (boxA t.head))
  have HBX := hid (boxA_new w t.head)
  have HV := hid hv
  have HROW := hid (fun (W : World) (hb : Below w.heap.size w W) (e : TypeId) (gs : Nat) (h : W.heap.size = gs) => rowTA_made (LA.lies_below hb t hl) e gs h)
  have hlen : (nodesL [t]).length = t.size := by simp [nodesL, nodes_length]
  have HSA : Hid ((stepAll nodeU (nodesL [t]) ()).1 = mayA t) := by
    show _ = _
    rw [stepAll_nodeU]; simp [nodesL, mayA]
  have HOK := hid (fun (W : World) (hb : Below w.heap.size w W) (a : AH) (ha : a ∈ nodesL [t]) => (show AH.Own W a ∧ SmallN a ∧ a.kn ≤ 1000000 by
    have ha' : a ∈ Rose.nodes t := by simpa [nodesL] using ha
    obtain ⟨h1, h2⟩ := nodes_own t hl a ha'
    exact ⟨LA.below h1 hb, hs a ha', by omega⟩))
  have hle : decide ((t.size : Int) ≤ 40000) = true := by simp; omega
  have HLEN := hid hlen
  clear hl hs hv hlen
  go_enter Tryz.func35, Tryz.ntmps35
  go_wp2_with (first
    | (refine wpList_load_row rfl 31 _ rfl w.heap.size rfl 31 _ (0, 0) _ HBX.out.blk Tryz.underlying31 rfl (by kernel_rfl) ?_)
    | (refine wpList_load_midG (by rfl) 31 _ rfl w.heap.size 0 rfl [.int .u8 t.head.kind, .int .u8 t.head.op, .int .i64 t.head.at_, .int .i64 t.head.n, .string t.head.name, .string t.head.arg, .string t.head.exn, .int .i64 t.head.rho, .slice t.head.rp t.head.rn t.head.rc, .slice t.head.ep t.head.en t.head.ec, .int .u8 t.head.ty.head.kind, .int .i64 t.head.ty.head.rho, .slice t.head.ty.head.ep t.head.ty.head.en t.head.ty.head.ec, .slice t.head.ty.head.kp t.head.ty.head.kn t.head.ty.head.kc, .int .u8 t.head.res.head.kind, .int .i64 t.head.res.head.rho, .slice t.head.res.head.ep t.head.res.head.en t.head.res.head.ec, .slice t.head.res.head.kp t.head.res.head.kn t.head.res.head.kc, .slice t.head.kp t.head.kn t.head.kc] _ HBX.out.range Tryz.underlying31 rfl (by kernel_rfl) ?_)
    | (go_at_call 58; refine (aterm_Size_any (HROW.out _ HB.out _ _ (by simp)) HLEN.out (by omega)).mono ?_; rintro e w2 ⟨rfl, hb⟩; have HB2 := hid ((HB.out.alloc HB.out.size _).trans (hb.mono (HB.out.alloc HB.out.size _).size)); have HBX := hid ((HBX.out.below ((Below.refl _ _).alloc (Nat.le_refl _) _)).below hb); clear hb)
    | (go_at_call 59; refine (aterm_each_any (fvA_node (HV.out.below (HB2.out.alloc HB2.out.size _))) [t] _ _ _ (HROW.out _ HB2.out _ _ (by simp)) (fun a ha => HOK.out _ (HB2.out.alloc HB2.out.size _) a ha) () _ (Below.refl _ _) trivial).mono ?_; rw [HSA.out]; rintro e w3 ⟨rfl, _, hg3⟩; have HB3 := hid (held_under hg3 (Nat.le_refl _) (fun b h => by cases h)); clear hg3))
  go_ret
  exact ⟨rfl, HB2.out.trans (((Below.refl _ w2).alloc (Nat.le_refl _) _ |>.trans (HB3.out.mono (by simp))).mono HB2.out.size)⟩
end
section
open Go.RowKit
structure Bnd where
  name : ByteArray
  ty : RT
  fn : Option LAH
abbrev TE := RT × List Atom
abbrev ChkR := Except (Int × Int) TE
def aGet (r : Int) : Atom := ⟨1, r, ⟨#[]⟩⟩
def aPut (r : Int) : Atom := ⟨2, r, ⟨#[]⟩⟩
def aExn (x : ByteArray) : Atom := ⟨3, 0, x⟩
def tZero : RT := .node ⟨0, 0, []⟩ []
def tInt : RT := .node ⟨1, 0, []⟩ []
def dTE : TE := (tZero, [])
def allE (l : List TE) (more : List Atom) : List Atom := effL (more ++ l.flatMap (·.2))
def sameR (x y : RT) : Bool := Rose.same sameH x y
def errP (a : LAH) (no : Int) : ChkR := .error (a.at_, no)
def mustP (b : Bool) (a : LAH) (no : Int) (r : ChkR) : ChkR := if b then r else errP a no
def scopedB (rhos l : List Int) : Bool := l.all (inN rhos)
def regionsB (a : LAH) (rhos : List Int) : Bool :=
  (decide (a.kind = 17) || inN rhos a.rho) && (!decide (a.kind = 18) || scopedB rhos a.rhos) &&
    (scopedB (if a.kind = 13 then rhos ++ a.rhos else rhos) (rhosOf a.eff) && scopedB (if a.kind = 13 then rhos ++ a.rhos else rhos) (sortI (gathT a.ty ++ gathT a.res)))
def findP (env : List Bnd) (x : ByteArray) : Option Bnd := env.reverse.find? (fun b => decide (b.name = x))
def tyP (k rho : Int) (eff : List Atom) (l : List RT) : RT := .node ⟨k, rho, effL eff⟩ l
def varP (env : List Bnd) (a : LAH) : ChkR :=
  match findP env a.name with
  | none => errP a 4
  | some b => mustP b.fn.isNone a 5 (.ok (b.ty, []))
def instP (env : List Bnd) (a : LAH) : ChkR :=
  match findP env a.name with
  | none => errP a 4
  | some b =>
    match b.fn with
    | none => errP a 5
    | some f => mustP (decide (f.rhos.length = a.rhos.length)) a 5 (mustP (withinB (swL f.rhos a.rhos f.eff) a.eff) a 6
        (.ok (tyP 4 a.rho a.eff [swapT f.rhos a.rhos f.ty, swapT f.rhos a.rhos f.res], effL [aGet f.rho, aPut a.rho])))
def isK (k : Int) (x : TE) : Bool := x.1.head.kind == k
def bindsP (a : LAH) (l : List TE) : ChkR :=
  let x := l.getD 0 dTE
  let y := l.getD 1 dTE
  if a.kind = 11 then mustP (withinB x.2 a.eff) a 6 (.ok (tyP 4 a.rho a.eff [a.ty, x.1], effL [aPut a.rho]))
  else if a.kind = 13 then mustP (sameR x.1 a.res) a 5 (mustP (withinB x.2 a.eff) a 6 (.ok (y.1, allE (l.drop 1) [aPut a.rho])))
  else if a.kind = 16 then mustP (sameR x.1 y.1) a 5 (.ok (x.1, effL (handledL x.2 [a.exn] ++ y.2)))
  else if a.kind = 17 then mustP (!inN (sortI (gathT x.1)) a.rho) a 6 (.ok (x.1, withoutL x.2 [a.rho]))
  else .ok (y.1, allE l [])
def ruleP (a : LAH) (l : List TE) : ChkR :=
  let x := l.getD 0 dTE
  let y := l.getD 1 dTE
  let z := l.getD 2 dTE
  if a.kind = 3 then .ok (tyP 2 a.rho [] [x.1, y.1], allE l [aPut a.rho])
  else if a.kind = 4 ∨ a.kind = 5 then mustP (isK 2 x) a 5 (.ok (x.1.kids.getD (a.kind - 4).toNat tZero, allE l [aGet x.1.head.rho]))
  else if a.kind = 6 then .ok (tyP 3 a.rho [] [x.1], allE l [aPut a.rho])
  else if a.kind = 7 then mustP (isK 3 x) a 5 (.ok (x.1.kids.getD 0 tZero, allE l [aGet x.1.head.rho]))
  else if a.kind = 8 then mustP (isK 3 x && sameR (x.1.kids.getD 0 tZero) y.1) a 5 (.ok (tInt, allE l [aPut x.1.head.rho]))
  else if a.kind = 10 then mustP (isK 4 x && sameR (x.1.kids.getD 0 tZero) y.1) a 5 (.ok (x.1.kids.getD 1 tZero, effL (allE l [aGet x.1.head.rho] ++ x.1.head.eff)))
  else if a.kind = 9 then mustP (l.all (isK 1)) a 5 (.ok (tInt, allE l []))
  else if a.kind = 14 then mustP (isK 1 x && sameR y.1 z.1) a 5 (.ok (y.1, allE l []))
  else if a.kind = 15 then mustP (l.all (isK 1)) a 5 (.ok (a.ty, allE l [aExn a.exn]))
  else if a.kind = 1 then .ok (tInt, allE l [])
  else bindsP a l
def innerE (env : List Bnd) (a : LAH) (i : Nat) (acc : List TE) : List Bnd :=
  if a.kind = 11 then env ++ [⟨a.arg, a.ty, none⟩]
  else if a.kind = 12 ∧ i = 1 then env ++ [⟨a.name, (acc.getD 0 dTE).1, none⟩]
  else if a.kind = 13 ∧ i = 0 then env ++ [⟨a.name, tZero, some a⟩, ⟨a.arg, a.ty, none⟩]
  else if a.kind = 13 then env ++ [⟨a.name, tZero, some a⟩]
  else if a.kind = 16 ∧ i = 1 then env ++ [⟨a.arg, tInt, none⟩]
  else env
def innerR (rhos : List Int) (a : LAH) (i : Nat) : List Int :=
  if a.kind = 13 ∧ i = 0 then rhos ++ a.rhos else if a.kind = 17 then rhos ++ [a.rho] else rhos
def sizeP (a : LAH) (r : ChkR) : ChkR :=
  match r with
  | .ok x => mustP (decide (x.1.size ≤ 500)) a 3 (.ok x)
  | .error e => .error e
mutual
def chk (env : List Bnd) (rhos : List Int) : AT → ChkR
  | .node a l =>
    sizeP a (mustP (regionsB a rhos) a 4 (
      if a.kind = 2 then varP env a
      else if a.kind = 18 then instP env a
      else match chkL env rhos a 0 [] l with
        | .error e => .error e
        | .ok ks => ruleP a ks))
def chkL (env : List Bnd) (rhos : List Int) (a : LAH) (i : Nat) (acc : List TE) : List AT → Except (Int × Int) (List TE)
  | [] => .ok acc
  | t :: l =>
    match chk (innerE env a i acc) (innerR rhos a i) t with
    | .error e => .error e
    | .ok r => chkL env rhos a (i + 1) (acc ++ [r]) l
end
def foundP (env : List Bnd) (rhos : List Int) (a : LAH) (l : List AT) : ChkR :=
  mustP (regionsB a rhos) a 4 (
    if a.kind = 2 then varP env a
    else if a.kind = 18 then instP env a
    else match chkL env rhos a 0 [] l with
      | .error e => .error e
      | .ok ks => ruleP a ks)
theorem chk_node (env : List Bnd) (rhos : List Int) (a : LAH) (l : List AT) : chk env rhos (.node a l) = sizeP a (foundP env rhos a l) := by rw [chk]; rfl
theorem chkL_nil (env : List Bnd) (rhos : List Int) (a : LAH) (i : Nat) (acc : List TE) : chkL env rhos a i acc [] = .ok acc := by rw [chkL]
theorem chkL_cons (env : List Bnd) (rhos : List Int) (a : LAH) (i : Nat) (acc : List TE) (t : AT) (l : List AT) :
    chkL env rhos a i acc (t :: l) = match chk (innerE env a i acc) (innerR rhos a i) t with
    | .error e => .error e
    | .ok r => chkL env rhos a (i + 1) (acc ++ [r]) l := by rw [chkL]
def bindsR (a : LAH) : List Int := if a.kind = 17 then [a.rho] else if a.kind = 13 then a.rhos else []
end
end Go.Proofs.YtkdjnegfnhldpaaGreatDoor
