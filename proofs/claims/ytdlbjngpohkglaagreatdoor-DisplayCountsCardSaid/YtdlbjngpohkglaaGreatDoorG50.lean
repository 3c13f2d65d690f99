/- Part 50 of the texts: Rx3, Rx4. -/
import Derived.Test.YtdlbjngpohkglaaGreatDoorG48
import Derived.Test.YtdlbjngpohkglaaGreatDoorG31
section
set_option linter.unusedVariables false
set_option maxRecDepth 100000
set_option linter.unusedSimpArgs false
namespace Go.Proofs.YtdlbjngpohkglaaGreatDoor
open Go.RowKit

set_option maxHeartbeats 4000000 in
theorem text14_9 {w : World} {a : AH} {l : List PA} (N : TN w a l) (hk : a.kind = 9) : T14At (.node a l) w := by
  have HN := Lib.hid N
  have HKK := Lib.hid hk
  clear hk
  have HBX := Lib.hid ((Below.refl w.heap.size w).alloc (Nat.le_refl _) (boxA a))
  have HA := Lib.hid (boxA_new w a)
  have hkm := N.node.own.kmax
  have hln := N.node.kids.len
  have HK3 : Hid (a.kn ≤ 3) := by
    have h := N.ok.kids
    have := kidsI_le (if a.kind = 17 then 4 else if a.kind = 18 then 1 else a.kind)
    show _ ≤ _
    omega
  have HS0 : Hid ((w.alloc (boxA a)).heap.size = w.heap.size + 1) := by show _ = _; simp
  clear N
  show Calls _ _ #[aggT a] w _
  go_enter Tryz.func17, Tryz.ntmps17
  go_upto_region 1 with fail
  generalize w.alloc (boxA a) = W0 at *
  go_upto_region 2 with fail
  have HO0 := Lib.hid (own_made encS_len W0 W0.heap.size 9 [] 0 #[] (by simp) rfl (by unfold maxLen; omega) (Nat.le_refl _))
  have HBA := Lib.hid (HA.out.below ((Below.refl W0.heap.size W0).alloc (Nat.le_refl _) (.cells #[] 9)))
  have HBB := Lib.hid (HBX.out.alloc HBX.out.size (.cells #[] 9))
  have hss : W0.heap.size ≤ (W0.alloc (.cells #[] 9)).heap.size := by simp
  generalize W0.alloc (.cells #[] 9) = W1 at *
  have HSS := Lib.hid hss
  clear hss
  have q18 : W1.cell? ⟨w.heap.size, 18, none⟩ = some (.slice a.kp a.kn a.kc) := HBA.out.c 18 _ rfl
  go_wp2_with fail
  clear q18
  go_loopw [3, 4, 12] (fun u _ i wr => ∃ (k : Nat), k ≤ a.kn ∧ i = .int .i64 k ∧ OwnE encS 1 wr W0.heap.size 9 u k ((l.take k).map textOf) ∧ BoxA wr w.heap.size a ∧ Below w.heap.size w wr ∧ W0.heap.size ≤ wr.heap.size) (fun _ _ i _ => a.kn - (intOf i).toNat)
  case atStart => exact ⟨0, by omega, rfl, HO0.out, HBA.out, HBB.out, HSS.out⟩
  case round =>
    obtain ⟨k, hk, rfl, hown, hbox, hb, hle⟩ := hrel
    have HOWN := Lib.hid hown
    have HBO := Lib.hid hbox
    have HB := Lib.hid hb
    have HLE := Lib.hid hle
    clear hown hbox hb hle
    have q18 : wr.cell? ⟨w.heap.size, 18, none⟩ = some (.slice a.kp a.kn a.kc) := HBO.out.c 18 _ rfl
    by_cases hlt : k < a.kn
    · obtain ⟨x, hx⟩ := (HN.out.node.rowT).at (j := k) hlt
      have HE := Lib.hid hx
      obtain ⟨b, o, hbo, hbl, hcs⟩ := (HN.out.node.rowT.below HB.out).kid hx
      have HCS := Lib.hid hcs
      have HKX := Lib.hid (HN.out.kids x (List.mem_of_getElem? hx) wr HB.out)
      rw [hbo] at q18
      clear hx hbl hbo hcs
      go_wp2_with (refine wpList_load_mid rfl 31 _ rfl b (o + k * 19) rfl (encAH x.head) _ HCS.out.c Tryz.underlying31 rfl (by kernel_rfl) ?_)
      refine Calls.mono HKX.out ?_
      rintro e w2 ⟨rfl, hb⟩
      have HO1 := Lib.hid (HOWN.out.below hb)
      have HB1 := Lib.hid (HB.out.trans (hb.mono HB.out.size))
      have HBO1 := Lib.hid (HBO.out.below hb)
      have HLE1 := Lib.hid (Nat.le_trans HLE.out hb.size)
      have hk3 := HK3.out
      clear hb q18
      go_wp2_with (at_builtin; refine wpList_append1 rfl _ _ 44 rfl W0.heap.size 9 _ 1 16 Tryz.underlying44 infoS rfl (by decide) encS encS_len encS_one (textOf x) _ _ _ HO1.out rfl (by refine Eq.trans (b := Value.slice (some ⟨w2.heap.size, 0, none⟩) 1 1) rfl ?_; simp) ?c1 ?c2 ?c3 ?_)
      case c1 => omega
      case c2 => omega
      case c3 => exact HLE1.out
      · intro v3 w3 hown3 hg3
        have hfr : ∀ g, Value.ownBlock _ = some g → W0.heap.size ≤ g := fun g hg => (World.ownsRow.lt HO1.out g hg).1
        have HB3 := Lib.hid (HB1.out.grown hg3 HB1.out.size (fun g hg => by have := hfr g hg; have := HBX.out.size; have := HS0.out; omega))
        have HBO3 : Hid (BoxA w3 w.heap.size a) := ⟨by rw [hg3.block w.heap.size (Array.getElem?_eq_some_iff.1 HBO1.out.blk).1 (fun e => by have := hfr _ e.symm; have := HS0.out; omega)]; exact HBO1.out.blk⟩
        have HLE3 : Hid (W0.heap.size ≤ w3.heap.size) := by have := HLE1.out; have := hg3.size; show _ ≤ _; omega
        have HO3 := Lib.hid hown3
        clear hown3 hg3 hfr
        go_wp2_with fail
        go_roundw
        case rel => exact ⟨k + 1, by omega, by go_num, by rw [take_succ_get HE.out, List.map_append, List.map_take]; exact HO3.out, HBO3.out, HB3.out, HLE3.out⟩
        case measure => simp [intOf]; omega
    · have hkn : k = a.kn := by omega
      obtain ⟨p, c, rfl, hrow⟩ := HOWN.out.isRow encS_len (by have := HK3.out; omega)
      have HT : Hid (TS w wr a l p c) := by
        have h := hrow
        rw [take_full (by rw [hln, hkn]; exact Nat.le_refl _)] at h
        refine ⟨HBO.out, HB.out, ?_⟩
        rw [hln, ← hkn]
        exact h
      clear hrow hlt hk q18 HA HBX HBA HBB HS0 HO0 HSS HOWN HBO HB HLE
      obtain ⟨c0, c1, c2, c3, c4, c5, c6, c7, c8, c9, c10, c11, c12, c13, c14, c15, c16, c17, c18⟩ := HT.out.box.all
      have hds := decB_size a.rho HN.out.node.own.rho.1 HN.out.node.own.rho.2
      have hez := HN.out.effz
      go_upto_region 9 with (first
        | (go_at_call 29; refine (ref14_num HN.out.ok.rho HN.out.node.own.rho.2 _).mono ?_; rintro e w8 ⟨rfl, hb⟩; have HT := Lib.hid (HT.out.step hb); clear hb c0 c1 c2 c3 c4 c5 c6 c7 c8 c9 c10 c11 c12 c13 c14 c15 c16 c17 c18; obtain ⟨c0, c1, c2, c3, c4, c5, c6, c7, c8, c9, c10, c11, c12, c13, c14, c15, c16, c17, c18⟩ := HT.out.box.all)
        | (go_at_call 30; refine (HN.out.eff _ HT.out.below).mono ?_; rintro e w8 ⟨rfl, hb⟩; have HT := Lib.hid (HT.out.step hb); clear hb c0 c1 c2 c3 c4 c5 c6 c7 c8 c9 c10 c11 c12 c13 c14 c15 c16 c17 c18; obtain ⟨c0, c1, c2, c3, c4, c5, c6, c7, c8, c9, c10, c11, c12, c13, c14, c15, c16, c17, c18⟩ := HT.out.box.all))
      go_upto_region 10 with fail
      clear c0 c1 c2 c3 c4 c5 c6 c7 c8 c9 c10 c11 c12 c13 c14 c15 c16 c17 c18
      have HT := Lib.hid (HT.out.step ((Below.refl w8.heap.size w8).alloc (Nat.le_refl _) (.cells #[.string ⟨#[43]⟩, .string ⟨#[45]⟩, .string ⟨#[42]⟩, .string ⟨#[60]⟩, .string ⟨#[61]⟩] 9)))
      have hw9 : (w8.alloc (.cells #[.string ⟨#[43]⟩, .string ⟨#[45]⟩, .string ⟨#[42]⟩, .string ⟨#[60]⟩, .string ⟨#[61]⟩] 9)).heap[w8.heap.size]? = some (.cells #[.string ⟨#[43]⟩, .string ⟨#[45]⟩, .string ⟨#[42]⟩, .string ⟨#[60]⟩, .string ⟨#[61]⟩] 9) := heap_alloc_new _ _
      generalize w8.alloc (.cells #[.string ⟨#[43]⟩, .string ⟨#[45]⟩, .string ⟨#[42]⟩, .string ⟨#[60]⟩, .string ⟨#[61]⟩] 9) = w9 at *
      have HW9 := Lib.hid hw9
      clear hw9
      obtain ⟨c0, c1, c2, c3, c4, c5, c6, c7, c8, c9, c10, c11, c12, c13, c14, c15, c16, c17, c18⟩ := HT.out.box.all
      have hs1 := HN.out.small.name
      have hs2 := HN.out.small.arg
      have hs3 := HN.out.small.exn
      have e1 : (a.kind == 1) = false := by simp [HKK.out]
      have e2 : (a.kind == 2) = false := by simp [HKK.out]
      have e3 : (a.kind == 3) = false := by simp [HKK.out]
      have e4 : (a.kind == 4) = false := by simp [HKK.out]
      have e5 : (a.kind == 5) = false := by simp [HKK.out]
      have e6 : (a.kind == 6) = false := by simp [HKK.out]
      have e7 : (a.kind == 7) = false := by simp [HKK.out]
      have e8 : (a.kind == 8) = false := by simp [HKK.out]
      have e9 : (a.kind == 9) = true := by simp [HKK.out]
      obtain ⟨x, y, rfl⟩ : ∃ x y, l = [x, y] := by
        have hl2 : l.length = 2 := by have h := HN.out.ok.kids; rw [HKK.out] at h; have e : kidsI 9 = 2 := rfl; simp at h; omega
        match l, hl2 with | [y, z], _ => exact ⟨y, z, rfl⟩
      obtain ⟨b, o, rfl, d0⟩ := HT.out.at (j := 0) rfl
      obtain ⟨b', o', hbo, d1⟩ := HT.out.at (j := 1) rfl
      cases hbo
      have z0 := HN.out.kidz x (by simp)
      have z1 := HN.out.kidz y (by simp)
      simp only [Nat.add_zero] at d0
      have hkn2 : a.kn = 2 := by rw [← hln]; rfl
      have HJ := Lib.hid (text_9 a HKK.out x y)
      have n0 : ¬ 9223372036854775807 < 2 + (textOf x).size := by omega
      have n1 : ¬ 9223372036854775807 < 2 + (textOf x).size + 1 := by omega
      have n2 : ¬ 9223372036854775807 < 2 + (textOf x).size + 1 + 1 := by omega
      have n3 : ¬ 9223372036854775807 < 2 + (textOf x).size + 1 + 1 + 1 := by omega
      have n4 : ¬ 9223372036854775807 < 2 + (textOf x).size + 1 + 1 + 1 + (textOf y).size := by omega
      have n5 : ¬ 9223372036854775807 < 2 + (textOf x).size + 1 + 1 + 1 + (textOf y).size + 2 := by omega
      have ho := HN.out.ok.op HKK.out
      have g0 : ∀ g, (gw w9 g).cell? ⟨w8.heap.size, 0, none⟩ = some (.string ⟨#[43]⟩) := fun g => gw_cell (by rw [Lib.cell_of_heap HW9.out]; rfl) g
      have g1 : ∀ g, (gw w9 g).cell? ⟨w8.heap.size, 1, none⟩ = some (.string ⟨#[45]⟩) := fun g => gw_cell (by rw [Lib.cell_of_heap HW9.out]; rfl) g
      have g2 : ∀ g, (gw w9 g).cell? ⟨w8.heap.size, 2, none⟩ = some (.string ⟨#[42]⟩) := fun g => gw_cell (by rw [Lib.cell_of_heap HW9.out]; rfl) g
      have g3 : ∀ g, (gw w9 g).cell? ⟨w8.heap.size, 3, none⟩ = some (.string ⟨#[60]⟩) := fun g => gw_cell (by rw [Lib.cell_of_heap HW9.out]; rfl) g
      have g4 : ∀ g, (gw w9 g).cell? ⟨w8.heap.size, 4, none⟩ = some (.string ⟨#[61]⟩) := fun g => gw_cell (by rw [Lib.cell_of_heap HW9.out]; rfl) g
      rcases (by omega : a.op = 1 ∨ a.op = 2 ∨ a.op = 3 ∨ a.op = 4 ∨ a.op = 5) with ho | ho | ho | ho | ho
      · rw [ho] at c1 HJ
        have hwa : IntKind.u8.wrap (1 - 1) = 0 := by decide
        have hwb : IntKind.u8.wrap 0 = 0 := by decide
        have c0 := fun g => gw_cell c0 g
        have c1 := fun g => gw_cell c1 g
        have c2 := fun g => gw_cell c2 g
        have c3 := fun g => gw_cell c3 g
        have c4 := fun g => gw_cell c4 g
        have c5 := fun g => gw_cell c5 g
        have c6 := fun g => gw_cell c6 g
        have c7 := fun g => gw_cell c7 g
        have c8 := fun g => gw_cell c8 g
        have c9 := fun g => gw_cell c9 g
        have c10 := fun g => gw_cell c10 g
        have c11 := fun g => gw_cell c11 g
        have c12 := fun g => gw_cell c12 g
        have c13 := fun g => gw_cell c13 g
        have c14 := fun g => gw_cell c14 g
        have c15 := fun g => gw_cell c15 g
        have c16 := fun g => gw_cell c16 g
        have c17 := fun g => gw_cell c17 g
        have c18 := fun g => gw_cell c18 g
        have d0 := fun g => gw_cell d0 g
        have d1 := fun g => gw_cell d1 g
        go_upto_region 28 with fail
        refine wp_region_gw (by kernel_rfl) (by kernel_rfl) ?_
        repeat ((with_reducible refine wpQuiet_step (fun K hK => ?_)); go_simp; refine hK _ ?_; clear hK K)
        refine wpQuiet_nil ?_
        rintro w10 ⟨g, rfl⟩
        have HT := Lib.hid (HT.out.step (gw_below w9 g))
        go_wp2_with fail
        go_ret
        exact ⟨ret_str HJ.out.symm, HT.out.below⟩
      · rw [ho] at c1 HJ
        have hwa : IntKind.u8.wrap (2 - 1) = 1 := by decide
        have hwb : IntKind.u8.wrap 1 = 1 := by decide
        have c0 := fun g => gw_cell c0 g
        have c1 := fun g => gw_cell c1 g
        have c2 := fun g => gw_cell c2 g
        have c3 := fun g => gw_cell c3 g
        have c4 := fun g => gw_cell c4 g
        have c5 := fun g => gw_cell c5 g
        have c6 := fun g => gw_cell c6 g
        have c7 := fun g => gw_cell c7 g
        have c8 := fun g => gw_cell c8 g
        have c9 := fun g => gw_cell c9 g
        have c10 := fun g => gw_cell c10 g
        have c11 := fun g => gw_cell c11 g
        have c12 := fun g => gw_cell c12 g
        have c13 := fun g => gw_cell c13 g
        have c14 := fun g => gw_cell c14 g
        have c15 := fun g => gw_cell c15 g
        have c16 := fun g => gw_cell c16 g
        have c17 := fun g => gw_cell c17 g
        have c18 := fun g => gw_cell c18 g
        have d0 := fun g => gw_cell d0 g
        have d1 := fun g => gw_cell d1 g
        go_upto_region 28 with fail
        refine wp_region_gw (by kernel_rfl) (by kernel_rfl) ?_
        repeat ((with_reducible refine wpQuiet_step (fun K hK => ?_)); go_simp; refine hK _ ?_; clear hK K)
        refine wpQuiet_nil ?_
        rintro w10 ⟨g, rfl⟩
        have HT := Lib.hid (HT.out.step (gw_below w9 g))
        go_wp2_with fail
        go_ret
        exact ⟨ret_str HJ.out.symm, HT.out.below⟩
      · rw [ho] at c1 HJ
        have hwa : IntKind.u8.wrap (3 - 1) = 2 := by decide
        have hwb : IntKind.u8.wrap 2 = 2 := by decide
        have c0 := fun g => gw_cell c0 g
        have c1 := fun g => gw_cell c1 g
        have c2 := fun g => gw_cell c2 g
        have c3 := fun g => gw_cell c3 g
        have c4 := fun g => gw_cell c4 g
        have c5 := fun g => gw_cell c5 g
        have c6 := fun g => gw_cell c6 g
        have c7 := fun g => gw_cell c7 g
        have c8 := fun g => gw_cell c8 g
        have c9 := fun g => gw_cell c9 g
        have c10 := fun g => gw_cell c10 g
        have c11 := fun g => gw_cell c11 g
        have c12 := fun g => gw_cell c12 g
        have c13 := fun g => gw_cell c13 g
        have c14 := fun g => gw_cell c14 g
        have c15 := fun g => gw_cell c15 g
        have c16 := fun g => gw_cell c16 g
        have c17 := fun g => gw_cell c17 g
        have c18 := fun g => gw_cell c18 g
        have d0 := fun g => gw_cell d0 g
        have d1 := fun g => gw_cell d1 g
        go_upto_region 28 with fail
        refine wp_region_gw (by kernel_rfl) (by kernel_rfl) ?_
        repeat ((with_reducible refine wpQuiet_step (fun K hK => ?_)); go_simp; refine hK _ ?_; clear hK K)
        refine wpQuiet_nil ?_
        rintro w10 ⟨g, rfl⟩
        have HT := Lib.hid (HT.out.step (gw_below w9 g))
        go_wp2_with fail
        go_ret
        exact ⟨ret_str HJ.out.symm, HT.out.below⟩
      · rw [ho] at c1 HJ
        have hwa : IntKind.u8.wrap (4 - 1) = 3 := by decide
        have hwb : IntKind.u8.wrap 3 = 3 := by decide
        have c0 := fun g => gw_cell c0 g
        have c1 := fun g => gw_cell c1 g
        have c2 := fun g => gw_cell c2 g
        have c3 := fun g => gw_cell c3 g
        have c4 := fun g => gw_cell c4 g
        have c5 := fun g => gw_cell c5 g
        have c6 := fun g => gw_cell c6 g
        have c7 := fun g => gw_cell c7 g
        have c8 := fun g => gw_cell c8 g
        have c9 := fun g => gw_cell c9 g
        have c10 := fun g => gw_cell c10 g
        have c11 := fun g => gw_cell c11 g
        have c12 := fun g => gw_cell c12 g
        have c13 := fun g => gw_cell c13 g
        have c14 := fun g => gw_cell c14 g
        have c15 := fun g => gw_cell c15 g
        have c16 := fun g => gw_cell c16 g
        have c17 := fun g => gw_cell c17 g
        have c18 := fun g => gw_cell c18 g
        have d0 := fun g => gw_cell d0 g
        have d1 := fun g => gw_cell d1 g
        go_upto_region 28 with fail
        refine wp_region_gw (by kernel_rfl) (by kernel_rfl) ?_
        repeat ((with_reducible refine wpQuiet_step (fun K hK => ?_)); go_simp; refine hK _ ?_; clear hK K)
        refine wpQuiet_nil ?_
        rintro w10 ⟨g, rfl⟩
        have HT := Lib.hid (HT.out.step (gw_below w9 g))
        go_wp2_with fail
        go_ret
        exact ⟨ret_str HJ.out.symm, HT.out.below⟩
      · rw [ho] at c1 HJ
        have hwa : IntKind.u8.wrap (5 - 1) = 4 := by decide
        have hwb : IntKind.u8.wrap 4 = 4 := by decide
        have c0 := fun g => gw_cell c0 g
        have c1 := fun g => gw_cell c1 g
        have c2 := fun g => gw_cell c2 g
        have c3 := fun g => gw_cell c3 g
        have c4 := fun g => gw_cell c4 g
        have c5 := fun g => gw_cell c5 g
        have c6 := fun g => gw_cell c6 g
        have c7 := fun g => gw_cell c7 g
        have c8 := fun g => gw_cell c8 g
        have c9 := fun g => gw_cell c9 g
        have c10 := fun g => gw_cell c10 g
        have c11 := fun g => gw_cell c11 g
        have c12 := fun g => gw_cell c12 g
        have c13 := fun g => gw_cell c13 g
        have c14 := fun g => gw_cell c14 g
        have c15 := fun g => gw_cell c15 g
        have c16 := fun g => gw_cell c16 g
        have c17 := fun g => gw_cell c17 g
        have c18 := fun g => gw_cell c18 g
        have d0 := fun g => gw_cell d0 g
        have d1 := fun g => gw_cell d1 g
        go_upto_region 28 with fail
        refine wp_region_gw (by kernel_rfl) (by kernel_rfl) ?_
        repeat ((with_reducible refine wpQuiet_step (fun K hK => ?_)); go_simp; refine hK _ ?_; clear hK K)
        refine wpQuiet_nil ?_
        rintro w10 ⟨g, rfl⟩
        have HT := Lib.hid (HT.out.step (gw_below w9 g))
        go_wp2_with fail
        go_ret
        exact ⟨ret_str HJ.out.symm, HT.out.below⟩
set_option maxHeartbeats 4000000 in
theorem text14_14 {w : World} {a : AH} {l : List PA} (N : TN w a l) (hk : a.kind = 14) : T14At (.node a l) w := by
  have HN := Lib.hid N
  have HKK := Lib.hid hk
  clear hk
  have HBX := Lib.hid ((Below.refl w.heap.size w).alloc (Nat.le_refl _) (boxA a))
  have HA := Lib.hid (boxA_new w a)
  have hkm := N.node.own.kmax
  have hln := N.node.kids.len
  have HK3 : Hid (a.kn ≤ 3) := by
    have h := N.ok.kids
    have := kidsI_le (if a.kind = 17 then 4 else if a.kind = 18 then 1 else a.kind)
    show _ ≤ _
    omega
  have HS0 : Hid ((w.alloc (boxA a)).heap.size = w.heap.size + 1) := by show _ = _; simp
  clear N
  show Calls _ _ #[aggT a] w _
  go_enter Tryz.func17, Tryz.ntmps17
  go_upto_region 1 with fail
  generalize w.alloc (boxA a) = W0 at *
  go_upto_region 2 with fail
  have HO0 := Lib.hid (own_made encS_len W0 W0.heap.size 9 [] 0 #[] (by simp) rfl (by unfold maxLen; omega) (Nat.le_refl _))
  have HBA := Lib.hid (HA.out.below ((Below.refl W0.heap.size W0).alloc (Nat.le_refl _) (.cells #[] 9)))
  have HBB := Lib.hid (HBX.out.alloc HBX.out.size (.cells #[] 9))
  have hss : W0.heap.size ≤ (W0.alloc (.cells #[] 9)).heap.size := by simp
  generalize W0.alloc (.cells #[] 9) = W1 at *
  have HSS := Lib.hid hss
  clear hss
  have q18 : W1.cell? ⟨w.heap.size, 18, none⟩ = some (.slice a.kp a.kn a.kc) := HBA.out.c 18 _ rfl
  go_wp2_with fail
  clear q18
  go_loopw [3, 4, 12] (fun u _ i wr => ∃ (k : Nat), k ≤ a.kn ∧ i = .int .i64 k ∧ OwnE encS 1 wr W0.heap.size 9 u k ((l.take k).map textOf) ∧ BoxA wr w.heap.size a ∧ Below w.heap.size w wr ∧ W0.heap.size ≤ wr.heap.size) (fun _ _ i _ => a.kn - (intOf i).toNat)
  case atStart => exact ⟨0, by omega, rfl, HO0.out, HBA.out, HBB.out, HSS.out⟩
  case round =>
    obtain ⟨k, hk, rfl, hown, hbox, hb, hle⟩ := hrel
    have HOWN := Lib.hid hown
    have HBO := Lib.hid hbox
    have HB := Lib.hid hb
    have HLE := Lib.hid hle
    clear hown hbox hb hle
    have q18 : wr.cell? ⟨w.heap.size, 18, none⟩ = some (.slice a.kp a.kn a.kc) := HBO.out.c 18 _ rfl
    by_cases hlt : k < a.kn
    · obtain ⟨x, hx⟩ := (HN.out.node.rowT).at (j := k) hlt
      have HE := Lib.hid hx
      obtain ⟨b, o, hbo, hbl, hcs⟩ := (HN.out.node.rowT.below HB.out).kid hx
      have HCS := Lib.hid hcs
      have HKX := Lib.hid (HN.out.kids x (List.mem_of_getElem? hx) wr HB.out)
      rw [hbo] at q18
      clear hx hbl hbo hcs
      go_wp2_with (refine wpList_load_mid rfl 31 _ rfl b (o + k * 19) rfl (encAH x.head) _ HCS.out.c Tryz.underlying31 rfl (by kernel_rfl) ?_)
      refine Calls.mono HKX.out ?_
      rintro e w2 ⟨rfl, hb⟩
      have HO1 := Lib.hid (HOWN.out.below hb)
      have HB1 := Lib.hid (HB.out.trans (hb.mono HB.out.size))
      have HBO1 := Lib.hid (HBO.out.below hb)
      have HLE1 := Lib.hid (Nat.le_trans HLE.out hb.size)
      have hk3 := HK3.out
      clear hb q18
      go_wp2_with (at_builtin; refine wpList_append1 rfl _ _ 44 rfl W0.heap.size 9 _ 1 16 Tryz.underlying44 infoS rfl (by decide) encS encS_len encS_one (textOf x) _ _ _ HO1.out rfl (by refine Eq.trans (b := Value.slice (some ⟨w2.heap.size, 0, none⟩) 1 1) rfl ?_; simp) ?c1 ?c2 ?c3 ?_)
      case c1 => omega
      case c2 => omega
      case c3 => exact HLE1.out
      · intro v3 w3 hown3 hg3
        have hfr : ∀ g, Value.ownBlock _ = some g → W0.heap.size ≤ g := fun g hg => (World.ownsRow.lt HO1.out g hg).1
        have HB3 := Lib.hid (HB1.out.grown hg3 HB1.out.size (fun g hg => by have := hfr g hg; have := HBX.out.size; have := HS0.out; omega))
        have HBO3 : Hid (BoxA w3 w.heap.size a) := ⟨by rw [hg3.block w.heap.size (Array.getElem?_eq_some_iff.1 HBO1.out.blk).1 (fun e => by have := hfr _ e.symm; have := HS0.out; omega)]; exact HBO1.out.blk⟩
        have HLE3 : Hid (W0.heap.size ≤ w3.heap.size) := by have := HLE1.out; have := hg3.size; show _ ≤ _; omega
        have HO3 := Lib.hid hown3
        clear hown3 hg3 hfr
        go_wp2_with fail
        go_roundw
        case rel => exact ⟨k + 1, by omega, by go_num, by rw [take_succ_get HE.out, List.map_append, List.map_take]; exact HO3.out, HBO3.out, HB3.out, HLE3.out⟩
        case measure => simp [intOf]; omega
    · have hkn : k = a.kn := by omega
      obtain ⟨p, c, rfl, hrow⟩ := HOWN.out.isRow encS_len (by have := HK3.out; omega)
      have HT : Hid (TS w wr a l p c) := by
        have h := hrow
        rw [take_full (by rw [hln, hkn]; exact Nat.le_refl _)] at h
        refine ⟨HBO.out, HB.out, ?_⟩
        rw [hln, ← hkn]
        exact h
      clear hrow hlt hk q18 HA HBX HBA HBB HS0 HO0 HSS HOWN HBO HB HLE
      obtain ⟨c0, c1, c2, c3, c4, c5, c6, c7, c8, c9, c10, c11, c12, c13, c14, c15, c16, c17, c18⟩ := HT.out.box.all
      have hds := decB_size a.rho HN.out.node.own.rho.1 HN.out.node.own.rho.2
      have hez := HN.out.effz
      go_upto_region 9 with (first
        | (go_at_call 29; refine (ref14_num HN.out.ok.rho HN.out.node.own.rho.2 _).mono ?_; rintro e w8 ⟨rfl, hb⟩; have HT := Lib.hid (HT.out.step hb); clear hb c0 c1 c2 c3 c4 c5 c6 c7 c8 c9 c10 c11 c12 c13 c14 c15 c16 c17 c18; obtain ⟨c0, c1, c2, c3, c4, c5, c6, c7, c8, c9, c10, c11, c12, c13, c14, c15, c16, c17, c18⟩ := HT.out.box.all)
        | (go_at_call 30; refine (HN.out.eff _ HT.out.below).mono ?_; rintro e w8 ⟨rfl, hb⟩; have HT := Lib.hid (HT.out.step hb); clear hb c0 c1 c2 c3 c4 c5 c6 c7 c8 c9 c10 c11 c12 c13 c14 c15 c16 c17 c18; obtain ⟨c0, c1, c2, c3, c4, c5, c6, c7, c8, c9, c10, c11, c12, c13, c14, c15, c16, c17, c18⟩ := HT.out.box.all))
      go_upto_region 10 with fail
      clear c0 c1 c2 c3 c4 c5 c6 c7 c8 c9 c10 c11 c12 c13 c14 c15 c16 c17 c18
      have HT := Lib.hid (HT.out.step ((Below.refl w8.heap.size w8).alloc (Nat.le_refl _) (.cells #[.string ⟨#[43]⟩, .string ⟨#[45]⟩, .string ⟨#[42]⟩, .string ⟨#[60]⟩, .string ⟨#[61]⟩] 9)))
      have hw9 : (w8.alloc (.cells #[.string ⟨#[43]⟩, .string ⟨#[45]⟩, .string ⟨#[42]⟩, .string ⟨#[60]⟩, .string ⟨#[61]⟩] 9)).heap[w8.heap.size]? = some (.cells #[.string ⟨#[43]⟩, .string ⟨#[45]⟩, .string ⟨#[42]⟩, .string ⟨#[60]⟩, .string ⟨#[61]⟩] 9) := heap_alloc_new _ _
      generalize w8.alloc (.cells #[.string ⟨#[43]⟩, .string ⟨#[45]⟩, .string ⟨#[42]⟩, .string ⟨#[60]⟩, .string ⟨#[61]⟩] 9) = w9 at *
      have HW9 := Lib.hid hw9
      clear hw9
      obtain ⟨c0, c1, c2, c3, c4, c5, c6, c7, c8, c9, c10, c11, c12, c13, c14, c15, c16, c17, c18⟩ := HT.out.box.all
      have hs1 := HN.out.small.name
      have hs2 := HN.out.small.arg
      have hs3 := HN.out.small.exn
      have e1 : (a.kind == 1) = false := by simp [HKK.out]
      have e2 : (a.kind == 2) = false := by simp [HKK.out]
      have e3 : (a.kind == 3) = false := by simp [HKK.out]
      have e4 : (a.kind == 4) = false := by simp [HKK.out]
      have e5 : (a.kind == 5) = false := by simp [HKK.out]
      have e6 : (a.kind == 6) = false := by simp [HKK.out]
      have e7 : (a.kind == 7) = false := by simp [HKK.out]
      have e8 : (a.kind == 8) = false := by simp [HKK.out]
      have e9 : (a.kind == 9) = false := by simp [HKK.out]
      have e10 : (a.kind == 10) = false := by simp [HKK.out]
      have e11 : (a.kind == 11) = false := by simp [HKK.out]
      have e12 : (a.kind == 12) = false := by simp [HKK.out]
      have e13 : (a.kind == 13) = false := by simp [HKK.out]
      have e14 : (a.kind == 14) = true := by simp [HKK.out]
      obtain ⟨x, y, z, rfl⟩ : ∃ x y z, l = [x, y, z] := by
        have hl3 : l.length = 3 := by have h := HN.out.ok.kids; rw [HKK.out] at h; have e : kidsI 14 = 3 := rfl; simp at h; omega
        match l, hl3 with | [x, y, z], _ => exact ⟨x, y, z, rfl⟩
      obtain ⟨b, o, rfl, d0⟩ := HT.out.at (j := 0) rfl
      obtain ⟨b', o', hbo, d1⟩ := HT.out.at (j := 1) rfl
      cases hbo
      obtain ⟨b', o', hbo, d2⟩ := HT.out.at (j := 2) rfl
      cases hbo
      have z0 := HN.out.kidz x (by simp)
      have z1 := HN.out.kidz y (by simp)
      have z2 := HN.out.kidz z (by simp)
      simp only [Nat.add_zero] at d0
      have hkn3 : a.kn = 3 := by rw [← hln]; rfl
      have HJ := Lib.hid (text_14 a HKK.out x y z)
      have n0 : ¬ 9223372036854775807 < 5 + (textOf x).size := by omega
      have n1 : ¬ 9223372036854775807 < 5 + (textOf x).size + 6 := by omega
      have n2 : ¬ 9223372036854775807 < 5 + (textOf x).size + 6 + (textOf y).size := by omega
      have n3 : ¬ 9223372036854775807 < 5 + (textOf x).size + 6 + (textOf y).size + 6 := by omega
      have n4 : ¬ 9223372036854775807 < 5 + (textOf x).size + 6 + (textOf y).size + 6 + (textOf z).size := by omega
      have n5 : ¬ 9223372036854775807 < 5 + (textOf x).size + 6 + (textOf y).size + 6 + (textOf z).size + 2 := by omega
      have c0 := fun g => gw_cell c0 g
      have c1 := fun g => gw_cell c1 g
      have c2 := fun g => gw_cell c2 g
      have c3 := fun g => gw_cell c3 g
      have c4 := fun g => gw_cell c4 g
      have c5 := fun g => gw_cell c5 g
      have c6 := fun g => gw_cell c6 g
      have c7 := fun g => gw_cell c7 g
      have c8 := fun g => gw_cell c8 g
      have c9 := fun g => gw_cell c9 g
      have c10 := fun g => gw_cell c10 g
      have c11 := fun g => gw_cell c11 g
      have c12 := fun g => gw_cell c12 g
      have c13 := fun g => gw_cell c13 g
      have c14 := fun g => gw_cell c14 g
      have c15 := fun g => gw_cell c15 g
      have c16 := fun g => gw_cell c16 g
      have c17 := fun g => gw_cell c17 g
      have c18 := fun g => gw_cell c18 g
      have d0 := fun g => gw_cell d0 g
      have d1 := fun g => gw_cell d1 g
      have d2 := fun g => gw_cell d2 g
      go_upto_region 38 with fail
      refine wp_region_gw (by kernel_rfl) (by kernel_rfl) ?_
      repeat ((with_reducible refine wpQuiet_step (fun K hK => ?_)); go_simp; refine hK _ ?_; clear hK K)
      refine wpQuiet_nil ?_
      rintro w10 ⟨g, rfl⟩
      have HT := Lib.hid (HT.out.step (gw_below w9 g))
      go_wp2_with fail
      go_ret
      exact ⟨ret_str HJ.out.symm, HT.out.below⟩
end Go.Proofs.YtdlbjngpohkglaaGreatDoor
end
section
set_option linter.unusedVariables false
set_option maxRecDepth 100000
set_option linter.unusedSimpArgs false
namespace Go.Proofs.YtdlbjngpohkglaaGreatDoor
open Go.RowKit

set_option maxHeartbeats 4000000 in
theorem text14_11 {w : World} {a : AH} {l : List PA} (N : TN w a l) (hk : a.kind = 11) : T14At (.node a l) w := by
  have HN := Lib.hid N
  have HKK := Lib.hid hk
  clear hk
  have HBX := Lib.hid ((Below.refl w.heap.size w).alloc (Nat.le_refl _) (boxA a))
  have HA := Lib.hid (boxA_new w a)
  have hkm := N.node.own.kmax
  have hln := N.node.kids.len
  have HK3 : Hid (a.kn ≤ 3) := by
    have h := N.ok.kids
    have := kidsI_le (if a.kind = 17 then 4 else if a.kind = 18 then 1 else a.kind)
    show _ ≤ _
    omega
  have HS0 : Hid ((w.alloc (boxA a)).heap.size = w.heap.size + 1) := by show _ = _; simp
  clear N
  show Calls _ _ #[aggT a] w _
  go_enter Tryz.func17, Tryz.ntmps17
  go_upto_region 1 with fail
  generalize w.alloc (boxA a) = W0 at *
  go_upto_region 2 with fail
  have HO0 := Lib.hid (own_made encS_len W0 W0.heap.size 9 [] 0 #[] (by simp) rfl (by unfold maxLen; omega) (Nat.le_refl _))
  have HBA := Lib.hid (HA.out.below ((Below.refl W0.heap.size W0).alloc (Nat.le_refl _) (.cells #[] 9)))
  have HBB := Lib.hid (HBX.out.alloc HBX.out.size (.cells #[] 9))
  have hss : W0.heap.size ≤ (W0.alloc (.cells #[] 9)).heap.size := by simp
  generalize W0.alloc (.cells #[] 9) = W1 at *
  have HSS := Lib.hid hss
  clear hss
  have q18 : W1.cell? ⟨w.heap.size, 18, none⟩ = some (.slice a.kp a.kn a.kc) := HBA.out.c 18 _ rfl
  go_wp2_with fail
  clear q18
  go_loopw [3, 4, 12] (fun u _ i wr => ∃ (k : Nat), k ≤ a.kn ∧ i = .int .i64 k ∧ OwnE encS 1 wr W0.heap.size 9 u k ((l.take k).map textOf) ∧ BoxA wr w.heap.size a ∧ Below w.heap.size w wr ∧ W0.heap.size ≤ wr.heap.size) (fun _ _ i _ => a.kn - (intOf i).toNat)
  case atStart => exact ⟨0, by omega, rfl, HO0.out, HBA.out, HBB.out, HSS.out⟩
  case round =>
    obtain ⟨k, hk, rfl, hown, hbox, hb, hle⟩ := hrel
    have HOWN := Lib.hid hown
    have HBO := Lib.hid hbox
    have HB := Lib.hid hb
    have HLE := Lib.hid hle
    clear hown hbox hb hle
    have q18 : wr.cell? ⟨w.heap.size, 18, none⟩ = some (.slice a.kp a.kn a.kc) := HBO.out.c 18 _ rfl
    by_cases hlt : k < a.kn
    · obtain ⟨x, hx⟩ := (HN.out.node.rowT).at (j := k) hlt
      have HE := Lib.hid hx
      obtain ⟨b, o, hbo, hbl, hcs⟩ := (HN.out.node.rowT.below HB.out).kid hx
      have HCS := Lib.hid hcs
      have HKX := Lib.hid (HN.out.kids x (List.mem_of_getElem? hx) wr HB.out)
      rw [hbo] at q18
      clear hx hbl hbo hcs
      go_wp2_with (refine wpList_load_mid rfl 31 _ rfl b (o + k * 19) rfl (encAH x.head) _ HCS.out.c Tryz.underlying31 rfl (by kernel_rfl) ?_)
      refine Calls.mono HKX.out ?_
      rintro e w2 ⟨rfl, hb⟩
      have HO1 := Lib.hid (HOWN.out.below hb)
      have HB1 := Lib.hid (HB.out.trans (hb.mono HB.out.size))
      have HBO1 := Lib.hid (HBO.out.below hb)
      have HLE1 := Lib.hid (Nat.le_trans HLE.out hb.size)
      have hk3 := HK3.out
      clear hb q18
      go_wp2_with (at_builtin; refine wpList_append1 rfl _ _ 44 rfl W0.heap.size 9 _ 1 16 Tryz.underlying44 infoS rfl (by decide) encS encS_len encS_one (textOf x) _ _ _ HO1.out rfl (by refine Eq.trans (b := Value.slice (some ⟨w2.heap.size, 0, none⟩) 1 1) rfl ?_; simp) ?c1 ?c2 ?c3 ?_)
      case c1 => omega
      case c2 => omega
      case c3 => exact HLE1.out
      · intro v3 w3 hown3 hg3
        have hfr : ∀ g, Value.ownBlock _ = some g → W0.heap.size ≤ g := fun g hg => (World.ownsRow.lt HO1.out g hg).1
        have HB3 := Lib.hid (HB1.out.grown hg3 HB1.out.size (fun g hg => by have := hfr g hg; have := HBX.out.size; have := HS0.out; omega))
        have HBO3 : Hid (BoxA w3 w.heap.size a) := ⟨by rw [hg3.block w.heap.size (Array.getElem?_eq_some_iff.1 HBO1.out.blk).1 (fun e => by have := hfr _ e.symm; have := HS0.out; omega)]; exact HBO1.out.blk⟩
        have HLE3 : Hid (W0.heap.size ≤ w3.heap.size) := by have := HLE1.out; have := hg3.size; show _ ≤ _; omega
        have HO3 := Lib.hid hown3
        clear hown3 hg3 hfr
        go_wp2_with fail
        go_roundw
        case rel => exact ⟨k + 1, by omega, by go_num, by rw [take_succ_get HE.out, List.map_append, List.map_take]; exact HO3.out, HBO3.out, HB3.out, HLE3.out⟩
        case measure => simp [intOf]; omega
    · have hkn : k = a.kn := by omega
      obtain ⟨p, c, rfl, hrow⟩ := HOWN.out.isRow encS_len (by have := HK3.out; omega)
      have HT : Hid (TS w wr a l p c) := by
        have h := hrow
        rw [take_full (by rw [hln, hkn]; exact Nat.le_refl _)] at h
        refine ⟨HBO.out, HB.out, ?_⟩
        rw [hln, ← hkn]
        exact h
      clear hrow hlt hk q18 HA HBX HBA HBB HS0 HO0 HSS HOWN HBO HB HLE
      obtain ⟨c0, c1, c2, c3, c4, c5, c6, c7, c8, c9, c10, c11, c12, c13, c14, c15, c16, c17, c18⟩ := HT.out.box.all
      have hds := decB_size a.rho HN.out.node.own.rho.1 HN.out.node.own.rho.2
      have hez := HN.out.effz
      go_upto_region 9 with (first
        | (go_at_call 29; refine (ref14_num HN.out.ok.rho HN.out.node.own.rho.2 _).mono ?_; rintro e w8 ⟨rfl, hb⟩; have HT := Lib.hid (HT.out.step hb); clear hb c0 c1 c2 c3 c4 c5 c6 c7 c8 c9 c10 c11 c12 c13 c14 c15 c16 c17 c18; obtain ⟨c0, c1, c2, c3, c4, c5, c6, c7, c8, c9, c10, c11, c12, c13, c14, c15, c16, c17, c18⟩ := HT.out.box.all)
        | (go_at_call 30; refine (HN.out.eff _ HT.out.below).mono ?_; rintro e w8 ⟨rfl, hb⟩; have HT := Lib.hid (HT.out.step hb); clear hb c0 c1 c2 c3 c4 c5 c6 c7 c8 c9 c10 c11 c12 c13 c14 c15 c16 c17 c18; obtain ⟨c0, c1, c2, c3, c4, c5, c6, c7, c8, c9, c10, c11, c12, c13, c14, c15, c16, c17, c18⟩ := HT.out.box.all))
      go_upto_region 10 with fail
      clear c0 c1 c2 c3 c4 c5 c6 c7 c8 c9 c10 c11 c12 c13 c14 c15 c16 c17 c18
      have HT := Lib.hid (HT.out.step ((Below.refl w8.heap.size w8).alloc (Nat.le_refl _) (.cells #[.string ⟨#[43]⟩, .string ⟨#[45]⟩, .string ⟨#[42]⟩, .string ⟨#[60]⟩, .string ⟨#[61]⟩] 9)))
      have hw9 : (w8.alloc (.cells #[.string ⟨#[43]⟩, .string ⟨#[45]⟩, .string ⟨#[42]⟩, .string ⟨#[60]⟩, .string ⟨#[61]⟩] 9)).heap[w8.heap.size]? = some (.cells #[.string ⟨#[43]⟩, .string ⟨#[45]⟩, .string ⟨#[42]⟩, .string ⟨#[60]⟩, .string ⟨#[61]⟩] 9) := heap_alloc_new _ _
      generalize w8.alloc (.cells #[.string ⟨#[43]⟩, .string ⟨#[45]⟩, .string ⟨#[42]⟩, .string ⟨#[60]⟩, .string ⟨#[61]⟩] 9) = w9 at *
      have HW9 := Lib.hid hw9
      clear hw9
      obtain ⟨c0, c1, c2, c3, c4, c5, c6, c7, c8, c9, c10, c11, c12, c13, c14, c15, c16, c17, c18⟩ := HT.out.box.all
      have hs1 := HN.out.small.name
      have hs2 := HN.out.small.arg
      have hs3 := HN.out.small.exn
      have e1 : (a.kind == 1) = false := by simp [HKK.out]
      have e2 : (a.kind == 2) = false := by simp [HKK.out]
      have e3 : (a.kind == 3) = false := by simp [HKK.out]
      have e4 : (a.kind == 4) = false := by simp [HKK.out]
      have e5 : (a.kind == 5) = false := by simp [HKK.out]
      have e6 : (a.kind == 6) = false := by simp [HKK.out]
      have e7 : (a.kind == 7) = false := by simp [HKK.out]
      have e8 : (a.kind == 8) = false := by simp [HKK.out]
      have e9 : (a.kind == 9) = false := by simp [HKK.out]
      have e10 : (a.kind == 10) = false := by simp [HKK.out]
      have e11 : (a.kind == 11) = true := by simp [HKK.out]
      obtain ⟨x, rfl⟩ := List.length_eq_one_iff.1 (show l.length = 1 by have h := HN.out.ok.kids; rw [HKK.out] at h; have e : kidsI 11 = 1 := rfl; simp at h; omega)
      obtain ⟨b, o, rfl, d0⟩ := HT.out.at (j := 0) rfl
      have z0 := HN.out.kidz x (by simp)
      simp only [Nat.add_zero] at d0
      have hkn1 : a.kn = 1 := by rw [← hln]; rfl
      have HJ := Lib.hid (text_11 a HKK.out x)
      have CT : Hid (∀ g, Calls Tryz.prog 31 #[aggR a.ty.head] (gw w9 g) fun e w' => e = .returned (.string (textT a.ty.er)) ∧ Below (gw w9 g).heap.size (gw w9 g) w') := fun g => (HN.out.ty (by rw [HKK.out]; rfl)).1 _ (HT.out.step (gw_below w9 g)).below
      have hty := (HN.out.ty (by rw [HKK.out]; rfl)).2
      have n0 : ¬ 9223372036854775807 < 5 + a.arg.size := by omega
      have n1 : ¬ 9223372036854775807 < 5 + a.arg.size + 3 := by omega
      have n2 : ¬ 9223372036854775807 < 5 + a.arg.size + 3 + (textT a.ty.er).size := by omega
      have n3 : ¬ 9223372036854775807 < 5 + a.arg.size + 3 + (textT a.ty.er).size + (3 + (textA (effL a.eff)).size) := by omega
      have n4 : ¬ 9223372036854775807 < 5 + a.arg.size + 3 + (textT a.ty.er).size + (3 + (textA (effL a.eff)).size) + 4 := by omega
      have n5 : ¬ 9223372036854775807 < 5 + a.arg.size + 3 + (textT a.ty.er).size + (3 + (textA (effL a.eff)).size) + 4 + (textOf x).size := by omega
      have n6 : ¬ 9223372036854775807 < 5 + a.arg.size + 3 + (textT a.ty.er).size + (3 + (textA (effL a.eff)).size) + 4 + (textOf x).size + (3 + (decB a.rho).size) := by omega
      have n7 : ¬ 9223372036854775807 < 5 + a.arg.size + 3 + (textT a.ty.er).size + (3 + (textA (effL a.eff)).size) + 4 + (textOf x).size + (3 + (decB a.rho).size) + 2 := by omega
      have c0 := fun g => gw_cell c0 g
      have c1 := fun g => gw_cell c1 g
      have c2 := fun g => gw_cell c2 g
      have c3 := fun g => gw_cell c3 g
      have c4 := fun g => gw_cell c4 g
      have c5 := fun g => gw_cell c5 g
      have c6 := fun g => gw_cell c6 g
      have c7 := fun g => gw_cell c7 g
      have c8 := fun g => gw_cell c8 g
      have c9 := fun g => gw_cell c9 g
      have c10 := fun g => gw_cell c10 g
      have c11 := fun g => gw_cell c11 g
      have c12 := fun g => gw_cell c12 g
      have c13 := fun g => gw_cell c13 g
      have c14 := fun g => gw_cell c14 g
      have c15 := fun g => gw_cell c15 g
      have c16 := fun g => gw_cell c16 g
      have c17 := fun g => gw_cell c17 g
      have c18 := fun g => gw_cell c18 g
      have d0 := fun g => gw_cell d0 g
      go_upto_region 32 with fail
      refine wp_region_gw (by kernel_rfl) (by kernel_rfl) ?_
      repeat ((with_reducible refine wpQuiet_step (fun K hK => ?_)); go_simp; refine hK _ ?_; clear hK K)
      refine wpQuiet_step (fun K hK => ?_); go_simp; refine ⟨(.string (textT a.ty.er)), fun _ => calls_gw (CT.out _), hK _ ?_⟩; clear hK K
      repeat ((with_reducible refine wpQuiet_step (fun K hK => ?_)); go_simp; refine hK _ ?_; clear hK K)
      refine wpQuiet_nil ?_
      rintro w10 ⟨g, rfl⟩
      have HT := Lib.hid (HT.out.step (gw_below w9 g))
      go_wp2_with fail
      go_ret
      exact ⟨ret_str HJ.out.symm, HT.out.below⟩
set_option maxHeartbeats 4000000 in
theorem text14_15 {w : World} {a : AH} {l : List PA} (N : TN w a l) (hk : a.kind = 15) : T14At (.node a l) w := by
  have HN := Lib.hid N
  have HKK := Lib.hid hk
  clear hk
  have HBX := Lib.hid ((Below.refl w.heap.size w).alloc (Nat.le_refl _) (boxA a))
  have HA := Lib.hid (boxA_new w a)
  have hkm := N.node.own.kmax
  have hln := N.node.kids.len
  have HK3 : Hid (a.kn ≤ 3) := by
    have h := N.ok.kids
    have := kidsI_le (if a.kind = 17 then 4 else if a.kind = 18 then 1 else a.kind)
    show _ ≤ _
    omega
  have HS0 : Hid ((w.alloc (boxA a)).heap.size = w.heap.size + 1) := by show _ = _; simp
  clear N
  show Calls _ _ #[aggT a] w _
  go_enter Tryz.func17, Tryz.ntmps17
  go_upto_region 1 with fail
  generalize w.alloc (boxA a) = W0 at *
  go_upto_region 2 with fail
  have HO0 := Lib.hid (own_made encS_len W0 W0.heap.size 9 [] 0 #[] (by simp) rfl (by unfold maxLen; omega) (Nat.le_refl _))
  have HBA := Lib.hid (HA.out.below ((Below.refl W0.heap.size W0).alloc (Nat.le_refl _) (.cells #[] 9)))
  have HBB := Lib.hid (HBX.out.alloc HBX.out.size (.cells #[] 9))
  have hss : W0.heap.size ≤ (W0.alloc (.cells #[] 9)).heap.size := by simp
  generalize W0.alloc (.cells #[] 9) = W1 at *
  have HSS := Lib.hid hss
  clear hss
  have q18 : W1.cell? ⟨w.heap.size, 18, none⟩ = some (.slice a.kp a.kn a.kc) := HBA.out.c 18 _ rfl
  go_wp2_with fail
  clear q18
  go_loopw [3, 4, 12] (fun u _ i wr => ∃ (k : Nat), k ≤ a.kn ∧ i = .int .i64 k ∧ OwnE encS 1 wr W0.heap.size 9 u k ((l.take k).map textOf) ∧ BoxA wr w.heap.size a ∧ Below w.heap.size w wr ∧ W0.heap.size ≤ wr.heap.size) (fun _ _ i _ => a.kn - (intOf i).toNat)
  case atStart => exact ⟨0, by omega, rfl, HO0.out, HBA.out, HBB.out, HSS.out⟩
  case round =>
    obtain ⟨k, hk, rfl, hown, hbox, hb, hle⟩ := hrel
    have HOWN := Lib.hid hown
    have HBO := Lib.hid hbox
    have HB := Lib.hid hb
    have HLE := Lib.hid hle
    clear hown hbox hb hle
    have q18 : wr.cell? ⟨w.heap.size, 18, none⟩ = some (.slice a.kp a.kn a.kc) := HBO.out.c 18 _ rfl
    by_cases hlt : k < a.kn
    · obtain ⟨x, hx⟩ := (HN.out.node.rowT).at (j := k) hlt
      have HE := Lib.hid hx
      obtain ⟨b, o, hbo, hbl, hcs⟩ := (HN.out.node.rowT.below HB.out).kid hx
      have HCS := Lib.hid hcs
      have HKX := Lib.hid (HN.out.kids x (List.mem_of_getElem? hx) wr HB.out)
      rw [hbo] at q18
      clear hx hbl hbo hcs
      go_wp2_with (refine wpList_load_mid rfl 31 _ rfl b (o + k * 19) rfl (encAH x.head) _ HCS.out.c Tryz.underlying31 rfl (by kernel_rfl) ?_)
      refine Calls.mono HKX.out ?_
      rintro e w2 ⟨rfl, hb⟩
      have HO1 := Lib.hid (HOWN.out.below hb)
      have HB1 := Lib.hid (HB.out.trans (hb.mono HB.out.size))
      have HBO1 := Lib.hid (HBO.out.below hb)
      have HLE1 := Lib.hid (Nat.le_trans HLE.out hb.size)
      have hk3 := HK3.out
      clear hb q18
      go_wp2_with (at_builtin; refine wpList_append1 rfl _ _ 44 rfl W0.heap.size 9 _ 1 16 Tryz.underlying44 infoS rfl (by decide) encS encS_len encS_one (textOf x) _ _ _ HO1.out rfl (by refine Eq.trans (b := Value.slice (some ⟨w2.heap.size, 0, none⟩) 1 1) rfl ?_; simp) ?c1 ?c2 ?c3 ?_)
      case c1 => omega
      case c2 => omega
      case c3 => exact HLE1.out
      · intro v3 w3 hown3 hg3
        have hfr : ∀ g, Value.ownBlock _ = some g → W0.heap.size ≤ g := fun g hg => (World.ownsRow.lt HO1.out g hg).1
        have HB3 := Lib.hid (HB1.out.grown hg3 HB1.out.size (fun g hg => by have := hfr g hg; have := HBX.out.size; have := HS0.out; omega))
        have HBO3 : Hid (BoxA w3 w.heap.size a) := ⟨by rw [hg3.block w.heap.size (Array.getElem?_eq_some_iff.1 HBO1.out.blk).1 (fun e => by have := hfr _ e.symm; have := HS0.out; omega)]; exact HBO1.out.blk⟩
        have HLE3 : Hid (W0.heap.size ≤ w3.heap.size) := by have := HLE1.out; have := hg3.size; show _ ≤ _; omega
        have HO3 := Lib.hid hown3
        clear hown3 hg3 hfr
        go_wp2_with fail
        go_roundw
        case rel => exact ⟨k + 1, by omega, by go_num, by rw [take_succ_get HE.out, List.map_append, List.map_take]; exact HO3.out, HBO3.out, HB3.out, HLE3.out⟩
        case measure => simp [intOf]; omega
    · have hkn : k = a.kn := by omega
      obtain ⟨p, c, rfl, hrow⟩ := HOWN.out.isRow encS_len (by have := HK3.out; omega)
      have HT : Hid (TS w wr a l p c) := by
        have h := hrow
        rw [take_full (by rw [hln, hkn]; exact Nat.le_refl _)] at h
        refine ⟨HBO.out, HB.out, ?_⟩
        rw [hln, ← hkn]
        exact h
      clear hrow hlt hk q18 HA HBX HBA HBB HS0 HO0 HSS HOWN HBO HB HLE
      obtain ⟨c0, c1, c2, c3, c4, c5, c6, c7, c8, c9, c10, c11, c12, c13, c14, c15, c16, c17, c18⟩ := HT.out.box.all
      have hds := decB_size a.rho HN.out.node.own.rho.1 HN.out.node.own.rho.2
      have hez := HN.out.effz
      go_upto_region 9 with (first
        | (go_at_call 29; refine (ref14_num HN.out.ok.rho HN.out.node.own.rho.2 _).mono ?_; rintro e w8 ⟨rfl, hb⟩; have HT := Lib.hid (HT.out.step hb); clear hb c0 c1 c2 c3 c4 c5 c6 c7 c8 c9 c10 c11 c12 c13 c14 c15 c16 c17 c18; obtain ⟨c0, c1, c2, c3, c4, c5, c6, c7, c8, c9, c10, c11, c12, c13, c14, c15, c16, c17, c18⟩ := HT.out.box.all)
        | (go_at_call 30; refine (HN.out.eff _ HT.out.below).mono ?_; rintro e w8 ⟨rfl, hb⟩; have HT := Lib.hid (HT.out.step hb); clear hb c0 c1 c2 c3 c4 c5 c6 c7 c8 c9 c10 c11 c12 c13 c14 c15 c16 c17 c18; obtain ⟨c0, c1, c2, c3, c4, c5, c6, c7, c8, c9, c10, c11, c12, c13, c14, c15, c16, c17, c18⟩ := HT.out.box.all))
      go_upto_region 10 with fail
      clear c0 c1 c2 c3 c4 c5 c6 c7 c8 c9 c10 c11 c12 c13 c14 c15 c16 c17 c18
      have HT := Lib.hid (HT.out.step ((Below.refl w8.heap.size w8).alloc (Nat.le_refl _) (.cells #[.string ⟨#[43]⟩, .string ⟨#[45]⟩, .string ⟨#[42]⟩, .string ⟨#[60]⟩, .string ⟨#[61]⟩] 9)))
      have hw9 : (w8.alloc (.cells #[.string ⟨#[43]⟩, .string ⟨#[45]⟩, .string ⟨#[42]⟩, .string ⟨#[60]⟩, .string ⟨#[61]⟩] 9)).heap[w8.heap.size]? = some (.cells #[.string ⟨#[43]⟩, .string ⟨#[45]⟩, .string ⟨#[42]⟩, .string ⟨#[60]⟩, .string ⟨#[61]⟩] 9) := heap_alloc_new _ _
      generalize w8.alloc (.cells #[.string ⟨#[43]⟩, .string ⟨#[45]⟩, .string ⟨#[42]⟩, .string ⟨#[60]⟩, .string ⟨#[61]⟩] 9) = w9 at *
      have HW9 := Lib.hid hw9
      clear hw9
      obtain ⟨c0, c1, c2, c3, c4, c5, c6, c7, c8, c9, c10, c11, c12, c13, c14, c15, c16, c17, c18⟩ := HT.out.box.all
      have hs1 := HN.out.small.name
      have hs2 := HN.out.small.arg
      have hs3 := HN.out.small.exn
      have e1 : (a.kind == 1) = false := by simp [HKK.out]
      have e2 : (a.kind == 2) = false := by simp [HKK.out]
      have e3 : (a.kind == 3) = false := by simp [HKK.out]
      have e4 : (a.kind == 4) = false := by simp [HKK.out]
      have e5 : (a.kind == 5) = false := by simp [HKK.out]
      have e6 : (a.kind == 6) = false := by simp [HKK.out]
      have e7 : (a.kind == 7) = false := by simp [HKK.out]
      have e8 : (a.kind == 8) = false := by simp [HKK.out]
      have e9 : (a.kind == 9) = false := by simp [HKK.out]
      have e10 : (a.kind == 10) = false := by simp [HKK.out]
      have e11 : (a.kind == 11) = false := by simp [HKK.out]
      have e12 : (a.kind == 12) = false := by simp [HKK.out]
      have e13 : (a.kind == 13) = false := by simp [HKK.out]
      have e14 : (a.kind == 14) = false := by simp [HKK.out]
      have e15 : (a.kind == 15) = true := by simp [HKK.out]
      obtain ⟨x, rfl⟩ := List.length_eq_one_iff.1 (show l.length = 1 by have h := HN.out.ok.kids; rw [HKK.out] at h; have e : kidsI 15 = 1 := rfl; simp at h; omega)
      obtain ⟨b, o, rfl, d0⟩ := HT.out.at (j := 0) rfl
      have z0 := HN.out.kidz x (by simp)
      simp only [Nat.add_zero] at d0
      have hkn1 : a.kn = 1 := by rw [← hln]; rfl
      have HJ := Lib.hid (text_15 a HKK.out x)
      have CT : Hid (∀ g, Calls Tryz.prog 31 #[aggR a.ty.head] (gw w9 g) fun e w' => e = .returned (.string (textT a.ty.er)) ∧ Below (gw w9 g).heap.size (gw w9 g) w') := fun g => (HN.out.ty (by rw [HKK.out]; rfl)).1 _ (HT.out.step (gw_below w9 g)).below
      have hty := (HN.out.ty (by rw [HKK.out]; rfl)).2
      have n0 : ¬ 9223372036854775807 < 8 + a.exn.size := by omega
      have n1 : ¬ 9223372036854775807 < 8 + a.exn.size + 1 := by omega
      have n2 : ¬ 9223372036854775807 < 8 + a.exn.size + 1 + (textOf x).size := by omega
      have n3 : ¬ 9223372036854775807 < 8 + a.exn.size + 1 + (textOf x).size + 3 := by omega
      have n4 : ¬ 9223372036854775807 < 8 + a.exn.size + 1 + (textOf x).size + 3 + (textT a.ty.er).size := by omega
      have n5 : ¬ 9223372036854775807 < 8 + a.exn.size + 1 + (textOf x).size + 3 + (textT a.ty.er).size + 2 := by omega
      have c0 := fun g => gw_cell c0 g
      have c1 := fun g => gw_cell c1 g
      have c2 := fun g => gw_cell c2 g
      have c3 := fun g => gw_cell c3 g
      have c4 := fun g => gw_cell c4 g
      have c5 := fun g => gw_cell c5 g
      have c6 := fun g => gw_cell c6 g
      have c7 := fun g => gw_cell c7 g
      have c8 := fun g => gw_cell c8 g
      have c9 := fun g => gw_cell c9 g
      have c10 := fun g => gw_cell c10 g
      have c11 := fun g => gw_cell c11 g
      have c12 := fun g => gw_cell c12 g
      have c13 := fun g => gw_cell c13 g
      have c14 := fun g => gw_cell c14 g
      have c15 := fun g => gw_cell c15 g
      have c16 := fun g => gw_cell c16 g
      have c17 := fun g => gw_cell c17 g
      have c18 := fun g => gw_cell c18 g
      have d0 := fun g => gw_cell d0 g
      go_upto_region 40 with fail
      refine wp_region_gw (by kernel_rfl) (by kernel_rfl) ?_
      repeat ((with_reducible refine wpQuiet_step (fun K hK => ?_)); go_simp; refine hK _ ?_; clear hK K)
      refine wpQuiet_step (fun K hK => ?_); go_simp; refine ⟨(.string (textT a.ty.er)), fun _ => calls_gw (CT.out _), hK _ ?_⟩; clear hK K
      repeat ((with_reducible refine wpQuiet_step (fun K hK => ?_)); go_simp; refine hK _ ?_; clear hK K)
      refine wpQuiet_nil ?_
      rintro w10 ⟨g, rfl⟩
      have HT := Lib.hid (HT.out.step (gw_below w9 g))
      go_wp2_with fail
      go_ret
      exact ⟨ret_str HJ.out.symm, HT.out.below⟩
set_option maxHeartbeats 4000000 in
theorem text14_16 {w : World} {a : AH} {l : List PA} (N : TN w a l) (hk : a.kind = 16) : T14At (.node a l) w := by
  have HN := Lib.hid N
  have HKK := Lib.hid hk
  clear hk
  have HBX := Lib.hid ((Below.refl w.heap.size w).alloc (Nat.le_refl _) (boxA a))
  have HA := Lib.hid (boxA_new w a)
  have hkm := N.node.own.kmax
  have hln := N.node.kids.len
  have HK3 : Hid (a.kn ≤ 3) := by
    have h := N.ok.kids
    have := kidsI_le (if a.kind = 17 then 4 else if a.kind = 18 then 1 else a.kind)
    show _ ≤ _
    omega
  have HS0 : Hid ((w.alloc (boxA a)).heap.size = w.heap.size + 1) := by show _ = _; simp
  clear N
  show Calls _ _ #[aggT a] w _
  go_enter Tryz.func17, Tryz.ntmps17
  go_upto_region 1 with fail
  generalize w.alloc (boxA a) = W0 at *
  go_upto_region 2 with fail
  have HO0 := Lib.hid (own_made encS_len W0 W0.heap.size 9 [] 0 #[] (by simp) rfl (by unfold maxLen; omega) (Nat.le_refl _))
  have HBA := Lib.hid (HA.out.below ((Below.refl W0.heap.size W0).alloc (Nat.le_refl _) (.cells #[] 9)))
  have HBB := Lib.hid (HBX.out.alloc HBX.out.size (.cells #[] 9))
  have hss : W0.heap.size ≤ (W0.alloc (.cells #[] 9)).heap.size := by simp
  generalize W0.alloc (.cells #[] 9) = W1 at *
  have HSS := Lib.hid hss
  clear hss
  have q18 : W1.cell? ⟨w.heap.size, 18, none⟩ = some (.slice a.kp a.kn a.kc) := HBA.out.c 18 _ rfl
  go_wp2_with fail
  clear q18
  go_loopw [3, 4, 12] (fun u _ i wr => ∃ (k : Nat), k ≤ a.kn ∧ i = .int .i64 k ∧ OwnE encS 1 wr W0.heap.size 9 u k ((l.take k).map textOf) ∧ BoxA wr w.heap.size a ∧ Below w.heap.size w wr ∧ W0.heap.size ≤ wr.heap.size) (fun _ _ i _ => a.kn - (intOf i).toNat)
  case atStart => exact ⟨0, by omega, rfl, HO0.out, HBA.out, HBB.out, HSS.out⟩
  case round =>
    obtain ⟨k, hk, rfl, hown, hbox, hb, hle⟩ := hrel
    have HOWN := Lib.hid hown
    have HBO := Lib.hid hbox
    have HB := Lib.hid hb
    have HLE := Lib.hid hle
    clear hown hbox hb hle
    have q18 : wr.cell? ⟨w.heap.size, 18, none⟩ = some (.slice a.kp a.kn a.kc) := HBO.out.c 18 _ rfl
    by_cases hlt : k < a.kn
    · obtain ⟨x, hx⟩ := (HN.out.node.rowT).at (j := k) hlt
      have HE := Lib.hid hx
      obtain ⟨b, o, hbo, hbl, hcs⟩ := (HN.out.node.rowT.below HB.out).kid hx
      have HCS := Lib.hid hcs
      have HKX := Lib.hid (HN.out.kids x (List.mem_of_getElem? hx) wr HB.out)
      rw [hbo] at q18
      clear hx hbl hbo hcs
      go_wp2_with (refine wpList_load_mid rfl 31 _ rfl b (o + k * 19) rfl (encAH x.head) _ HCS.out.c Tryz.underlying31 rfl (by kernel_rfl) ?_)
      refine Calls.mono HKX.out ?_
      rintro e w2 ⟨rfl, hb⟩
      have HO1 := Lib.hid (HOWN.out.below hb)
      have HB1 := Lib.hid (HB.out.trans (hb.mono HB.out.size))
      have HBO1 := Lib.hid (HBO.out.below hb)
      have HLE1 := Lib.hid (Nat.le_trans HLE.out hb.size)
      have hk3 := HK3.out
      clear hb q18
      go_wp2_with (at_builtin; refine wpList_append1 rfl _ _ 44 rfl W0.heap.size 9 _ 1 16 Tryz.underlying44 infoS rfl (by decide) encS encS_len encS_one (textOf x) _ _ _ HO1.out rfl (by refine Eq.trans (b := Value.slice (some ⟨w2.heap.size, 0, none⟩) 1 1) rfl ?_; simp) ?c1 ?c2 ?c3 ?_)
      case c1 => omega
      case c2 => omega
      case c3 => exact HLE1.out
      · intro v3 w3 hown3 hg3
        have hfr : ∀ g, Value.ownBlock _ = some g → W0.heap.size ≤ g := fun g hg => (World.ownsRow.lt HO1.out g hg).1
        have HB3 := Lib.hid (HB1.out.grown hg3 HB1.out.size (fun g hg => by have := hfr g hg; have := HBX.out.size; have := HS0.out; omega))
        have HBO3 : Hid (BoxA w3 w.heap.size a) := ⟨by rw [hg3.block w.heap.size (Array.getElem?_eq_some_iff.1 HBO1.out.blk).1 (fun e => by have := hfr _ e.symm; have := HS0.out; omega)]; exact HBO1.out.blk⟩
        have HLE3 : Hid (W0.heap.size ≤ w3.heap.size) := by have := HLE1.out; have := hg3.size; show _ ≤ _; omega
        have HO3 := Lib.hid hown3
        clear hown3 hg3 hfr
        go_wp2_with fail
        go_roundw
        case rel => exact ⟨k + 1, by omega, by go_num, by rw [take_succ_get HE.out, List.map_append, List.map_take]; exact HO3.out, HBO3.out, HB3.out, HLE3.out⟩
        case measure => simp [intOf]; omega
    · have hkn : k = a.kn := by omega
      obtain ⟨p, c, rfl, hrow⟩ := HOWN.out.isRow encS_len (by have := HK3.out; omega)
      have HT : Hid (TS w wr a l p c) := by
        have h := hrow
        rw [take_full (by rw [hln, hkn]; exact Nat.le_refl _)] at h
        refine ⟨HBO.out, HB.out, ?_⟩
        rw [hln, ← hkn]
        exact h
      clear hrow hlt hk q18 HA HBX HBA HBB HS0 HO0 HSS HOWN HBO HB HLE
      obtain ⟨c0, c1, c2, c3, c4, c5, c6, c7, c8, c9, c10, c11, c12, c13, c14, c15, c16, c17, c18⟩ := HT.out.box.all
      have hds := decB_size a.rho HN.out.node.own.rho.1 HN.out.node.own.rho.2
      have hez := HN.out.effz
      go_upto_region 9 with (first
        | (go_at_call 29; refine (ref14_num HN.out.ok.rho HN.out.node.own.rho.2 _).mono ?_; rintro e w8 ⟨rfl, hb⟩; have HT := Lib.hid (HT.out.step hb); clear hb c0 c1 c2 c3 c4 c5 c6 c7 c8 c9 c10 c11 c12 c13 c14 c15 c16 c17 c18; obtain ⟨c0, c1, c2, c3, c4, c5, c6, c7, c8, c9, c10, c11, c12, c13, c14, c15, c16, c17, c18⟩ := HT.out.box.all)
        | (go_at_call 30; refine (HN.out.eff _ HT.out.below).mono ?_; rintro e w8 ⟨rfl, hb⟩; have HT := Lib.hid (HT.out.step hb); clear hb c0 c1 c2 c3 c4 c5 c6 c7 c8 c9 c10 c11 c12 c13 c14 c15 c16 c17 c18; obtain ⟨c0, c1, c2, c3, c4, c5, c6, c7, c8, c9, c10, c11, c12, c13, c14, c15, c16, c17, c18⟩ := HT.out.box.all))
      go_upto_region 10 with fail
      clear c0 c1 c2 c3 c4 c5 c6 c7 c8 c9 c10 c11 c12 c13 c14 c15 c16 c17 c18
      have HT := Lib.hid (HT.out.step ((Below.refl w8.heap.size w8).alloc (Nat.le_refl _) (.cells #[.string ⟨#[43]⟩, .string ⟨#[45]⟩, .string ⟨#[42]⟩, .string ⟨#[60]⟩, .string ⟨#[61]⟩] 9)))
      have hw9 : (w8.alloc (.cells #[.string ⟨#[43]⟩, .string ⟨#[45]⟩, .string ⟨#[42]⟩, .string ⟨#[60]⟩, .string ⟨#[61]⟩] 9)).heap[w8.heap.size]? = some (.cells #[.string ⟨#[43]⟩, .string ⟨#[45]⟩, .string ⟨#[42]⟩, .string ⟨#[60]⟩, .string ⟨#[61]⟩] 9) := heap_alloc_new _ _
      generalize w8.alloc (.cells #[.string ⟨#[43]⟩, .string ⟨#[45]⟩, .string ⟨#[42]⟩, .string ⟨#[60]⟩, .string ⟨#[61]⟩] 9) = w9 at *
      have HW9 := Lib.hid hw9
      clear hw9
      obtain ⟨c0, c1, c2, c3, c4, c5, c6, c7, c8, c9, c10, c11, c12, c13, c14, c15, c16, c17, c18⟩ := HT.out.box.all
      have hs1 := HN.out.small.name
      have hs2 := HN.out.small.arg
      have hs3 := HN.out.small.exn
      have e1 : (a.kind == 1) = false := by simp [HKK.out]
      have e2 : (a.kind == 2) = false := by simp [HKK.out]
      have e3 : (a.kind == 3) = false := by simp [HKK.out]
      have e4 : (a.kind == 4) = false := by simp [HKK.out]
      have e5 : (a.kind == 5) = false := by simp [HKK.out]
      have e6 : (a.kind == 6) = false := by simp [HKK.out]
      have e7 : (a.kind == 7) = false := by simp [HKK.out]
      have e8 : (a.kind == 8) = false := by simp [HKK.out]
      have e9 : (a.kind == 9) = false := by simp [HKK.out]
      have e10 : (a.kind == 10) = false := by simp [HKK.out]
      have e11 : (a.kind == 11) = false := by simp [HKK.out]
      have e12 : (a.kind == 12) = false := by simp [HKK.out]
      have e13 : (a.kind == 13) = false := by simp [HKK.out]
      have e14 : (a.kind == 14) = false := by simp [HKK.out]
      have e15 : (a.kind == 15) = false := by simp [HKK.out]
      have e16 : (a.kind == 16) = true := by simp [HKK.out]
      obtain ⟨x, y, rfl⟩ : ∃ x y, l = [x, y] := by
        have hl2 : l.length = 2 := by have h := HN.out.ok.kids; rw [HKK.out] at h; have e : kidsI 16 = 2 := rfl; simp at h; omega
        match l, hl2 with | [y, z], _ => exact ⟨y, z, rfl⟩
      obtain ⟨b, o, rfl, d0⟩ := HT.out.at (j := 0) rfl
      obtain ⟨b', o', hbo, d1⟩ := HT.out.at (j := 1) rfl
      cases hbo
      have z0 := HN.out.kidz x (by simp)
      have z1 := HN.out.kidz y (by simp)
      simp only [Nat.add_zero] at d0
      have hkn2 : a.kn = 2 := by rw [← hln]; rfl
      have HJ := Lib.hid (text_16 a HKK.out x y)
      have n0 : ¬ 9223372036854775807 < 6 + (textOf x).size := by omega
      have n1 : ¬ 9223372036854775807 < 6 + (textOf x).size + 6 := by omega
      have n2 : ¬ 9223372036854775807 < 6 + (textOf x).size + 6 + a.exn.size := by omega
      have n3 : ¬ 9223372036854775807 < 6 + (textOf x).size + 6 + a.exn.size + 1 := by omega
      have n4 : ¬ 9223372036854775807 < 6 + (textOf x).size + 6 + a.exn.size + 1 + a.arg.size := by omega
      have n5 : ¬ 9223372036854775807 < 6 + (textOf x).size + 6 + a.exn.size + 1 + a.arg.size + 4 := by omega
      have n6 : ¬ 9223372036854775807 < 6 + (textOf x).size + 6 + a.exn.size + 1 + a.arg.size + 4 + (textOf y).size := by omega
      have n7 : ¬ 9223372036854775807 < 6 + (textOf x).size + 6 + a.exn.size + 1 + a.arg.size + 4 + (textOf y).size + 2 := by omega
      have c0 := fun g => gw_cell c0 g
      have c1 := fun g => gw_cell c1 g
      have c2 := fun g => gw_cell c2 g
      have c3 := fun g => gw_cell c3 g
      have c4 := fun g => gw_cell c4 g
      have c5 := fun g => gw_cell c5 g
      have c6 := fun g => gw_cell c6 g
      have c7 := fun g => gw_cell c7 g
      have c8 := fun g => gw_cell c8 g
      have c9 := fun g => gw_cell c9 g
      have c10 := fun g => gw_cell c10 g
      have c11 := fun g => gw_cell c11 g
      have c12 := fun g => gw_cell c12 g
      have c13 := fun g => gw_cell c13 g
      have c14 := fun g => gw_cell c14 g
      have c15 := fun g => gw_cell c15 g
      have c16 := fun g => gw_cell c16 g
      have c17 := fun g => gw_cell c17 g
      have c18 := fun g => gw_cell c18 g
      have d0 := fun g => gw_cell d0 g
      have d1 := fun g => gw_cell d1 g
      go_upto_region 42 with fail
      refine wp_region_gw (by kernel_rfl) (by kernel_rfl) ?_
      repeat ((with_reducible refine wpQuiet_step (fun K hK => ?_)); go_simp; refine hK _ ?_; clear hK K)
      refine wpQuiet_nil ?_
      rintro w10 ⟨g, rfl⟩
      have HT := Lib.hid (HT.out.step (gw_below w9 g))
      go_wp2_with fail
      go_ret
      exact ⟨ret_str HJ.out.symm, HT.out.below⟩
end Go.Proofs.YtdlbjngpohkglaaGreatDoor
end
