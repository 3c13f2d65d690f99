/- Part 51 of the texts: Rx5, Qc, Rx6, Rx7, Rxj, Ry, Iw. -/
import Derived.Test.YtdlbjngpohkglaaGreatDoorG48
import Derived.Test.YtdlbjngpohkglaaGreatDoorG31
import Derived.Test.YtdlbjngpohkglaaGreatDoorShelf
import Derived.WalkKit
import Derived.Laws.Concat
import Derived.Test.YtdlbjngpohkglaaGreatDoorG49
import Derived.Test.YtdlbjngpohkglaaGreatDoorG50
import Derived.Test.YtdlbjngpohkglaaGreatDoorG43
import Derived.Test.YtdlbjngpohkglaaGreatDoorG42
import Derived.Test.YtdlbjngpohkglaaGreatDoorG37
import Derived.Test.YtdlbjngpohkglaaGreatDoorG45
section
set_option linter.unusedVariables false
set_option maxRecDepth 100000
set_option linter.unusedSimpArgs false
namespace Go.Proofs.YtdlbjngpohkglaaGreatDoor
open Go.RowKit

set_option maxHeartbeats 4000000 in
theorem text14_17 {w : World} {a : AH} {l : List PA} (N : TN w a l) (hk : a.kind = 17) : T14At (.node a l) w := by
  have HN := Lib.hid N
  have HKK := Lib.hid hk
  clear hk
  have HBX := Lib.hid ((Below.refl w.heap.size w).alloc (Nat.le_refl _) (boxA a))
  have HA := Lib.hid (boxA_new w a)
  have hkm := N.node.own.kmax
  have hln := N.node.kids.len
  have HK3 : Hid (a.kn ≤ 3) := by
    have h := N.ok.kids
    have := kidsI_le (if a.kind = 17 then 4 else if a.kind = 18 then 1 else a.kind)
    show _ ≤ _
    omega
  have HS0 : Hid ((w.alloc (boxA a)).heap.size = w.heap.size + 1) := by show _ = _; simp
  clear N
  show Calls _ _ #[aggT a] w _
  go_enter Tryz.func17, Tryz.ntmps17
  go_upto_region 1 with fail
  generalize w.alloc (boxA a) = W0 at *
  go_upto_region 2 with fail
  have HO0 := Lib.hid (own_made encS_len W0 W0.heap.size 9 [] 0 #[] (by simp) rfl (by unfold maxLen; omega) (Nat.le_refl _))
  have HBA := Lib.hid (HA.out.below ((Below.refl W0.heap.size W0).alloc (Nat.le_refl _) (.cells #[] 9)))
  have HBB := Lib.hid (HBX.out.alloc HBX.out.size (.cells #[] 9))
  have hss : W0.heap.size ≤ (W0.alloc (.cells #[] 9)).heap.size := by simp
  generalize W0.alloc (.cells #[] 9) = W1 at *
  have HSS := Lib.hid hss
  clear hss
  have q18 : W1.cell? ⟨w.heap.size, 18, none⟩ = some (.slice a.kp a.kn a.kc) := HBA.out.c 18 _ rfl
  go_wp2_with fail
  clear q18
  go_loopw [3, 4, 12] (fun u _ i wr => ∃ (k : Nat), k ≤ a.kn ∧ i = .int .i64 k ∧ OwnE encS 1 wr W0.heap.size 9 u k ((l.take k).map textOf) ∧ BoxA wr w.heap.size a ∧ Below w.heap.size w wr ∧ W0.heap.size ≤ wr.heap.size) (fun _ _ i _ => a.kn - (intOf i).toNat)
  case atStart => exact ⟨0, by omega, rfl, HO0.out, HBA.out, HBB.out, HSS.out⟩
  case round =>
    obtain ⟨k, hk, rfl, hown, hbox, hb, hle⟩ := hrel
    have HOWN := Lib.hid hown
    have HBO := Lib.hid hbox
    have HB := Lib.hid hb
    have HLE := Lib.hid hle
    clear hown hbox hb hle
    have q18 : wr.cell? ⟨w.heap.size, 18, none⟩ = some (.slice a.kp a.kn a.kc) := HBO.out.c 18 _ rfl
    by_cases hlt : k < a.kn
    · obtain ⟨x, hx⟩ := (HN.out.node.rowT).at (j := k) hlt
      have HE := Lib.hid hx
      obtain ⟨b, o, hbo, hbl, hcs⟩ := (HN.out.node.rowT.below HB.out).kid hx
      have HCS := Lib.hid hcs
      have HKX := Lib.hid (HN.out.kids x (List.mem_of_getElem? hx) wr HB.out)
      rw [hbo] at q18
      clear hx hbl hbo hcs
      go_wp2_with (refine wpList_load_mid rfl 31 _ rfl b (o + k * 19) rfl (encAH x.head) _ HCS.out.c Tryz.underlying31 rfl (by kernel_rfl) ?_)
      refine Calls.mono HKX.out ?_
      rintro e w2 ⟨rfl, hb⟩
      have HO1 := Lib.hid (HOWN.out.below hb)
      have HB1 := Lib.hid (HB.out.trans (hb.mono HB.out.size))
      have HBO1 := Lib.hid (HBO.out.below hb)
      have HLE1 := Lib.hid (Nat.le_trans HLE.out hb.size)
      have hk3 := HK3.out
      clear hb q18
      go_wp2_with (at_builtin; refine wpList_append1 rfl _ _ 44 rfl W0.heap.size 9 _ 1 16 Tryz.underlying44 infoS rfl (by decide) encS encS_len encS_one (textOf x) _ _ _ HO1.out rfl (by refine Eq.trans (b := Value.slice (some ⟨w2.heap.size, 0, none⟩) 1 1) rfl ?_; simp) ?c1 ?c2 ?c3 ?_)
      case c1 => omega
      case c2 => omega
      case c3 => exact HLE1.out
      · intro v3 w3 hown3 hg3
        have hfr : ∀ g, Value.ownBlock _ = some g → W0.heap.size ≤ g := fun g hg => (World.ownsRow.lt HO1.out g hg).1
        have HB3 := Lib.hid (HB1.out.grown hg3 HB1.out.size (fun g hg => by have := hfr g hg; have := HBX.out.size; have := HS0.out; omega))
        have HBO3 : Hid (BoxA w3 w.heap.size a) := ⟨by rw [hg3.block w.heap.size (Array.getElem?_eq_some_iff.1 HBO1.out.blk).1 (fun e => by have := hfr _ e.symm; have := HS0.out; omega)]; exact HBO1.out.blk⟩
        have HLE3 : Hid (W0.heap.size ≤ w3.heap.size) := by have := HLE1.out; have := hg3.size; show _ ≤ _; omega
        have HO3 := Lib.hid hown3
        clear hown3 hg3 hfr
        go_wp2_with fail
        go_roundw
        case rel => exact ⟨k + 1, by omega, by go_num, by rw [take_succ_get HE.out, List.map_append, List.map_take]; exact HO3.out, HBO3.out, HB3.out, HLE3.out⟩
        case measure => simp [intOf]; omega
    · have hkn : k = a.kn := by omega
      obtain ⟨p, c, rfl, hrow⟩ := HOWN.out.isRow encS_len (by have := HK3.out; omega)
      have HT : Hid (TS w wr a l p c) := by
        have h := hrow
        rw [take_full (by rw [hln, hkn]; exact Nat.le_refl _)] at h
        refine ⟨HBO.out, HB.out, ?_⟩
        rw [hln, ← hkn]
        exact h
      clear hrow hlt hk q18 HA HBX HBA HBB HS0 HO0 HSS HOWN HBO HB HLE
      obtain ⟨c0, c1, c2, c3, c4, c5, c6, c7, c8, c9, c10, c11, c12, c13, c14, c15, c16, c17, c18⟩ := HT.out.box.all
      have hds := decB_size a.rho HN.out.node.own.rho.1 HN.out.node.own.rho.2
      have hez := HN.out.effz
      go_upto_region 9 with (first
        | (go_at_call 29; refine (ref14_num HN.out.ok.rho HN.out.node.own.rho.2 _).mono ?_; rintro e w8 ⟨rfl, hb⟩; have HT := Lib.hid (HT.out.step hb); clear hb c0 c1 c2 c3 c4 c5 c6 c7 c8 c9 c10 c11 c12 c13 c14 c15 c16 c17 c18; obtain ⟨c0, c1, c2, c3, c4, c5, c6, c7, c8, c9, c10, c11, c12, c13, c14, c15, c16, c17, c18⟩ := HT.out.box.all)
        | (go_at_call 30; refine (HN.out.eff _ HT.out.below).mono ?_; rintro e w8 ⟨rfl, hb⟩; have HT := Lib.hid (HT.out.step hb); clear hb c0 c1 c2 c3 c4 c5 c6 c7 c8 c9 c10 c11 c12 c13 c14 c15 c16 c17 c18; obtain ⟨c0, c1, c2, c3, c4, c5, c6, c7, c8, c9, c10, c11, c12, c13, c14, c15, c16, c17, c18⟩ := HT.out.box.all))
      go_upto_region 10 with fail
      clear c0 c1 c2 c3 c4 c5 c6 c7 c8 c9 c10 c11 c12 c13 c14 c15 c16 c17 c18
      have HT := Lib.hid (HT.out.step ((Below.refl w8.heap.size w8).alloc (Nat.le_refl _) (.cells #[.string ⟨#[43]⟩, .string ⟨#[45]⟩, .string ⟨#[42]⟩, .string ⟨#[60]⟩, .string ⟨#[61]⟩] 9)))
      have hw9 : (w8.alloc (.cells #[.string ⟨#[43]⟩, .string ⟨#[45]⟩, .string ⟨#[42]⟩, .string ⟨#[60]⟩, .string ⟨#[61]⟩] 9)).heap[w8.heap.size]? = some (.cells #[.string ⟨#[43]⟩, .string ⟨#[45]⟩, .string ⟨#[42]⟩, .string ⟨#[60]⟩, .string ⟨#[61]⟩] 9) := heap_alloc_new _ _
      generalize w8.alloc (.cells #[.string ⟨#[43]⟩, .string ⟨#[45]⟩, .string ⟨#[42]⟩, .string ⟨#[60]⟩, .string ⟨#[61]⟩] 9) = w9 at *
      have HW9 := Lib.hid hw9
      clear hw9
      obtain ⟨c0, c1, c2, c3, c4, c5, c6, c7, c8, c9, c10, c11, c12, c13, c14, c15, c16, c17, c18⟩ := HT.out.box.all
      have hs1 := HN.out.small.name
      have hs2 := HN.out.small.arg
      have hs3 := HN.out.small.exn
      have e1 : (a.kind == 1) = false := by simp [HKK.out]
      have e2 : (a.kind == 2) = false := by simp [HKK.out]
      have e3 : (a.kind == 3) = false := by simp [HKK.out]
      have e4 : (a.kind == 4) = false := by simp [HKK.out]
      have e5 : (a.kind == 5) = false := by simp [HKK.out]
      have e6 : (a.kind == 6) = false := by simp [HKK.out]
      have e7 : (a.kind == 7) = false := by simp [HKK.out]
      have e8 : (a.kind == 8) = false := by simp [HKK.out]
      have e9 : (a.kind == 9) = false := by simp [HKK.out]
      have e10 : (a.kind == 10) = false := by simp [HKK.out]
      have e11 : (a.kind == 11) = false := by simp [HKK.out]
      have e12 : (a.kind == 12) = false := by simp [HKK.out]
      have e13 : (a.kind == 13) = false := by simp [HKK.out]
      have e14 : (a.kind == 14) = false := by simp [HKK.out]
      have e15 : (a.kind == 15) = false := by simp [HKK.out]
      have e16 : (a.kind == 16) = false := by simp [HKK.out]
      have e17 : (a.kind == 17) = true := by simp [HKK.out]
      obtain ⟨x, rfl⟩ := List.length_eq_one_iff.1 (show l.length = 1 by have h := HN.out.ok.kids; rw [HKK.out] at h; have e : kidsI 4 = 1 := rfl; simp at h; omega)
      obtain ⟨b, o, rfl, d0⟩ := HT.out.at (j := 0) rfl
      have z0 := HN.out.kidz x (by simp)
      simp only [Nat.add_zero] at d0
      have hkn1 : a.kn = 1 := by rw [← hln]; rfl
      have HJ := Lib.hid (text_17 a HKK.out x)
      have CN : Hid (∀ g, Calls Tryz.prog 29 #[.int .i64 a.rho] (gw w9 g) fun e w' => e = .returned (.string (decB a.rho)) ∧ Below (gw w9 g).heap.size (gw w9 g) w') := fun g => ref14_num HN.out.ok.rho HN.out.node.own.rho.2 _
      have n0 : ¬ 9223372036854775807 < 9 + (decB a.rho).size := by omega
      have n1 : ¬ 9223372036854775807 < 9 + (decB a.rho).size + 4 := by omega
      have n2 : ¬ 9223372036854775807 < 9 + (decB a.rho).size + 4 + (textOf x).size := by omega
      have n3 : ¬ 9223372036854775807 < 9 + (decB a.rho).size + 4 + (textOf x).size + 2 := by omega
      have c0 := fun g => gw_cell c0 g
      have c1 := fun g => gw_cell c1 g
      have c2 := fun g => gw_cell c2 g
      have c3 := fun g => gw_cell c3 g
      have c4 := fun g => gw_cell c4 g
      have c5 := fun g => gw_cell c5 g
      have c6 := fun g => gw_cell c6 g
      have c7 := fun g => gw_cell c7 g
      have c8 := fun g => gw_cell c8 g
      have c9 := fun g => gw_cell c9 g
      have c10 := fun g => gw_cell c10 g
      have c11 := fun g => gw_cell c11 g
      have c12 := fun g => gw_cell c12 g
      have c13 := fun g => gw_cell c13 g
      have c14 := fun g => gw_cell c14 g
      have c15 := fun g => gw_cell c15 g
      have c16 := fun g => gw_cell c16 g
      have c17 := fun g => gw_cell c17 g
      have c18 := fun g => gw_cell c18 g
      have d0 := fun g => gw_cell d0 g
      go_upto_region 44 with fail
      refine wp_region_gw (by kernel_rfl) (by kernel_rfl) ?_
      repeat ((with_reducible refine wpQuiet_step (fun K hK => ?_)); go_simp; refine hK _ ?_; clear hK K)
      refine wpQuiet_step (fun K hK => ?_); go_simp; refine ⟨(.string (decB a.rho)), fun _ => calls_gw (CN.out _), hK _ ?_⟩; clear hK K
      repeat ((with_reducible refine wpQuiet_step (fun K hK => ?_)); go_simp; refine hK _ ?_; clear hK K)
      refine wpQuiet_nil ?_
      rintro w10 ⟨g, rfl⟩
      have HT := Lib.hid (HT.out.step (gw_below w9 g))
      go_wp2_with fail
      go_ret
      exact ⟨ret_str HJ.out.symm, HT.out.below⟩
end Go.Proofs.YtdlbjngpohkglaaGreatDoor
end
section
set_option linter.unusedVariables false
set_option linter.unusedSimpArgs false
namespace Go.Proofs.YtdlbjngpohkglaaGreatDoor

/-- a text of n bytes at most -/
def SzLe (s : ByteArray) (n : Nat) : Prop := s.size ≤ n
theorem SzLe.cat {s t : ByteArray} {n m : Nat} (hs : SzLe s n) (ht : SzLe t m) : SzLe (s ++ t) (n + m) := by
  unfold SzLe at *
  rw [ByteArray.size_append]
  omega
theorem quiet_cat {P : Program} {ops : Array Oper} {C : World → Prop} {Q : Act → Prop} {rest : List Oper} {op : Oper} {a : Act} (hgd : op.guard = none) (t t' : TypeId) (x y : Operand) (ho : op.op = .binOp .add t x y t')
    (s u : ByteArray) (hx : a.eval x = .string s) (hy : a.eval y = .string u) (n : Nat) (hs : SzLe (s ++ u) n) (hn : n ≤ 9223372036854775807)
    (h : wpQuiet P ops C Q rest (a.put op.dst (.string (s ++ u)))) : wpQuiet P ops C Q (op :: rest) a := by
  have hw : Region.wanted op (yielded ops a.tmps) = true := by simp [Region.wanted, hgd]
  have hsz : s.size + u.size ≤ 9223372036854775807 := by
    unfold SzLe at hs
    rw [ByteArray.size_append] at hs
    omega
  have hrun := fun (w : World) => run_string_add_sum (P := P) (w := w) s u hsz
  have hn2 : ¬ 9223372036854775807 < s.size + u.size := by omega
  refine wpQuiet_step (fun K hK => ?_)
  rw [if_pos hw]
  refine ⟨.string (s ++ u), fun w hw' => ?_, hK _ h⟩
  unfold Oper.quietAt execOp
  rw [ho]
  simp only [hx, hy]
  go_simp
end Go.Proofs.YtdlbjngpohkglaaGreatDoor
end
section
set_option linter.unusedVariables false
set_option maxRecDepth 100000
set_option linter.unusedSimpArgs false
namespace Go.Proofs.YtdlbjngpohkglaaGreatDoor
open Go.RowKit

set_option maxHeartbeats 30000000 in
theorem text14_13 {w : World} {a : AH} {l : List PA} (N : TN w a l) (hk : a.kind = 13) : T14At (.node a l) w := by
  have HN := Lib.hid N
  have HKK := Lib.hid hk
  clear hk
  have HBX := Lib.hid ((Below.refl w.heap.size w).alloc (Nat.le_refl _) (boxA a))
  have HA := Lib.hid (boxA_new w a)
  have hkm := N.node.own.kmax
  have hln := N.node.kids.len
  have HK3 : Hid (a.kn ≤ 3) := by
    have h := N.ok.kids
    have := kidsI_le (if a.kind = 17 then 4 else if a.kind = 18 then 1 else a.kind)
    show _ ≤ _
    omega
  have HS0 : Hid ((w.alloc (boxA a)).heap.size = w.heap.size + 1) := by show _ = _; simp
  clear N
  show Calls _ _ #[aggT a] w _
  go_enter Tryz.func17, Tryz.ntmps17
  go_upto_region 1 with fail
  generalize w.alloc (boxA a) = W0 at *
  go_upto_region 2 with fail
  have HO0 := Lib.hid (own_made encS_len W0 W0.heap.size 9 [] 0 #[] (by simp) rfl (by unfold maxLen; omega) (Nat.le_refl _))
  have HBA := Lib.hid (HA.out.below ((Below.refl W0.heap.size W0).alloc (Nat.le_refl _) (.cells #[] 9)))
  have HBB := Lib.hid (HBX.out.alloc HBX.out.size (.cells #[] 9))
  have hss : W0.heap.size ≤ (W0.alloc (.cells #[] 9)).heap.size := by simp
  generalize W0.alloc (.cells #[] 9) = W1 at *
  have HSS := Lib.hid hss
  clear hss
  have q18 : W1.cell? ⟨w.heap.size, 18, none⟩ = some (.slice a.kp a.kn a.kc) := HBA.out.c 18 _ rfl
  go_wp2_with fail
  clear q18
  go_loopw [3, 4, 12] (fun u _ i wr => ∃ (k : Nat), k ≤ a.kn ∧ i = .int .i64 k ∧ OwnE encS 1 wr W0.heap.size 9 u k ((l.take k).map textOf) ∧ BoxA wr w.heap.size a ∧ Below w.heap.size w wr ∧ W0.heap.size ≤ wr.heap.size) (fun _ _ i _ => a.kn - (intOf i).toNat)
  case atStart => exact ⟨0, by omega, rfl, HO0.out, HBA.out, HBB.out, HSS.out⟩
  case round =>
    obtain ⟨k, hk, rfl, hown, hbox, hb, hle⟩ := hrel
    have HOWN := Lib.hid hown
    have HBO := Lib.hid hbox
    have HB := Lib.hid hb
    have HLE := Lib.hid hle
    clear hown hbox hb hle
    have q18 : wr.cell? ⟨w.heap.size, 18, none⟩ = some (.slice a.kp a.kn a.kc) := HBO.out.c 18 _ rfl
    by_cases hlt : k < a.kn
    · obtain ⟨x, hx⟩ := (HN.out.node.rowT).at (j := k) hlt
      have HE := Lib.hid hx
      obtain ⟨b, o, hbo, hbl, hcs⟩ := (HN.out.node.rowT.below HB.out).kid hx
      have HCS := Lib.hid hcs
      have HKX := Lib.hid (HN.out.kids x (List.mem_of_getElem? hx) wr HB.out)
      rw [hbo] at q18
      clear hx hbl hbo hcs
      go_wp2_with (refine wpList_load_mid rfl 31 _ rfl b (o + k * 19) rfl (encAH x.head) _ HCS.out.c Tryz.underlying31 rfl (by kernel_rfl) ?_)
      refine Calls.mono HKX.out ?_
      rintro e w2 ⟨rfl, hb⟩
      have HO1 := Lib.hid (HOWN.out.below hb)
      have HB1 := Lib.hid (HB.out.trans (hb.mono HB.out.size))
      have HBO1 := Lib.hid (HBO.out.below hb)
      have HLE1 := Lib.hid (Nat.le_trans HLE.out hb.size)
      have hk3 := HK3.out
      clear hb q18
      go_wp2_with (at_builtin; refine wpList_append1 rfl _ _ 44 rfl W0.heap.size 9 _ 1 16 Tryz.underlying44 infoS rfl (by decide) encS encS_len encS_one (textOf x) _ _ _ HO1.out rfl (by refine Eq.trans (b := Value.slice (some ⟨w2.heap.size, 0, none⟩) 1 1) rfl ?_; simp) ?c1 ?c2 ?c3 ?_)
      case c1 => omega
      case c2 => omega
      case c3 => exact HLE1.out
      · intro v3 w3 hown3 hg3
        have hfr : ∀ g, Value.ownBlock _ = some g → W0.heap.size ≤ g := fun g hg => (World.ownsRow.lt HO1.out g hg).1
        have HB3 := Lib.hid (HB1.out.grown hg3 HB1.out.size (fun g hg => by have := hfr g hg; have := HBX.out.size; have := HS0.out; omega))
        have HBO3 : Hid (BoxA w3 w.heap.size a) := ⟨by rw [hg3.block w.heap.size (Array.getElem?_eq_some_iff.1 HBO1.out.blk).1 (fun e => by have := hfr _ e.symm; have := HS0.out; omega)]; exact HBO1.out.blk⟩
        have HLE3 : Hid (W0.heap.size ≤ w3.heap.size) := by have := HLE1.out; have := hg3.size; show _ ≤ _; omega
        have HO3 := Lib.hid hown3
        clear hown3 hg3 hfr
        go_wp2_with fail
        go_roundw
        case rel => exact ⟨k + 1, by omega, by go_num, by rw [take_succ_get HE.out, List.map_append, List.map_take]; exact HO3.out, HBO3.out, HB3.out, HLE3.out⟩
        case measure => simp [intOf]; omega
    · have hkn : k = a.kn := by omega
      obtain ⟨p, c, rfl, hrow⟩ := HOWN.out.isRow encS_len (by have := HK3.out; omega)
      have HT : Hid (TS w wr a l p c) := by
        have h := hrow
        rw [take_full (by rw [hln, hkn]; exact Nat.le_refl _)] at h
        refine ⟨HBO.out, HB.out, ?_⟩
        rw [hln, ← hkn]
        exact h
      clear hrow hlt hk q18 HA HBX HBA HBB HS0 HO0 HSS HOWN HBO HB HLE
      obtain ⟨c0, c1, c2, c3, c4, c5, c6, c7, c8, c9, c10, c11, c12, c13, c14, c15, c16, c17, c18⟩ := HT.out.box.all
      have hds := decB_size a.rho HN.out.node.own.rho.1 HN.out.node.own.rho.2
      have hez := HN.out.effz
      go_upto_region 9 with (first
        | (go_at_call 29; refine (ref14_num HN.out.ok.rho HN.out.node.own.rho.2 _).mono ?_; rintro e w8 ⟨rfl, hb⟩; have HT := Lib.hid (HT.out.step hb); clear hb c0 c1 c2 c3 c4 c5 c6 c7 c8 c9 c10 c11 c12 c13 c14 c15 c16 c17 c18; obtain ⟨c0, c1, c2, c3, c4, c5, c6, c7, c8, c9, c10, c11, c12, c13, c14, c15, c16, c17, c18⟩ := HT.out.box.all)
        | (go_at_call 30; refine (HN.out.eff _ HT.out.below).mono ?_; rintro e w8 ⟨rfl, hb⟩; have HT := Lib.hid (HT.out.step hb); clear hb c0 c1 c2 c3 c4 c5 c6 c7 c8 c9 c10 c11 c12 c13 c14 c15 c16 c17 c18; obtain ⟨c0, c1, c2, c3, c4, c5, c6, c7, c8, c9, c10, c11, c12, c13, c14, c15, c16, c17, c18⟩ := HT.out.box.all))
      go_upto_region 10 with fail
      clear c0 c1 c2 c3 c4 c5 c6 c7 c8 c9 c10 c11 c12 c13 c14 c15 c16 c17 c18
      have HT := Lib.hid (HT.out.step ((Below.refl w8.heap.size w8).alloc (Nat.le_refl _) (.cells #[.string ⟨#[43]⟩, .string ⟨#[45]⟩, .string ⟨#[42]⟩, .string ⟨#[60]⟩, .string ⟨#[61]⟩] 9)))
      have hw9 : (w8.alloc (.cells #[.string ⟨#[43]⟩, .string ⟨#[45]⟩, .string ⟨#[42]⟩, .string ⟨#[60]⟩, .string ⟨#[61]⟩] 9)).heap[w8.heap.size]? = some (.cells #[.string ⟨#[43]⟩, .string ⟨#[45]⟩, .string ⟨#[42]⟩, .string ⟨#[60]⟩, .string ⟨#[61]⟩] 9) := heap_alloc_new _ _
      generalize w8.alloc (.cells #[.string ⟨#[43]⟩, .string ⟨#[45]⟩, .string ⟨#[42]⟩, .string ⟨#[60]⟩, .string ⟨#[61]⟩] 9) = w9 at *
      have HW9 := Lib.hid hw9
      clear hw9
      obtain ⟨c0, c1, c2, c3, c4, c5, c6, c7, c8, c9, c10, c11, c12, c13, c14, c15, c16, c17, c18⟩ := HT.out.box.all
      have hs1 := HN.out.small.name
      have hs2 := HN.out.small.arg
      have hs3 := HN.out.small.exn
      have e1 : (a.kind == 1) = false := by simp [HKK.out]
      have e2 : (a.kind == 2) = false := by simp [HKK.out]
      have e3 : (a.kind == 3) = false := by simp [HKK.out]
      have e4 : (a.kind == 4) = false := by simp [HKK.out]
      have e5 : (a.kind == 5) = false := by simp [HKK.out]
      have e6 : (a.kind == 6) = false := by simp [HKK.out]
      have e7 : (a.kind == 7) = false := by simp [HKK.out]
      have e8 : (a.kind == 8) = false := by simp [HKK.out]
      have e9 : (a.kind == 9) = false := by simp [HKK.out]
      have e10 : (a.kind == 10) = false := by simp [HKK.out]
      have e11 : (a.kind == 11) = false := by simp [HKK.out]
      have e12 : (a.kind == 12) = false := by simp [HKK.out]
      have e13 : (a.kind == 13) = true := by simp [HKK.out]
      obtain ⟨x, y, rfl⟩ : ∃ x y, l = [x, y] := by
        have hl2 : l.length = 2 := by have h := HN.out.ok.kids; rw [HKK.out] at h; have e : kidsI 13 = 2 := rfl; simp at h; omega
        match l, hl2 with | [y, z], _ => exact ⟨y, z, rfl⟩
      obtain ⟨b, o, rfl, d0⟩ := HT.out.at (j := 0) rfl
      obtain ⟨b', o', hbo, d1⟩ := HT.out.at (j := 1) rfl
      cases hbo
      have z0 := HN.out.kidz x (by simp)
      have z1 := HN.out.kidz y (by simp)
      simp only [Nat.add_zero] at d0
      have hkn2 : a.kn = 2 := by rw [← hln]; rfl
      have HJ := Lib.hid (text_13 a HKK.out x y)
      have hk0i : (0 : Int) < (a.kn : Int) := by omega
      have hk1i : (1 : Int) < (a.kn : Int) := by omega
      have hk0n : 0 < a.kn := by omega
      have hk1n : 1 < a.kn := by omega
      clear hkn2
      have CT : Hid (∀ g, Calls Tryz.prog 31 #[aggR a.ty.head] (gw w9 g) fun e w' => e = .returned (.string (textT a.ty.er)) ∧ Below (gw w9 g).heap.size (gw w9 g) w') := fun g => (HN.out.ty (by rw [HKK.out]; rfl)).1 _ (HT.out.step (gw_below w9 g)).below
      have hty := (HN.out.ty (by rw [HKK.out]; rfl)).2
      have CR : Hid (∀ g, Calls Tryz.prog 31 #[aggR a.res.head] (gw w9 g) fun e w' => e = .returned (.string (textT a.res.er)) ∧ Below (gw w9 g).heap.size (gw w9 g) w') := fun g => (HN.out.res HKK.out).1 _ (HT.out.step (gw_below w9 g)).below
      have hre := (HN.out.res HKK.out).2
      have CH : Hid (∀ g, Calls Tryz.prog 32 #[aggT a] (gw w9 g) fun e w' => e = .returned (.string (rhT a)) ∧ Below (gw w9 g).heap.size (gw w9 g) w') := fun g => ref14_rhos (LA.below HN.out.node.own (HT.out.step (gw_below w9 g)).below) (by have := HN.out.small.rhos; omega) HN.out.ok.rhos
      have hrh := rhT_size HN.out.node.own HN.out.small.rhos
      generalize rhT a = RT0 at *
      have ZN : Hid (SzLe a.name 100) := by show _ ≤ _; exact HN.out.small.name
      have ZA : Hid (SzLe a.arg 100) := by show _ ≤ _; exact HN.out.small.arg
      have ZR : Hid (SzLe RT0 2000) := by show _ ≤ _; exact hrh
      have ZT : Hid (SzLe (textT a.ty.er) 4000000) := by show _ ≤ _; exact hty
      have ZS : Hid (SzLe (textT a.res.er) 4000000) := by show _ ≤ _; exact hre
      have ZE : Hid (SzLe (textA (effL a.eff)) 30000) := by show _ ≤ _; exact hez
      have ZD : Hid (SzLe (decB a.rho) 22) := by show _ ≤ _; exact (by omega)
      have ZX : Hid (SzLe (textOf x) 1000000000000) := by show _ ≤ _; exact z0
      have ZY : Hid (SzLe (textOf y) 1000000000000) := by show _ ≤ _; exact z1
      clear hrh hty hre hez hds z0 z1 hs1 hs2 hs3
      have HRG : Hid (∀ W, (∃ g, W = gw w9 g) → W.rangeAt w.heap.size 0 [.int .u8 a.kind, .int .u8 a.op, .int .i64 a.at_, .int .i64 a.n, .string a.name, .string a.arg, .string a.exn, .int .i64 a.rho, .slice a.rp a.rn a.rc, .slice a.ep a.en a.ec, .int .u8 a.ty.head.kind, .int .i64 a.ty.head.rho, .slice a.ty.head.ep a.ty.head.en a.ty.head.ec, .slice a.ty.head.kp a.ty.head.kn a.ty.head.kc, .int .u8 a.res.head.kind, .int .i64 a.res.head.rho, .slice a.res.head.ep a.res.head.en a.res.head.ec, .slice a.res.head.kp a.res.head.kn a.res.head.kc, .slice a.kp a.kn a.kc]) := by
        rintro W ⟨g, rfl⟩
        exact (HT.out.step (gw_below w9 g)).box.range
      have c0 := fun g => gw_cell c0 g
      have c1 := fun g => gw_cell c1 g
      have c2 := fun g => gw_cell c2 g
      have c3 := fun g => gw_cell c3 g
      have c4 := fun g => gw_cell c4 g
      have c5 := fun g => gw_cell c5 g
      have c6 := fun g => gw_cell c6 g
      have c7 := fun g => gw_cell c7 g
      have c8 := fun g => gw_cell c8 g
      have c9 := fun g => gw_cell c9 g
      have c10 := fun g => gw_cell c10 g
      have c11 := fun g => gw_cell c11 g
      have c12 := fun g => gw_cell c12 g
      have c13 := fun g => gw_cell c13 g
      have c14 := fun g => gw_cell c14 g
      have c15 := fun g => gw_cell c15 g
      have c16 := fun g => gw_cell c16 g
      have c17 := fun g => gw_cell c17 g
      have c18 := fun g => gw_cell c18 g
      have d0 := fun g => gw_cell d0 g
      have d1 := fun g => gw_cell d1 g
      go_upto_region 36 with fail
      refine wp_region_gw (by kernel_rfl) (by kernel_rfl) ?_
      repeat (first | (refine quiet_load_mid rfl 31 _ rfl w.heap.size 0 rfl [.int .u8 a.kind, .int .u8 a.op, .int .i64 a.at_, .int .i64 a.n, .string a.name, .string a.arg, .string a.exn, .int .i64 a.rho, .slice a.rp a.rn a.rc, .slice a.ep a.en a.ec, .int .u8 a.ty.head.kind, .int .i64 a.ty.head.rho, .slice a.ty.head.ep a.ty.head.en a.ty.head.ec, .slice a.ty.head.kp a.ty.head.kn a.ty.head.kc, .int .u8 a.res.head.kind, .int .i64 a.res.head.rho, .slice a.res.head.ep a.res.head.en a.res.head.ec, .slice a.res.head.kp a.res.head.kn a.res.head.kc, .slice a.kp a.kn a.kc] _ (fun _ hw => HRG.out _ hw) Tryz.underlying31 rfl (by kernel_rfl) ?_) | (refine quiet_cat rfl _ _ _ _ rfl _ _ rfl rfl _ (by repeat (first | exact ZN.out | exact ZA.out | exact ZR.out | exact ZT.out | exact ZS.out | exact ZE.out | exact ZD.out | exact ZX.out | exact ZY.out | apply SzLe.cat | exact Nat.le_refl _)) (by decide) ?_) | ((with_reducible refine wpQuiet_step (fun K hK => ?_)); go_simp; refine hK _ ?_; clear hK K))
      refine wpQuiet_step (fun K hK => ?_); go_simp; refine ⟨(.string RT0), fun _ => calls_gw (CH.out _), hK _ ?_⟩; clear hK K
      repeat (first | (refine quiet_load_mid rfl 31 _ rfl w.heap.size 0 rfl [.int .u8 a.kind, .int .u8 a.op, .int .i64 a.at_, .int .i64 a.n, .string a.name, .string a.arg, .string a.exn, .int .i64 a.rho, .slice a.rp a.rn a.rc, .slice a.ep a.en a.ec, .int .u8 a.ty.head.kind, .int .i64 a.ty.head.rho, .slice a.ty.head.ep a.ty.head.en a.ty.head.ec, .slice a.ty.head.kp a.ty.head.kn a.ty.head.kc, .int .u8 a.res.head.kind, .int .i64 a.res.head.rho, .slice a.res.head.ep a.res.head.en a.res.head.ec, .slice a.res.head.kp a.res.head.kn a.res.head.kc, .slice a.kp a.kn a.kc] _ (fun _ hw => HRG.out _ hw) Tryz.underlying31 rfl (by kernel_rfl) ?_) | (refine quiet_cat rfl _ _ _ _ rfl _ _ rfl rfl _ (by repeat (first | exact ZN.out | exact ZA.out | exact ZR.out | exact ZT.out | exact ZS.out | exact ZE.out | exact ZD.out | exact ZX.out | exact ZY.out | apply SzLe.cat | exact Nat.le_refl _)) (by decide) ?_) | ((with_reducible refine wpQuiet_step (fun K hK => ?_)); go_simp; refine hK _ ?_; clear hK K))
      refine wpQuiet_step (fun K hK => ?_); go_simp; refine ⟨(.string (textT a.ty.er)), fun _ => calls_gw (CT.out _), hK _ ?_⟩; clear hK K
      repeat (first | (refine quiet_load_mid rfl 31 _ rfl w.heap.size 0 rfl [.int .u8 a.kind, .int .u8 a.op, .int .i64 a.at_, .int .i64 a.n, .string a.name, .string a.arg, .string a.exn, .int .i64 a.rho, .slice a.rp a.rn a.rc, .slice a.ep a.en a.ec, .int .u8 a.ty.head.kind, .int .i64 a.ty.head.rho, .slice a.ty.head.ep a.ty.head.en a.ty.head.ec, .slice a.ty.head.kp a.ty.head.kn a.ty.head.kc, .int .u8 a.res.head.kind, .int .i64 a.res.head.rho, .slice a.res.head.ep a.res.head.en a.res.head.ec, .slice a.res.head.kp a.res.head.kn a.res.head.kc, .slice a.kp a.kn a.kc] _ (fun _ hw => HRG.out _ hw) Tryz.underlying31 rfl (by kernel_rfl) ?_) | (refine quiet_cat rfl _ _ _ _ rfl _ _ rfl rfl _ (by repeat (first | exact ZN.out | exact ZA.out | exact ZR.out | exact ZT.out | exact ZS.out | exact ZE.out | exact ZD.out | exact ZX.out | exact ZY.out | apply SzLe.cat | exact Nat.le_refl _)) (by decide) ?_) | ((with_reducible refine wpQuiet_step (fun K hK => ?_)); go_simp; refine hK _ ?_; clear hK K))
      refine wpQuiet_step (fun K hK => ?_); go_simp; refine ⟨(.string (textT a.res.er)), fun _ => calls_gw (CR.out _), hK _ ?_⟩; clear hK K
      repeat (first | (refine quiet_load_mid rfl 31 _ rfl w.heap.size 0 rfl [.int .u8 a.kind, .int .u8 a.op, .int .i64 a.at_, .int .i64 a.n, .string a.name, .string a.arg, .string a.exn, .int .i64 a.rho, .slice a.rp a.rn a.rc, .slice a.ep a.en a.ec, .int .u8 a.ty.head.kind, .int .i64 a.ty.head.rho, .slice a.ty.head.ep a.ty.head.en a.ty.head.ec, .slice a.ty.head.kp a.ty.head.kn a.ty.head.kc, .int .u8 a.res.head.kind, .int .i64 a.res.head.rho, .slice a.res.head.ep a.res.head.en a.res.head.ec, .slice a.res.head.kp a.res.head.kn a.res.head.kc, .slice a.kp a.kn a.kc] _ (fun _ hw => HRG.out _ hw) Tryz.underlying31 rfl (by kernel_rfl) ?_) | (refine quiet_cat rfl _ _ _ _ rfl _ _ rfl rfl _ (by repeat (first | exact ZN.out | exact ZA.out | exact ZR.out | exact ZT.out | exact ZS.out | exact ZE.out | exact ZD.out | exact ZX.out | exact ZY.out | apply SzLe.cat | exact Nat.le_refl _)) (by decide) ?_) | ((with_reducible refine wpQuiet_step (fun K hK => ?_)); go_simp; refine hK _ ?_; clear hK K))
      refine wpQuiet_nil ?_
      rintro w10 ⟨g, rfl⟩
      have HT := Lib.hid (HT.out.step (gw_below w9 g))
      go_wp2_with fail
      go_ret
      exact ⟨ret_str HJ.out.symm, HT.out.below⟩
end Go.Proofs.YtdlbjngpohkglaaGreatDoor
end
section
set_option linter.unusedVariables false
set_option maxRecDepth 100000
set_option linter.unusedSimpArgs false
namespace Go.Proofs.YtdlbjngpohkglaaGreatDoor
open Go.RowKit

set_option maxHeartbeats 4000000 in
theorem text14_18 {w : World} {a : AH} {l : List PA} (N : TN w a l) (hk : a.kind = 18) : T14At (.node a l) w := by
  have HN := Lib.hid N
  have HKK := Lib.hid hk
  clear hk
  have HBX := Lib.hid ((Below.refl w.heap.size w).alloc (Nat.le_refl _) (boxA a))
  have HA := Lib.hid (boxA_new w a)
  have hkm := N.node.own.kmax
  have hln := N.node.kids.len
  have HK3 : Hid (a.kn ≤ 3) := by
    have h := N.ok.kids
    have := kidsI_le (if a.kind = 17 then 4 else if a.kind = 18 then 1 else a.kind)
    show _ ≤ _
    omega
  have HS0 : Hid ((w.alloc (boxA a)).heap.size = w.heap.size + 1) := by show _ = _; simp
  clear N
  show Calls _ _ #[aggT a] w _
  go_enter Tryz.func17, Tryz.ntmps17
  go_upto_region 1 with fail
  generalize w.alloc (boxA a) = W0 at *
  go_upto_region 2 with fail
  have HO0 := Lib.hid (own_made encS_len W0 W0.heap.size 9 [] 0 #[] (by simp) rfl (by unfold maxLen; omega) (Nat.le_refl _))
  have HBA := Lib.hid (HA.out.below ((Below.refl W0.heap.size W0).alloc (Nat.le_refl _) (.cells #[] 9)))
  have HBB := Lib.hid (HBX.out.alloc HBX.out.size (.cells #[] 9))
  have hss : W0.heap.size ≤ (W0.alloc (.cells #[] 9)).heap.size := by simp
  generalize W0.alloc (.cells #[] 9) = W1 at *
  have HSS := Lib.hid hss
  clear hss
  have q18 : W1.cell? ⟨w.heap.size, 18, none⟩ = some (.slice a.kp a.kn a.kc) := HBA.out.c 18 _ rfl
  go_wp2_with fail
  clear q18
  go_loopw [3, 4, 12] (fun u _ i wr => ∃ (k : Nat), k ≤ a.kn ∧ i = .int .i64 k ∧ OwnE encS 1 wr W0.heap.size 9 u k ((l.take k).map textOf) ∧ BoxA wr w.heap.size a ∧ Below w.heap.size w wr ∧ W0.heap.size ≤ wr.heap.size) (fun _ _ i _ => a.kn - (intOf i).toNat)
  case atStart => exact ⟨0, by omega, rfl, HO0.out, HBA.out, HBB.out, HSS.out⟩
  case round =>
    obtain ⟨k, hk, rfl, hown, hbox, hb, hle⟩ := hrel
    have HOWN := Lib.hid hown
    have HBO := Lib.hid hbox
    have HB := Lib.hid hb
    have HLE := Lib.hid hle
    clear hown hbox hb hle
    have q18 : wr.cell? ⟨w.heap.size, 18, none⟩ = some (.slice a.kp a.kn a.kc) := HBO.out.c 18 _ rfl
    by_cases hlt : k < a.kn
    · obtain ⟨x, hx⟩ := (HN.out.node.rowT).at (j := k) hlt
      have HE := Lib.hid hx
      obtain ⟨b, o, hbo, hbl, hcs⟩ := (HN.out.node.rowT.below HB.out).kid hx
      have HCS := Lib.hid hcs
      have HKX := Lib.hid (HN.out.kids x (List.mem_of_getElem? hx) wr HB.out)
      rw [hbo] at q18
      clear hx hbl hbo hcs
      go_wp2_with (refine wpList_load_mid rfl 31 _ rfl b (o + k * 19) rfl (encAH x.head) _ HCS.out.c Tryz.underlying31 rfl (by kernel_rfl) ?_)
      refine Calls.mono HKX.out ?_
      rintro e w2 ⟨rfl, hb⟩
      have HO1 := Lib.hid (HOWN.out.below hb)
      have HB1 := Lib.hid (HB.out.trans (hb.mono HB.out.size))
      have HBO1 := Lib.hid (HBO.out.below hb)
      have HLE1 := Lib.hid (Nat.le_trans HLE.out hb.size)
      have hk3 := HK3.out
      clear hb q18
      go_wp2_with (at_builtin; refine wpList_append1 rfl _ _ 44 rfl W0.heap.size 9 _ 1 16 Tryz.underlying44 infoS rfl (by decide) encS encS_len encS_one (textOf x) _ _ _ HO1.out rfl (by refine Eq.trans (b := Value.slice (some ⟨w2.heap.size, 0, none⟩) 1 1) rfl ?_; simp) ?c1 ?c2 ?c3 ?_)
      case c1 => omega
      case c2 => omega
      case c3 => exact HLE1.out
      · intro v3 w3 hown3 hg3
        have hfr : ∀ g, Value.ownBlock _ = some g → W0.heap.size ≤ g := fun g hg => (World.ownsRow.lt HO1.out g hg).1
        have HB3 := Lib.hid (HB1.out.grown hg3 HB1.out.size (fun g hg => by have := hfr g hg; have := HBX.out.size; have := HS0.out; omega))
        have HBO3 : Hid (BoxA w3 w.heap.size a) := ⟨by rw [hg3.block w.heap.size (Array.getElem?_eq_some_iff.1 HBO1.out.blk).1 (fun e => by have := hfr _ e.symm; have := HS0.out; omega)]; exact HBO1.out.blk⟩
        have HLE3 : Hid (W0.heap.size ≤ w3.heap.size) := by have := HLE1.out; have := hg3.size; show _ ≤ _; omega
        have HO3 := Lib.hid hown3
        clear hown3 hg3 hfr
        go_wp2_with fail
        go_roundw
        case rel => exact ⟨k + 1, by omega, by go_num, by rw [take_succ_get HE.out, List.map_append, List.map_take]; exact HO3.out, HBO3.out, HB3.out, HLE3.out⟩
        case measure => simp [intOf]; omega
    · have hkn : k = a.kn := by omega
      obtain ⟨p, c, rfl, hrow⟩ := HOWN.out.isRow encS_len (by have := HK3.out; omega)
      have HT : Hid (TS w wr a l p c) := by
        have h := hrow
        rw [take_full (by rw [hln, hkn]; exact Nat.le_refl _)] at h
        refine ⟨HBO.out, HB.out, ?_⟩
        rw [hln, ← hkn]
        exact h
      clear hrow hlt hk q18 HA HBX HBA HBB HS0 HO0 HSS HOWN HBO HB HLE
      obtain ⟨c0, c1, c2, c3, c4, c5, c6, c7, c8, c9, c10, c11, c12, c13, c14, c15, c16, c17, c18⟩ := HT.out.box.all
      have hds := decB_size a.rho HN.out.node.own.rho.1 HN.out.node.own.rho.2
      have hez := HN.out.effz
      go_upto_region 9 with (first
        | (go_at_call 29; refine (ref14_num HN.out.ok.rho HN.out.node.own.rho.2 _).mono ?_; rintro e w8 ⟨rfl, hb⟩; have HT := Lib.hid (HT.out.step hb); clear hb c0 c1 c2 c3 c4 c5 c6 c7 c8 c9 c10 c11 c12 c13 c14 c15 c16 c17 c18; obtain ⟨c0, c1, c2, c3, c4, c5, c6, c7, c8, c9, c10, c11, c12, c13, c14, c15, c16, c17, c18⟩ := HT.out.box.all)
        | (go_at_call 30; refine (HN.out.eff _ HT.out.below).mono ?_; rintro e w8 ⟨rfl, hb⟩; have HT := Lib.hid (HT.out.step hb); clear hb c0 c1 c2 c3 c4 c5 c6 c7 c8 c9 c10 c11 c12 c13 c14 c15 c16 c17 c18; obtain ⟨c0, c1, c2, c3, c4, c5, c6, c7, c8, c9, c10, c11, c12, c13, c14, c15, c16, c17, c18⟩ := HT.out.box.all))
      go_upto_region 10 with fail
      clear c0 c1 c2 c3 c4 c5 c6 c7 c8 c9 c10 c11 c12 c13 c14 c15 c16 c17 c18
      have HT := Lib.hid (HT.out.step ((Below.refl w8.heap.size w8).alloc (Nat.le_refl _) (.cells #[.string ⟨#[43]⟩, .string ⟨#[45]⟩, .string ⟨#[42]⟩, .string ⟨#[60]⟩, .string ⟨#[61]⟩] 9)))
      have hw9 : (w8.alloc (.cells #[.string ⟨#[43]⟩, .string ⟨#[45]⟩, .string ⟨#[42]⟩, .string ⟨#[60]⟩, .string ⟨#[61]⟩] 9)).heap[w8.heap.size]? = some (.cells #[.string ⟨#[43]⟩, .string ⟨#[45]⟩, .string ⟨#[42]⟩, .string ⟨#[60]⟩, .string ⟨#[61]⟩] 9) := heap_alloc_new _ _
      generalize w8.alloc (.cells #[.string ⟨#[43]⟩, .string ⟨#[45]⟩, .string ⟨#[42]⟩, .string ⟨#[60]⟩, .string ⟨#[61]⟩] 9) = w9 at *
      have HW9 := Lib.hid hw9
      clear hw9
      obtain ⟨c0, c1, c2, c3, c4, c5, c6, c7, c8, c9, c10, c11, c12, c13, c14, c15, c16, c17, c18⟩ := HT.out.box.all
      have hs1 := HN.out.small.name
      have hs2 := HN.out.small.arg
      have hs3 := HN.out.small.exn
      have e1 : (a.kind == 1) = false := by simp [HKK.out]
      have e2 : (a.kind == 2) = false := by simp [HKK.out]
      have e3 : (a.kind == 3) = false := by simp [HKK.out]
      have e4 : (a.kind == 4) = false := by simp [HKK.out]
      have e5 : (a.kind == 5) = false := by simp [HKK.out]
      have e6 : (a.kind == 6) = false := by simp [HKK.out]
      have e7 : (a.kind == 7) = false := by simp [HKK.out]
      have e8 : (a.kind == 8) = false := by simp [HKK.out]
      have e9 : (a.kind == 9) = false := by simp [HKK.out]
      have e10 : (a.kind == 10) = false := by simp [HKK.out]
      have e11 : (a.kind == 11) = false := by simp [HKK.out]
      have e12 : (a.kind == 12) = false := by simp [HKK.out]
      have e13 : (a.kind == 13) = false := by simp [HKK.out]
      have e14 : (a.kind == 14) = false := by simp [HKK.out]
      have e15 : (a.kind == 15) = false := by simp [HKK.out]
      have e16 : (a.kind == 16) = false := by simp [HKK.out]
      have e17 : (a.kind == 17) = false := by simp [HKK.out]
      have e18 : (a.kind == 18) = true := by simp [HKK.out]
      have HJ := Lib.hid (text_18 a HKK.out l)
      have CH : Hid (∀ g, Calls Tryz.prog 32 #[aggT a] (gw w9 g) fun e w' => e = .returned (.string (rhT a)) ∧ Below (gw w9 g).heap.size (gw w9 g) w') := fun g => ref14_rhos (LA.below HN.out.node.own (HT.out.step (gw_below w9 g)).below) (by have := HN.out.small.rhos; omega) HN.out.ok.rhos
      have hrh := rhT_size HN.out.node.own HN.out.small.rhos
      generalize rhT a = RT0 at *
      have n0 : ¬ 9223372036854775807 < 2 + a.name.size := by omega
      have n1 : ¬ 9223372036854775807 < 2 + a.name.size + RT0.size := by omega
      have n2 : ¬ 9223372036854775807 < 2 + a.name.size + RT0.size + (3 + (textA (effL a.eff)).size) := by omega
      have n3 : ¬ 9223372036854775807 < 2 + a.name.size + RT0.size + (3 + (textA (effL a.eff)).size) + (3 + (decB a.rho).size) := by omega
      have n4 : ¬ 9223372036854775807 < 2 + a.name.size + RT0.size + (3 + (textA (effL a.eff)).size) + (3 + (decB a.rho).size) + 2 := by omega
      have HRG : Hid (∀ W, (∃ g, W = gw w9 g) → W.rangeAt w.heap.size 0 [.int .u8 a.kind, .int .u8 a.op, .int .i64 a.at_, .int .i64 a.n, .string a.name, .string a.arg, .string a.exn, .int .i64 a.rho, .slice a.rp a.rn a.rc, .slice a.ep a.en a.ec, .int .u8 a.ty.head.kind, .int .i64 a.ty.head.rho, .slice a.ty.head.ep a.ty.head.en a.ty.head.ec, .slice a.ty.head.kp a.ty.head.kn a.ty.head.kc, .int .u8 a.res.head.kind, .int .i64 a.res.head.rho, .slice a.res.head.ep a.res.head.en a.res.head.ec, .slice a.res.head.kp a.res.head.kn a.res.head.kc, .slice a.kp a.kn a.kc]) := by
        rintro W ⟨g, rfl⟩
        exact (HT.out.step (gw_below w9 g)).box.range
      have c0 := fun g => gw_cell c0 g
      have c1 := fun g => gw_cell c1 g
      have c2 := fun g => gw_cell c2 g
      have c3 := fun g => gw_cell c3 g
      have c4 := fun g => gw_cell c4 g
      have c5 := fun g => gw_cell c5 g
      have c6 := fun g => gw_cell c6 g
      have c7 := fun g => gw_cell c7 g
      have c8 := fun g => gw_cell c8 g
      have c9 := fun g => gw_cell c9 g
      have c10 := fun g => gw_cell c10 g
      have c11 := fun g => gw_cell c11 g
      have c12 := fun g => gw_cell c12 g
      have c13 := fun g => gw_cell c13 g
      have c14 := fun g => gw_cell c14 g
      have c15 := fun g => gw_cell c15 g
      have c16 := fun g => gw_cell c16 g
      have c17 := fun g => gw_cell c17 g
      have c18 := fun g => gw_cell c18 g
      go_upto_region 45 with fail
      refine wp_region_gw (by kernel_rfl) (by kernel_rfl) ?_
      repeat (first | (refine quiet_load_mid rfl 31 _ rfl w.heap.size 0 rfl [.int .u8 a.kind, .int .u8 a.op, .int .i64 a.at_, .int .i64 a.n, .string a.name, .string a.arg, .string a.exn, .int .i64 a.rho, .slice a.rp a.rn a.rc, .slice a.ep a.en a.ec, .int .u8 a.ty.head.kind, .int .i64 a.ty.head.rho, .slice a.ty.head.ep a.ty.head.en a.ty.head.ec, .slice a.ty.head.kp a.ty.head.kn a.ty.head.kc, .int .u8 a.res.head.kind, .int .i64 a.res.head.rho, .slice a.res.head.ep a.res.head.en a.res.head.ec, .slice a.res.head.kp a.res.head.kn a.res.head.kc, .slice a.kp a.kn a.kc] _ (fun _ hw => HRG.out _ hw) Tryz.underlying31 rfl (by kernel_rfl) ?_) | ((with_reducible refine wpQuiet_step (fun K hK => ?_)); go_simp; refine hK _ ?_; clear hK K))
      refine wpQuiet_step (fun K hK => ?_); go_simp; refine ⟨(.string RT0), fun _ => calls_gw (CH.out _), hK _ ?_⟩; clear hK K
      repeat (first | (refine quiet_load_mid rfl 31 _ rfl w.heap.size 0 rfl [.int .u8 a.kind, .int .u8 a.op, .int .i64 a.at_, .int .i64 a.n, .string a.name, .string a.arg, .string a.exn, .int .i64 a.rho, .slice a.rp a.rn a.rc, .slice a.ep a.en a.ec, .int .u8 a.ty.head.kind, .int .i64 a.ty.head.rho, .slice a.ty.head.ep a.ty.head.en a.ty.head.ec, .slice a.ty.head.kp a.ty.head.kn a.ty.head.kc, .int .u8 a.res.head.kind, .int .i64 a.res.head.rho, .slice a.res.head.ep a.res.head.en a.res.head.ec, .slice a.res.head.kp a.res.head.kn a.res.head.kc, .slice a.kp a.kn a.kc] _ (fun _ hw => HRG.out _ hw) Tryz.underlying31 rfl (by kernel_rfl) ?_) | ((with_reducible refine wpQuiet_step (fun K hK => ?_)); go_simp; refine hK _ ?_; clear hK K))
      refine wpQuiet_nil ?_
      rintro w10 ⟨g, rfl⟩
      have HT := Lib.hid (HT.out.step (gw_below w9 g))
      go_wp2_with fail
      go_ret
      exact ⟨ret_str HJ.out.symm, HT.out.below⟩
end Go.Proofs.YtdlbjngpohkglaaGreatDoor
end
section
set_option linter.unusedVariables false
namespace Go.Proofs.YtdlbjngpohkglaaGreatDoor
open Go.RowKit

theorem ref14_Text_of {w : World} {a : AH} {l : List PA} (N : TN w a l) : T14At (.node a l) w := by
  have k1 := N.ok.k1
  have k18 := N.ok.k18
  rcases (by omega : a.kind = 1 ∨ a.kind = 2 ∨ a.kind = 3 ∨ a.kind = 4 ∨ a.kind = 5 ∨ a.kind = 6 ∨ a.kind = 7 ∨ a.kind = 8 ∨ a.kind = 9 ∨ a.kind = 10 ∨ a.kind = 11 ∨ a.kind = 12 ∨ a.kind = 13 ∨ a.kind = 14 ∨ a.kind = 15 ∨ a.kind = 16 ∨ a.kind = 17 ∨ a.kind = 18) with h | h | h | h | h | h | h | h | h | h | h | h | h | h | h | h | h | h
  · exact text14_1 N h
  · exact text14_2 N h
  · exact text14_3 N h
  · exact text14_4 N h
  · exact text14_5 N h
  · exact text14_6 N h
  · exact text14_7 N h
  · exact text14_8 N h
  · exact text14_9 N h
  · exact text14_10 N h
  · exact text14_11 N h
  · exact text14_12 N h
  · exact text14_13 N h
  · exact text14_14 N h
  · exact text14_15 N h
  · exact text14_16 N h
  · exact text14_17 N h
  · exact text14_18 N h
end Go.Proofs.YtdlbjngpohkglaaGreatDoor
end
section
set_option linter.unusedVariables false
set_option maxRecDepth 100000
set_option linter.unusedSimpArgs false
namespace Go.Proofs.YtdlbjngpohkglaaGreatDoor
open Go.RowKit

theorem rtx_of {w : World} {t : PT} (hl : LR.lies w t) (hs : SmallT t.er 100) (hm : mayT t.er = true) : (∀ W, Below w.heap.size w W → RTextAt t W) ∧ (textT t.er).size ≤ 4000000 := by
  have h1 := text_le2 t hl hs.effs
  have h2 : t.size ≤ 100 := by have := hs.size; rw [← Rose.size_map RH.plain t]; exact this
  exact ⟨fun W hW => rtextAt_any t W (LR.lies_below hW t hl) (textOK_of hm hs.effs) (by omega), by omega⟩
theorem tn_of {w : World} {a : AH} {l : List PA} (hN : NodeA w a l) (hs : SmallN a) (hok : NodeOk a) (hz : ∀ x ∈ l, (textOf x).size ≤ 1000000000000) (hf : ∀ x ∈ l, ∀ W, Below w.heap.size w W → T14At x W) : TN w a l where
  node := hN
  small := hs
  ok := hok
  ty := fun h => rtx_of hN.own.ty hs.ty (hok.ty h)
  res := fun h => rtx_of hN.own.res hs.res (hok.res h)
  eff := fun W hW => ref_Text_any (hN.own.eff.below hW) (by have := hN.own.eff.len; have := greatB_len' hs.eff; omega) (fun x hx => (hN.own.eok x hx).r1) (textOne_size hs.eff hN.own.eok)
  effz := by have := textA_le2 hs.eff hN.own.eok; omega
  kidz := hz
  kids := hf
theorem t14At_any (t : PA) : ∀ w, LA.lies w t → SmallNs t → mayA t = true → t.size ≤ 1000 → T14At t w := by
  refine Rose.ind (P := fun (t : PA) => ∀ w, LA.lies w t → SmallNs t → mayA t = true → t.size ≤ 1000 → T14At t w) (fun a l ih w hl hs hm hz => ?_) t
  have hN := nodeA hl
  rw [mayA_node, Bool.and_eq_true, List.all_eq_true] at hm
  obtain ⟨hs1, hs2⟩ := smallNs_kids hs
  have hok := node_ok hm.1 hN.own.rhos.len
  have hkz : ∀ x ∈ l, x.size ≤ 1000 := by
    intro x hx
    rw [Rose.size_node] at hz
    have h2 : x.size ≤ (l.map Rose.size).sum := le_sum_of_mem (List.mem_map_of_mem hx)
    omega
  refine ref14_Text_of (tn_of hN hs1 hok (fun x hx => ?_) (fun x hx W hW => ih x hx W (LA.lies_below hW x (hN.each x hx)) (hs2 x hx) (hm.2 x hx) (hkz x hx)))
  have h1 := joinB_lens (piecesT x)
  have h2 := lens_term x (hN.each x hx) (hs2 x hx) (hm.2 x hx)
  have h3 := hkz x hx
  have h4 : (textOf x).size = (joinB (piecesT x)).size := rfl
  omega
end Go.Proofs.YtdlbjngpohkglaaGreatDoor
end
section
set_option linter.unusedVariables false
set_option maxRecDepth 100000
set_option linter.unusedSimpArgs false
namespace Go.Proofs.YtdlbjngpohkglaaGreatDoor
open Go.RowKit

set_option maxHeartbeats 4000000 in
theorem displayIs_walk {w : World} (hv : Vr w) (ht : Tab w) (t : PA) (hl : LA.lies w t) :
    Calls Tryz.prog 5 #[aggT t.head] w fun e w' => e = .returned (.bool true) ∧ Below w.heap.size w w' := by
  have HB := Lib.hid ((Below.refl w.heap.size w).alloc (Nat.le_refl _) (boxA t.head))
  have HBX := Lib.hid (boxA_new w t.head)
  have HV := Lib.hid hv
  have HT := Lib.hid ht
  have HL := Lib.hid (fun (W : World) (h : Below w.heap.size w W) => LA.lies_below h t hl)
  have HG := Lib.hid (ref13_Great_any (LA.lies_below HB.out t hl))
  clear hl hv ht
  have htr1 : mayA t = true → termR t = .tuple #[.string (textOf t), .int .i64 0] := fun h => by unfold termR; rw [h]; rfl
  have htr0 : mayA t = false → termR t = .tuple #[.string ⟨#[]⟩, .int .i64 1] := fun h => by unfold termR; rw [h]; rfl
  have hw0 : mayA t = false → ∀ bw, countW (wordsT t) bw = 0 := fun h bw => by unfold wordsT; rw [h]; rfl
  have HTR1 := Lib.hid htr1
  have HTR0 := Lib.hid htr0
  have HW0 := Lib.hid hw0
  clear htr1 htr0 hw0
  go_enter Tryz.func5, Tryz.ntmps5
  go_upto_region 1 with fail
  go_upto_region 3 with (first
    | (refine wpList_load_row rfl 31 _ rfl w.heap.size rfl 31 _ (0, 0) _ HBX.out.blk Tryz.underlying31 rfl (by kernel_rfl) ?_)
    | (go_at_call 10; refine (awake_any (HV.out.below HB.out) (HT.out.below HB.out)).mono ?_; rintro e w9 ⟨rfl, hb⟩; have HB := Lib.hid (HB.out.trans (hb.mono HB.out.size)); clear hb)
    | (go_at_call 8; refine HG.out.mono ?_; rintro e w8 ⟨⟨r, rfl, hgr⟩, hb⟩; have HB := Lib.hid (HB.out.trans (hb.mono HB.out.size)); have HBX := Lib.hid (HBX.out.below hb); clear hb; have HGR := Lib.hid hgr; clear hgr; cases r; have HTE := Lib.hid (show TEnv w8 t from ⟨HL.out _ HB.out, (HGR.out rfl).2, Nat.le_trans (HGR.out rfl).1 (by omega), HV.out.below HB.out, HT.out.below HB.out⟩)))
  all_goals (try (go_ret; exact ⟨rfl, HB.out⟩))
  have HCN := Lib.hid (fun (W : World) (hT : TEnv W t) (gs : Nat) (hgs : W.heap.size = gs) (n : Nat) (hm : n ≤ 1000) (cs : Array Value) (hn : cs.size = n) (hcs : cs = ((strsOf cs).flatMap encS).toArray) (e : TypeId) =>
    (show Calls Tryz.prog 16 #[aggT t.head, .slice (some ⟨gs, 0, none⟩) n n] (W.alloc (.cells cs e)) fun e' w' => e' = .returned (.int .i64 (countW (wordsT t) (strsOf cs))) ∧ Below W.heap.size W w' by
      subst hgs
      have hba : Below W.heap.size W (W.alloc (.cells cs e)) := (Below.refl _ _).alloc (Nat.le_refl _) _
      refine (Count_any (hT.below hba) (row_made encS_len (by omega) W e (strsOf cs) n cs hcs (by simp [strsOf, hn]) (by unfold maxLen; omega))).mono ?_
      rintro e' w' ⟨rfl, hb'⟩
      exact ⟨rfl, hba.trans (hb'.mono hba.size)⟩))
  cases hm : mayA t
  · have HM := Lib.hid hm
    clear hm
    have HTR := Lib.hid (HTR0.out HM.out)
    go_wp2_with (first
      | (refine wpList_load_row rfl 31 _ rfl w.heap.size rfl 31 _ (0, 0) _ HBX.out.blk Tryz.underlying31 rfl (by kernel_rfl) ?_)
      | (refine wpList_load_midG (by rfl) 31 _ rfl w.heap.size 0 rfl [.int .u8 t.head.kind, .int .u8 t.head.op, .int .i64 t.head.at_, .int .i64 t.head.n, .string t.head.name, .string t.head.arg, .string t.head.exn, .int .i64 t.head.rho, .slice t.head.rp t.head.rn t.head.rc, .slice t.head.ep t.head.en t.head.ec, .int .u8 t.head.ty.head.kind, .int .i64 t.head.ty.head.rho, .slice t.head.ty.head.ep t.head.ty.head.en t.head.ty.head.ec, .slice t.head.ty.head.kp t.head.ty.head.kn t.head.ty.head.kc, .int .u8 t.head.res.head.kind, .int .i64 t.head.res.head.rho, .slice t.head.res.head.ep t.head.res.head.en t.head.res.head.ec, .slice t.head.res.head.kp t.head.res.head.kn t.head.res.head.kc, .slice t.head.kp t.head.kn t.head.kc] _ HBX.out.range Tryz.underlying31 rfl (by kernel_rfl) ?_)
      | (go_at_call 9; refine (ref13_May_any t HTE.out.lies HTE.out.size).mono ?_; rw [HM.out]; rintro e w8 ⟨rfl, hb⟩; have HB := Lib.hid (HB.out.trans (hb.mono HB.out.size)); have HBX := Lib.hid (HBX.out.below hb); have HTE := Lib.hid (HTE.out.below hb); clear hb)
      | (go_at_call 11; refine (Term_any HTE.out).mono ?_; rw [HTR.out]; rintro e w8 ⟨rfl, hb⟩; have HB := Lib.hid (HB.out.trans (hb.mono HB.out.size)); have HBX := Lib.hid (HBX.out.below hb); have HTE := Lib.hid (HTE.out.below hb); clear hb)
      | (go_at_call 16; refine (HCN.out _ HTE.out _ (by simp) _ (by omega) _ (by rfl) (by simp [strsOf, strOf, encS]) _).mono ?_; rw [HW0.out HM.out]; rintro e w8 ⟨rfl, hb⟩; have HB := Lib.hid (HB.out.trans (hb.mono HB.out.size)); have HBX := Lib.hid (HBX.out.below hb); have HTE := Lib.hid (HTE.out.below hb); clear hb)
      | (go_at_call 10; refine (awake_any (HV.out.below HB.out) (HT.out.below HB.out)).mono ?_; rintro e w9 ⟨rfl, hb⟩; have HB := Lib.hid (HB.out.trans (hb.mono HB.out.size)); clear hb))
    all_goals (
      go_ret
      exact ⟨rfl, HB.out⟩)
  · have HM := Lib.hid hm
    clear hm
    have HTR := Lib.hid (HTR1.out HM.out)
    go_wp2_with (first
      | (refine wpList_load_row rfl 31 _ rfl w.heap.size rfl 31 _ (0, 0) _ HBX.out.blk Tryz.underlying31 rfl (by kernel_rfl) ?_)
      | (refine wpList_load_midG (by rfl) 31 _ rfl w.heap.size 0 rfl [.int .u8 t.head.kind, .int .u8 t.head.op, .int .i64 t.head.at_, .int .i64 t.head.n, .string t.head.name, .string t.head.arg, .string t.head.exn, .int .i64 t.head.rho, .slice t.head.rp t.head.rn t.head.rc, .slice t.head.ep t.head.en t.head.ec, .int .u8 t.head.ty.head.kind, .int .i64 t.head.ty.head.rho, .slice t.head.ty.head.ep t.head.ty.head.en t.head.ty.head.ec, .slice t.head.ty.head.kp t.head.ty.head.kn t.head.ty.head.kc, .int .u8 t.head.res.head.kind, .int .i64 t.head.res.head.rho, .slice t.head.res.head.ep t.head.res.head.en t.head.res.head.ec, .slice t.head.res.head.kp t.head.res.head.kn t.head.res.head.kc, .slice t.head.kp t.head.kn t.head.kc] _ HBX.out.range Tryz.underlying31 rfl (by kernel_rfl) ?_)
      | (go_at_call 9; refine (ref13_May_any t HTE.out.lies HTE.out.size).mono ?_; rw [HM.out]; rintro e w8 ⟨rfl, hb⟩; have HB := Lib.hid (HB.out.trans (hb.mono HB.out.size)); have HBX := Lib.hid (HBX.out.below hb); have HTE := Lib.hid (HTE.out.below hb); clear hb)
      | (go_at_call 11; refine (Term_any HTE.out).mono ?_; rw [HTR.out]; rintro e w8 ⟨rfl, hb⟩; have HB := Lib.hid (HB.out.trans (hb.mono HB.out.size)); have HBX := Lib.hid (HBX.out.below hb); have HTE := Lib.hid (HTE.out.below hb); clear hb)
      | (go_at_call 17; refine Calls.mono (t14At_any t _ HTE.out.lies HTE.out.small HM.out HTE.out.size) ?_; rintro e w8 ⟨rfl, hb⟩; have HB := Lib.hid (HB.out.trans (hb.mono HB.out.size)); have HBX := Lib.hid (HBX.out.below hb); have HTE := Lib.hid (HTE.out.below hb); clear hb)
      | (go_at_call 10; refine (awake_any (HV.out.below HB.out) (HT.out.below HB.out)).mono ?_; rintro e w9 ⟨rfl, hb⟩; have HB := Lib.hid (HB.out.trans (hb.mono HB.out.size)); clear hb))
    all_goals (
      go_ret
      exact ⟨rfl, HB.out⟩)
end Go.Proofs.YtdlbjngpohkglaaGreatDoor
end
