/- Part 46 of the texts: Lb. -/
import Derived.Test.YtdlbjngpohkglaaGreatDoorG43
import Derived.Test.YtdlbjngpohkglaaGreatDoorG45
section
set_option linter.unusedVariables false
set_option maxRecDepth 100000
set_option linter.unusedSimpArgs false
namespace Go.Proofs.YtdlbjngpohkglaaGreatDoor
open Go.RowKit

/-- how many brackets open at a node -/
def nodeCnt (a : AH) : Nat := (if 2 < a.kind then 1 else 0) + (boxedT a.ty + boxedT a.res)
def cntN (l : List AH) : Nat := (l.map nodeCnt).sum
theorem cntN_take {l : List AH} {k : Nat} {a : AH} (h : l[k]? = some a) : cntN (l.take (k + 1)) = cntN (l.take k) + nodeCnt a := by
  unfold cntN
  rw [take_succ_get h, List.map_append, List.sum_append_nat]; simp
theorem cntN_le (l : List AH) (k : Nat) : cntN (l.take k) ≤ cntN l := by
  have h : l.map nodeCnt = (l.take k).map nodeCnt ++ (l.drop k).map nodeCnt := by rw [← List.map_append, List.take_append_drop]
  unfold cntN
  rw [h, List.sum_append_nat]; omega
theorem smallT_size {t : PT} (h : SmallT t.er 100) : t.size ≤ 100 := by have := h.size; rw [← Rose.size_map RH.plain t]; exact this
theorem cntN_bound : ∀ l : List AH, (∀ a ∈ l, SmallN a) → cntN l ≤ 201 * l.length
  | [], _ => by simp [cntN]
  | a :: l, h => by
    have h1 := cntN_bound l (fun b hb => h b (List.mem_cons_of_mem _ hb))
    have ha := h a (by simp)
    have h2 := boxedT_le a.ty
    have h3 := boxedT_le a.res
    have h4 := smallT_size ha.ty
    have h5 := smallT_size ha.res
    have e : cntN (a :: l) = nodeCnt a + cntN l := by simp [cntN]
    rw [e, List.length_cons]
    unfold nodeCnt
    split <;> omega
set_option maxHeartbeats 4000000 in
theorem displayBrackets_of {w : World} (hv : Vr w) (ht : Tab w) (t : PA) (hl : LA.lies w t) (hcount : mayA t = true → ∀ b : ByteArray, (b = ⟨#[40]⟩ ∨ b = ⟨#[41]⟩) → countW (wordsT t) [b] = cntN (Rose.nodes t)) (hcount2 : mayA t = true → countW (wordsT t) [⟨#[40]⟩, ⟨#[41]⟩] = 2 * cntN (Rose.nodes t)) :
    Calls Tryz.prog 7 #[aggT t.head] w fun e w' => e = .returned (.bool true) ∧ Below w.heap.size w w' := by
  have HB := Lib.hid ((Below.refl w.heap.size w).alloc (Nat.le_refl _) (boxA t.head))
  have HBX := Lib.hid (boxA_new w t.head)
  have HV := Lib.hid hv
  have HT := Lib.hid ht
  have HL := Lib.hid (fun (W : World) (h : Below w.heap.size w W) => LA.lies_below h t hl)
  have HG := Lib.hid (ref13_Great_any (LA.lies_below HB.out t hl))
  have HC1 := Lib.hid hcount
  have HC2 := Lib.hid hcount2
  clear hl hv ht hcount hcount2
  go_enter Tryz.func7, Tryz.ntmps7
  go_upto_region 1 with fail
  go_upto_region 4 with (first
    | (refine wpList_load_row rfl 31 _ rfl w.heap.size rfl 31 _ (0, 0) _ HBX.out.blk Tryz.underlying31 rfl (by kernel_rfl) ?_)
    | (refine wpList_load_midG (by rfl) 31 _ rfl w.heap.size 0 rfl [.int .u8 t.head.kind, .int .u8 t.head.op, .int .i64 t.head.at_, .int .i64 t.head.n, .string t.head.name, .string t.head.arg, .string t.head.exn, .int .i64 t.head.rho, .slice t.head.rp t.head.rn t.head.rc, .slice t.head.ep t.head.en t.head.ec, .int .u8 t.head.ty.head.kind, .int .i64 t.head.ty.head.rho, .slice t.head.ty.head.ep t.head.ty.head.en t.head.ty.head.ec, .slice t.head.ty.head.kp t.head.ty.head.kn t.head.ty.head.kc, .int .u8 t.head.res.head.kind, .int .i64 t.head.res.head.rho, .slice t.head.res.head.ep t.head.res.head.en t.head.res.head.ec, .slice t.head.res.head.kp t.head.res.head.kn t.head.res.head.kc, .slice t.head.kp t.head.kn t.head.kc] _ HBX.out.range Tryz.underlying31 rfl (by kernel_rfl) ?_)
    | (go_at_call 10; refine (awake_any (HV.out.below HB.out) (HT.out.below HB.out)).mono ?_; rintro e w9 ⟨rfl, hb⟩; have HB := Lib.hid (HB.out.trans (hb.mono HB.out.size)); clear hb)
    | (go_at_call 8; refine HG.out.mono ?_; rintro e w8 ⟨⟨r, rfl, hgr⟩, hb⟩; have HB := Lib.hid (HB.out.trans (hb.mono HB.out.size)); have HBX := Lib.hid (HBX.out.below hb); clear hb; have HGR := Lib.hid hgr; clear hgr; cases r; have HTE := Lib.hid (show TEnv w8 t from ⟨HL.out _ HB.out, (HGR.out rfl).2, Nat.le_trans (HGR.out rfl).1 (by omega), HV.out.below HB.out, HT.out.below HB.out⟩))
    | (go_at_call 14; refine (allAt_any t _ HTE.out.lies HTE.out.size).mono ?_; rintro e w8 ⟨⟨p, c, rfl, hown⟩, hb⟩; obtain ⟨p', c', hv', hrow⟩ := hown.isRow encAH_len (by omega); have HROW := Lib.hid hrow; cases hv'; clear hown hrow; have HB := Lib.hid (HB.out.trans (hb.mono HB.out.size)); have HBX := Lib.hid (HBX.out.below hb); have HTE := Lib.hid (HTE.out.below hb); clear hb)
    | (go_at_call 9; refine (ref13_May_any t HTE.out.lies HTE.out.size).mono ?_; rintro e w8 ⟨rfl, hb⟩; have HB := Lib.hid (HB.out.trans (hb.mono HB.out.size)); have HBX := Lib.hid (HBX.out.below hb); have HTE := Lib.hid (HTE.out.below hb); clear hb; cases hm : mayA t))
  all_goals (try (go_ret; exact ⟨rfl, HB.out⟩))
  have HM := Lib.hid hm
  clear hm
  have hzz := HTE.out.size
  have hnl := nodes_length t
  have HNL := Lib.hid hnl
  have HCB : Hid (cntN (Rose.nodes t) ≤ 201000) := by
    have := cntN_bound (Rose.nodes t) HTE.out.small
    show _ ≤ _
    omega
  have HOK := Lib.hid (fun (a : AH) (ha : a ∈ Rose.nodes t) => nodes_own t HTE.out.lies a ha)
  clear hnl
  go_wp2_with fail
  go_loopw [4, 5] (fun u i wr => ∃ k : Nat, k ≤ t.size ∧ i = .int .i64 k ∧ u = .int .i64 ((cntN ((Rose.nodes t).take k) : Nat) : Int) ∧ Below w8.heap.size w8 wr) (fun _ i _ => t.size - (intOf i).toNat)
  case atStart => exact ⟨0, by omega, rfl, rfl, Below.refl _ _⟩
  case round =>
    obtain ⟨k, hk, rfl, rfl, hbr⟩ := hrel
    have HBR := Lib.hid hbr
    have HBW := Lib.hid (HB.out.trans (hbr.mono HB.out.size))
    clear hbr
    by_cases hlt : k < t.size
    · obtain ⟨a, hx⟩ := get_of_lt (l := Rose.nodes t) (j := k) (by rw [HNL.out]; exact hlt)
      obtain ⟨b, o, hbo, hbl, hcs⟩ := (HROW.out.below HBR.out).row.elem hx
      have hle := cntN_le (Rose.nodes t) (k + 1)
      have HTK := Lib.hid (cntN_take hx)
      rw [HTK.out] at hle
      have hcb := HCB.out
      have hsm := HTE.out.small a (List.mem_of_getElem? hx)
      obtain ⟨how, _⟩ := HOK.out a (List.mem_of_getElem? hx)
      have how2 : AH.Own wr a := LA.below how HBR.out
      have CB1 := Lib.hid (fun g => boxedAt_any a.ty (gw wr g) (LR.lies_below (gw_below wr g) _ how2.ty) (by have := smallT_size hsm.ty; omega))
      have CB2 := Lib.hid (fun g => boxedAt_any a.res (gw wr g) (LR.lies_below (gw_below wr g) _ how2.res) (by have := smallT_size hsm.res; omega))
      have d0 := hcs 0 _ rfl
      have d10 := fun g => gw_cell (hcs 10 _ rfl) g
      have d11 := fun g => gw_cell (hcs 11 _ rfl) g
      have d12 := fun g => gw_cell (hcs 12 _ rfl) g
      have d13 := fun g => gw_cell (hcs 13 _ rfl) g
      have d14 := fun g => gw_cell (hcs 14 _ rfl) g
      have d15 := fun g => gw_cell (hcs 15 _ rfl) g
      have d16 := fun g => gw_cell (hcs 16 _ rfl) g
      have d17 := fun g => gw_cell (hcs 17 _ rfl) g
      simp only [Nat.add_zero] at d0
      rw [hbo]
      have i0 : (0 : Int) ≤ (k : Int) := by omega
      have i1 : (k : Int) < (t.size : Int) := by omega
      have hnc : nodeCnt a = (if 2 < a.kind then 1 else 0) + (boxedT a.ty + boxedT a.res) := rfl
      have hw1 : IntKind.i64.wrap ((boxedT a.ty : Int) + (boxedT a.res : Int)) = (boxedT a.ty : Int) + (boxedT a.res : Int) := IntWalk.i64_in _ (by split at hnc <;> omega)
      clear how how2 hsm hx hbl hcs hbo
      by_cases hk2 : 2 < a.kind
      · rw [if_pos hk2] at hnc
        have ek : decide (a.kind > 2) = true := by simpa using hk2
        have hw0 : IntKind.i64.wrap ((cntN ((Rose.nodes t).take k) : Int) + 1) = (cntN ((Rose.nodes t).take k) : Int) + 1 := IntWalk.i64_in _ (by omega)
        have hw2 : IntKind.i64.wrap ((cntN ((Rose.nodes t).take k) : Int) + 1 + ((boxedT a.ty : Int) + (boxedT a.res : Int))) = (cntN ((Rose.nodes t).take (k + 1)) : Int) := by
          rw [IntWalk.i64_in _ (by omega), HTK.out]; omega
        generalize hU' : (cntN ((Rose.nodes t).take (k + 1)) : Int) = U' at *
        have HU := Lib.hid hU'
        clear hU' hle hcb hnc hk2
        generalize (cntN ((Rose.nodes t).take k) : Int) = U at *
        go_upto_region 10 with fail
        refine wp_region_gw (by kernel_rfl) (by kernel_rfl) ?_
        repeat ((with_reducible refine wpQuiet_step (fun K hK => ?_)); go_simp; refine hK _ ?_; clear hK K)
        refine wpQuiet_step (fun K hK => ?_); go_simp; refine ⟨(.int .i64 (boxedT a.ty : Nat)), fun _ => calls_gw (CB1.out _), hK _ ?_⟩; clear hK K
        repeat ((with_reducible refine wpQuiet_step (fun K hK => ?_)); go_simp; refine hK _ ?_; clear hK K)
        refine wpQuiet_step (fun K hK => ?_); go_simp; refine ⟨(.int .i64 (boxedT a.res : Nat)), fun _ => calls_gw (CB2.out _), hK _ ?_⟩; clear hK K
        repeat ((with_reducible refine wpQuiet_step (fun K hK => ?_)); go_simp; refine hK _ ?_; clear hK K)
        refine wpQuiet_nil ?_
        rintro w4 ⟨g, rfl⟩
        have HB4 := Lib.hid (HBR.out.trans ((gw_below wr g).mono HBR.out.size))
        go_wp2_with fail
        go_roundw
        case rel => exact ⟨k + 1, by omega, by go_num, by rw [HU.out], HB4.out⟩
        case measure => simp [intOf]; omega
      · rw [if_neg hk2] at hnc
        have ek : decide (a.kind > 2) = false := by simpa using hk2
        have hw2 : IntKind.i64.wrap ((cntN ((Rose.nodes t).take k) : Int) + ((boxedT a.ty : Int) + (boxedT a.res : Int))) = (cntN ((Rose.nodes t).take (k + 1)) : Int) := by
          rw [IntWalk.i64_in _ (by omega), HTK.out]; omega
        generalize hU' : (cntN ((Rose.nodes t).take (k + 1)) : Int) = U' at *
        have HU := Lib.hid hU'
        clear hU' hle hcb hnc hk2
        generalize (cntN ((Rose.nodes t).take k) : Int) = U at *
        go_upto_region 10 with fail
        refine wp_region_gw (by kernel_rfl) (by kernel_rfl) ?_
        repeat ((with_reducible refine wpQuiet_step (fun K hK => ?_)); go_simp; refine hK _ ?_; clear hK K)
        refine wpQuiet_step (fun K hK => ?_); go_simp; refine ⟨(.int .i64 (boxedT a.ty : Nat)), fun _ => calls_gw (CB1.out _), hK _ ?_⟩; clear hK K
        repeat ((with_reducible refine wpQuiet_step (fun K hK => ?_)); go_simp; refine hK _ ?_; clear hK K)
        refine wpQuiet_step (fun K hK => ?_); go_simp; refine ⟨(.int .i64 (boxedT a.res : Nat)), fun _ => calls_gw (CB2.out _), hK _ ?_⟩; clear hK K
        repeat ((with_reducible refine wpQuiet_step (fun K hK => ?_)); go_simp; refine hK _ ?_; clear hK K)
        refine wpQuiet_nil ?_
        rintro w4 ⟨g, rfl⟩
        have HB4 := Lib.hid (HBR.out.trans ((gw_below wr g).mono HBR.out.size))
        go_wp2_with fail
        go_roundw
        case rel => exact ⟨k + 1, by omega, by go_num, by rw [HU.out], HB4.out⟩
        case measure => simp [intOf]; omega
    · have hkn : k = t.size := by omega
      have hfull : (Rose.nodes t).take k = Rose.nodes t := take_full (by rw [HNL.out, hkn]; exact Nat.le_refl _)
      rw [hfull]
      have hcb := HCB.out
      have HBX := Lib.hid (HBX.out.below HBR.out)
      have HTE := Lib.hid (HTE.out.below HBR.out)
      have HB := HBW
      have HQ40 : Hid (countW (wordsT t) (strsOf #[.string ⟨#[40]⟩]) = cntN (Rose.nodes t)) := HC1.out HM.out ⟨#[40]⟩ (.inl rfl)
      have HQ41 : Hid (countW (wordsT t) (strsOf #[.string ⟨#[41]⟩]) = cntN (Rose.nodes t)) := HC1.out HM.out ⟨#[41]⟩ (.inr rfl)
      have HQ2 : Hid (countW (wordsT t) (strsOf #[.string ⟨#[40]⟩, .string ⟨#[41]⟩]) = 2 * cntN (Rose.nodes t)) := HC2.out HM.out
      have hw3 : IntKind.i64.wrap (2 * (cntN (Rose.nodes t) : Int)) = ((2 * cntN (Rose.nodes t) : Nat) : Int) := by rw [IntWalk.i64_in _ (by omega)]; omega
      have HCN := Lib.hid (fun (W : World) (hb : Below wr.heap.size wr W) (gs : Nat) (hgs : W.heap.size = gs) (n : Nat) (hm : n ≤ 1000) (cs : Array Value) (hn : cs.size = n) (hcs : cs = ((strsOf cs).flatMap encS).toArray) (e : TypeId) =>
        (show Calls Tryz.prog 16 #[aggT t.head, .slice (some ⟨gs, 0, none⟩) n n] (W.alloc (.cells cs e)) fun e' w' => e' = .returned (.int .i64 (countW (wordsT t) (strsOf cs))) ∧ Below W.heap.size W w' by
          subst hgs
          have hba : Below W.heap.size W (W.alloc (.cells cs e)) := (Below.refl _ _).alloc (Nat.le_refl _) _
          refine (Count_any ((HTE.out.below hb).below hba) (row_made encS_len (by omega) W e (strsOf cs) n cs hcs (by simp [strsOf, hn]) (by unfold maxLen; omega))).mono ?_
          rintro e' w' ⟨rfl, hb'⟩
          exact ⟨rfl, hba.trans (hb'.mono hba.size)⟩))
      generalize 2 * cntN (Rose.nodes t) = N2 at *
      generalize cntN (Rose.nodes t) = N at *
      have HBZ : Hid (Below wr.heap.size wr wr) := Lib.hid (Below.refl _ _)
      go_wp2_with (first
        | (refine wpList_load_row rfl 31 _ rfl w.heap.size rfl 31 _ (0, 0) _ HBX.out.blk Tryz.underlying31 rfl (by kernel_rfl) ?_)
        | (refine wpList_load_midG (by rfl) 31 _ rfl w.heap.size 0 rfl [.int .u8 t.head.kind, .int .u8 t.head.op, .int .i64 t.head.at_, .int .i64 t.head.n, .string t.head.name, .string t.head.arg, .string t.head.exn, .int .i64 t.head.rho, .slice t.head.rp t.head.rn t.head.rc, .slice t.head.ep t.head.en t.head.ec, .int .u8 t.head.ty.head.kind, .int .i64 t.head.ty.head.rho, .slice t.head.ty.head.ep t.head.ty.head.en t.head.ty.head.ec, .slice t.head.ty.head.kp t.head.ty.head.kn t.head.ty.head.kc, .int .u8 t.head.res.head.kind, .int .i64 t.head.res.head.rho, .slice t.head.res.head.ep t.head.res.head.en t.head.res.head.ec, .slice t.head.res.head.kp t.head.res.head.kn t.head.res.head.kc, .slice t.head.kp t.head.kn t.head.kc] _ HBX.out.range Tryz.underlying31 rfl (by kernel_rfl) ?_)
        | (go_at_call 16; refine (HCN.out _ HBZ.out _ (by simp) _ (by omega) _ (by rfl) (by simp [strsOf, strOf, encS]) _).mono ?_; (first | rw [HQ40.out] | rw [HQ41.out] | rw [HQ2.out]); rintro e w6 ⟨rfl, hb⟩; have HBZ := Lib.hid (HBZ.out.trans (hb.mono HBZ.out.size)); have HB := Lib.hid (HB.out.trans (hb.mono HB.out.size)); have HBX := Lib.hid (HBX.out.below hb); clear hb)
        | (go_at_call 10; refine (awake_any (HV.out.below HB.out) (HT.out.below HB.out)).mono ?_; rintro e w9 ⟨rfl, hb⟩; have HB := Lib.hid (HB.out.trans (hb.mono HB.out.size)); clear hb))
      go_ret
      exact ⟨rfl, HB.out⟩
end Go.Proofs.YtdlbjngpohkglaaGreatDoor
end
