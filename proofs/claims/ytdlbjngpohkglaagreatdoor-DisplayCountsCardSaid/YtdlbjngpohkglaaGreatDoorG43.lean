/- Part 43 of the texts: Dt, Du, Bx, Jn. -/
import Derived.Test.YtdlbjngpohkglaaGreatDoorG42
section
set_option linter.unusedVariables false
set_option maxRecDepth 100000
set_option linter.unusedSimpArgs false
namespace Go.Proofs.YtdlbjngpohkglaaGreatDoor
open Go.RowKit

/-- a term's words; none, if it may not be -/
def wordsT (t : PA) : List ByteArray := if mayA t then wordsP (piecesT t) else []
theorem ret_val' {a b : Value} (h : a = b) : Ending.returned a = .returned b := by rw [h]
theorem piecesT_ne (t : PA) : wordsP (piecesT t) ≠ [] := by
  obtain ⟨a, l⟩ := t
  rw [piecesT_node]
  have h : ∀ (s : ByteArray) (r : List ByteArray), wordsP (s :: r) ≠ [] := fun s r h => by
    have : wordsP (s :: r) = spl s ++ wordsP r := by simp [wordsP]
    rw [this] at h
    exact spl_ne s (List.append_eq_nil_iff.1 h).1
  unfold nodeP
  split
  · exact h _ _
  split
  · exact h _ _
  · exact h _ _
/-- what a call on a term wants -/
structure TEnv (w : World) (t : PA) : Prop where
  lies : LA.lies w t
  small : SmallNs t
  size : t.size ≤ 1000
  vr : Vr w
  tab : Tab w
theorem TEnv.below {w w' : World} {t : PA} (h : TEnv w t) (hb : Below w.heap.size w w') : TEnv w' t := ⟨LA.lies_below hb t h.lies, h.small, h.size, h.vr.below hb, h.tab.below hb⟩
theorem TEnv.len {w : World} {t : PA} (h : TEnv w t) (hm : mayA t = true) : lensP (piecesT t) ≤ 10000000000 := by
  have h1 := lens_term t h.lies h.small hm
  have h2 := h.size
  omega
theorem TEnv.words {w : World} {t : PA} (h : TEnv w t) (hm : mayA t = true) : (wordsP (piecesT t)).length ≤ 10000000000 := Nat.le_trans (wordsP_len _) (h.len hm)
set_option maxHeartbeats 2000000 in
theorem text_any {w : World} {t : PA} (hT : TEnv w t) :
    Calls Tryz.prog 23 #[aggT t.head] w fun e w' => ∃ p n c, e = .returned (.slice p n c) ∧ IsRow encS 1 w' p n c (wordsT t) ∧ Below w.heap.size w w' := by
  have HB := Lib.hid ((Below.refl w.heap.size w).alloc (Nat.le_refl _) (boxA t.head))
  have HBX := Lib.hid (boxA_new w t.head)
  have HTE := Lib.hid (hT.below HB.out)
  have HMAY := Lib.hid (aterm_May_any t HTE.out.lies HTE.out.small HTE.out.size HTE.out.vr)
  clear hT
  cases hm : mayA t with
  | false =>
    rw [hm] at HMAY
    have HW : Hid (wordsT t = []) := by show _ = _; unfold wordsT; rw [hm]; rfl
    clear hm
    go_enter Tryz.func23, Tryz.ntmps23
    go_wp2_with (first
      | (refine wpList_load_row rfl 31 _ rfl w.heap.size rfl 31 _ (0, 0) _ HBX.out.blk Tryz.underlying31 rfl (by kernel_rfl) ?_)
      | (go_at_call 41; refine HMAY.out.mono ?_; rintro e w2 ⟨rfl, hb⟩; have HB2 := Lib.hid (HB.out.trans (hb.mono HB.out.size)); clear hb))
    go_ret
    exact ⟨_, _, _, rfl, by rw [HW.out]; exact IsRow.none _ _ _, HB2.out⟩
  | true =>
    rw [hm] at HMAY
    have HW : Hid (wordsT t = wordsP (piecesT t)) := by show _ = _; unfold wordsT; rw [hm]; rfl
    have HMT := Lib.hid hm
    clear hm
    go_enter Tryz.func23, Tryz.ntmps23
    go_upto_region 3 with (first
      | (refine wpList_load_row rfl 31 _ rfl w.heap.size rfl 31 _ (0, 0) _ HBX.out.blk Tryz.underlying31 rfl (by kernel_rfl) ?_)
      | (go_at_call 41; refine HMAY.out.mono ?_; rintro e w2 ⟨rfl, hb⟩; have HB2 := Lib.hid (HB.out.trans (hb.mono HB.out.size)); have HTE2 := Lib.hid (HTE.out.below hb); have HBX2 := Lib.hid (HBX.out.below hb); clear hb))
    have hb3 : Below w2.heap.size w2 (w2.alloc (.cells #[.slice none 0 0] 65)) := (Below.refl _ _).alloc (Nat.le_refl _) _
    have HBX3 := Lib.hid (HBX2.out.below hb3)
    have HB3 := Lib.hid hb3
    have HWR : Hid (WrS w2.heap.size [] (w2.alloc (.cells #[.slice none 0 0] 65)) (.slice none 0 0)) := Lib.hid ⟨heap_alloc_new w2 _, OwnE.nil _ _ _ _ _⟩
    have HTA := Lib.hid (termAt_any ⟨Nat.le_refl _, HTE2.out.vr, HTE2.out.tab⟩ t HTE2.out.lies HTE2.out.small HMT.out _ _ _ hb3 HWR.out (by have := HTE2.out.words HMT.out; simp only [List.length_nil]; omega))
    clear hb3
    go_wp2_with (first
      | (refine wpList_load_row rfl 31 _ rfl w.heap.size rfl 31 _ (0, 0) _ HBX3.out.blk Tryz.underlying31 rfl (by kernel_rfl) ?_)
      | (go_at_call 42; refine HTA.out.mono ?_; rintro e w4 ⟨rfl, v4, hw4, ht4⟩; have HW4 := Lib.hid hw4; have HT4 := Lib.hid ht4; clear hw4 ht4; obtain ⟨x0, x1⟩ := HW4.out.cells))
    go_ret
    obtain ⟨p, c, hv, hrow⟩ := HW4.out.own.isRow encS_len (by omega)
    rw [List.nil_append] at hv hrow
    exact ⟨p, _, c, ret_val' hv, by rw [HW.out]; exact hrow, HB2.out.trans ((HT4.out.under HB3.out (Nat.le_refl _) (fun b hb => (HWR.out.from b hb).1)).mono HB2.out.size)⟩
end Go.Proofs.YtdlbjngpohkglaaGreatDoor
end
section
set_option linter.unusedVariables false
set_option maxRecDepth 100000
set_option linter.unusedSimpArgs false
namespace Go.Proofs.YtdlbjngpohkglaaGreatDoor
open Go.RowKit

/-- strings.Join of a row with a word -/
theorem join_row {w : World} {p : Option Addr} {n c : Nat} {l : List ByteArray} (h : IsRow encS 1 w p n c l) (hn : l ≠ []) (hm : n ≤ 100000000000) (hs : (joinB l).size ≤ 140737488355328) :
    Calls Tryz.prog 24 #[.slice p n c, .string ⟨#[32]⟩] w fun e w' => e = .returned (.string (joinB l)) ∧ Below w.heap.size w w' := by
  have hl := h.len
  have hp : 0 < l.length := by
    cases l with
    | nil => exact absurd rfl hn
    | cons x r => simp
  obtain ⟨bk, o, rfl, hbk, hcells⟩ := h.row.at hp
  have hc := Tryz.strings_Join bk o c l ⟨#[32]⟩ w (fun j x hx => by simpa [encS] using hcells j x hx 0 _ rfl) hbk (by omega) (by have := h.le; omega) (by rw [joinB_size] at hs; exact hs)
  rw [hl] at hc
  exact hc
theorem joinB_spl (l : List ByteArray) : joinB (wordsP l) = joinB l := joinW_spl l
theorem joinB_lens (l : List ByteArray) : (joinB l).size ≤ lensP l := by
  have h := joinB_le l
  have e : lensP l = (l.map ByteArray.size).sum + l.length := by
    induction l with
    | nil => rfl
    | cons x l ih =>
      rw [lensP_cons, ih (joinB_le l), List.map_cons, List.sum_cons, List.length_cons]
      omega
  omega
/-- a term's text -/
def textOf (t : PA) : ByteArray := joinB (piecesT t)
/-- what Term answers -/
def termR (t : PA) : Value := .tuple #[.string (if mayA t then textOf t else ⟨#[]⟩), .int .i64 (if mayA t then 0 else 1)]
set_option maxHeartbeats 2000000 in
theorem Term_any {w : World} {t : PA} (hT : TEnv w t) :
    Calls Tryz.prog 11 #[aggT t.head] w fun e w' => e = .returned (termR t) ∧ Below w.heap.size w w' := by
  have HB := Lib.hid ((Below.refl w.heap.size w).alloc (Nat.le_refl _) (boxA t.head))
  have HBX := Lib.hid (boxA_new w t.head)
  have HTE := Lib.hid (hT.below HB.out)
  have HTX := Lib.hid (text_any HTE.out)
  clear hT
  go_enter Tryz.func11, Tryz.ntmps11
  go_upto_region 2 with (first
    | (refine wpList_load_row rfl 31 _ rfl w.heap.size rfl 31 _ (0, 0) _ HBX.out.blk Tryz.underlying31 rfl (by kernel_rfl) ?_)
    | (go_at_call 23; refine HTX.out.mono ?_; rintro e w2 ⟨p, n, c, rfl, hr, hb⟩; have HB2 := Lib.hid (HB.out.trans (hb.mono HB.out.size)); have HR := Lib.hid hr; clear hb hr))
  have hmx := HR.out.max
  have hln := HR.out.len
  cases hm : mayA t with
  | false =>
    have hw : wordsT t = [] := by unfold wordsT; rw [hm]; rfl
    have hv : Hid (termR t = .tuple #[.string ⟨#[]⟩, .int .i64 1]) := by show _ = _; unfold termR; rw [hm]; rfl
    rw [hw] at hln
    obtain rfl : n = 0 := by simpa using hln.symm
    clear hln hmx hm
    go_wp2_with fail
    go_ret2
    exact ⟨ret_val' hv.out.symm, HB2.out⟩
  | true =>
    have hw : wordsT t = wordsP (piecesT t) := by unfold wordsT; rw [hm]; rfl
    have hv : Hid (termR t = .tuple #[.string (joinB (wordsP (piecesT t))), .int .i64 0]) := by show _ = _; unfold termR textOf; rw [hm, joinB_spl]; rfl
    have hlen := HTE.out.words hm
    have hle := HTE.out.len hm
    have hjs : (joinB (wordsP (piecesT t))).size ≤ 140737488355328 := by rw [joinB_spl]; have := joinB_lens (piecesT t); omega
    rw [hw] at hln HR
    have hne := piecesT_ne t
    have hn0 : n ≠ 0 := by
      intro e
      rw [e] at hln
      exact hne (List.eq_nil_of_length_eq_zero hln)
    have HJ := Lib.hid (join_row HR.out hne (by omega) hjs)
    have hb0 : ((n : Int) == 0) = false := by simpa using hn0
    clear hln hmx hm hne hn0
    go_wp2_with (go_at_call 24; refine HJ.out.mono ?_; rintro e w3 ⟨rfl, hb⟩; have HB3 := Lib.hid (HB2.out.trans (hb.mono HB2.out.size)); clear hb)
    go_ret2
    exact ⟨ret_val' hv.out.symm, HB3.out⟩
/-- how many words are one of some -/
def countW (ws bw : List ByteArray) : Nat := (ws.filter (fun s => bw.any (fun y => decide (y = s)))).length
theorem countW_take {ws bw : List ByteArray} {k : Nat} {s : ByteArray} (h : ws[k]? = some s) : countW (ws.take (k + 1)) bw = countW (ws.take k) bw + (if bw.any (fun y => decide (y = s)) then 1 else 0) := by
  unfold countW
  rw [take_succ_get h, List.filter_append, List.length_append]
  cases hb : bw.any (fun y => decide (y = s)) <;> simp [hb]
theorem countW_le (ws bw : List ByteArray) : countW ws bw ≤ ws.length := List.length_filter_le _ _
theorem containsS_any {w : World} {p : Option Addr} {n c : Nat} {bw : List ByteArray} (h : IsRow encS 1 w p n c bw) (s : ByteArray) :
    Calls Tryz.prog 28 #[.slice p n c, .string s] w fun e w' => e = .returned (.bool (bw.any (fun y => decide (y = s)))) ∧ w' = w := by
  have hln := h.len
  have hmx := h.max
  rcases h.row with h0 | ⟨b, o, hp, hb, hc⟩
  · subst h0
    obtain rfl : n = 0 := by simpa using hln.symm
    exact Tryz.slices_Contains_string_empty p c s w
  · subst hp
    refine (Tryz.slices_Contains_string b o n c bw s w (by omega) hmx (fun j hj => ?_)).mono ?_
    · have := hc j (bw[j]) (List.getElem?_eq_getElem hj) 0 (.string bw[j]) rfl
      rw [List.getD_eq_getElem?_getD, List.getElem?_eq_getElem hj]
      simpa using this
    · rintro e w' ⟨rfl, rfl⟩
      rw [List.take_of_length_le (by omega)]
      refine ⟨?_, rfl⟩
      have e : Lib.containsS bw s = bw.any (fun y => decide (y = s)) := by
        rw [Bool.eq_iff_iff, Lib.containsS_iff, List.any_eq_true]
        simp
      rw [e]
set_option maxHeartbeats 2000000 in
theorem Count_any {w : World} {t : PA} (hT : TEnv w t) {p : Option Addr} {n c : Nat} {bw : List ByteArray} (hbw : IsRow encS 1 w p n c bw) :
    Calls Tryz.prog 16 #[aggT t.head, .slice p n c] w fun e w' => e = .returned (.int .i64 (countW (wordsT t) bw)) ∧ Below w.heap.size w w' := by
  have HB := Lib.hid ((Below.refl w.heap.size w).alloc (Nat.le_refl _) (boxA t.head))
  have HBX := Lib.hid (boxA_new w t.head)
  have HTE := Lib.hid (hT.below HB.out)
  have HTX := Lib.hid (text_any HTE.out)
  have HBW := Lib.hid hbw
  have HLW : Hid ((wordsT t).length ≤ 10000000000) := by
    show _ ≤ _
    unfold wordsT
    cases hm : mayA t with
    | false => simp
    | true => exact HTE.out.words hm
  clear hT hbw
  go_enter Tryz.func16, Tryz.ntmps16
  go_upto_region 2 with fail
  go_upto_region 3 with (first
    | (refine wpList_load_row rfl 31 _ rfl w.heap.size rfl 31 _ (0, 0) _ HBX.out.blk Tryz.underlying31 rfl (by kernel_rfl) ?_)
    | (go_at_call 23; refine HTX.out.mono ?_; rintro e w2 ⟨q, m, d, rfl, hr, hb⟩; have HB2 := Lib.hid (HB.out.trans (hb.mono HB.out.size)); have HR := Lib.hid hr; have hmx := hr.max; clear hb hr))
  go_loopw [5, 7, 11] (fun u _ i wr => ∃ k : Nat, k ≤ m ∧ i = .int .i64 k ∧ u = .int .i64 (countW ((wordsT t).take k) bw) ∧ wr = w2) (fun _ _ i _ => m - (intOf i).toNat)
  case atStart => exact ⟨0, by omega, rfl, rfl, rfl⟩
  case round =>
    obtain ⟨k, hk, rfl, rfl, rfl⟩ := hrel
    by_cases hlt : k < m
    · obtain ⟨s, hx⟩ := get_of_lt (l := wordsT t) (j := k) (by rw [HR.out.len]; exact hlt)
      obtain ⟨b, o, rfl, d0⟩ := HR.out.row.str hx
      have HCT := Lib.hid (countW_take (bw := bw) hx)
      have hcl := countW_le ((wordsT t).take k) bw
      have htl : ((wordsT t).take k).length ≤ k := by rw [List.length_take]; omega
      have hmm : m ≤ 10000000000 := by have := HR.out.len; have := HLW.out; omega
      have HC := Lib.hid (containsS_any (HBW.out.below HB2.out) s)
      clear hx
      cases hq : bw.any (fun y => decide (y = s)) with
      | false =>
        rw [hq] at HC HCT
        clear hq
        go_wp2_with (go_at_call 28; refine HC.out.mono ?_; rintro e w3 ⟨rfl, rfl⟩)
        go_roundw
        case rel => exact ⟨k + 1, by omega, by go_num, by rw [HCT.out]; rfl, trivial⟩
        case measure => simp [intOf]; omega
      | true =>
        rw [hq] at HC HCT
        clear hq
        have hwr : IntKind.i64.wrap ((countW ((wordsT t).take k) bw : Int) + 1) = (countW ((wordsT t).take k) bw : Int) + 1 := IntWalk.i64_in _ (by omega)
        go_wp2_with (go_at_call 28; refine HC.out.mono ?_; rintro e w3 ⟨rfl, rfl⟩)
        go_roundw
        case rel => exact ⟨k + 1, by omega, by go_num, by rw [HCT.out]; simp, trivial⟩
        case measure => simp [intOf]; omega
    · have hkm : k = m := by omega
      have hfull : (wordsT t).take k = wordsT t := take_full (by rw [HR.out.len, hkm]; exact Nat.le_refl _)
      rw [hfull]
      go_wp2_with fail
      go_ret
      exact ⟨rfl, HB2.out⟩
end Go.Proofs.YtdlbjngpohkglaaGreatDoor
end
section
set_option linter.unusedVariables false
set_option maxRecDepth 100000
set_option linter.unusedSimpArgs false
namespace Go.Proofs.YtdlbjngpohkglaaGreatDoor
open Go.RowKit

/-- how many nodes of a type are no numbers -/
def boxedT : PT → Nat := Rose.fold (fun a l => (if 1 < a.kind then 1 else 0) + l.sum)
theorem boxedT_node (a : RH) (l : List PT) : boxedT (.node a l) = (if 1 < a.kind then 1 else 0) + (l.map boxedT).sum := Rose.fold_node _ a l
theorem sum_le_sum (f g : PT → Nat) : ∀ l : List PT, (∀ x ∈ l, f x ≤ g x) → (l.map f).sum ≤ (l.map g).sum
  | [], _ => by simp
  | x :: l, h => by
    have h1 := h x (by simp)
    have h2 := sum_le_sum f g l (fun y hy => h y (List.mem_cons_of_mem _ hy))
    simp only [List.map_cons, List.sum_cons]
    omega
theorem boxedT_le (t : PT) : boxedT t ≤ t.size := by
  refine Rose.ind (P := fun (t : PT) => boxedT t ≤ t.size) (fun a l ih => ?_) t
  rw [boxedT_node, Rose.size_node]
  have := sum_le_sum boxedT Rose.size l ih
  split <;> omega
def BoxedAt (t : PT) (W : World) : Prop := Calls Tryz.prog 20 #[aggR t.head] W fun e w' => e = .returned (.int .i64 (boxedT t)) ∧ Below W.heap.size W w'
theorem boxes_take {l : List PT} {k : Nat} {x : PT} (h : l[k]? = some x) : ((l.take (k + 1)).map boxedT).sum = ((l.take k).map boxedT).sum + boxedT x := by
  rw [take_succ_get h, List.map_append, List.sum_append_nat]; simp
theorem boxes_le (l : List PT) (k : Nat) : ((l.take k).map boxedT).sum ≤ (l.map boxedT).sum := by
  have h : l.map boxedT = (l.take k).map boxedT ++ (l.drop k).map boxedT := by rw [← List.map_append, List.take_append_drop]
  rw [h, List.sum_append_nat]; omega
/-- the box of boxed -/
structure BxS (w W : World) (a : RH) : Prop where
  c0 : W.cell? ⟨w.heap.size, 0, none⟩ = some (.int .u8 a.kind)
  c3 : W.cell? ⟨w.heap.size, 3, none⟩ = some (.slice a.kp a.kn a.kc)
  below : Below w.heap.size w W
theorem BxS.drop {w W W' : World} {a : RH} (h : BxS w W a) (hb : Below W.heap.size W W') : BxS w W' a :=
  ⟨by rw [hb.cell (cell_block h.c0)]; exact h.c0, by rw [hb.cell (cell_block h.c3)]; exact h.c3, h.below.trans (hb.mono h.below.size)⟩
set_option maxHeartbeats 2000000 in
theorem boxed_of {a : RH} {l : List PT} {w : World} (hN : NodeIn w a l) (hs : (Rose.node a l).size ≤ 1000) (hf : ∀ x ∈ l, ∀ W, Below w.heap.size w W → BoxedAt x W) : BoxedAt (.node a l) w := by
  have HN := Lib.hid hN
  have HF := Lib.hid hf
  have HBX : Hid (Below w.heap.size w (w.alloc (.cells #[.int .u8 a.kind, .int .i64 a.rho, .slice a.ep a.en a.ec, .slice a.kp a.kn a.kc] 28))) := (Below.refl _ _).alloc (Nat.le_refl _) _
  have HSZ : Hid ((l.map boxedT).sum ≤ 1000) := by
    have h1 := boxedT_le (.node a l)
    rw [boxedT_node] at h1
    show _ ≤ _
    split at h1 <;> omega
  have hmx := hN.kids.max
  have c00 : (w.alloc (.cells #[.int .u8 a.kind, .int .i64 a.rho, .slice a.ep a.en a.ec, .slice a.kp a.kn a.kc] 28)).cell? ⟨w.heap.size, 0, none⟩ = some (.int .u8 a.kind) := by rw [cell_new]; rfl
  have c03 : (w.alloc (.cells #[.int .u8 a.kind, .int .i64 a.rho, .slice a.ep a.en a.ec, .slice a.kp a.kn a.kc] 28)).cell? ⟨w.heap.size, 3, none⟩ = some (.slice a.kp a.kn a.kc) := by rw [cell_new]; rfl
  have HB0 : Hid (BxS w (w.alloc (.cells #[.int .u8 a.kind, .int .i64 a.rho, .slice a.ep a.en a.ec, .slice a.kp a.kn a.kc] 28)) a) := Lib.hid ⟨c00, c03, HBX.out⟩
  have hv0 := boxedT_node a l
  clear hN hf hs c00 c03
  show Calls Tryz.prog 20 #[aggR a] w fun e w' => e = .returned (.int .i64 (boxedT (.node a l))) ∧ Below w.heap.size w w'
  by_cases hk : 1 < a.kind
  · have HV : Hid (boxedT (.node a l) = 1 + (l.map boxedT).sum) := by show _ = _; rw [hv0, if_pos hk]
    have ek : decide (a.kind > 1) = true := by simpa using hk
    clear hk hv0
    go_enter Tryz.func20, Tryz.ntmps20
    go_upto_region 1 with fail
    generalize w.alloc (.cells #[.int .u8 a.kind, .int .i64 a.rho, .slice a.ep a.en a.ec, .slice a.kp a.kn a.kc] 28) = W1 at *
    have c0 := HB0.out.c0
    have c3 := HB0.out.c3
    go_wp2_with fail
    go_loopw [3, 4] (fun u i wr => ∃ k : Nat, k ≤ a.kn ∧ i = .int .i64 k ∧ u = .int .i64 ((1 + ((l.take k).map boxedT).sum : Nat) : Int) ∧ BxS w wr a) (fun _ i _ => a.kn - (intOf i).toNat)
    case atStart => exact ⟨0, by omega, rfl, by simp, HB0.out⟩
    case round =>
      obtain ⟨k, hk, rfl, rfl, hb⟩ := hrel
      have HB := Lib.hid hb
      clear hb c0 c3
      have c0 := HB.out.c0
      have c3 := HB.out.c3
      by_cases hlt : k < a.kn
      · obtain ⟨x, hx⟩ := HN.out.rowT.at (j := k) hlt
        obtain ⟨b, o, hbo, hbl, d0, d1, d2, d3⟩ := (HN.out.rowT.below HB.out.below).kid hx
        have HF1 := Lib.hid (HF.out x (List.mem_of_getElem? hx) _ HB.out.below)
        have HTK := Lib.hid (boxes_take hx)
        have hle := boxes_le l (k + 1)
        rw [HTK.out] at hle
        have hsz := HSZ.out
        have hwr : IntKind.i64.wrap (((1 + ((l.take k).map boxedT).sum : Nat) : Int) + (boxedT x : Nat)) = ((1 + ((l.take (k + 1)).map boxedT).sum : Nat) : Int) := by
          rw [IntWalk.i64_in _ (by omega), HTK.out]; omega
        generalize ((1 + ((l.take k).map boxedT).sum : Nat) : Int) = U at *
        generalize hU' : ((1 + ((l.take (k + 1)).map boxedT).sum : Nat) : Int) = U' at *
        have HU := Lib.hid hU'
        clear hU'
        rw [hbo] at c3
        clear hx hbl hle hsz hbo
        go_wp2_with (go_at_call 20; refine HF1.out.mono ?_; rintro e w8 ⟨rfl, hb⟩; have HB8 := Lib.hid (HB.out.drop hb); clear hb)
        go_roundw
        case rel => exact ⟨k + 1, by omega, by go_num, by rw [HU.out], HB8.out⟩
        case measure => simp [intOf]; omega
      · have hkn : k = a.kn := by omega
        have hfull : l.take k = l := take_full (by rw [HN.out.kids.len, hkn]; exact Nat.le_refl _)
        rw [hfull]
        go_wp2_with fail
        go_ret
        exact ⟨ret_int (by rw [HV.out]), HB.out.below⟩
  · have HV : Hid (boxedT (.node a l) = 0 + (l.map boxedT).sum) := by show _ = _; rw [hv0, if_neg hk]
    have ek : decide (a.kind > 1) = false := by simpa using hk
    clear hk hv0
    go_enter Tryz.func20, Tryz.ntmps20
    go_upto_region 1 with fail
    generalize w.alloc (.cells #[.int .u8 a.kind, .int .i64 a.rho, .slice a.ep a.en a.ec, .slice a.kp a.kn a.kc] 28) = W1 at *
    have c0 := HB0.out.c0
    have c3 := HB0.out.c3
    go_wp2_with fail
    go_loopw [3, 4] (fun u i wr => ∃ k : Nat, k ≤ a.kn ∧ i = .int .i64 k ∧ u = .int .i64 ((0 + ((l.take k).map boxedT).sum : Nat) : Int) ∧ BxS w wr a) (fun _ i _ => a.kn - (intOf i).toNat)
    case atStart => exact ⟨0, by omega, rfl, by simp, HB0.out⟩
    case round =>
      obtain ⟨k, hk, rfl, rfl, hb⟩ := hrel
      have HB := Lib.hid hb
      clear hb c0 c3
      have c0 := HB.out.c0
      have c3 := HB.out.c3
      by_cases hlt : k < a.kn
      · obtain ⟨x, hx⟩ := HN.out.rowT.at (j := k) hlt
        obtain ⟨b, o, hbo, hbl, d0, d1, d2, d3⟩ := (HN.out.rowT.below HB.out.below).kid hx
        have HF1 := Lib.hid (HF.out x (List.mem_of_getElem? hx) _ HB.out.below)
        have HTK := Lib.hid (boxes_take hx)
        have hle := boxes_le l (k + 1)
        rw [HTK.out] at hle
        have hsz := HSZ.out
        have hwr : IntKind.i64.wrap (((0 + ((l.take k).map boxedT).sum : Nat) : Int) + (boxedT x : Nat)) = ((0 + ((l.take (k + 1)).map boxedT).sum : Nat) : Int) := by
          rw [IntWalk.i64_in _ (by omega), HTK.out]; omega
        generalize ((0 + ((l.take k).map boxedT).sum : Nat) : Int) = U at *
        generalize hU' : ((0 + ((l.take (k + 1)).map boxedT).sum : Nat) : Int) = U' at *
        have HU := Lib.hid hU'
        clear hU'
        rw [hbo] at c3
        clear hx hbl hle hsz hbo
        go_wp2_with (go_at_call 20; refine HF1.out.mono ?_; rintro e w8 ⟨rfl, hb⟩; have HB8 := Lib.hid (HB.out.drop hb); clear hb)
        go_roundw
        case rel => exact ⟨k + 1, by omega, by go_num, by rw [HU.out], HB8.out⟩
        case measure => simp [intOf]; omega
      · have hkn : k = a.kn := by omega
        have hfull : l.take k = l := take_full (by rw [HN.out.kids.len, hkn]; exact Nat.le_refl _)
        rw [hfull]
        go_wp2_with fail
        go_ret
        exact ⟨ret_int (by rw [HV.out]), HB.out.below⟩
theorem boxedAt_any (t : PT) : ∀ w, LR.lies w t → t.size ≤ 1000 → BoxedAt t w := by
  refine Rose.ind (P := fun (t : PT) => ∀ w, LR.lies w t → t.size ≤ 1000 → BoxedAt t w) (fun a l ih => ?_) t
  intro w hl hs
  have HN := nodeIn hl
  refine boxed_of HN hs (fun x hx W hW => ih x hx W (LR.lies_below hW x (HN.each x hx)) ?_)
  have h1 := hs
  rw [Rose.size_node] at h1
  have h2 : x.size ≤ (l.map Rose.size).sum := le_sum_of_mem (List.mem_map_of_mem hx)
  omega
end Go.Proofs.YtdlbjngpohkglaaGreatDoor
end
section
set_option linter.unusedVariables false
set_option maxRecDepth 100000
set_option linter.unusedSimpArgs false
namespace Go.Proofs.YtdlbjngpohkglaaGreatDoor
open Go.RowKit

theorem app_data (a b : ByteArray) : (a ++ b).data.toList = a.data.toList ++ b.data.toList := by
  rw [ByteArray.data_append, Array.toList_append]
theorem joinB_data (l : List ByteArray) : (joinB l).data.toList = Lib.join (l.map (·.data.toList)) [32] := rfl
theorem joinB_one (x : ByteArray) : joinB [x] = x := by
  apply ba_ext
  rw [joinB_data]
  exact Lib.join_one _ _
theorem joinB_app (a b : List ByteArray) (ha : a ≠ []) (hb : b ≠ []) : joinB (a ++ b) = joinB a ++ (⟨#[32]⟩ ++ joinB b) := by
  apply ba_ext
  rw [joinB_data, app_data, app_data, joinB_data, joinB_data, List.map_append, join32_app _ _ (by simpa using ha) (by simpa using hb)]
  rfl
theorem joinB_cons (x : ByteArray) (l : List ByteArray) (hl : l ≠ []) : joinB (x :: l) = x ++ (⟨#[32]⟩ ++ joinB l) := by
  have := joinB_app [x] l (by simp) hl
  rwa [joinB_one] at this
theorem piecesT_ne' (t : PA) : piecesT t ≠ [] := fun h => piecesT_ne t (by rw [h]; rfl)
/-- the text of a term with a region around it -/
theorem region_text (a : AH) (t : PA) (h : a.kind = 17) : textOf (.node a [t]) = ⟨#[40, 32, 114, 101, 103, 105, 111, 110, 32]⟩ ++ decB a.rho ++ ⟨#[32, 105, 110, 32]⟩ ++ textOf t ++ ⟨#[32, 41]⟩ := by
  have hp : piecesT (.node a [t]) = ⟨#[40]⟩ :: ⟨#[114, 101, 103, 105, 111, 110]⟩ :: decB a.rho :: ⟨#[105, 110]⟩ :: (piecesT t ++ [⟨#[41]⟩]) := by
    rw [piecesT_node]
    unfold nodeP innerP binderP
    simp [h, kidsP, kidsTo, betw]
  unfold textOf
  rw [hp, joinB_cons _ _ (by simp), joinB_cons _ _ (by simp), joinB_cons _ _ (by simp), joinB_cons _ _ (by simp [piecesT_ne']), joinB_app _ _ (piecesT_ne' t) (by simp), joinB_one]
  apply ba_ext
  simp [app_data]
end Go.Proofs.YtdlbjngpohkglaaGreatDoor
end
