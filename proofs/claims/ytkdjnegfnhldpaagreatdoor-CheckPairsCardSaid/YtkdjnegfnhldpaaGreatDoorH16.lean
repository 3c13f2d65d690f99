/- Part 16: Once, Node, Hdd, Reg. -/
import Derived.RangeFuncBox
import Derived.RangeFuncLeaves
import Derived.Shelf.Abstract
import Derived.WalkKit
import Derived.OwnWalkIn
import Derived.TacticsInMore
import Derived.LoopNIn
import Derived.LoopIn
import Derived.Maps.AppendAt
import Derived.Test.YtkdjnegfnhldpaaGreatDoorH08
import Derived.Test.YtkdjnegfnhldpaaGreatDoorH05
import Derived.Test.YtkdjnegfnhldpaaGreatDoorH15
set_option linter.unusedVariables false
set_option maxRecDepth 100000
set_option linter.unusedSimpArgs false
namespace Go.Proofs.YtkdjnegfnhldpaaGreatDoor
open Go.Lib (hid)
section
open Go.RowKit Go.Shelf
attribute [local go_sem] Oper.semAt_some
def upto (f : Nat → Int) (k : Nat) : List Int := (List.range k).map f
theorem upto_succ (f : Nat → Int) (k : Nat) : upto f (k + 1) = upto f k ++ [f k] := by simp [upto, List.range_succ]
theorem upto_length (f : Nat → Int) (k : Nat) : (upto f k).length = k := by simp [upto]
theorem upto_all (zs : List Int) : upto (fun j => zs[j]?.getD 0) zs.length = zs := by
  apply List.ext_getElem
  · simp [upto]
  · intro i h1 h2
    simp [upto, h2]
theorem upto_take (zs : List Int) {k : Nat} (hk : k ≤ zs.length) : upto (fun j => zs[j]?.getD 0) k = zs.take k := by
  apply List.ext_getElem
  · simp [upto, hk]
  · intro i h1 h2
    have : i < zs.length := by simp [upto] at h1; omega
    simp [upto, this]
set_option maxHeartbeats 2000000 in
theorem values1_in (F : Fence) (n : Nat) (h7 : F.fn 173) (hro : F.round = none) (hn : 1 ≤ n) (l Bs n₀ b off len cap : Nat) (zs : List Int) (hreach : len * 8 ≤ 140737488351232) (hb : b < n₀) (J Jx : List Int → World → Prop)
    (hY : ∀ pre x W, J pre W → pre.length < len → YieldAt F (n - 1) Tryz.prog l #[.int .i64 x] W fun e W' =>
      (e = .returned (.bool true) ∧ J (pre ++ [x]) W' ∧ Below n₀ W W') ∨ (e = .returned (.bool false) ∧ Jx (pre ++ [x]) W'))
    (W : World) (hBs : W.cell? ⟨Bs, 0, none⟩ = some (.slice (some ⟨b, off, none⟩) len cap)) (hc : ∀ j, j < len → W.cell? ⟨b, off + j, none⟩ = some (.int .i64 (zs[j]?.getD 0))) (h0 : J [] W) :
    CallsIn F n Tryz.prog 173 #[.func (.yield l) #[] #[], .pointer (some ⟨Bs, 0, none⟩)] W fun e W' => (∃ v, e = .returned v) ∧
      ((∃ ys, ys = upto (fun j => zs[j]?.getD 0) len ∧ J ys W') ∨ (∃ pre, (∃ k, k ≤ len ∧ pre = upto (fun j => zs[j]?.getD 0) k) ∧ Jx pre W')) := by
  refine callsIn_of_wp Tryz.func173 rfl h7 ?_ hro
  simp only [Tryz.ntmps173, List.size_toArray, List.length_cons, List.length_nil, Nat.reduceAdd, Nat.reduceSub, Array.replicate_succ, Array.replicate_zero, List.push_toArray, List.append_toArray, List.nil_append, List.cons_append]
  gi_wp2
  gi_loopw [7] (fun i wr => ∃ k : Nat, k ≤ len ∧ i = .int .i64 k ∧ J (upto (fun j => zs[j]?.getD 0) k) wr ∧ Below n₀ W wr)
    (fun i _ => len - (intOf i).toNat)
  case atStart => exact ⟨0, Nat.zero_le _, rfl, h0, Below.refl _ _⟩
  case round =>
    obtain ⟨k, hk, rfl, hJs, hnx⟩ := hrel
    have hcx : k < len → wr.cell? ⟨b, off + k, none⟩ = some (.int .i64 (zs[k]?.getD 0)) := fun h => (hnx.cell (p := ⟨b, off + k, none⟩) hb).trans (hc k h)
    by_cases hlt : k < len
    · obtain ⟨fn, tmps, assign, body, hy, hR⟩ := hY _ (zs[k]?.getD 0) wr hJs (by rw [upto_length]; exact hlt)
      have hcx' := hcx hlt
      gi_wp2
      refine hR.mono ?_
      rintro e W3 (⟨rfl, hJ3, hk3⟩ | ⟨rfl, hJx3⟩)
      · gi_wp2
        go_roundw
        case rel => exact ⟨k + 1, by omega, by simp, by rw [upto_succ]; exact hJ3, hnx.trans hk3⟩
        case measure => simp [intOf]; omega
      · gi_wp2
        refine bodyPost_ret (results_none rfl _ _ _) rfl ?_
        exact ⟨⟨_, rfl⟩, .inr ⟨_, ⟨k + 1, by omega, (upto_succ _ _).symm⟩, hJx3⟩⟩
    · obtain rfl : k = len := by omega
      gi_wp2
      go_end0
      exact ⟨⟨_, rfl⟩, .inl ⟨_, rfl, hJs⟩⟩
def IntsB (n₀ : Nat) (W : World) (sv : Value) (zs : List Int) : Prop :=
  (∃ p c, sv = .slice p 0 c ∧ zs = []) ∨ ∃ b off cap, sv = .slice (some ⟨b, off, none⟩) zs.length cap ∧ b < n₀ ∧ ∀ j, j < zs.length → W.cell? ⟨b, off + j, none⟩ = some (.int .i64 (zs[j]?.getD 0))
theorem IntsB.below {n₀ : Nat} {A B : World} (h : Below n₀ A B) {sv : Value} {zs : List Int} : IntsB n₀ A sv zs → IntsB n₀ B sv zs
  | .inl e => .inl e
  | .inr ⟨b, off, cap, e, hb, hc⟩ => .inr ⟨b, off, cap, e, hb, fun j hj => (h.cell (p := ⟨b, off + j, none⟩) hb).trans (hc j hj)⟩
set_option maxHeartbeats 1000000 in
theorem values1_nil_in {p : Option Addr} {c : Nat} (F : Fence) (n : Nat) (h7 : F.fn 173) (hro : F.round = none) (l Bs : Nat) (J : List Int → World → Prop) (W : World) (hBs : W.cell? ⟨Bs, 0, none⟩ = some (.slice p 0 c)) (h0 : J [] W) :
    CallsIn F n Tryz.prog 173 #[.func (.yield l) #[] #[], .pointer (some ⟨Bs, 0, none⟩)] W fun e W' => (∃ v, e = .returned v) ∧ J [] W' := by
  refine callsIn_of_wp Tryz.func173 rfl h7 ?_ hro
  simp only [Tryz.ntmps173, List.size_toArray, List.length_cons, List.length_nil, Nat.reduceAdd, Nat.reduceSub, Array.replicate_succ, Array.replicate_zero, List.push_toArray, List.append_toArray, List.nil_append, List.cons_append]
  gi_wp2
  gi_loopw [7] (fun i wr => i = .int .i64 0 ∧ J [] wr) (fun _ _ => 0)
  case atStart => exact ⟨rfl, h0⟩
  case round =>
    obtain ⟨rfl, hJs⟩ := hrel
    gi_wp2
    go_end0
    exact ⟨⟨_, rfl⟩, hJs⟩
theorem values_stops (F : Fence) (n : Nat) (h7 : F.fn 173) (hro : F.round = none) (hn : 1 ≤ n) (Bs n₀ : Nat) (sv : Value) (zs : List Int) (hreach : zs.length * 8 ≤ 140737488351232) (w : World) (hBs : Bs < w.heap.size) (hn₀ : n₀ ≤ w.heap.size)
    (hc : w.cell? ⟨Bs, 0, none⟩ = some sv) (hI : IntsB n₀ w sv zs) :
    SeqStopsK F n Tryz.prog 173 #[.pointer (some ⟨Bs, 0, none⟩)] (fun x : Int => #[Value.int .i64 x]) (Below n₀) (fun ys => ys = zs) (fun pre => pre <+: zs) zs.length w := fun l J Jx W hW _ _ hY h0 => by
  have hc' := (hW.cell (p := ⟨Bs, 0, none⟩) hBs).trans hc
  rcases hI.below (hW.mono hn₀) with ⟨p, c, rfl, rfl⟩ | ⟨b, off, cap, rfl, hb, hcs⟩
  · exact (values1_nil_in F n h7 hro l Bs J W hc' h0).mono fun e W' ⟨he, hj⟩ => ⟨he, .inl ⟨_, rfl, hj⟩⟩
  · refine (values1_in F n h7 hro hn l Bs n₀ b off zs.length cap zs hreach hb J Jx hY W hc' hcs h0).mono ?_
    rintro e W' ⟨he, ⟨ys, rfl, hj⟩ | ⟨pre, ⟨k, hk, rfl⟩, hj⟩⟩
    · exact ⟨he, .inl ⟨_, upto_all zs, hj⟩⟩
    · exact ⟨he, .inr ⟨_, by rw [upto_take zs hk]; exact List.take_prefix _ _, hj⟩⟩
set_option maxHeartbeats 2000000 in
theorem appendSeq_in (F : Fence) (n : Nat) (h3 : F.fn 208) (h5 : F.fn 173) (hro : F.round = none) (hn : 3 ≤ n) (Bs : Nat) (sv : Value) (xs : List Int) (hbytes : xs.length * 8 ≤ 140737488351232) (w : World)
    (hBs : Bs < w.heap.size) (hcs : w.cell? ⟨Bs, 0, none⟩ = some sv) (hI : IntsB w.heap.size w sv xs) :
    CallsIn F n Tryz.prog 208 #[.slice none 0 0, .func (.func 173) #[] #[.pointer (some ⟨Bs, 0, none⟩)]] w fun e W' => ∃ v, e = .returned v ∧ W'.ownsRow w.heap.size 3 1 v xs.length (xs.map (Value.int .i64)) ∧ Below w.heap.size w W' := by
  have h1 : 1 ≤ n := by omega
  obtain ⟨i0, hi, hz0, hz1, hz2⟩ := info_parts infoN
  refine callsIn_of_wp_marks Tryz.func208 rfl h3 ?_ hro
  simp only [Tryz.ntmps208, List.size_toArray, List.length_cons, List.length_nil, Nat.reduceAdd, Nat.reduceSub, Array.replicate_succ, Array.replicate_zero, List.push_toArray, List.append_toArray, List.nil_append, List.cons_append]
  gi_wp2
  have bO := Boxed.new w 24 (.slice none 0 0)
  have hB0 : Below w.heap.size w (w.alloc (.cells #[.slice none 0 0] 24)) := (Below.refl _ w).alloc (Nat.le_refl _) _
  refine wpIn_rangeFunc_ownG hro h1 (gf := 173) (lb := #[.pointer (some ⟨Bs, 0, none⟩)]) rfl h5 (enters_of Tryz.func173 (by kernel_rfl) rfl)
    (values_stops F (n - 1) h5 hro (by omega) Bs w.heap.size sv xs hbytes _ (by simp; omega) (by simp) ((hB0.cell (p := ⟨Bs, 0, none⟩) hBs).trans hcs) (hI.below hB0)) belowK_t (belowK_b (by simp)) (Below.refl _ _) (fun _ => rfl)
    (fun pre W => (∃ v, Boxed W w.heap.size 24 v ∧ W.ownsRow w.heap.size 3 1 v pre.length (pre.map (Value.int .i64)) ∧ (v = .slice none 0 0 ↔ pre = [])) ∧ Below w.heap.size w W)
    (fun _ _ _ => False)
    (OwnFrom.and (Own.from (holdsRow_own w.heap.size w.heap.size 24 3 1 (fun pre => pre.length) (fun pre => pre.map (Value.int .i64)) (fun pre v => v = .slice none 0 0 ↔ pre = [])) _) (ownFrom_below (Nat.le_refl _) (by simp)))
    (fun _ _ _ _ _ hs _ _ => hs)
    ⟨⟨_, bO, World.ownsRow_nil _ _ _ _, by simp⟩, hB0⟩
    (fun x => { tmps := #[.slice none 0 0, .func (.func 173) #[] #[.pointer (some ⟨Bs, 0, none⟩)], .pointer (some ⟨w.heap.size, 0, none⟩), undef, .slice none 0 0, .int .i64 x, .func (.func 173) #[] #[.pointer (some ⟨Bs, 0, none⟩)], .int .i64 x, undef, undef, undef, undef, undef], defers := [] }) ?assign ?body ?done ?stop
  case assign =>
    intro l x W K hK
    gi_wp2
    exact hK
  case body =>
    rintro l pre x W ⟨⟨v, hv, hrow, hnil⟩, hB⟩ hlt
    have hc := hv.cell
    gi_wp2_with (gi_at_builtin; refine wpListIn_append_own _ rfl _ _ 24 rfl w.heap.size 3 i0 (.int .i64 0) 1 8 Tryz.underlying24 hi hz0 hz1 hz2 rfl (by decide) _ _ _ rfl (hrow.alloc _) ⟨W.heap.size, 0, none⟩ 1 1 [.int .i64 x] rfl rfl (cell_one_new _ _ _) (by simp [Value.oneCell']) (by unfold maxLen; omega) (by omega) (by have := hB.size; simp; omega) ?_; intro v' w1 hown' hgrow _; obtain ⟨g', cap', rfl⟩ := ownsRow_succ hown'; obtain ⟨hv1, hv2, hr2, hk2, hb2⟩ := hv.appended (by decide) hrow hB.size (Nat.le_refl _) hown' hgrow; have hc1 := hv1.cell; have hf1 := hv1.frozen)
    exact ⟨hk2.from _, hb2, ⟨_, hv2, by simpa using hr2, by simp⟩, hB.trans hb2⟩
  case done =>
    rintro D ys W hD rfl ⟨⟨v, hv, hrow, hnil⟩, hB⟩ hK
    have hc := hv.cell
    gi_wp2
    refine ⟨by simp, .inl ⟨_, _, rfl, run_takeDeferred hK, ?_⟩⟩
    exact ⟨_, results_tmp rfl _ _ _, v, rfl, ownsRow_putObj hrow _ hK rfl, hB.trans (belowK_b (w := w) (Nat.le_refl _) W D _ _ (by simp at hD; omega) hK rfl rfl)⟩
  case stop =>
    rintro D c pre W _ _ h _
    exact h.elim
theorem appendSeq_any (Bs : Nat) (sv : Value) (xs : List Int) (hbytes : xs.length * 8 ≤ 140737488351232) (w : World)
    (hBs : Bs < w.heap.size) (hcs : w.cell? ⟨Bs, 0, none⟩ = some sv) (hI : IntsB w.heap.size w sv xs) :
    Calls Tryz.prog 208 #[.slice none 0 0, .func (.func 173) #[] #[.pointer (some ⟨Bs, 0, none⟩)]] w fun e W' => ∃ v, e = .returned v ∧ W'.ownsRow w.heap.size 3 1 v xs.length (xs.map (Value.int .i64)) ∧ Below w.heap.size w W' :=
  (callsIn_wide (n := 6)).1 (appendSeq_in Fence.wide 6 trivial trivial rfl (by omega) Bs sv xs hbytes w hBs hcs hI)
end
section
open Go.RowKit
def ofB (k : Int) : Value := .agg #[.bool (inB [3, 6, 11, 13, 17, 18] k), .bool ((k == 13) || (k == 18)), .bool (inB [11, 13, 18] k), .bool (inB [11, 13, 15] k), .bool (k == 13)]
set_option maxHeartbeats 2000000 in
theorem of_any (k : Int) (w : World) : Calls Tryz.prog 89 #[.int .u8 k] w fun e w' => e = .returned (ofB k) ∧ Below w.heap.size w w' := by
  by_cases h3 : k = 3
  · subst h3
    go_enter Tryz.func89, Tryz.ntmps89
    go_wp2_with fail
    refine bodyPost_ret (results_cell_row rfl _ _ _ _ _ _ _ rfl (heap_alloc_new w _) Tryz.underlying137 rfl (by kernel_rfl)) rfl ?_
    exact ⟨rfl, (Below.refl _ _).alloc (Nat.le_refl _) _⟩
  have b3 : (k == 3) = false := by simpa using h3
  by_cases h6 : k = 6
  · subst h6
    go_enter Tryz.func89, Tryz.ntmps89
    go_wp2_with fail
    refine bodyPost_ret (results_cell_row rfl _ _ _ _ _ _ _ rfl (heap_alloc_new w _) Tryz.underlying137 rfl (by kernel_rfl)) rfl ?_
    exact ⟨rfl, (Below.refl _ _).alloc (Nat.le_refl _) _⟩
  have b6 : (k == 6) = false := by simpa using h6
  by_cases h17 : k = 17
  · subst h17
    go_enter Tryz.func89, Tryz.ntmps89
    go_wp2_with fail
    refine bodyPost_ret (results_cell_row rfl _ _ _ _ _ _ _ rfl (heap_alloc_new w _) Tryz.underlying137 rfl (by kernel_rfl)) rfl ?_
    exact ⟨rfl, (Below.refl _ _).alloc (Nat.le_refl _) _⟩
  have b17 : (k == 17) = false := by simpa using h17
  by_cases h11 : k = 11
  · subst h11
    go_enter Tryz.func89, Tryz.ntmps89
    go_wp2_with fail
    refine bodyPost_ret (results_cell_row rfl _ _ _ _ _ _ _ rfl (heap_alloc_new w _) Tryz.underlying137 rfl (by kernel_rfl)) rfl ?_
    exact ⟨rfl, (Below.refl _ _).alloc (Nat.le_refl _) _⟩
  have b11 : (k == 11) = false := by simpa using h11
  by_cases h13 : k = 13
  · subst h13
    go_enter Tryz.func89, Tryz.ntmps89
    go_wp2_with fail
    refine bodyPost_ret (results_cell_row rfl _ _ _ _ _ _ _ rfl (heap_alloc_new w _) Tryz.underlying137 rfl (by kernel_rfl)) rfl ?_
    exact ⟨rfl, (Below.refl _ _).alloc (Nat.le_refl _) _⟩
  have b13 : (k == 13) = false := by simpa using h13
  by_cases h15 : k = 15
  · subst h15
    go_enter Tryz.func89, Tryz.ntmps89
    go_wp2_with fail
    refine bodyPost_ret (results_cell_row rfl _ _ _ _ _ _ _ rfl (heap_alloc_new w _) Tryz.underlying137 rfl (by kernel_rfl)) rfl ?_
    exact ⟨rfl, (Below.refl _ _).alloc (Nat.le_refl _) _⟩
  have b15 : (k == 15) = false := by simpa using h15
  by_cases h18 : k = 18
  · subst h18
    go_enter Tryz.func89, Tryz.ntmps89
    go_wp2_with fail
    refine bodyPost_ret (results_cell_row rfl _ _ _ _ _ _ _ rfl (heap_alloc_new w _) Tryz.underlying137 rfl (by kernel_rfl)) rfl ?_
    exact ⟨rfl, (Below.refl _ _).alloc (Nat.le_refl _) _⟩
  have b18 : (k == 18) = false := by simpa using h18
  have hz : Hid (ofB k = .agg #[.bool false, .bool false, .bool false, .bool false, .bool false]) := by
    show _ = _
    have c3 : ((3 : Int) == k) = false := by rw [BEq.comm]; exact b3
    have c6 : ((6 : Int) == k) = false := by rw [BEq.comm]; exact b6
    have c17 : ((17 : Int) == k) = false := by rw [BEq.comm]; exact b17
    have c11 : ((11 : Int) == k) = false := by rw [BEq.comm]; exact b11
    have c13 : ((13 : Int) == k) = false := by rw [BEq.comm]; exact b13
    have c15 : ((15 : Int) == k) = false := by rw [BEq.comm]; exact b15
    have c18 : ((18 : Int) == k) = false := by rw [BEq.comm]; exact b18
    simp only [ofB, inB, List.any_cons, List.any_nil, c3, c6, c17, c11, c13, c15, c18, b13, b18, Bool.or_false]
  clear h3 h6 h17 h11 h13 h15 h18
  go_enter Tryz.func89, Tryz.ntmps89
  go_wp2_with fail
  refine bodyPost_ret (results_cell_row rfl _ _ _ _ _ _ _ rfl (heap_alloc_new w _) Tryz.underlying137 rfl (by kernel_rfl)) rfl ?_
  exact ⟨by rw [hz.out], (Below.refl _ _).alloc (Nat.le_refl _) _⟩
def fitsT (there : Bool) (t : PT) : Bool := if there then mayT t.er else plainB t.head
set_option maxHeartbeats 2000000 in
theorem aterm_fits_any (there : Bool) (t : PT) {w : World} (hl : LR.lies w t) (h1 : t.head.en ≤ 1000000) (h2 : t.head.kn ≤ 1000000) :
    Calls Tryz.prog 94 #[.bool there, aggR t.head] w fun e w' => e = .returned (.bool (fitsT there t)) ∧ Below w.heap.size w w' := by
  have HB := hid ((Below.refl w.heap.size w).alloc (Nat.le_refl _) (.cells #[.int .u8 t.head.kind, .int .i64 t.head.rho, .slice t.head.ep t.head.en t.head.ec, .slice t.head.kp t.head.kn t.head.kc] 28))
  have HL := hid (LR.lies_below HB.out t hl)
  clear hl
  cases there with
  | true =>
    go_enter Tryz.func94, Tryz.ntmps94
    go_wp2_with (go_at_call 129; refine (rtype_May_one HL.out rfl _ (by simp)).mono ?_; rintro e w2 ⟨rfl, hb⟩; have HB2 := hid hb; clear hb)
    go_ret
    exact ⟨rfl, HB.out.trans (((Below.refl _ _).alloc (Nat.le_refl _) _ |>.trans (HB2.out.mono (by simp))).mono HB.out.size)⟩
  | false =>
    have hw : IntKind.i64.wrap ((t.head.en : Int) + t.head.kn) = (t.head.en : Int) + t.head.kn := IntWalk.i64_in _ (by omega)
    have HP : Hid (plainB t.head = ((t.head.kind == 0) && (t.head.rho == 0) && ((t.head.en : Int) + t.head.kn == 0))) := by
      show _ = _
      unfold plainB
      rw [Bool.and_assoc (_ && _)]
      congr 1
      rw [Bool.eq_iff_iff]
      simp only [Bool.and_eq_true, beq_iff_eq]
      omega
    cases hk : (t.head.kind == 0) with
    | false =>
      rw [hk] at HP
      go_enter Tryz.func94, Tryz.ntmps94
      go_wp2_with fail
      go_ret
      exact ⟨ret_bool (by show _ = plainB _; rw [HP.out]; rfl), HB.out⟩
    | true =>
      rw [hk] at HP
      cases hr : (t.head.rho == 0) with
      | false =>
        rw [hr] at HP
        go_enter Tryz.func94, Tryz.ntmps94
        go_wp2_with fail
        go_ret
        exact ⟨ret_bool (by show _ = plainB _; rw [HP.out]; rfl), HB.out⟩
      | true =>
        rw [hr] at HP
        go_enter Tryz.func94, Tryz.ntmps94
        go_wp2_with fail
        go_ret
        exact ⟨ret_bool (by show _ = plainB _; rw [HP.out]; simp), HB.out⟩
end
section
open Go.RowKit
theorem BoxA.range {W : World} {b : Nat} {a : AH} (h : BoxA W b a) : W.rangeAt b 0 (encAH a) := fun j v hj => by rw [Nat.zero_add]; exact h.c j v hj
set_option maxHeartbeats 4000000 in
theorem headed_region (a : AH) (h17 : a.kind = 17) (hk : a.kn ≤ 1000000) (w : World) :
    Calls Tryz.prog 90 #[aggT a] w fun e w' => e = .returned (.bool (headB a.hd a.kn)) ∧ Below w.heap.size w w' := by
  have HB := hid ((Below.refl w.heap.size w).alloc (Nat.le_refl _) (boxA a))
  have HA := hid (boxA_new w a)
  have e17 : (a.kind == 17) = true := by simp [h17]
  have E17 := hid h17
  clear h17
  go_enter Tryz.func90, Tryz.ntmps90
  go_upto_region 3 with fail
  obtain ⟨c0, c1, c2, c3, c4, c5, c6, c7, c8, c9, c10, c11, c12, c13, c14, c15, c16, c17, c18⟩ := HA.out.all
  clear c7 c8 c9 c10 c11 c12 c13 c14 c15 c16 c17
  generalize w.alloc (.cells #[.int .u8 a.kind, .int .u8 a.op, .int .i64 a.at_, .int .i64 a.n, .string a.name, .string a.arg, .string a.exn, .int .i64 a.rho, .slice a.rp a.rn a.rc, .slice a.ep a.en a.ec, .int .u8 a.ty.head.kind, .int .i64 a.ty.head.rho, .slice a.ty.head.ep a.ty.head.en a.ty.head.ec, .slice a.ty.head.kp a.ty.head.kn a.ty.head.kc, .int .u8 a.res.head.kind, .int .i64 a.res.head.rho, .slice a.res.head.ep a.res.head.en a.res.head.ec, .slice a.res.head.kp a.res.head.kn a.res.head.kc, .slice a.kp a.kn a.kc] 31) = W1 at *
  go_wp2_with fail
  all_goals (
    go_ret
    refine ⟨ret_bool ?_, HB.out⟩
    unfold headB
    rw [if_pos (show a.hd.kind = 17 from E17.out)]
    clear c0 c1 c2 c3 c4 c5 c6 c18
    simp_all [bareB, AH.hd]
    try (intros; omega))
theorem node4B_many (h : HeadV) (n : Nat) (hn : 3 < n) : node4B h n = false := by
  have hk : kidsI h.kind ≤ 3 := by
    unfold kidsI
    split
    · omega
    · split
      · omega
      · split
        · omega
        · split <;> omega
  have : ((n : Int) != kidsI h.kind) = true := by simp; omega
  unfold node4B
  rw [this]
  simp
theorem headB_other {a : AH} (h17 : a.kind ≠ 17) (h18 : a.kind ≠ 18) : headB a.hd a.kn = (decide ((a.kn : Int) ≤ 3) && node4B a.hd a.kn) := by
  unfold headB
  rw [if_neg (show ¬ a.hd.kind = 17 from h17), if_neg (show ¬ a.hd.kind = 18 from h18)]
  by_cases h : a.kn ≤ 3
  · have e : decide ((a.kn : Int) ≤ 3) = true := by simp; omega
    rw [e, Nat.min_eq_left (by omega)]; rfl
  · have e : decide ((a.kn : Int) ≤ 3) = false := by simp; omega
    rw [e, node4B_many _ _ (by omega)]; rfl
theorem toList_empty (s : ByteArray) : s.toList.isEmpty = decide (s.size = 0) := by
  rw [Lib.toList_data]
  obtain ⟨⟨l⟩⟩ := s
  cases l with
  | nil => rfl
  | cons b l => show false = decide (l.length + 1 = 0); simp
theorem headB_inst' (op at_ z : Int) (name arg exn : ByteArray) (m : Nat) : headB ⟨18, op, at_, z, name, arg, exn⟩ m = (decide ((m : Int) ≤ 3) && node4B ⟨2, op, at_, z, name, arg, exn⟩ m) := by
  show (bareB ⟨18, op, at_, z, name, arg, exn⟩ && nameB name && decide (0 ≤ at_) && ((m : Int) == 0)) = (decide ((m : Int) ≤ 3) && (!(decide ((0 : Int) < 0) || ((m : Int) != 0) || decide (at_ < 0)) && !(false || true && (op != 0)) && !(decide (z < 0) || decide (2147483647 < z) || true && (z != 0)) && (fitsB true name (nameB name) && fitsB false arg (nameB arg) && fitsB false exn (exnB exn))))
  show (((op == 0) && (z == 0) && arg.toList.isEmpty && exn.toList.isEmpty) && nameB name && decide (0 ≤ at_) && ((m : Int) == 0)) = _
  unfold fitsB
  rw [toList_empty, toList_empty]
  rw [Bool.eq_iff_iff]
  simp only [Bool.and_eq_true, Bool.or_eq_true, Bool.not_eq_true', Bool.or_eq_false_iff, beq_iff_eq, bne_iff_ne, decide_eq_true_eq, decide_eq_false_iff_not, bne_eq_false_iff_eq, Bool.false_or, Bool.true_and, Bool.not_true, Bool.not_false, Bool.or_false, Bool.false_and]
  constructor
  · rintro ⟨⟨⟨⟨⟨⟨h1, h2⟩, h3⟩, h4⟩, h5⟩, h6⟩, h7⟩
    exact ⟨by omega, ⟨⟨⟨by omega, by omega⟩, h1⟩, by omega, by omega⟩, ⟨h5, h3⟩, h4⟩
  · rintro ⟨h1, ⟨⟨⟨⟨_, h2⟩, h3⟩, h4⟩, h5, h6⟩, ⟨h7, h8⟩, h9⟩
    exact ⟨⟨⟨⟨⟨⟨h4, h6⟩, h8⟩, h9⟩, h7⟩, by omega⟩, h2⟩
set_option maxHeartbeats 4000000 in
theorem headed_other (a : AH) (h17 : a.kind ≠ 17) (h18 : a.kind ≠ 18) (hk0 : 0 ≤ a.kind) (hk1 : a.kind ≤ 255) (hk : a.kn ≤ 1000000) {w : World} (hv : Vr w) :
    Calls Tryz.prog 90 #[aggT a] w fun e w' => e = .returned (.bool (headB a.hd a.kn)) ∧ Below w.heap.size w w' := by
  have HB := hid ((Below.refl w.heap.size w).alloc (Nat.le_refl _) (boxA a))
  have HA := hid (boxA_new w a)
  have HV := hid hv
  have HR := hid (headB_other h17 h18)
  have e17 : (a.kind == 17) = false := by simpa using h17
  have e18 : (a.kind == 18) = false := by simpa using h18
  clear h17 h18 hv
  by_cases h3 : a.kn ≤ 3
  · have hle : decide ((a.kn : Int) ≤ 3) = true := by simp; omega
    rw [hle, Bool.true_and] at HR
    go_enter Tryz.func90, Tryz.ntmps90
    go_upto_region 2 with fail
    obtain ⟨c0, c1, c2, c3, c4, c5, c6, c7, c8, c9, c10, c11, c12, c13, c14, c15, c16, c17, c18⟩ := HA.out.all
    clear c1 c2 c3 c4 c5 c6 c7 c8 c9 c10 c11 c12 c13 c14 c15 c16 c17
    go_wp2_with (first
      | (refine wpList_load_midG (by rfl) 31 _ rfl w.heap.size 0 rfl [.int .u8 a.kind, .int .u8 a.op, .int .i64 a.at_, .int .i64 a.n, .string a.name, .string a.arg, .string a.exn, .int .i64 a.rho, .slice a.rp a.rn a.rc, .slice a.ep a.en a.ec, .int .u8 a.ty.head.kind, .int .i64 a.ty.head.rho, .slice a.ty.head.ep a.ty.head.en a.ty.head.ec, .slice a.ty.head.kp a.ty.head.kn a.ty.head.kc, .int .u8 a.res.head.kind, .int .i64 a.res.head.rho, .slice a.res.head.ep a.res.head.en a.res.head.ec, .slice a.res.head.kp a.res.head.kn a.res.head.kc, .slice a.kp a.kn a.kc] _ HA.out.range Tryz.underlying31 rfl (by kernel_rfl) ?_)
      | (go_at_call 121; refine (aterm_stub_any a (show a.kn ≤ 1000 by omega) _).mono ?_; rintro e w2 ⟨⟨p2, c2', rfl, hrow⟩, hb⟩; have HROW := hid hrow; have HB2 := hid (HB.out.trans (hb.mono HB.out.size)); clear hrow hb)
      | (go_at_call 120; refine (term_May_stub (HV.out.below HB2.out) (t := ⟨(a : AH).hd, p2, a.kn, c2'⟩) HROW.out (show a.kn ≤ 1000 by omega) hk0 hk1).mono ?_; rintro e w3 ⟨rfl, hb⟩; have HB3 := hid (HB2.out.trans (hb.mono HB2.out.size)); clear hb))
    go_ret
    exact ⟨ret_bool HR.out.symm, HB3.out⟩
  · have hle : decide ((a.kn : Int) ≤ 3) = false := by simp; omega
    rw [hle, Bool.false_and] at HR
    go_enter Tryz.func90, Tryz.ntmps90
    go_upto_region 2 with fail
    obtain ⟨c0, c1, c2, c3, c4, c5, c6, c7, c8, c9, c10, c11, c12, c13, c14, c15, c16, c17, c18⟩ := HA.out.all
    clear c1 c2 c3 c4 c5 c6 c7 c8 c9 c10 c11 c12 c13 c14 c15 c16 c17
    go_wp2_with fail
    go_ret
    exact ⟨ret_bool HR.out.symm, HB.out⟩
set_option maxHeartbeats 4000000 in
theorem headed_inst (a : AH) (h18 : a.kind = 18) (hk : a.kn ≤ 1000000) {w : World} (hv : Vr w) :
    Calls Tryz.prog 90 #[aggT a] w fun e w' => e = .returned (.bool (headB a.hd a.kn)) ∧ Below w.heap.size w w' := by
  have HB0 := hid ((Below.refl w.heap.size w).alloc (Nat.le_refl _) (boxA a))
  have HB := hid ((Below.refl w.heap.size w).alloc (Nat.le_refl _) (boxA {a with kind := 2}))
  have HA0 := hid (boxA_new w a)
  have HA := hid (boxA_new w {a with kind := 2})
  have HV := hid hv
  have HR : Hid (headB a.hd a.kn = (decide ((a.kn : Int) ≤ 3) && node4B ({a with kind := 2} : AH).hd a.kn)) := by
    show _ = _
    have := headB_inst' a.op a.at_ a.n a.name a.arg a.exn a.kn
    rw [← h18] at this
    exact this
  have e17 : (a.kind == 17) = false := by simp; omega
  have e18 : (a.kind == 18) = true := by simpa using h18
  clear h18 hv
  go_enter Tryz.func90, Tryz.ntmps90
  have c18 := HA.out.c 18 _ rfl
  by_cases h3 : a.kn ≤ 3
  · have hle : decide ((a.kn : Int) ≤ 3) = true := by simp; omega
    rw [hle, Bool.true_and] at HR
    go_upto_region 6 with fail
    go_wp2_with (first
      | (refine wpList_load_midG (by rfl) 31 _ rfl w.heap.size 0 rfl [.int .u8 2, .int .u8 a.op, .int .i64 a.at_, .int .i64 a.n, .string a.name, .string a.arg, .string a.exn, .int .i64 a.rho, .slice a.rp a.rn a.rc, .slice a.ep a.en a.ec, .int .u8 a.ty.head.kind, .int .i64 a.ty.head.rho, .slice a.ty.head.ep a.ty.head.en a.ty.head.ec, .slice a.ty.head.kp a.ty.head.kn a.ty.head.kc, .int .u8 a.res.head.kind, .int .i64 a.res.head.rho, .slice a.res.head.ep a.res.head.en a.res.head.ec, .slice a.res.head.kp a.res.head.kn a.res.head.kc, .slice a.kp a.kn a.kc] _ HA.out.range Tryz.underlying31 rfl (by kernel_rfl) ?_)
      | (go_at_call 121; refine (aterm_stub_any {a with kind := 2} (show a.kn ≤ 1000 by omega) _).mono ?_; rintro e w2 ⟨⟨p2, c2', rfl, hrow⟩, hb⟩; have HROW := hid hrow; have HB2 := hid (HB.out.trans (hb.mono HB.out.size)); clear hrow hb)
      | (go_at_call 120; refine (term_May_stub (HV.out.below HB2.out) (t := ⟨({a with kind := 2} : AH).hd, p2, a.kn, c2'⟩) HROW.out (show a.kn ≤ 1000 by omega) (show (0 : Int) ≤ 2 by omega) (show (2 : Int) ≤ 255 by omega)).mono ?_; rintro e w3 ⟨rfl, hb⟩; have HB3 := hid (HB2.out.trans (hb.mono HB2.out.size)); clear hb))
    go_ret
    exact ⟨ret_bool HR.out.symm, HB3.out⟩
  · have hle : decide ((a.kn : Int) ≤ 3) = false := by simp; omega
    rw [hle, Bool.false_and] at HR
    go_upto_region 6 with fail
    go_wp2_with fail
    go_ret
    exact ⟨ret_bool HR.out.symm, HB.out⟩
theorem aterm_headed_any (a : AH) (hk0 : 0 ≤ a.kind) (hk1 : a.kind ≤ 255) (hk : a.kn ≤ 1000000) {w : World} (hv : Vr w) :
    Calls Tryz.prog 90 #[aggT a] w fun e w' => e = .returned (.bool (headB a.hd a.kn)) ∧ Below w.heap.size w w' := by
  by_cases h17 : a.kind = 17
  · exact headed_region a h17 hk w
  · by_cases h18 : a.kind = 18
    · exact headed_inst a h18 hk hv
    · exact headed_other a h17 h18 hk0 hk1 hk hv
end
section
open Go.RowKit Go.Shelf
set_option maxHeartbeats 1000000 in
theorem regions1_any (x L : Int) (g : Nat) {W : World} (hg : W.cell? ⟨g, 0, none⟩ = some (.int .i64 L)) :
    Calls Tryz.prog 123 #[.int .i64 x, .pointer (some ⟨g, 0, none⟩)] W fun e w' => e = .returned (.bool (decide (x < L))) ∧ w' = W := by
  go_enter Tryz.func123, Tryz.ntmps123
  go_wp2_with fail
  go_ret
  exact ⟨rfl, rfl⟩
theorem cfunc_rhos {W : World} {p : Option Addr} {n c : Nat} {l : List Int} (hr : IsRow encN 1 W p n c l) {g : Nat} {L : Int} (hg : W.cell? ⟨g, 0, none⟩ = some (.int .i64 L)) :
    Calls Tryz.prog 122 #[.slice p n c, .func (.func 123) #[] #[.pointer (some ⟨g, 0, none⟩)]] W fun e w' => e = .returned (.bool (l.any (fun r => decide (r < L)))) ∧ Below W.heap.size W w' := by
  have hln := hr.len
  have hmx := hr.max
  rcases hr.row with h | ⟨b, o, hp, hb, hc⟩
  · subst h
    obtain rfl : n = 0 := by simpa using hln.symm
    refine (Tryz.slices_ContainsFunc_empty_f122 (α := Int) p c _ W).mono ?_
    rintro e w' ⟨rfl, rfl⟩
    exact ⟨rfl, Below.refl _ _⟩
  · subst hp
    have hcc : ∀ j, j < l.length → W.cell? ⟨b, o + j, none⟩ = some (Value.int .i64 (l[j]!)) := fun j hj => by
      have := hc j (l[j]!) (by rw [List.getElem?_eq_getElem hj, getElem!_pos l j hj]) 0 (.int .i64 (l[j]!)) rfl
      simpa using this
    refine (Tryz.slices_ContainsFunc_f122 (α := Int) (Value.int .i64) (fun r : Int => decide (r < L)) 123 #[.pointer (some ⟨g, 0, none⟩)] (fun args w => rfl) b o n c l W ?_ (by omega) (by omega) hcc).mono ?_
    · intro W' x hb'
      refine (regions1_any x L g (by rw [hb'.cell (cell_block hg)]; exact hg)).mono ?_
      rintro e w' ⟨rfl, rfl⟩
      exact ⟨rfl, 0, rfl⟩
    · rintro e w' ⟨rfl, q, rfl⟩
      rw [List.take_of_length_le (by omega)]
      exact ⟨rfl, rfl, rfl, rfl, Nat.le_refl _, fun _ _ => rfl⟩
def regB (a : AH) (fr fh : Bool) : Bool :=
  !((!fr && (a.rho != 0)) || (decide (a.rho < 0) || (a.kind == 17) && decide (a.rho < 1)) || (!fh && decide (0 < a.rn))) && !(a.rhos.any (fun r => decide (r < if a.kind = 13 then 1 else 0)))
set_option maxHeartbeats 4000000 in
theorem regions_13 (a : AH) (fr fh fe ft fs : Bool) {w : World} (hr : IsRow encN 1 w a.rp a.rn a.rc a.rhos) (h13 : a.kind = 13) :
    Calls Tryz.prog 91 #[aggT a, .agg #[.bool fr, .bool fh, .bool fe, .bool ft, .bool fs]] w fun e w' => e = .returned (.bool (regB a fr fh)) ∧ Below w.heap.size w w' := by
  have HR := hid hr
  have HQ : Hid (regB a fr fh = (!((!fr && (a.rho != 0)) || (decide (a.rho < 0) || false && decide (a.rho < 1)) || (!fh && decide (0 < a.rn))) && !(a.rhos.any (fun r => decide (r < 1))))) := by
    show _ = _; unfold regB; rw [if_pos h13]; simp [h13]
  have e13 : (a.kind == 13) = true := by simp [h13]
  have e17 : (a.kind == 17) = false := by simp [h13]
  clear hr h13
  have HB := hid (((Below.refl w.heap.size w).alloc (Nat.le_refl _) (boxA a)).alloc (by simp) (.cells #[.bool fr, .bool fh, .bool fe, .bool ft, .bool fs] 137))
  have HB3 := hid (HB.out.alloc HB.out.size (.cells #[.int .i64 1] 3))
  have HA0 := hid (((boxA_new w a).below ((Below.refl _ _).alloc (Nat.le_refl _) (.cells #[.bool fr, .bool fh, .bool fe, .bool ft, .bool fs] 137))).below ((Below.refl _ _).alloc (Nat.le_refl _) (.cells #[.int .i64 0] 3)))
  have HA3 := hid (((boxA_new w a).below ((Below.refl _ _).alloc (Nat.le_refl _) (.cells #[.bool fr, .bool fh, .bool fe, .bool ft, .bool fs] 137))).below ((Below.refl _ _).alloc (Nat.le_refl _) (.cells #[.int .i64 1] 3)))
  have HCF := hid (cfunc_rhos (HR.out.below HB3.out) (g := w.heap.size + 2) (L := 1) (by rw [show w.heap.size + 2 = ((w.alloc (boxA a)).alloc (.cells #[.bool fr, .bool fh, .bool fe, .bool ft, .bool fs] 137)).heap.size by simp, cell_new]; rfl))
  have f0 : (((w.alloc (boxA a)).alloc (.cells #[.bool fr, .bool fh, .bool fe, .bool ft, .bool fs] 137)).alloc (.cells #[.int .i64 1] 3)).cell? ⟨w.heap.size + 1, 0, none⟩ = some (.bool fr) := by go_simp
  have f1 : (((w.alloc (boxA a)).alloc (.cells #[.bool fr, .bool fh, .bool fe, .bool ft, .bool fs] 137)).alloc (.cells #[.int .i64 1] 3)).cell? ⟨w.heap.size + 1, 1, none⟩ = some (.bool fh) := by go_simp
  have d0 := HA0.out.c 0 _ rfl
  have c0 := HA3.out.c 0 _ rfl
  have c7 := HA3.out.c 7 _ rfl
  have c8 := HA3.out.c 8 _ rfl
  have h03 := HR.out.max
  generalize a.rhos.any (fun r => decide (r < 1)) = R at *
  go_enter Tryz.func91, Tryz.ntmps91
  go_upto_region 4 with fail
  generalize ((w.alloc (.cells #[.int .u8 a.kind, .int .u8 a.op, .int .i64 a.at_, .int .i64 a.n, .string a.name, .string a.arg, .string a.exn, .int .i64 a.rho, .slice a.rp a.rn a.rc, .slice a.ep a.en a.ec, .int .u8 a.ty.head.kind, .int .i64 a.ty.head.rho, .slice a.ty.head.ep a.ty.head.en a.ty.head.ec, .slice a.ty.head.kp a.ty.head.kn a.ty.head.kc, .int .u8 a.res.head.kind, .int .i64 a.res.head.rho, .slice a.res.head.ep a.res.head.en a.res.head.ec, .slice a.res.head.kp a.res.head.kn a.res.head.kc, .slice a.kp a.kn a.kc] 31)).alloc (.cells #[.bool fr, .bool fh, .bool fe, .bool ft, .bool fs] 137)).alloc (.cells #[.int .i64 1] 3) = W3 at *
  cases fr <;> cases fh
  all_goals (
    go_wp2_with (go_at_call 122; refine HCF.out.mono ?_; rintro e w4 ⟨rfl, hb⟩; have HB4 := hid (HB3.out.trans (hb.mono HB3.out.size)); clear hb)
    all_goals (
      go_ret
      refine ⟨ret_bool ?_, by first | exact HB4.out | exact HB3.out⟩
      rw [HQ.out]
      clear c0 c7 c8 d0 f0 f1 HA0 HA3 HCF HB
      simp_all
      try omega))
set_option maxHeartbeats 4000000 in
theorem regions_no (a : AH) (fr fh fe ft fs : Bool) {w : World} (hr : IsRow encN 1 w a.rp a.rn a.rc a.rhos) (h13 : a.kind ≠ 13) :
    Calls Tryz.prog 91 #[aggT a, .agg #[.bool fr, .bool fh, .bool fe, .bool ft, .bool fs]] w fun e w' => e = .returned (.bool (regB a fr fh)) ∧ Below w.heap.size w w' := by
  have HR := hid hr
  have HQ : Hid (regB a fr fh = (!((!fr && (a.rho != 0)) || (decide (a.rho < 0) || (a.kind == 17) && decide (a.rho < 1)) || (!fh && decide (0 < a.rn))) && !(a.rhos.any (fun r => decide (r < 0))))) := by
    show _ = _; unfold regB; rw [if_neg h13]
  have e13 : (a.kind == 13) = false := by simp [h13]
  clear hr h13
  cases e17 : (a.kind == 17)
  · rw [e17] at HQ
    have HB := hid (((Below.refl w.heap.size w).alloc (Nat.le_refl _) (boxA a)).alloc (by simp) (.cells #[.bool fr, .bool fh, .bool fe, .bool ft, .bool fs] 137))
    have HB3 := hid (HB.out.alloc HB.out.size (.cells #[.int .i64 0] 3))
    have HA0 := hid (((boxA_new w a).below ((Below.refl _ _).alloc (Nat.le_refl _) (.cells #[.bool fr, .bool fh, .bool fe, .bool ft, .bool fs] 137))).below ((Below.refl _ _).alloc (Nat.le_refl _) (.cells #[.int .i64 0] 3)))
    have HA3 := hid (((boxA_new w a).below ((Below.refl _ _).alloc (Nat.le_refl _) (.cells #[.bool fr, .bool fh, .bool fe, .bool ft, .bool fs] 137))).below ((Below.refl _ _).alloc (Nat.le_refl _) (.cells #[.int .i64 0] 3)))
    have HCF := hid (cfunc_rhos (HR.out.below HB3.out) (g := w.heap.size + 2) (L := 0) (by rw [show w.heap.size + 2 = ((w.alloc (boxA a)).alloc (.cells #[.bool fr, .bool fh, .bool fe, .bool ft, .bool fs] 137)).heap.size by simp, cell_new]; rfl))
    have f0 : (((w.alloc (boxA a)).alloc (.cells #[.bool fr, .bool fh, .bool fe, .bool ft, .bool fs] 137)).alloc (.cells #[.int .i64 0] 3)).cell? ⟨w.heap.size + 1, 0, none⟩ = some (.bool fr) := by go_simp
    have f1 : (((w.alloc (boxA a)).alloc (.cells #[.bool fr, .bool fh, .bool fe, .bool ft, .bool fs] 137)).alloc (.cells #[.int .i64 0] 3)).cell? ⟨w.heap.size + 1, 1, none⟩ = some (.bool fh) := by go_simp
    have d0 := HA0.out.c 0 _ rfl
    have c0 := HA3.out.c 0 _ rfl
    have c7 := HA3.out.c 7 _ rfl
    have c8 := HA3.out.c 8 _ rfl
    have h03 := HR.out.max
    generalize a.rhos.any (fun r => decide (r < 0)) = R at *
    go_enter Tryz.func91, Tryz.ntmps91
    go_upto_region 4 with fail
    generalize ((w.alloc (.cells #[.int .u8 a.kind, .int .u8 a.op, .int .i64 a.at_, .int .i64 a.n, .string a.name, .string a.arg, .string a.exn, .int .i64 a.rho, .slice a.rp a.rn a.rc, .slice a.ep a.en a.ec, .int .u8 a.ty.head.kind, .int .i64 a.ty.head.rho, .slice a.ty.head.ep a.ty.head.en a.ty.head.ec, .slice a.ty.head.kp a.ty.head.kn a.ty.head.kc, .int .u8 a.res.head.kind, .int .i64 a.res.head.rho, .slice a.res.head.ep a.res.head.en a.res.head.ec, .slice a.res.head.kp a.res.head.kn a.res.head.kc, .slice a.kp a.kn a.kc] 31)).alloc (.cells #[.bool fr, .bool fh, .bool fe, .bool ft, .bool fs] 137)).alloc (.cells #[.int .i64 0] 3) = W3 at *
    cases fr <;> cases fh
    all_goals (
      go_wp2_with (go_at_call 122; refine HCF.out.mono ?_; rintro e w4 ⟨rfl, hb⟩; have HB4 := hid (HB3.out.trans (hb.mono HB3.out.size)); clear hb)
      all_goals (
        go_ret
        refine ⟨ret_bool ?_, by first | exact HB4.out | exact HB3.out⟩
        rw [HQ.out]
        clear c0 c7 c8 d0 f0 f1 HA0 HA3 HCF HB
        simp_all
        try omega))
  · rw [e17] at HQ
    have HB := hid (((Below.refl w.heap.size w).alloc (Nat.le_refl _) (boxA a)).alloc (by simp) (.cells #[.bool fr, .bool fh, .bool fe, .bool ft, .bool fs] 137))
    have HB3 := hid (HB.out.alloc HB.out.size (.cells #[.int .i64 0] 3))
    have HA0 := hid (((boxA_new w a).below ((Below.refl _ _).alloc (Nat.le_refl _) (.cells #[.bool fr, .bool fh, .bool fe, .bool ft, .bool fs] 137))).below ((Below.refl _ _).alloc (Nat.le_refl _) (.cells #[.int .i64 0] 3)))
    have HA3 := hid (((boxA_new w a).below ((Below.refl _ _).alloc (Nat.le_refl _) (.cells #[.bool fr, .bool fh, .bool fe, .bool ft, .bool fs] 137))).below ((Below.refl _ _).alloc (Nat.le_refl _) (.cells #[.int .i64 0] 3)))
    have HCF := hid (cfunc_rhos (HR.out.below HB3.out) (g := w.heap.size + 2) (L := 0) (by rw [show w.heap.size + 2 = ((w.alloc (boxA a)).alloc (.cells #[.bool fr, .bool fh, .bool fe, .bool ft, .bool fs] 137)).heap.size by simp, cell_new]; rfl))
    have f0 : (((w.alloc (boxA a)).alloc (.cells #[.bool fr, .bool fh, .bool fe, .bool ft, .bool fs] 137)).alloc (.cells #[.int .i64 0] 3)).cell? ⟨w.heap.size + 1, 0, none⟩ = some (.bool fr) := by go_simp
    have f1 : (((w.alloc (boxA a)).alloc (.cells #[.bool fr, .bool fh, .bool fe, .bool ft, .bool fs] 137)).alloc (.cells #[.int .i64 0] 3)).cell? ⟨w.heap.size + 1, 1, none⟩ = some (.bool fh) := by go_simp
    have d0 := HA0.out.c 0 _ rfl
    have c0 := HA3.out.c 0 _ rfl
    have c7 := HA3.out.c 7 _ rfl
    have c8 := HA3.out.c 8 _ rfl
    have h03 := HR.out.max
    generalize a.rhos.any (fun r => decide (r < 0)) = R at *
    go_enter Tryz.func91, Tryz.ntmps91
    go_upto_region 4 with fail
    generalize ((w.alloc (.cells #[.int .u8 a.kind, .int .u8 a.op, .int .i64 a.at_, .int .i64 a.n, .string a.name, .string a.arg, .string a.exn, .int .i64 a.rho, .slice a.rp a.rn a.rc, .slice a.ep a.en a.ec, .int .u8 a.ty.head.kind, .int .i64 a.ty.head.rho, .slice a.ty.head.ep a.ty.head.en a.ty.head.ec, .slice a.ty.head.kp a.ty.head.kn a.ty.head.kc, .int .u8 a.res.head.kind, .int .i64 a.res.head.rho, .slice a.res.head.ep a.res.head.en a.res.head.ec, .slice a.res.head.kp a.res.head.kn a.res.head.kc, .slice a.kp a.kn a.kc] 31)).alloc (.cells #[.bool fr, .bool fh, .bool fe, .bool ft, .bool fs] 137)).alloc (.cells #[.int .i64 0] 3) = W3 at *
    cases fr <;> cases fh
    all_goals (
      go_wp2_with (go_at_call 122; refine HCF.out.mono ?_; rintro e w4 ⟨rfl, hb⟩; have HB4 := hid (HB3.out.trans (hb.mono HB3.out.size)); clear hb)
      all_goals (
        go_ret
        refine ⟨ret_bool ?_, by first | exact HB4.out | exact HB3.out⟩
        rw [HQ.out]
        clear c0 c7 c8 d0 f0 f1 HA0 HA3 HCF HB
        simp_all
        try omega))
theorem regions_any (a : AH) (fr fh fe ft fs : Bool) {w : World} (hr : IsRow encN 1 w a.rp a.rn a.rc a.rhos) :
    Calls Tryz.prog 91 #[aggT a, .agg #[.bool fr, .bool fh, .bool fe, .bool ft, .bool fs]] w fun e w' => e = .returned (.bool (regB a fr fh)) ∧ Below w.heap.size w w' := by
  by_cases h13 : a.kind = 13
  · exact regions_13 a fr fh fe ft fs hr h13
  · exact regions_no a fr fh fe ft fs hr h13
end
end Go.Proofs.YtkdjnegfnhldpaaGreatDoor
