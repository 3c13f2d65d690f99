/- Part 37 of the texts: Bx, Jn, Aw, Mr, Lp, Lb. -/
import Derived.Test.YtdlbjngpohkglaaGreatDoorG36
import Derived.Test.YtdlbjngpohkglaaGreatDoorG35
section
set_option linter.unusedVariables false
set_option maxRecDepth 100000
set_option linter.unusedSimpArgs false
namespace Go.Proofs.YtdlbjngpohkglaaGreatDoor
open Go.RowKit

/-- how many nodes of a type are no numbers -/
def boxedT : PT → Nat := Rose.fold (fun a l => (if 1 < a.kind then 1 else 0) + l.sum)
theorem boxedT_node (a : RH) (l : List PT) : boxedT (.node a l) = (if 1 < a.kind then 1 else 0) + (l.map boxedT).sum := Rose.fold_node _ a l
theorem sum_le_sum (f g : PT → Nat) : ∀ l : List PT, (∀ x ∈ l, f x ≤ g x) → (l.map f).sum ≤ (l.map g).sum
  | [], _ => by simp
  | x :: l, h => by
    have h1 := h x (by simp)
    have h2 := sum_le_sum f g l (fun y hy => h y (List.mem_cons_of_mem _ hy))
    simp only [List.map_cons, List.sum_cons]
    omega
theorem boxedT_le (t : PT) : boxedT t ≤ t.size := by
  refine Rose.ind (P := fun (t : PT) => boxedT t ≤ t.size) (fun a l ih => ?_) t
  rw [boxedT_node, Rose.size_node]
  have := sum_le_sum boxedT Rose.size l ih
  split <;> omega
def BoxedAt (t : PT) (W : World) : Prop := Calls Tryz.prog 20 #[aggR t.head] W fun e w' => e = .returned (.int .i64 (boxedT t)) ∧ Below W.heap.size W w'
theorem boxes_take {l : List PT} {k : Nat} {x : PT} (h : l[k]? = some x) : ((l.take (k + 1)).map boxedT).sum = ((l.take k).map boxedT).sum + boxedT x := by
  rw [take_succ_get h, List.map_append, List.sum_append_nat]; simp
theorem boxes_le (l : List PT) (k : Nat) : ((l.take k).map boxedT).sum ≤ (l.map boxedT).sum := by
  have h : l.map boxedT = (l.take k).map boxedT ++ (l.drop k).map boxedT := by rw [← List.map_append, List.take_append_drop]
  rw [h, List.sum_append_nat]; omega
/-- the box of boxed -/
structure BxS (w W : World) (a : RH) : Prop where
  c0 : W.cell? ⟨w.heap.size, 0, none⟩ = some (.int .u8 a.kind)
  c3 : W.cell? ⟨w.heap.size, 3, none⟩ = some (.slice a.kp a.kn a.kc)
  below : Below w.heap.size w W
theorem BxS.drop {w W W' : World} {a : RH} (h : BxS w W a) (hb : Below W.heap.size W W') : BxS w W' a :=
  ⟨by rw [hb.cell (cell_block h.c0)]; exact h.c0, by rw [hb.cell (cell_block h.c3)]; exact h.c3, h.below.trans (hb.mono h.below.size)⟩
set_option maxHeartbeats 2000000 in
theorem boxed_of {a : RH} {l : List PT} {w : World} (hN : NodeIn w a l) (hs : (Rose.node a l).size ≤ 1000) (hf : ∀ x ∈ l, ∀ W, Below w.heap.size w W → BoxedAt x W) : BoxedAt (.node a l) w := by
  have HN := Lib.hid hN
  have HF := Lib.hid hf
  have HBX : Hid (Below w.heap.size w (w.alloc (.cells #[.int .u8 a.kind, .int .i64 a.rho, .slice a.ep a.en a.ec, .slice a.kp a.kn a.kc] 28))) := (Below.refl _ _).alloc (Nat.le_refl _) _
  have HSZ : Hid ((l.map boxedT).sum ≤ 1000) := by
    have h1 := boxedT_le (.node a l)
    rw [boxedT_node] at h1
    show _ ≤ _
    split at h1 <;> omega
  have hmx := hN.kids.max
  have c00 : (w.alloc (.cells #[.int .u8 a.kind, .int .i64 a.rho, .slice a.ep a.en a.ec, .slice a.kp a.kn a.kc] 28)).cell? ⟨w.heap.size, 0, none⟩ = some (.int .u8 a.kind) := by rw [cell_new]; rfl
  have c03 : (w.alloc (.cells #[.int .u8 a.kind, .int .i64 a.rho, .slice a.ep a.en a.ec, .slice a.kp a.kn a.kc] 28)).cell? ⟨w.heap.size, 3, none⟩ = some (.slice a.kp a.kn a.kc) := by rw [cell_new]; rfl
  have HB0 : Hid (BxS w (w.alloc (.cells #[.int .u8 a.kind, .int .i64 a.rho, .slice a.ep a.en a.ec, .slice a.kp a.kn a.kc] 28)) a) := Lib.hid ⟨c00, c03, HBX.out⟩
  have hv0 := boxedT_node a l
  clear hN hf hs c00 c03
  show Calls Tryz.prog 20 #[aggR a] w fun e w' => e = .returned (.int .i64 (boxedT (.node a l))) ∧ Below w.heap.size w w'
  by_cases hk : 1 < a.kind
  · have HV : Hid (boxedT (.node a l) = 1 + (l.map boxedT).sum) := by show _ = _; rw [hv0, if_pos hk]
    have ek : decide (a.kind > 1) = true := by simpa using hk
    clear hk hv0
    go_enter Tryz.func20, Tryz.ntmps20
    go_upto_region 1 with fail
    generalize w.alloc (.cells #[.int .u8 a.kind, .int .i64 a.rho, .slice a.ep a.en a.ec, .slice a.kp a.kn a.kc] 28) = W1 at *
    have c0 := HB0.out.c0
    have c3 := HB0.out.c3
    go_wp2_with fail
    go_loopw [3, 4] (fun u i wr => ∃ k : Nat, k ≤ a.kn ∧ i = .int .i64 k ∧ u = .int .i64 ((1 + ((l.take k).map boxedT).sum : Nat) : Int) ∧ BxS w wr a) (fun _ i _ => a.kn - (intOf i).toNat)
    case atStart => exact ⟨0, by omega, rfl, by simp, HB0.out⟩
    case round =>
      obtain ⟨k, hk, rfl, rfl, hb⟩ := hrel
      have HB := Lib.hid hb
      clear hb c0 c3
      have c0 := HB.out.c0
      have c3 := HB.out.c3
      by_cases hlt : k < a.kn
      · obtain ⟨x, hx⟩ := HN.out.rowT.at (j := k) hlt
        obtain ⟨b, o, hbo, hbl, d0, d1, d2, d3⟩ := (HN.out.rowT.below HB.out.below).kid hx
        have HF1 := Lib.hid (HF.out x (List.mem_of_getElem? hx) _ HB.out.below)
        have HTK := Lib.hid (boxes_take hx)
        have hle := boxes_le l (k + 1)
        rw [HTK.out] at hle
        have hsz := HSZ.out
        have hwr : IntKind.i64.wrap (((1 + ((l.take k).map boxedT).sum : Nat) : Int) + (boxedT x : Nat)) = ((1 + ((l.take (k + 1)).map boxedT).sum : Nat) : Int) := by
          rw [IntWalk.i64_in _ (by omega), HTK.out]; omega
        generalize ((1 + ((l.take k).map boxedT).sum : Nat) : Int) = U at *
        generalize hU' : ((1 + ((l.take (k + 1)).map boxedT).sum : Nat) : Int) = U' at *
        have HU := Lib.hid hU'
        clear hU'
        rw [hbo] at c3
        clear hx hbl hle hsz hbo
        go_wp2_with (go_at_call 20; refine HF1.out.mono ?_; rintro e w8 ⟨rfl, hb⟩; have HB8 := Lib.hid (HB.out.drop hb); clear hb)
        go_roundw
        case rel => exact ⟨k + 1, by omega, by go_num, by rw [HU.out], HB8.out⟩
        case measure => simp [intOf]; omega
      · have hkn : k = a.kn := by omega
        have hfull : l.take k = l := take_full (by rw [HN.out.kids.len, hkn]; exact Nat.le_refl _)
        rw [hfull]
        go_wp2_with fail
        go_ret
        exact ⟨ret_int (by rw [HV.out]), HB.out.below⟩
  · have HV : Hid (boxedT (.node a l) = 0 + (l.map boxedT).sum) := by show _ = _; rw [hv0, if_neg hk]
    have ek : decide (a.kind > 1) = false := by simpa using hk
    clear hk hv0
    go_enter Tryz.func20, Tryz.ntmps20
    go_upto_region 1 with fail
    generalize w.alloc (.cells #[.int .u8 a.kind, .int .i64 a.rho, .slice a.ep a.en a.ec, .slice a.kp a.kn a.kc] 28) = W1 at *
    have c0 := HB0.out.c0
    have c3 := HB0.out.c3
    go_wp2_with fail
    go_loopw [3, 4] (fun u i wr => ∃ k : Nat, k ≤ a.kn ∧ i = .int .i64 k ∧ u = .int .i64 ((0 + ((l.take k).map boxedT).sum : Nat) : Int) ∧ BxS w wr a) (fun _ i _ => a.kn - (intOf i).toNat)
    case atStart => exact ⟨0, by omega, rfl, by simp, HB0.out⟩
    case round =>
      obtain ⟨k, hk, rfl, rfl, hb⟩ := hrel
      have HB := Lib.hid hb
      clear hb c0 c3
      have c0 := HB.out.c0
      have c3 := HB.out.c3
      by_cases hlt : k < a.kn
      · obtain ⟨x, hx⟩ := HN.out.rowT.at (j := k) hlt
        obtain ⟨b, o, hbo, hbl, d0, d1, d2, d3⟩ := (HN.out.rowT.below HB.out.below).kid hx
        have HF1 := Lib.hid (HF.out x (List.mem_of_getElem? hx) _ HB.out.below)
        have HTK := Lib.hid (boxes_take hx)
        have hle := boxes_le l (k + 1)
        rw [HTK.out] at hle
        have hsz := HSZ.out
        have hwr : IntKind.i64.wrap (((0 + ((l.take k).map boxedT).sum : Nat) : Int) + (boxedT x : Nat)) = ((0 + ((l.take (k + 1)).map boxedT).sum : Nat) : Int) := by
          rw [IntWalk.i64_in _ (by omega), HTK.out]; omega
        generalize ((0 + ((l.take k).map boxedT).sum : Nat) : Int) = U at *
        generalize hU' : ((0 + ((l.take (k + 1)).map boxedT).sum : Nat) : Int) = U' at *
        have HU := Lib.hid hU'
        clear hU'
        rw [hbo] at c3
        clear hx hbl hle hsz hbo
        go_wp2_with (go_at_call 20; refine HF1.out.mono ?_; rintro e w8 ⟨rfl, hb⟩; have HB8 := Lib.hid (HB.out.drop hb); clear hb)
        go_roundw
        case rel => exact ⟨k + 1, by omega, by go_num, by rw [HU.out], HB8.out⟩
        case measure => simp [intOf]; omega
      · have hkn : k = a.kn := by omega
        have hfull : l.take k = l := take_full (by rw [HN.out.kids.len, hkn]; exact Nat.le_refl _)
        rw [hfull]
        go_wp2_with fail
        go_ret
        exact ⟨ret_int (by rw [HV.out]), HB.out.below⟩
theorem boxedAt_any (t : PT) : ∀ w, LR.lies w t → t.size ≤ 1000 → BoxedAt t w := by
  refine Rose.ind (P := fun (t : PT) => ∀ w, LR.lies w t → t.size ≤ 1000 → BoxedAt t w) (fun a l ih => ?_) t
  intro w hl hs
  have HN := nodeIn hl
  refine boxed_of HN hs (fun x hx W hW => ih x hx W (LR.lies_below hW x (HN.each x hx)) ?_)
  have h1 := hs
  rw [Rose.size_node] at h1
  have h2 : x.size ≤ (l.map Rose.size).sum := le_sum_of_mem (List.mem_map_of_mem hx)
  omega
end Go.Proofs.YtdlbjngpohkglaaGreatDoor
end
section
set_option linter.unusedVariables false
set_option maxRecDepth 100000
set_option linter.unusedSimpArgs false
namespace Go.Proofs.YtdlbjngpohkglaaGreatDoor
open Go.RowKit

theorem app_data (a b : ByteArray) : (a ++ b).data.toList = a.data.toList ++ b.data.toList := by
  rw [ByteArray.data_append, Array.toList_append]
theorem joinB_data (l : List ByteArray) : (joinB l).data.toList = Lib.join (l.map (·.data.toList)) [32] := rfl
theorem joinB_one (x : ByteArray) : joinB [x] = x := by
  apply ba_ext
  rw [joinB_data]
  exact Lib.join_one _ _
theorem joinB_app (a b : List ByteArray) (ha : a ≠ []) (hb : b ≠ []) : joinB (a ++ b) = joinB a ++ (⟨#[32]⟩ ++ joinB b) := by
  apply ba_ext
  rw [joinB_data, app_data, app_data, joinB_data, joinB_data, List.map_append, join32_app _ _ (by simpa using ha) (by simpa using hb)]
  rfl
theorem joinB_cons (x : ByteArray) (l : List ByteArray) (hl : l ≠ []) : joinB (x :: l) = x ++ (⟨#[32]⟩ ++ joinB l) := by
  have := joinB_app [x] l (by simp) hl
  rwa [joinB_one] at this
theorem piecesT_ne' (t : PA) : piecesT t ≠ [] := fun h => piecesT_ne t (by rw [h]; rfl)
/-- the text of a term with a region around it -/
theorem region_text (a : AH) (t : PA) (h : a.kind = 17) : textOf (.node a [t]) = ⟨#[40, 32, 114, 101, 103, 105, 111, 110, 32]⟩ ++ decB a.rho ++ ⟨#[32, 105, 110, 32]⟩ ++ textOf t ++ ⟨#[32, 41]⟩ := by
  have hp : piecesT (.node a [t]) = ⟨#[40]⟩ :: ⟨#[114, 101, 103, 105, 111, 110]⟩ :: decB a.rho :: ⟨#[105, 110]⟩ :: (piecesT t ++ [⟨#[41]⟩]) := by
    rw [piecesT_node]
    unfold nodeP innerP binderP
    simp [h, kidsP, kidsTo, betw]
  unfold textOf
  rw [hp, joinB_cons _ _ (by simp), joinB_cons _ _ (by simp), joinB_cons _ _ (by simp), joinB_cons _ _ (by simp [piecesT_ne']), joinB_app _ _ (piecesT_ne' t) (by simp), joinB_one]
  apply ba_ext
  simp [app_data]
end Go.Proofs.YtdlbjngpohkglaaGreatDoor
end
section
set_option linter.unusedVariables false
set_option maxRecDepth 100000
set_option linter.unusedSimpArgs false
namespace Go.Proofs.YtdlbjngpohkglaaGreatDoor
open Go.RowKit

def zRH : RH := ⟨0, 0, none, 0, 0, [], none, 0, 0⟩
def zPT : PT := .node zRH []
theorem zPT_lies (W : World) : LR.lies W zPT :=
  NodeIn.lies ⟨⟨IsRow.none _ _ _, (by intro x hx; cases hx), by decide, by decide, by decide, by decide, by decide, by decide, fun _ => rfl⟩, IsRow.none _ _ _, (by intro x hx; cases hx)⟩
/-- a node that has nothing but a kind, a number, a region and kids -/
abbrev mkA (kind n rho : Int) (kp : Option Addr) (kn kc : Nat) : AH := ⟨kind, 0, 0, n, ⟨#[]⟩, ⟨#[]⟩, ⟨#[]⟩, rho, none, 0, 0, [], none, 0, 0, [], zPT, zPT, kp, kn, kc⟩
theorem mkA_own (W : World) {kind n rho : Int} {kp : Option Addr} {kn kc : Nat} (h0 : 0 ≤ kind) (h1 : kind ≤ 255) (hn : inI n) (hr : inI rho) (hk : kn ≤ 9223372036854775807) (hc : kn ≤ kc) (hp : kp = none → kc = 0) : AH.Own W (mkA kind n rho kp kn kc) :=
  ⟨h0, h1, (show (0 : Int) ≤ 0 by omega), (show (0 : Int) ≤ 255 by omega), ⟨(show (-9223372036854775808 : Int) ≤ 0 by omega), (show (0 : Int) ≤ 9223372036854775807 by omega)⟩, hn, (show 0 ≤ 9223372036854775807 by omega), (show 0 ≤ 9223372036854775807 by omega), (show 0 ≤ 9223372036854775807 by omega), hr, IsRow.none _ _ _, (by intro x hx; cases hx), IsRow.none _ _ _, (by intro x hx; cases hx), zPT_lies W, zPT_lies W, hk, hc, hp⟩
theorem mkA_lies {W : World} {kind n rho : Int} {kp : Option Addr} {kn kc : Nat} {l : List PA} (h0 : 0 ≤ kind) (h1 : kind ≤ 255) (hn : inI n) (hr : inI rho) (hR : RowTA W kp kn kc l) : LA.lies W (.node (mkA kind n rho kp kn kc) l) :=
  NodeA.lies ⟨mkA_own W h0 h1 hn hr hR.row.max hR.row.le hR.row.nil, hR.row, hR.each⟩
theorem mkA_leaf (W : World) {kind n rho : Int} (h0 : 0 ≤ kind) (h1 : kind ≤ 255) (hn : inI n) (hr : inI rho) : LA.lies W (.node (mkA kind n rho none 0 0) []) :=
  mkA_lies h0 h1 hn hr ⟨IsRow.none _ _ _, (by intro x hx; cases hx)⟩
theorem mkA_small (kind n rho : Int) (kp : Option Addr) (kn kc : Nat) : SmallN (mkA kind n rho kp kn kc) :=
  ⟨(show 0 ≤ 100 by omega), (show 0 ≤ 100 by omega), (show 0 ≤ 100 by omega), (show 0 ≤ 50 by omega), rfl, ⟨(show zPT.er.size ≤ 100 by decide), rfl⟩, ⟨(show zPT.er.size ≤ 100 by decide), rfl⟩⟩
/-- a row of two terms -/
theorem rowTA_two {w : World} {x y : PA} (hx : LA.lies w x) (hy : LA.lies w y) (cs : Array Value) (hcs : cs = (LA.encT x ++ LA.encT y).toArray) (e : TypeId) (gs : Nat) (hgs : w.heap.size = gs) : RowTA (w.alloc (.cells cs e)) (some ⟨gs, 0, none⟩) 2 2 [x, y] := by
  subst hgs
  refine ⟨row_made LAlen (by omega) w e [x, y] 2 _ (by simp [hcs]) rfl (by decide), fun z hz => ?_⟩
  have hb : Below w.heap.size w (w.alloc (.cells cs e)) := (Below.refl _ w).alloc (Nat.le_refl _) _
  rcases List.mem_cons.1 hz with rfl | hz
  · exact LA.lies_below hb _ hx
  · rw [List.mem_singleton.1 hz]; exact LA.lies_below hb _ hy
/-- the example -/
def leafW : PA := .node (mkA 1 2 0 none 0 0) []
def pairW (g : Nat) : PA := .node (mkA 3 0 1 (some ⟨g, 0, none⟩) 2 2) [leafW, leafW]
def fstW (g1 g2 : Nat) : PA := .node (mkA 4 0 0 (some ⟨g2, 0, none⟩) 1 1) [pairW g1]
def regW (g1 g2 g3 : Nat) : PA := .node (mkA 17 0 1 (some ⟨g3, 0, none⟩) 1 1) [fstW g1 g2]
theorem regW_may (g1 g2 g3 : Nat) : mayA (regW g1 g2 g3) = true := by kernel_rfl
theorem regW_text (g1 g2 g3 : Nat) : textOf (regW g1 g2 g3) = ⟨#[40, 32, 114, 101, 103, 105, 111, 110, 32, 49, 32, 105, 110, 32, 40, 32, 102, 115, 116, 32, 40, 32, 50, 32, 44, 32, 50, 32, 64, 32, 49, 32, 41, 32, 41, 32, 41]⟩ := by kernel_rfl
theorem regW_small (g1 g2 g3 : Nat) : SmallNs (regW g1 g2 g3) :=
  SmallNs.node (mkA_small ..) (fun t ht => by
    rw [List.mem_singleton.1 ht]
    refine SmallNs.node (mkA_small ..) (fun t ht => ?_)
    rw [List.mem_singleton.1 ht]
    refine SmallNs.node (mkA_small ..) (fun t ht => ?_)
    have : t = leafW := by simpa using ht
    rw [this]
    exact SmallNs.node (mkA_small ..) (fun t ht => by cases ht))
theorem setRow_alloc_at (W : World) (cs vals : Array Value) (e : TypeId) (g : Nat) (h : W.heap.size = g) : (W.alloc (.cells cs e)).setRow g vals = W.alloc (.cells vals e) := by
  subst h; exact World.setRow_alloc_new ..
theorem heap_new_at (W : World) (cs : Array Value) (e : TypeId) (g : Nat) (h : W.heap.size = g) : (W.alloc (.cells cs e)).heap[g]? = some (.cells cs e (0, 0)) := by
  subst h; exact heap_alloc_new W _
end Go.Proofs.YtdlbjngpohkglaaGreatDoor
end
section
set_option linter.unusedVariables false
set_option maxRecDepth 100000
set_option linter.unusedSimpArgs false
namespace Go.Proofs.YtdlbjngpohkglaaGreatDoor
open Go.RowKit

end Go.Proofs.YtdlbjngpohkglaaGreatDoor
end
section
set_option linter.unusedVariables false
set_option maxRecDepth 100000
set_option linter.unusedSimpArgs false
namespace Go.Proofs.YtdlbjngpohkglaaGreatDoor
open Go.RowKit

theorem wf_u8 {x : Int} (h : (Lit.int .u8 x).wf = true) : 0 ≤ x ∧ x ≤ 255 := by
  have := h
  simp [Lit.wf] at this
  exact this
theorem region_node (r : Int) (kp : Option Addr) (h1 : 1 ≤ r) : node13 (mkA 17 0 r kp 1 1) = true := by
  have e1 : decide (r < 0) = false := by simp; omega
  have e2 : (r == 0) = false := by simp; omega
  unfold node13
  show (!(!(headB _ 1) || decide (r < 0) || ((17 : Int) == 17 && (r == 0)) || _) && _ && _ && _ && _ && _) = true
  rw [e1, e2]
  kernel_rfl
theorem region_may (r : Int) (kp : Option Addr) (t : PA) (h1 : 1 ≤ r) : mayA (.node (mkA 17 0 r kp 1 1) [t]) = mayA t := by
  rw [mayA_node, region_node r kp h1]
  simp
theorem TEnv.region {w : World} {t : PA} (h : TEnv w t) (hz : t.size ≤ 999) (r : Int) (h1 : 1 ≤ r) (h2 : r ≤ 1000000) (e : TypeId) (gs : Nat) (hgs : w.heap.size = gs) :
    TEnv (w.alloc (.cells #[.int .u8 t.head.kind, .int .u8 t.head.op, .int .i64 t.head.at_, .int .i64 t.head.n, .string t.head.name, .string t.head.arg, .string t.head.exn, .int .i64 t.head.rho, .slice t.head.rp t.head.rn t.head.rc, .slice t.head.ep t.head.en t.head.ec, .int .u8 t.head.ty.head.kind, .int .i64 t.head.ty.head.rho, .slice t.head.ty.head.ep t.head.ty.head.en t.head.ty.head.ec, .slice t.head.ty.head.kp t.head.ty.head.kn t.head.ty.head.kc, .int .u8 t.head.res.head.kind, .int .i64 t.head.res.head.rho, .slice t.head.res.head.ep t.head.res.head.en t.head.res.head.ec, .slice t.head.res.head.kp t.head.res.head.kn t.head.res.head.kc, .slice t.head.kp t.head.kn t.head.kc] e)) (.node (mkA 17 0 r (some ⟨gs, 0, none⟩) 1 1) [t]) := by
  subst hgs
  have hb : Below w.heap.size w (w.alloc (.cells #[.int .u8 t.head.kind, .int .u8 t.head.op, .int .i64 t.head.at_, .int .i64 t.head.n, .string t.head.name, .string t.head.arg, .string t.head.exn, .int .i64 t.head.rho, .slice t.head.rp t.head.rn t.head.rc, .slice t.head.ep t.head.en t.head.ec, .int .u8 t.head.ty.head.kind, .int .i64 t.head.ty.head.rho, .slice t.head.ty.head.ep t.head.ty.head.en t.head.ty.head.ec, .slice t.head.ty.head.kp t.head.ty.head.kn t.head.ty.head.kc, .int .u8 t.head.res.head.kind, .int .i64 t.head.res.head.rho, .slice t.head.res.head.ep t.head.res.head.en t.head.res.head.ec, .slice t.head.res.head.kp t.head.res.head.kn t.head.res.head.kc, .slice t.head.kp t.head.kn t.head.kc] e)) := (Below.refl _ _).alloc (Nat.le_refl _) _
  refine ⟨mkA_lies (by omega) (by omega) ⟨by omega, by omega⟩ ⟨by omega, by omega⟩ (rowTA_made h.lies e _ rfl), SmallNs.node (mkA_small ..) (fun x hx => by rw [List.mem_singleton.1 hx]; exact h.small), ?_, h.vr.below hb, h.tab.below hb⟩
  rw [Rose.size_node]
  simp
  omega
theorem vr_of {W : World} (h : W.ShapedOpen Tryz.prog) : Vr W := by
  obtain ⟨m, h⟩ := Tryz.laysM146.s1_3 W h
  exact ⟨m, h⟩
end Go.Proofs.YtdlbjngpohkglaaGreatDoor
end
section
set_option linter.unusedVariables false
set_option maxRecDepth 100000
set_option linter.unusedSimpArgs false
namespace Go.Proofs.YtdlbjngpohkglaaGreatDoor
open Go.RowKit

/-- how many brackets open at a node -/
def nodeCnt (a : AH) : Nat := (if 2 < a.kind then 1 else 0) + (boxedT a.ty + boxedT a.res)
def cntN (l : List AH) : Nat := (l.map nodeCnt).sum
theorem cntN_take {l : List AH} {k : Nat} {a : AH} (h : l[k]? = some a) : cntN (l.take (k + 1)) = cntN (l.take k) + nodeCnt a := by
  unfold cntN
  rw [take_succ_get h, List.map_append, List.sum_append_nat]; simp
theorem cntN_le (l : List AH) (k : Nat) : cntN (l.take k) ≤ cntN l := by
  have h : l.map nodeCnt = (l.take k).map nodeCnt ++ (l.drop k).map nodeCnt := by rw [← List.map_append, List.take_append_drop]
  unfold cntN
  rw [h, List.sum_append_nat]; omega
theorem smallT_size {t : PT} (h : SmallT t.er 100) : t.size ≤ 100 := by have := h.size; rw [← Rose.size_map RH.plain t]; exact this
theorem cntN_bound : ∀ l : List AH, (∀ a ∈ l, SmallN a) → cntN l ≤ 201 * l.length
  | [], _ => by simp [cntN]
  | a :: l, h => by
    have h1 := cntN_bound l (fun b hb => h b (List.mem_cons_of_mem _ hb))
    have ha := h a (by simp)
    have h2 := boxedT_le a.ty
    have h3 := boxedT_le a.res
    have h4 := smallT_size ha.ty
    have h5 := smallT_size ha.res
    have e : cntN (a :: l) = nodeCnt a + cntN l := by simp [cntN]
    rw [e, List.length_cons]
    unfold nodeCnt
    split <;> omega
end Go.Proofs.YtdlbjngpohkglaaGreatDoor
end
