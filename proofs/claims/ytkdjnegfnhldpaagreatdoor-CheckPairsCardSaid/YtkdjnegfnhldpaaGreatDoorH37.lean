/- Part 37: Le, Lf, Lg, Lh, Li, Px. -/
import Derived.Test.YtkdjnegfnhldpaaGreatDoorH36
import Derived.Test.YtkdjnegfnhldpaaGreatDoorH14
import Derived.Test.YtkdjnegfnhldpaaGreatDoorH11
import Derived.Test.YtkdjnegfnhldpaaGreatDoorH25
import Derived.Test.YtkdjnegfnhldpaaGreatDoorH10
set_option linter.unusedVariables false
set_option maxRecDepth 100000
set_option linter.unusedSimpArgs false
namespace Go.Proofs.YtkdjnegfnhldpaaGreatDoor
open Go.Lib (hid)
section
open Go.RowKit
structure CE (w : World) (t : PA) : Prop where
  lies : LA.lies w t
  small : SmallNs t
  size : t.size ≤ 200
theorem CE.below {w w' : World} {t : PA} (h : CE w t) (hb : Below w.heap.size w w') : CE w' t := ⟨LA.lies_below hb t h.lies, h.small, h.size⟩
set_option maxHeartbeats 4000000 in
theorem great_any {w : World} (t : PA) (hl : LA.lies w t) :
    Calls Tryz.prog 10 #[aggT t.head] w fun e w' => (∃ r, e = .returned (.bool r) ∧ (r = false → CE w t)) ∧ Below w.heap.size w w' := by
  have HB := hid ((Below.refl w.heap.size w).alloc (Nat.le_refl _) (boxA t.head))
  have HBX := hid (boxA_new w t.head)
  have HG := hid (ref13_Great_any (LA.lies_below HB.out t hl))
  have HL := hid hl
  clear hl
  go_enter Tryz.func10, Tryz.ntmps10
  go_wp2_with (first
    | (refine wpList_load_row rfl 31 _ rfl w.heap.size rfl 31 _ (0, 0) _ HBX.out.blk Tryz.underlying31 rfl (by kernel_rfl) ?_)
    | (refine wpList_load_midG (by rfl) 31 _ rfl w.heap.size 0 rfl [.int .u8 t.head.kind, .int .u8 t.head.op, .int .i64 t.head.at_, .int .i64 t.head.n, .string t.head.name, .string t.head.arg, .string t.head.exn, .int .i64 t.head.rho, .slice t.head.rp t.head.rn t.head.rc, .slice t.head.ep t.head.en t.head.ec, .int .u8 t.head.ty.head.kind, .int .i64 t.head.ty.head.rho, .slice t.head.ty.head.ep t.head.ty.head.en t.head.ty.head.ec, .slice t.head.ty.head.kp t.head.ty.head.kn t.head.ty.head.kc, .int .u8 t.head.res.head.kind, .int .i64 t.head.res.head.rho, .slice t.head.res.head.ep t.head.res.head.en t.head.res.head.ec, .slice t.head.res.head.kp t.head.res.head.kn t.head.res.head.kc, .slice t.head.kp t.head.kn t.head.kc] _ HBX.out.range Tryz.underlying31 rfl (by kernel_rfl) ?_)
    | (go_at_call 33; refine HG.out.mono ?_; rintro e w8 ⟨⟨r, rfl, hgr⟩, hb⟩; have HB := hid (HB.out.trans (hb.mono HB.out.size)); have HBX := hid (HBX.out.below hb); clear hb; have HGR := hid hgr; clear hgr; cases r; have HSZ := hid (show t.size ≤ 1000 from Nat.le_trans (HGR.out rfl).1 (by omega)))
    | (go_at_call 26; refine (allAt_any t _ (LA.lies_below HB.out t HL.out) HSZ.out).mono ?_; rintro e w9 ⟨⟨p, c, rfl, hown⟩, hb⟩; clear hown; have HB := hid (HB.out.trans (hb.mono HB.out.size)); clear hb))
  · go_ret
    exact ⟨⟨_, rfl, fun h => ⟨HL.out, (HGR.out (by first | trivial | rfl)).2, by simp at h; omega⟩⟩, HB.out⟩
  · go_ret
    exact ⟨⟨_, rfl, fun h => by simp at h⟩, HB.out⟩
def leafC : PA := .node (mkA 1 1 0 none 0 0) []
def pairC (g : Nat) (r : Int) : PA := .node (mkA 3 0 r (some ⟨g, 0, none⟩) 2 2) [leafC, leafC]
set_option maxHeartbeats 4000000 in
theorem pair_any {w : World} (r : Int) (hr : inI r) :
    Calls Tryz.prog 34 #[.int .i64 r] w fun e w' => ∃ g : Nat, e = .returned (.agg #[.int .u8 3, .int .u8 0, .int .i64 0, .int .i64 0, .string ⟨#[]⟩, .string ⟨#[]⟩, .string ⟨#[]⟩, .int .i64 r, .slice none 0 0, .slice none 0 0, .int .u8 0, .int .i64 0, .slice none 0 0, .slice none 0 0, .int .u8 0, .int .i64 0, .slice none 0 0, .slice none 0 0, .slice (some ⟨g, 0, none⟩) 2 2]) ∧ LA.lies w' (pairC g r) ∧ Below w.heap.size w w' := by
  have hz0 := heap_new_at w #[.int .u8 0, .int .u8 0, .int .i64 0, .int .i64 0, .string ⟨#[]⟩, .string ⟨#[]⟩, .string ⟨#[]⟩, .int .i64 0, .slice none 0 0, .slice none 0 0, .int .u8 0, .int .i64 0, .slice none 0 0, .slice none 0 0, .int .u8 0, .int .i64 0, .slice none 0 0, .slice none 0 0, .slice none 0 0] 31 _ rfl
  have hbz : Below w.heap.size w (w.alloc (.cells #[.int .u8 0, .int .u8 0, .int .i64 0, .int .i64 0, .string ⟨#[]⟩, .string ⟨#[]⟩, .string ⟨#[]⟩, .int .i64 0, .slice none 0 0, .slice none 0 0, .int .u8 0, .int .i64 0, .slice none 0 0, .slice none 0 0, .int .u8 0, .int .i64 0, .slice none 0 0, .slice none 0 0, .slice none 0 0] 31)) := (Below.refl _ _).alloc (Nat.le_refl _) _
  have HZ0 := hid hz0
  have HBZ := hid hbz
  have HR := hid hr
  clear hz0 hbz hr
  go_enter Tryz.func34, Tryz.ntmps34
  go_upto_region 2 with (refine wpList_store_row rfl 31 _ _ rfl _ #[.int .u8 1, .int .u8 0, .int .i64 0, .int .i64 1, .string ⟨#[]⟩, .string ⟨#[]⟩, .string ⟨#[]⟩, .int .i64 0, .slice none 0 0, .slice none 0 0, .int .u8 0, .int .i64 0, .slice none 0 0, .slice none 0 0, .int .u8 0, .int .i64 0, .slice none 0 0, .slice none 0 0, .slice none 0 0] rfl rfl 31 _ (heap_new_at _ _ _ _ (by simp)) (by kernel_rfl) rfl (by simp [Value.oneCell']) ?_; rw [setRow_alloc_at _ _ _ _ _ (by simp)])
  have HX1 := hid (heap_new_at (w.alloc (.cells #[.int .u8 0, .int .u8 0, .int .i64 0, .int .i64 0, .string ⟨#[]⟩, .string ⟨#[]⟩, .string ⟨#[]⟩, .int .i64 0, .slice none 0 0, .slice none 0 0, .int .u8 0, .int .i64 0, .slice none 0 0, .slice none 0 0, .int .u8 0, .int .i64 0, .slice none 0 0, .slice none 0 0, .slice none 0 0] 31)) #[.int .u8 1, .int .u8 0, .int .i64 0, .int .i64 1, .string ⟨#[]⟩, .string ⟨#[]⟩, .string ⟨#[]⟩, .int .i64 0, .slice none 0 0, .slice none 0 0, .int .u8 0, .int .i64 0, .slice none 0 0, .slice none 0 0, .int .u8 0, .int .i64 0, .slice none 0 0, .slice none 0 0, .slice none 0 0] 31 _ rfl)
  have hb1 : Below (w.alloc (.cells #[.int .u8 0, .int .u8 0, .int .i64 0, .int .i64 0, .string ⟨#[]⟩, .string ⟨#[]⟩, .string ⟨#[]⟩, .int .i64 0, .slice none 0 0, .slice none 0 0, .int .u8 0, .int .i64 0, .slice none 0 0, .slice none 0 0, .int .u8 0, .int .i64 0, .slice none 0 0, .slice none 0 0, .slice none 0 0] 31)).heap.size (w.alloc (.cells #[.int .u8 0, .int .u8 0, .int .i64 0, .int .i64 0, .string ⟨#[]⟩, .string ⟨#[]⟩, .string ⟨#[]⟩, .int .i64 0, .slice none 0 0, .slice none 0 0, .int .u8 0, .int .i64 0, .slice none 0 0, .slice none 0 0, .int .u8 0, .int .i64 0, .slice none 0 0, .slice none 0 0, .slice none 0 0] 31)) ((w.alloc (.cells #[.int .u8 0, .int .u8 0, .int .i64 0, .int .i64 0, .string ⟨#[]⟩, .string ⟨#[]⟩, .string ⟨#[]⟩, .int .i64 0, .slice none 0 0, .slice none 0 0, .int .u8 0, .int .i64 0, .slice none 0 0, .slice none 0 0, .int .u8 0, .int .i64 0, .slice none 0 0, .slice none 0 0, .slice none 0 0] 31)).alloc (.cells #[.int .u8 1, .int .u8 0, .int .i64 0, .int .i64 1, .string ⟨#[]⟩, .string ⟨#[]⟩, .string ⟨#[]⟩, .int .i64 0, .slice none 0 0, .slice none 0 0, .int .u8 0, .int .i64 0, .slice none 0 0, .slice none 0 0, .int .u8 0, .int .i64 0, .slice none 0 0, .slice none 0 0, .slice none 0 0] 31)) := (Below.refl _ _).alloc (Nat.le_refl _) _
  have HZ1 := hid ((hb1.block _ (lt_heap HZ0.out)).trans HZ0.out)
  have HB1 := hid (HBZ.out.trans (hb1.mono HBZ.out.size))
  have hs1 : (w.alloc (.cells #[.int .u8 0, .int .u8 0, .int .i64 0, .int .i64 0, .string ⟨#[]⟩, .string ⟨#[]⟩, .string ⟨#[]⟩, .int .i64 0, .slice none 0 0, .slice none 0 0, .int .u8 0, .int .i64 0, .slice none 0 0, .slice none 0 0, .int .u8 0, .int .i64 0, .slice none 0 0, .slice none 0 0, .slice none 0 0] 31)).heap.size = w.heap.size + 1 := by simp
  rw [hs1] at HX1
  clear hb1 hs1 HZ0 HBZ
  generalize ((w.alloc (.cells #[.int .u8 0, .int .u8 0, .int .i64 0, .int .i64 0, .string ⟨#[]⟩, .string ⟨#[]⟩, .string ⟨#[]⟩, .int .i64 0, .slice none 0 0, .slice none 0 0, .int .u8 0, .int .i64 0, .slice none 0 0, .slice none 0 0, .int .u8 0, .int .i64 0, .slice none 0 0, .slice none 0 0, .slice none 0 0] 31)).alloc (.cells #[.int .u8 1, .int .u8 0, .int .i64 0, .int .i64 1, .string ⟨#[]⟩, .string ⟨#[]⟩, .string ⟨#[]⟩, .int .i64 0, .slice none 0 0, .slice none 0 0, .int .u8 0, .int .i64 0, .slice none 0 0, .slice none 0 0, .int .u8 0, .int .i64 0, .slice none 0 0, .slice none 0 0, .slice none 0 0] 31)) = W1 at *
  have hb2 : Below W1.heap.size W1 (W1.alloc (.cells #[.int .u8 1, .int .u8 0, .int .i64 0, .int .i64 1, .string ⟨#[]⟩, .string ⟨#[]⟩, .string ⟨#[]⟩, .int .i64 0, .slice none 0 0, .slice none 0 0, .int .u8 0, .int .i64 0, .slice none 0 0, .slice none 0 0, .int .u8 0, .int .i64 0, .slice none 0 0, .slice none 0 0, .slice none 0 0, .int .u8 1, .int .u8 0, .int .i64 0, .int .i64 1, .string ⟨#[]⟩, .string ⟨#[]⟩, .string ⟨#[]⟩, .int .i64 0, .slice none 0 0, .slice none 0 0, .int .u8 0, .int .i64 0, .slice none 0 0, .slice none 0 0, .int .u8 0, .int .i64 0, .slice none 0 0, .slice none 0 0, .slice none 0 0] 31)) := (Below.refl _ _).alloc (Nat.le_refl _) _
  have HZ2 := hid ((hb2.block _ (lt_heap HZ1.out)).trans HZ1.out)
  have HR2 := hid (rowTA_two (mkA_leaf W1 (kind := 1) (n := 1) (rho := 0) (by omega) (by omega) ⟨by omega, by omega⟩ ⟨by omega, by omega⟩) (mkA_leaf W1 (kind := 1) (n := 1) (rho := 0) (by omega) (by omega) ⟨by omega, by omega⟩ ⟨by omega, by omega⟩) #[.int .u8 1, .int .u8 0, .int .i64 0, .int .i64 1, .string ⟨#[]⟩, .string ⟨#[]⟩, .string ⟨#[]⟩, .int .i64 0, .slice none 0 0, .slice none 0 0, .int .u8 0, .int .i64 0, .slice none 0 0, .slice none 0 0, .int .u8 0, .int .i64 0, .slice none 0 0, .slice none 0 0, .slice none 0 0, .int .u8 1, .int .u8 0, .int .i64 0, .int .i64 1, .string ⟨#[]⟩, .string ⟨#[]⟩, .string ⟨#[]⟩, .int .i64 0, .slice none 0 0, .slice none 0 0, .int .u8 0, .int .i64 0, .slice none 0 0, .slice none 0 0, .int .u8 0, .int .i64 0, .slice none 0 0, .slice none 0 0, .slice none 0 0] rfl 31 _ rfl)
  have HB2 := hid (HB1.out.trans (hb2.mono HB1.out.size))
  clear hb2
  go_wp2_with (first
    | (refine wpList_load_row rfl 31 _ rfl (w.heap.size + 1) rfl 31 _ (0, 0) _ HX1.out Tryz.underlying31 rfl (by kernel_rfl) ?_)
    | (refine wpList_store_row rfl 31 _ _ rfl w.heap.size #[.int .u8 3, .int .u8 0, .int .i64 0, .int .i64 0, .string ⟨#[]⟩, .string ⟨#[]⟩, .string ⟨#[]⟩, .int .i64 r, .slice none 0 0, .slice none 0 0, .int .u8 0, .int .i64 0, .slice none 0 0, .slice none 0 0, .int .u8 0, .int .i64 0, .slice none 0 0, .slice none 0 0, .slice (some ⟨W1.heap.size, 0, none⟩) 2 2] rfl rfl 31 _ HZ2.out (by kernel_rfl) rfl (by simp [Value.oneCell']) ?_))
  refine bodyPost_ret (results_cell_row rfl _ _ _ _ _ _ _ rfl (setRow_heap _ _ _ _ _ _ HZ2.out) Tryz.underlying31 rfl (by kernel_rfl)) rfl ?_
  have hgr : (W1.alloc (.cells #[.int .u8 1, .int .u8 0, .int .i64 0, .int .i64 1, .string ⟨#[]⟩, .string ⟨#[]⟩, .string ⟨#[]⟩, .int .i64 0, .slice none 0 0, .slice none 0 0, .int .u8 0, .int .i64 0, .slice none 0 0, .slice none 0 0, .int .u8 0, .int .i64 0, .slice none 0 0, .slice none 0 0, .slice none 0 0, .int .u8 1, .int .u8 0, .int .i64 0, .int .i64 1, .string ⟨#[]⟩, .string ⟨#[]⟩, .string ⟨#[]⟩, .int .i64 0, .slice none 0 0, .slice none 0 0, .int .u8 0, .int .i64 0, .slice none 0 0, .slice none 0 0, .int .u8 0, .int .i64 0, .slice none 0 0, .slice none 0 0, .slice none 0 0] 31)).grownBy ((W1.alloc (.cells #[.int .u8 1, .int .u8 0, .int .i64 0, .int .i64 1, .string ⟨#[]⟩, .string ⟨#[]⟩, .string ⟨#[]⟩, .int .i64 0, .slice none 0 0, .slice none 0 0, .int .u8 0, .int .i64 0, .slice none 0 0, .slice none 0 0, .int .u8 0, .int .i64 0, .slice none 0 0, .slice none 0 0, .slice none 0 0, .int .u8 1, .int .u8 0, .int .i64 0, .int .i64 1, .string ⟨#[]⟩, .string ⟨#[]⟩, .string ⟨#[]⟩, .int .i64 0, .slice none 0 0, .slice none 0 0, .int .u8 0, .int .i64 0, .slice none 0 0, .slice none 0 0, .int .u8 0, .int .i64 0, .slice none 0 0, .slice none 0 0, .slice none 0 0] 31)).setRow w.heap.size #[.int .u8 3, .int .u8 0, .int .i64 0, .int .i64 0, .string ⟨#[]⟩, .string ⟨#[]⟩, .string ⟨#[]⟩, .int .i64 r, .slice none 0 0, .slice none 0 0, .int .u8 0, .int .i64 0, .slice none 0 0, .slice none 0 0, .int .u8 0, .int .i64 0, .slice none 0 0, .slice none 0 0, .slice (some ⟨W1.heap.size, 0, none⟩) 2 2]) (some w.heap.size) := row_set
  have hne : w.heap.size < W1.heap.size := lt_heap HZ1.out
  refine ⟨W1.heap.size, rfl, mkA_lies (by omega) (by omega) ⟨by omega, by omega⟩ HR.out ⟨row_far HR2.out.row hgr (fun _ ad hp => by cases hp; dsimp only; omega), fun t ht => ?_⟩, HB2.out.grown hgr HB2.out.size (fun k e => by cases e; exact Nat.le_refl _)⟩
  have ht' : t = leafC := by simpa using ht
  rw [ht']
  exact mkA_leaf _ (by omega) (by omega) ⟨by omega, by omega⟩ ⟨by omega, by omega⟩
theorem pairC_small (g : Nat) (r : Int) : SmallNs (pairC g r) := SmallNs.node (mkA_small ..) (fun t ht => by
  have ht' : t = leafC := by simpa using ht
  rw [ht']
  exact SmallNs.node (mkA_small ..) (fun t ht => by cases ht))
def fstC (g1 g2 : Nat) : PA := .node (mkA 4 0 0 (some ⟨g2, 0, none⟩) 1 1) [pairC g1 1]
def regC (g1 g2 g3 : Nat) : PA := .node (mkA 17 0 1 (some ⟨g3, 0, none⟩) 1 1) [fstC g1 g2]
theorem fstC_small (g1 g2 : Nat) : SmallNs (fstC g1 g2) := SmallNs.node (mkA_small ..) (fun t ht => by rw [List.mem_singleton.1 ht]; exact pairC_small _ _)
theorem regC_small (g1 g2 g3 : Nat) : SmallNs (regC g1 g2 g3) := SmallNs.node (mkA_small ..) (fun t ht => by rw [List.mem_singleton.1 ht]; exact fstC_small _ _)
theorem regC_check (g1 g2 g3 : Nat) : checkR (regC g1 g2 g3) = .ok (tInt, []) := by kernel_rfl
theorem fstC_check (g1 g2 : Nat) : checkR (fstC g1 g2) = .error (0, 4) := by kernel_rfl
end
section
open Go.RowKit
set_option maxHeartbeats 8000000 in
theorem awake15_any {w : World} (hv : Vr w) : Calls Tryz.prog 11 #[] w fun e w' => e = .returned (.bool true) ∧ Below w.heap.size w w' := by
  have HV := hid hv
  clear hv
  go_enter Tryz.func11, Tryz.ntmps11
  go_upto_region 2 with (first
    | (go_at_call 34; refine (pair_any 1 ⟨by omega, by omega⟩).mono ?_; rintro e w1 ⟨g1, rfl, hl1, hb⟩; have HL1 := hid hl1; have HB1 := hid hb; clear hl1 hb)
    | (refine wpList_store_row rfl 31 _ _ rfl _ #[.int .u8 4, .int .u8 0, .int .i64 0, .int .i64 0, .string ⟨#[]⟩, .string ⟨#[]⟩, .string ⟨#[]⟩, .int .i64 0, .slice none 0 0, .slice none 0 0, .int .u8 0, .int .i64 0, .slice none 0 0, .slice none 0 0, .int .u8 0, .int .i64 0, .slice none 0 0, .slice none 0 0, .slice (some ⟨w1.heap.size, 0, none⟩) 1 1] rfl rfl 31 _ (heap_new_at _ _ _ _ (by simp)) (by kernel_rfl) rfl (by simp [Value.oneCell']) ?_; rw [setRow_alloc_at _ _ _ _ _ (by simp)]))
  have hb2 : Below w1.heap.size w1 (w1.alloc (.cells #[.int .u8 3, .int .u8 0, .int .i64 0, .int .i64 0, .string ⟨#[]⟩, .string ⟨#[]⟩, .string ⟨#[]⟩, .int .i64 1, .slice none 0 0, .slice none 0 0, .int .u8 0, .int .i64 0, .slice none 0 0, .slice none 0 0, .int .u8 0, .int .i64 0, .slice none 0 0, .slice none 0 0, .slice (some ⟨g1, 0, none⟩) 2 2] 31)) := (Below.refl _ _).alloc (Nat.le_refl _) _
  have HB2 := hid (HB1.out.trans (hb2.mono HB1.out.size))
  have HR2 := hid (show RowTA (w1.alloc (.cells #[.int .u8 3, .int .u8 0, .int .i64 0, .int .i64 0, .string ⟨#[]⟩, .string ⟨#[]⟩, .string ⟨#[]⟩, .int .i64 1, .slice none 0 0, .slice none 0 0, .int .u8 0, .int .i64 0, .slice none 0 0, .slice none 0 0, .int .u8 0, .int .i64 0, .slice none 0 0, .slice none 0 0, .slice (some ⟨g1, 0, none⟩) 2 2] 31)) (some ⟨w1.heap.size, 0, none⟩) 1 1 [pairC g1 1] from rowTA_made HL1.out 31 _ rfl)
  have hs2 : (w1.alloc (.cells #[.int .u8 3, .int .u8 0, .int .i64 0, .int .i64 0, .string ⟨#[]⟩, .string ⟨#[]⟩, .string ⟨#[]⟩, .int .i64 1, .slice none 0 0, .slice none 0 0, .int .u8 0, .int .i64 0, .slice none 0 0, .slice none 0 0, .int .u8 0, .int .i64 0, .slice none 0 0, .slice none 0 0, .slice (some ⟨g1, 0, none⟩) 2 2] 31)).heap.size = w1.heap.size + 1 := by simp
  clear hb2
  generalize w1.alloc (.cells #[.int .u8 3, .int .u8 0, .int .i64 0, .int .i64 0, .string ⟨#[]⟩, .string ⟨#[]⟩, .string ⟨#[]⟩, .int .i64 1, .slice none 0 0, .slice none 0 0, .int .u8 0, .int .i64 0, .slice none 0 0, .slice none 0 0, .int .u8 0, .int .i64 0, .slice none 0 0, .slice none 0 0, .slice (some ⟨g1, 0, none⟩) 2 2] 31) = W2 at *
  rw [← hs2]
  obtain ⟨g2, hg2⟩ : ∃ g2, w1.heap.size = g2 := ⟨_, rfl⟩
  rw [hg2] at HR2 ⊢
  clear hs2 hg2
  have HX3 := hid (heap_new_at W2 #[.int .u8 4, .int .u8 0, .int .i64 0, .int .i64 0, .string ⟨#[]⟩, .string ⟨#[]⟩, .string ⟨#[]⟩, .int .i64 0, .slice none 0 0, .slice none 0 0, .int .u8 0, .int .i64 0, .slice none 0 0, .slice none 0 0, .int .u8 0, .int .i64 0, .slice none 0 0, .slice none 0 0, .slice (some ⟨g2, 0, none⟩) 1 1] 31 _ rfl)
  have hb3 : Below W2.heap.size W2 (W2.alloc (.cells #[.int .u8 4, .int .u8 0, .int .i64 0, .int .i64 0, .string ⟨#[]⟩, .string ⟨#[]⟩, .string ⟨#[]⟩, .int .i64 0, .slice none 0 0, .slice none 0 0, .int .u8 0, .int .i64 0, .slice none 0 0, .slice none 0 0, .int .u8 0, .int .i64 0, .slice none 0 0, .slice none 0 0, .slice (some ⟨g2, 0, none⟩) 1 1] 31)) := (Below.refl _ _).alloc (Nat.le_refl _) _
  have HB3 := hid (HB2.out.trans (hb3.mono HB2.out.size))
  have HL3 := hid (show LA.lies (W2.alloc (.cells #[.int .u8 4, .int .u8 0, .int .i64 0, .int .i64 0, .string ⟨#[]⟩, .string ⟨#[]⟩, .string ⟨#[]⟩, .int .i64 0, .slice none 0 0, .slice none 0 0, .int .u8 0, .int .i64 0, .slice none 0 0, .slice none 0 0, .int .u8 0, .int .i64 0, .slice none 0 0, .slice none 0 0, .slice (some ⟨g2, 0, none⟩) 1 1] 31)) (fstC g1 g2) from mkA_lies (by omega) (by omega) ⟨by omega, by omega⟩ ⟨by omega, by omega⟩ (HR2.out.below hb3))
  clear hb3
  obtain ⟨g3, hg3⟩ : ∃ g3, W2.heap.size = g3 := ⟨_, rfl⟩
  rw [hg3] at HX3 ⊢
  generalize W2.alloc (.cells #[.int .u8 4, .int .u8 0, .int .i64 0, .int .i64 0, .string ⟨#[]⟩, .string ⟨#[]⟩, .string ⟨#[]⟩, .int .i64 0, .slice none 0 0, .slice none 0 0, .int .u8 0, .int .i64 0, .slice none 0 0, .slice none 0 0, .int .u8 0, .int .i64 0, .slice none 0 0, .slice none 0 0, .slice (some ⟨g2, 0, none⟩) 1 1] 31) = W3 at *
  clear hg3 HB2 HR2
  have hb4 : Below W3.heap.size W3 (W3.alloc (.cells #[.int .u8 4, .int .u8 0, .int .i64 0, .int .i64 0, .string ⟨#[]⟩, .string ⟨#[]⟩, .string ⟨#[]⟩, .int .i64 0, .slice none 0 0, .slice none 0 0, .int .u8 0, .int .i64 0, .slice none 0 0, .slice none 0 0, .int .u8 0, .int .i64 0, .slice none 0 0, .slice none 0 0, .slice (some ⟨g2, 0, none⟩) 1 1] 31)) := (Below.refl _ _).alloc (Nat.le_refl _) _
  have HB4 := hid (HB3.out.trans (hb4.mono HB3.out.size))
  have HX4 := hid ((hb4.block _ (lt_heap HX3.out)).trans HX3.out)
  have HL4 := hid (LA.lies_below hb4 _ HL3.out)
  have HR4 := hid (show RowTA (W3.alloc (.cells #[.int .u8 4, .int .u8 0, .int .i64 0, .int .i64 0, .string ⟨#[]⟩, .string ⟨#[]⟩, .string ⟨#[]⟩, .int .i64 0, .slice none 0 0, .slice none 0 0, .int .u8 0, .int .i64 0, .slice none 0 0, .slice none 0 0, .int .u8 0, .int .i64 0, .slice none 0 0, .slice none 0 0, .slice (some ⟨g2, 0, none⟩) 1 1] 31)) (some ⟨W3.heap.size, 0, none⟩) 1 1 [fstC g1 g2] from rowTA_made HL3.out 31 _ rfl)
  have HLR := hid (show LA.lies (W3.alloc (.cells #[.int .u8 4, .int .u8 0, .int .i64 0, .int .i64 0, .string ⟨#[]⟩, .string ⟨#[]⟩, .string ⟨#[]⟩, .int .i64 0, .slice none 0 0, .slice none 0 0, .int .u8 0, .int .i64 0, .slice none 0 0, .slice none 0 0, .int .u8 0, .int .i64 0, .slice none 0 0, .slice none 0 0, .slice (some ⟨g2, 0, none⟩) 1 1] 31)) (regC g1 g2 W3.heap.size) from mkA_lies (by omega) (by omega) ⟨by omega, by omega⟩ ⟨by omega, by omega⟩ HR4.out)
  clear hb4
  have HC1 := hid (check_Check_any (t := regC g1 g2 W3.heap.size) HLR.out (regC_small _ _ _) (show (5 : Nat) ≤ 1000 by omega) (HV.out.below HB4.out))
  rw [regC_check] at HC1
  go_upto_region 3 with (first
    | (refine wpList_load_row rfl 31 _ rfl g3 rfl 31 _ (0, 0) _ HX3.out Tryz.underlying31 rfl (by kernel_rfl) ?_)
    | (go_at_call 12; refine HC1.out.mono ?_; rintro e w5 ⟨⟨y, q, m, qc, rfl, hly, hey, hrow⟩, hb⟩; have HB5 := hid (HB4.out.trans (hb.mono HB4.out.size)); have HX5 := hid ((hb.block _ (lt_heap HX4.out)).trans HX4.out); have HL5 := hid (LA.lies_below hb _ HL4.out); obtain rfl : m = 0 := hrow.len.symm; have hky : y.head.kind = 1 := (by have h1 := er_head y; rw [hey] at h1; exact (congrArg LH.kind h1).symm); have HKY := hid hky; clear hly hey hrow hb hky)
    | (refine wpList_store_row rfl 28 _ _ rfl _ #[.int .u8 y.head.kind, .int .i64 y.head.rho, .slice y.head.ep y.head.en y.head.ec, .slice y.head.kp y.head.kn y.head.kc] rfl rfl 28 _ (heap_new_at _ _ _ _ (by simp)) (by kernel_rfl) rfl (by simp [Value.oneCell']) ?_; rw [setRow_alloc_at _ _ _ _ _ (by simp)]))
  clear HC1 HLR HR4 HB4 HX4 HL4
  have hb6 : Below w5.heap.size w5 (w5.alloc (.cells #[.int .u8 y.head.kind, .int .i64 y.head.rho, .slice y.head.ep y.head.en y.head.ec, .slice y.head.kp y.head.kn y.head.kc] 28)) := (Below.refl _ _).alloc (Nat.le_refl _) _
  have HB6 := hid (HB5.out.trans (hb6.mono HB5.out.size))
  have HX6 := hid ((hb6.block _ (lt_heap HX5.out)).trans HX5.out)
  have HY6 := hid (heap_new_at w5 #[.int .u8 y.head.kind, .int .i64 y.head.rho, .slice y.head.ep y.head.en y.head.ec, .slice y.head.kp y.head.kn y.head.kc] 28 _ rfl)
  have HC2 := hid (check_Check_any (t := fstC g1 g2) (LA.lies_below hb6 _ HL5.out) (fstC_small _ _) (show (4 : Nat) ≤ 1000 by omega) (HV.out.below HB6.out))
  rw [fstC_check] at HC2
  clear hb6
  obtain ⟨g6, hg6⟩ : ∃ g6, w5.heap.size = g6 := ⟨_, rfl⟩
  rw [hg6] at HY6 ⊢
  generalize w5.alloc (.cells #[.int .u8 y.head.kind, .int .i64 y.head.rho, .slice y.head.ep y.head.en y.head.ec, .slice y.head.kp y.head.kn y.head.kc] 28) = W6 at *
  clear hg6
  go_upto_region 4 with (first
    | (refine wpList_load_row rfl 31 _ rfl g3 rfl 31 _ (0, 0) _ HX6.out Tryz.underlying31 rfl (by kernel_rfl) ?_)
    | (go_at_call 12; refine HC2.out.mono ?_; rintro e w7 ⟨he, hb⟩; obtain rfl := he; have HB7 := hid (HB6.out.trans (hb.mono HB6.out.size)); have HY7 := hid ((hb.block _ (lt_heap HY6.out)).trans HY6.out); clear hb)
    | (refine wpList_store_row rfl 28 _ _ rfl _ #[.int .u8 0, .int .i64 0, .slice none 0 0, .slice none 0 0] rfl rfl 28 _ (heap_new_at _ _ _ _ (by simp)) (by kernel_rfl) rfl (by simp [Value.oneCell']) ?_; rw [setRow_alloc_at _ _ _ _ _ (by simp)]))
  have hb8 : Below w7.heap.size w7 (w7.alloc (.cells #[.int .u8 0, .int .i64 0, .slice none 0 0, .slice none 0 0] 28)) := (Below.refl _ _).alloc (Nat.le_refl _) _
  have HB8 := hid (HB7.out.trans (hb8.mono HB7.out.size))
  have c0 : (w7.alloc (.cells #[.int .u8 0, .int .i64 0, .slice none 0 0, .slice none 0 0] 28)).cell? ⟨g6, 0, none⟩ = some (.int .u8 1) := by
    rw [Lib.cell_of_heap ((hb8.block _ (lt_heap HY7.out)).trans HY7.out), ← HKY.out]; rfl
  clear hb8
  go_wp2_with fail
  go_ret
  exact ⟨ret_bool (by decide), HB8.out⟩
end
section
open Go.RowKit
theorem same_er {x y : PT} (h : PT.er x = PT.er y) : sameP x y = true := by
  have e := sameP_refl y
  unfold sameP at e ⊢
  rw [h]; exact e
end
section
open Go.RowKit
theorem ref_Equal_rowC {p : Option Addr} {n cap : Nat} {l : List Atom} {q : Option Addr} {m mc : Nat} {w : World} (hr : IsRow encA 3 w p n cap l) (hr' : IsRow encA 3 w q m mc l) :
    Calls Tryz.prog 14 #[.slice p n cap, .slice q m mc] w fun e w' => e = .returned (.bool true) ∧ Below w.heap.size w w' := by
  refine (ref_Equal_any p n cap l q m mc l w hr.len hr.max hr.row hr'.len hr'.max hr'.row).mono ?_
  rintro e w' ⟨rfl, j, rfl⟩
  exact ⟨by simp [eqL], below_drewN (Below.refl _ _) _⟩
end
section
open Go.RowKit
set_option maxHeartbeats 4000000 in
theorem ref13_Own_any (a : AH) {w : World} (hr : IsRow encN 1 w a.rp a.rn a.rc a.rhos) :
    Calls Tryz.prog 47 #[aggT a] w fun e w' => ∃ p n c, e = .returned (.slice p n c) ∧ IsRow encN 1 w' p n c (bindsR a.plain) ∧ Below w.heap.size w w' := by
  have HR := hid hr
  have HB := hid (boxA_new w a)
  have HB1 : Hid (Below w.heap.size w (w.alloc (boxA a))) := (Below.refl _ _).alloc (Nat.le_refl _) _
  have c0 := HB.out.c 0 _ rfl
  have c7 := HB.out.c 7 _ rfl
  have c8 := HB.out.c 8 _ rfl
  clear hr
  by_cases h17 : a.kind = 17
  · have e17 : (a.kind == 17) = true := by simp [h17]
    have HQ : Hid (bindsR a.plain = [a.rho]) := by
      show _ = _
      unfold bindsR
      rw [if_pos (show a.plain.kind = 17 from h17)]; rfl
    clear h17
    go_enter Tryz.func47, Tryz.ntmps47
    go_wp2_with fail
    go_ret
    exact ⟨_, _, _, rfl, by rw [HQ.out]; have h := row_made encN_len (by omega) (w.alloc (boxA a)) 3 [a.rho] 1 _ rfl rfl (by decide); rw [World.size_alloc] at h; exact h, bel_alloc HB1.out _⟩
  · have e17 : (a.kind == 17) = false := by simp [h17]
    by_cases h13 : a.kind = 13
    · have e13 : (a.kind == 13) = true := by simp [h13]
      have HQ : Hid (bindsR a.plain = a.rhos) := by
        show _ = _
        unfold bindsR
        rw [if_neg (show ¬ a.plain.kind = 17 from h17), if_pos (show a.plain.kind = 13 from h13)]; rfl
      clear h17 h13
      go_enter Tryz.func47, Tryz.ntmps47
      go_wp2_with fail
      go_ret
      exact ⟨_, _, _, rfl, by rw [HQ.out]; exact HR.out.below HB1.out, HB1.out⟩
    · have e13 : (a.kind == 13) = false := by simp [h13]
      have HQ : Hid (bindsR a.plain = []) := by
        show _ = _
        unfold bindsR
        rw [if_neg (show ¬ a.plain.kind = 17 from h17), if_neg (show ¬ a.plain.kind = 13 from h13)]
      clear h17 h13
      go_enter Tryz.func47, Tryz.ntmps47
      go_wp2_with fail
      go_ret
      exact ⟨_, 0, 0, rfl, by rw [HQ.out]; exact ⟨rfl, by decide, Nat.le_refl _, fun h => rfl, .inl rfl⟩, bel_alloc HB1.out _⟩
theorem wpList_appendF {P : Program} {α : Type} {ops : Array Oper} {rest : List Oper} {o : Oper} {a : Act} {Q : Exit → Act → World → Prop} (hgd : o.guard = none) (s x : Operand) (t : TypeId)
    (ho : o.op = .call { callee := .builtin .append, args := #[s, x], argTypes := #[t, t] })
    (base : Nat) (e : TypeId) (z : Value) (k bytes : Nat) (ht : P.underlying t = some (.slice e)) (hinfo : (P.info? e).map (fun i => (i.zero, i.size, i.bytes)) = some (some z, k, bytes))
    (hzs : z.cells.size = k) (hsz : 0 < k)
    (enc : α → List Value) (hk : ∀ x, (enc x).length = k) (h1 : ∀ y, ∀ u ∈ enc y, u.oneCell' = true) (l' l : List α) (n : Nat) {w : World} (v : Value) (hown : OwnE enc k w base e v n l)
    (p : Option Addr) (m c : Nat) (hs : a.eval s = v) (hx : a.eval x = .slice p m c) (hl : l'.length = m) (hp : p = none → c = 0) (hr : RowE enc k w p l')
    (hbytes : (n + m) * bytes ≤ 140737488355328) (h63 : n + m ≤ 9223372036854775807) (hbase : base ≤ w.heap.size)
    (h : ∀ v' w', OwnE enc k w' base e v' (n + m) (l ++ l') → w.grownBy w' v.ownBlock → (∀ b, b < w.heap.size → v'.ownBlock = some b → v.ownBlock = some b) → wpList P ops Q rest (a.put o.dst v') w') :
    wpList P ops Q (o :: rest) a w := by
  refine wpList_plain hgd fun K' hK' => ?_
  have := step_appendR (K := K') (Q := Q) (ops := ops) (E := True) hgd s x t ho base e z k bytes ht hinfo hzs hsz enc hk h1 l' l n v hown p m c hs hx hl hp hr hbytes h63 hbase (fun v' w' a1 a2 a3 => hK' _ _ (h v' w' a1 a2 a3))
  rwa [if_pos (by simp [Region.wanted, hgd])] at this
def bindsA (l : List AH) : List Int := l.flatMap (fun a => bindsR a.plain)
theorem bindsA_len {l : List AH} (h : ∀ a ∈ l, a.rhos.length ≤ 50) : (bindsA l).length ≤ 50 * l.length := by
  induction l with
  | nil => simp [bindsA]
  | cons a l ih =>
    have h1 := ih (fun x hx => h x (by simp [hx]))
    have h2 := bindsR_len (h a (by simp)) (by decide)
    simp only [bindsA, List.flatMap_cons, List.length_append, List.length_cons] at h1 ⊢
    omega
theorem bindsA_t (t : PA) : bindsA (Rose.nodes t) = bindsT (PA.er t) := by
  unfold bindsA bindsT bindsG
  rw [nodes_mapA, List.flatMap_map]
structure BnI (w W1 w2 : World) (p2 : Option Addr) (n2 c2 : Nat) (l : List AH) (u : Value) (k : Nat) (wr : World) : Prop where
  own : OwnE encN 1 wr (w.heap.size + 1) 3 u (bindsA (l.take k)).length (bindsA (l.take k))
  far : ∀ b, u.ownBlock = some b → b < W1.heap.size ∨ w2.heap.size ≤ b
  row : IsRow encAH 19 wr p2 n2 c2 l
  below : Below w.heap.size w wr
  size : w2.heap.size ≤ wr.heap.size
theorem BnI.step {w W1 w2 : World} {p2 : Option Addr} {n2 c2 : Nat} {l : List AH} {u : Value} {k : Nat} {wr wr' : World} (h : BnI w W1 w2 p2 n2 c2 l u k wr) (hb : Below wr.heap.size wr wr') : BnI w W1 w2 p2 n2 c2 l u k wr' :=
  ⟨h.own.below hb, h.far, h.row.below hb, h.below.trans (hb.mono h.below.size), Nat.le_trans h.size hb.size⟩
theorem BnI.base {w W1 w2 : World} {p2 : Option Addr} {n2 c2 : Nat} {l : List AH} {u : Value} {k : Nat} {wr : World} (h : BnI w W1 w2 p2 n2 c2 l u k wr) (hs : w.heap.size + 1 ≤ w2.heap.size) : w.heap.size + 1 ≤ wr.heap.size := Nat.le_trans hs h.size
theorem BnI.add {w W1 w2 : World} {p2 : Option Addr} {n2 c2 : Nat} {l : List AH} {u v : Value} {k m : Nat} {wr wr' : World} {x : AH} (h : BnI w W1 w2 p2 n2 c2 l u k wr) (hfr : ∀ b : Addr, p2 = some b → W1.heap.size ≤ b.block ∧ b.block < w2.heap.size) (hx : l[k]? = some x) (hm : (bindsR x.plain).length = m)
    (hown : OwnE encN 1 wr' (w.heap.size + 1) 3 v ((bindsA (l.take k)).length + m) (bindsA (l.take k) ++ bindsR x.plain)) (hg : wr.grownBy wr' u.ownBlock) (hf : ∀ b, b < wr.heap.size → v.ownBlock = some b → u.ownBlock = some b) : BnI w W1 w2 p2 n2 c2 l v (k + 1) wr' := by
  have e : bindsA (l.take (k + 1)) = bindsA (l.take k) ++ bindsR x.plain := by
    rw [take_succ_get hx]
    simp [bindsA]
  refine ⟨?_, fun b hb => ?_, isRow_grown hg (fun _ ad hp e => ?_) h.row, h.below.grown hg h.below.size (fun b hb => by have := (World.ownsRow.lt h.own b hb).1; omega), Nat.le_trans h.size hg.size⟩
  · rw [e, List.length_append, hm]; exact hown
  · by_cases hlt : b < wr.heap.size
    · exact h.far b (hf b hlt hb)
    · have := h.size; exact .inr (by omega)
  · have h1 := hfr ad hp
    have h2 := h.far ad.block e
    omega
set_option maxHeartbeats 8000000 in
theorem ref13_Binds_any {t : PA} {w : World} (hl : LA.lies w t) (hs : SmallNs t) (hz : t.size ≤ 1000) :
    Calls Tryz.prog 22 #[aggT t.head] w fun e w' => ∃ p n c, e = .returned (.slice p n c) ∧ IsRow encN 1 w' p n c (bindsT (PA.er t)) ∧ Below w.heap.size w w' := by
  have HBX := hid (boxA_new w t.head)
  have HL := hid hl
  have HOW := hid (nodes_ownA hl)
  have HS := hid hs
  have hln := nodes_length t
  have hb1 : Below w.heap.size w ((w.alloc (boxA t.head)).alloc (.cells #[] 3)) := ((Below.refl _ _).alloc (Nat.le_refl _) _).alloc (by simp) _
  have HB1 := hid hb1
  have HBX1 := hid (HBX.out.below ((Below.refl _ _).alloc (Nat.le_refl _) (.cells #[] 3)))
  have HO1 := hid (OwnE.lit encN (w.alloc (boxA t.head)) (w.heap.size + 1) 3 1 (by simp))
  have hsz1 : (w.alloc (boxA t.head)).heap.size = w.heap.size + 1 := by simp
  have hsz2 : ((w.alloc (boxA t.head)).alloc (.cells #[] 3)).heap.size = w.heap.size + 2 := by simp
  have HSZ2 := hid hsz2
  rw [hsz1] at HO1
  have HZ := hid hz
  have HLN := hid hln
  clear hl hs hb1 hsz1 hsz2 hz hln
  go_enter Tryz.func22, Tryz.ntmps22
  go_upto_region 2 with fail
  generalize ((w.alloc (boxA t.head)).alloc (.cells #[] 3)) = W1 at *
  go_upto_region 3 with (first
    | (refine wpList_load_row rfl 31 _ rfl w.heap.size rfl 31 _ (0, 0) _ HBX1.out.blk Tryz.underlying31 rfl (by kernel_rfl) ?_)
    | (go_at_call 26; refine (allAt_any t _ (LA.lies_below HB1.out t HL.out) HZ.out).mono ?_; rintro e w2 ⟨⟨p2, c2, rfl, hown2⟩, hb⟩; have HB2 := hid (HB1.out.trans (hb.mono HB1.out.size)); have HO2 := hid (HO1.out.below hb); have HBC := hid hb; have HN2 := hid hown2; clear hb hown2))
  obtain ⟨q2, cc2, hv2, hrow2⟩ := OwnE.isRow encAH_len (by omega) HN2.out
  cases hv2
  have HROW := hid hrow2
  have HFR : Hid (∀ b : Addr, p2 = some b → W1.heap.size ≤ b.block ∧ b.block < w2.heap.size) := fun b e => World.ownsRow.lt HN2.out b.block (by rw [e]; rfl)
  have hlen := HROW.out.len
  have HSW : Hid (w.heap.size + 1 ≤ w2.heap.size) := by have h1 := HSZ2.out; have h2 := HBC.out.size; show _ ≤ _; omega
  clear hrow2
  go_wp2_with fail
  go_loopw [3, 5, 11] (fun u _ i wr => ∃ k : Nat, k ≤ t.size ∧ i = .int .i64 k ∧ BnI w W1 w2 p2 t.size c2 (Rose.nodes t) u k wr) (fun _ _ i _ => t.size - (intOf i).toNat)
  case atStart => exact ⟨0, Nat.zero_le _, rfl, ⟨HO2.out, fun b e => by have h1 := HSZ2.out; have h2 : w.heap.size + 1 = b := Option.some.inj e; exact .inl (by omega), HROW.out, HB2.out, Nat.le_refl _⟩⟩
  case round =>
    obtain ⟨k, hk, rfl, hbn⟩ := hrel
    have HBN := hid hbn
    clear hbn
    by_cases hlt : k < t.size
    · obtain ⟨x, hx⟩ : ∃ x, (Rose.nodes t)[k]? = some x := get_of_lt (by rw [hlen]; exact hlt)
      obtain ⟨b, o, hbo, hbl, hcs⟩ := HBN.out.row.row.elem hx
      subst hbo
      have hxm := List.mem_of_getElem? hx
      have HX := hid hx
      have HCS := hid (show ∀ i v, (encAH x)[i]? = some v → wr.cell? ⟨b, o + k * 19 + i, none⟩ = some v from hcs)
      have HRH := hid ((HOW.out x hxm).rhos.below (Below.mono HBN.out.below (Nat.le_refl _)))
      have hacc := bindsA_len (l := (Rose.nodes t).take k) (fun a ha => by have h1 := (HOW.out a (List.mem_of_mem_take ha)).rhos.len; have h2 := (HS.out a (List.mem_of_mem_take ha)).rhos; omega)
      have hxl := bindsR_len (a := x) (n := 50) (by have h1 := (HOW.out x hxm).rhos.len; have h2 := (HS.out x hxm).rhos; omega) (by decide)
      rw [List.length_take] at hacc
      have hzz := HZ.out
      clear hx hbl hcs hxm
      go_wp2_with (first
        | (refine wpList_load_mid rfl 31 _ rfl b (o + k * 19) rfl (encAH x) _ HCS.out Tryz.underlying31 rfl (by kernel_rfl) ?_)
        | (go_at_call 47; refine (ref13_Own_any x HRH.out).mono ?_; rintro e w3 ⟨p3, n3, c3, rfl, hrow3, hb3⟩; have HR3 := hid hrow3; have hn3 := hrow3.len; have HBN3 := hid (HBN.out.step hb3); have hsz3 := HBN3.out.below.size; clear hrow3 hb3)
        | (at_builtin; refine wpList_appendF rfl _ _ 24 rfl (w.heap.size + 1) 3 _ 1 8 Tryz.underlying24 infoN rfl (by decide) encN encN_len encN_one (bindsR x.plain) (bindsA ((Rose.nodes t).take k)) (bindsA ((Rose.nodes t).take k)).length _ HBN3.out.own _ n3 _ rfl rfl hn3 HR3.out.nil HR3.out.row (by omega) (by omega) (HBN3.out.base HSW.out) ?_; intro v4 w4 hown4 hg4 hf4; have HBN4 := hid (HBN3.out.add HFR.out HX.out hn3 hown4 hg4 hf4); clear hown4 hg4 hf4))
      go_roundw
      case rel => exact ⟨k + 1, by omega, by go_num, HBN4.out⟩
      case measure => simp [intOf]; omega
    · have hkn : k = t.size := by omega
      subst hkn
      have hown := HBN.out.own
      rw [List.take_of_length_le (by omega), bindsA_t] at hown
      obtain ⟨p5, c5, rfl, hrow5⟩ := OwnE.isRow encN_len (by omega) hown
      have HR5 := hid hrow5
      clear hown hrow5
      go_wp2_with fail
      go_ret
      exact ⟨_, _, _, rfl, HR5.out, HBN.out.below⟩
end
section
open Go.RowKit
def pairX (g : Nat) (s t : PA) : PA := .node (mkA 3 0 0 (some ⟨g, 0, none⟩) 2 2) [s, t]
theorem pairX_small {g : Nat} {s t : PA} (hs : SmallNs s) (ht : SmallNs t) : SmallNs (pairX g s t) := SmallNs.node (mkA_small ..) (fun u hu => by
  simp only [List.mem_cons, List.not_mem_nil, or_false] at hu
  rcases hu with rfl | rfl
  · exact hs
  · exact ht)
theorem pairX_may (g : Nat) (s t : PA) : mayA (pairX g s t) = (mayA s && mayA t) := by
  unfold pairX
  rw [mayA_node]
  have e1 : node13 (mkA 3 0 0 (some ⟨g, 0, none⟩) 2 2) = true := by kernel_rfl
  rw [e1]
  simp
theorem pairX_er (g : Nat) (s t : PA) : PA.er (pairX g s t) = pairA (PA.er s) (PA.er t) := by
  unfold pairX pairA
  rw [PA.er_node]
  rfl
theorem pairX_size (g : Nat) (s t : PA) : (pairX g s t).size = s.size + t.size + 1 := by
  unfold pairX
  rw [Rose.size_node]
  simp
  omega
theorem checkR_ok {t : PA} {x : TE} (h : checkR t = .ok x) : mayA t = true ∧ checkA (PA.er t) = .ok x := by
  unfold checkR at h
  cases hm : mayA t with
  | true => rw [hm, if_pos rfl] at h; exact ⟨rfl, h⟩
  | false => rw [hm, if_neg Bool.false_ne_true] at h; cases h
theorem pairX_check {g : Nat} {s t : PA} {x y : TE} (hx : checkR s = .ok x) (hy : checkR t = .ok y) (hd : ∀ z ∈ bindsT (PA.er s), z ∉ bindsT (PA.er t)) (hsz : x.1.size + y.1.size < 500) :
    checkR (pairX g s t) = .ok (tyP 2 0 [] [x.1, y.1], effL ([aPut 0] ++ (x.2 ++ y.2))) := by
  obtain ⟨m1, c1⟩ := checkR_ok hx
  obtain ⟨m2, c2⟩ := checkR_ok hy
  unfold checkR
  rw [pairX_may, pairX_er, m1, m2, Bool.and_self, if_pos rfl]
  exact pairs_plain c1 c2 hd hsz
theorem checkR_size {t : PA} {x : TE} (h : checkR t = .ok x) : x.1.size ≤ 500 := by
  have hc := (checkA_ok.1 (checkR_ok h).2).2
  obtain ⟨a, l, e⟩ : ∃ a l, PA.er t = Rose.node a l := ⟨(PA.er t).head, (PA.er t).kids, Rose.eta _⟩
  rw [e] at hc
  exact (chk_ok.1 hc).2
theorem checkR_len {w : World} {t : PA} {x : TE} (hl : LA.lies w t) (hs : SmallNs t) (hz : t.size ≤ 1000) (hr : checkR t = .ok x) : x.2.length ≤ 102000 := by
  obtain ⟨hm, hc⟩ := checkR_ok hr
  have hg := chk_good (PA.er t) [] [0] x (good_of_may t hl hs hm) (fun b hb => by cases hb) (checkA_ok.1 hc).2
  have h2 : (PA.er t).size = t.size := Rose.size_map _ _
  have h3 := hg.len
  omega
theorem pair_eff (l m : List Atom) : effL (l ++ (m ++ [aPut 0])) = effL ([aPut 0] ++ (l ++ m)) := effL_congr (fun x hx => by
  simp only [List.mem_append, List.mem_cons, List.not_mem_nil, or_false]
  constructor
  · rintro (h | h | h)
    · exact .inr (.inl h)
    · exact .inr (.inr h)
    · exact .inl h
  · rintro (h | h | h)
    · exact .inr (.inr h)
    · exact .inl h
    · exact .inr (.inl h))
structure PairP (W : World) (g : Nat) (y u v : PT) (b o : Nat) : Prop where
  kind : ∀ W', Below W.heap.size W W' → W'.cell? ⟨g, 0, none⟩ = some (.int .u8 2)
  kids : ∀ W', Below W.heap.size W W' → W'.cell? ⟨g, 3, none⟩ = some (.slice (some ⟨b, o, none⟩) 2 y.head.kc)
  ru : ∀ W', Below W.heap.size W W' → W'.rangeAt b o [.int .u8 u.head.kind, .int .i64 u.head.rho, .slice u.head.ep u.head.en u.head.ec, .slice u.head.kp u.head.kn u.head.kc]
  rv : ∀ W', Below W.heap.size W W' → W'.rangeAt b (o + 4) [.int .u8 v.head.kind, .int .i64 v.head.rho, .slice v.head.ep v.head.en v.head.ec, .slice v.head.kp v.head.kn v.head.kc]
  lu : LR.lies W u
  lv : LR.lies W v
theorem pair_parts {W : World} {g : Nat} {y : PT} {xa xb : RT} (hy : W.heap[g]? = some (.cells (cells4 y) 28 (0, 0))) (hl : LR.lies W y) (he : y.er = tyP 2 0 [] [xa, xb]) :
    ∃ u v b o, PairP W g y u v b o ∧ PT.er u = xa ∧ PT.er v = xb := by
  obtain ⟨a, l, rfl⟩ : ∃ a l, y = Rose.node a l := ⟨y.head, y.kids, Rose.eta y⟩
  rw [PT.er_node] at he
  unfold tyP at he
  injection he with h1 h2
  have hk : a.kind = 2 := congrArg LH.kind h1
  match l, h2, hl with
  | [u, v], h2, hl =>
    simp only [List.map_cons, List.map_nil, List.cons.injEq, and_true] at h2
    have hn := nodeIn hl
    have hkn : a.kn = 2 := hn.kids.len.symm
    obtain ⟨b, o, hp, _, _⟩ := hn.kids.row.elem (show [u, v][0]? = some u from rfl)
    refine ⟨u, v, b, o, ⟨fun W' hw => ?_, fun W' hw => ?_, fun W' hw i z hz => ?_, fun W' hw i z hz => ?_, hn.each u (by simp), hn.each v (by simp)⟩, h2.1, h2.2⟩
    · rw [Lib.cell_of_heap ((hw.block _ (lt_heap hy)).trans hy)]
      show some (Value.int .u8 a.kind) = _
      rw [hk]
    · rw [Lib.cell_of_heap ((hw.block _ (lt_heap hy)).trans hy)]
      show some (Value.slice a.kp a.kn a.kc) = _
      rw [hkn, hp]
      rfl
    · obtain ⟨b', o', hp', _, hc'⟩ := (hn.kids.below hw).row.elem (show [u, v][0]? = some u from rfl)
      rw [hp] at hp'
      cases hp'
      simpa using hc' i z hz
    · obtain ⟨b', o', hp', _, hc'⟩ := (hn.kids.below hw).row.elem (show [u, v][1]? = some v from rfl)
      rw [hp] at hp'
      cases hp'
      simpa using hc' i z hz
end
end Go.Proofs.YtkdjnegfnhldpaaGreatDoor
