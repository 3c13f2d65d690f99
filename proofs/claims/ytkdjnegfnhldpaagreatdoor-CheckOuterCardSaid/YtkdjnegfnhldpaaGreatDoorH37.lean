/- Part 37 of the texts: Le, Lf, Lg, Lh, Li, Lj, LaidK, Ot, Lk. -/
import Derived.Test.YtkdjnegfnhldpaaGreatDoorH36
import Derived.Test.YtkdjnegfnhldpaaGreatDoorH12
import Derived.Test.YtkdjnegfnhldpaaGreatDoorH09
import Derived.Test.YtkdjnegfnhldpaaGreatDoorH24
import Derived.Test.YtkdjnegfnhldpaaGreatDoorCards
import Derived.Test.YtkdjnegfnhldpaaGreatDoorTie
import Derived.LaidMore
import Derived.ProofKit
import Derived.Deep.DeepHandedRow
import Derived.Test.YtkdjnegfnhldpaaGreatDoorH07
set_option linter.unusedVariables false
set_option maxRecDepth 100000
set_option linter.unusedSimpArgs false
namespace Go.Proofs.YtkdjnegfnhldpaaGreatDoor
open Go.Lib (hid)
section
open Go.RowKit
structure CE (w : World) (t : PA) : Prop where
  lies : LA.lies w t
  small : SmallNs t
  size : t.size ≤ 200
theorem CE.below {w w' : World} {t : PA} (h : CE w t) (hb : Below w.heap.size w w') : CE w' t := ⟨LA.lies_below hb t h.lies, h.small, h.size⟩
set_option maxHeartbeats 4000000 in
theorem great_any {w : World} (t : PA) (hl : LA.lies w t) :
    Calls Tryz.prog 10 #[aggT t.head] w fun e w' => (∃ r, e = .returned (.bool r) ∧ (r = false → CE w t)) ∧ Below w.heap.size w w' := by
  have HB := hid ((Below.refl w.heap.size w).alloc (Nat.le_refl _) (boxA t.head))
  have HBX := hid (boxA_new w t.head)
  have HG := hid (ref13_Great_any (LA.lies_below HB.out t hl))
  have HL := hid hl
  clear hl
  go_enter Tryz.func10, Tryz.ntmps10
  go_wp2_with (first
    | (refine wpList_load_row rfl 31 _ rfl w.heap.size rfl 31 _ (0, 0) _ HBX.out.blk Tryz.underlying31 rfl (by kernel_rfl) ?_)
    | (refine wpList_load_midG (by rfl) 31 _ rfl w.heap.size 0 rfl [.int .u8 t.head.kind, .int .u8 t.head.op, .int .i64 t.head.at_, .int .i64 t.head.n, .string t.head.name, .string t.head.arg, .string t.head.exn, .int .i64 t.head.rho, .slice t.head.rp t.head.rn t.head.rc, .slice t.head.ep t.head.en t.head.ec, .int .u8 t.head.ty.head.kind, .int .i64 t.head.ty.head.rho, .slice t.head.ty.head.ep t.head.ty.head.en t.head.ty.head.ec, .slice t.head.ty.head.kp t.head.ty.head.kn t.head.ty.head.kc, .int .u8 t.head.res.head.kind, .int .i64 t.head.res.head.rho, .slice t.head.res.head.ep t.head.res.head.en t.head.res.head.ec, .slice t.head.res.head.kp t.head.res.head.kn t.head.res.head.kc, .slice t.head.kp t.head.kn t.head.kc] _ HBX.out.range Tryz.underlying31 rfl (by kernel_rfl) ?_)
    | (go_at_call 33; refine HG.out.mono ?_; rintro e w8 ⟨⟨r, rfl, hgr⟩, hb⟩; have HB := hid (HB.out.trans (hb.mono HB.out.size)); have HBX := hid (HBX.out.below hb); clear hb; have HGR := hid hgr; clear hgr; cases r; have HSZ := hid (show t.size ≤ 1000 from Nat.le_trans (HGR.out rfl).1 (by omega)))
    | (go_at_call 26; refine (allAt_any t _ (LA.lies_below HB.out t HL.out) HSZ.out).mono ?_; rintro e w9 ⟨⟨p, c, rfl, hown⟩, hb⟩; clear hown; have HB := hid (HB.out.trans (hb.mono HB.out.size)); clear hb))
  · go_ret
    exact ⟨⟨_, rfl, fun h => ⟨HL.out, (HGR.out (by first | trivial | rfl)).2, by simp at h; omega⟩⟩, HB.out⟩
  · go_ret
    exact ⟨⟨_, rfl, fun h => by simp at h⟩, HB.out⟩
def leafC : PA := .node (mkA 1 1 0 none 0 0) []
def pairC (g : Nat) (r : Int) : PA := .node (mkA 3 0 r (some ⟨g, 0, none⟩) 2 2) [leafC, leafC]
set_option maxHeartbeats 4000000 in
theorem pair_any {w : World} (r : Int) (hr : inI r) :
    Calls Tryz.prog 34 #[.int .i64 r] w fun e w' => ∃ g : Nat, e = .returned (.agg #[.int .u8 3, .int .u8 0, .int .i64 0, .int .i64 0, .string ⟨#[]⟩, .string ⟨#[]⟩, .string ⟨#[]⟩, .int .i64 r, .slice none 0 0, .slice none 0 0, .int .u8 0, .int .i64 0, .slice none 0 0, .slice none 0 0, .int .u8 0, .int .i64 0, .slice none 0 0, .slice none 0 0, .slice (some ⟨g, 0, none⟩) 2 2]) ∧ LA.lies w' (pairC g r) ∧ Below w.heap.size w w' := by
  have hz0 := heap_new_at w #[.int .u8 0, .int .u8 0, .int .i64 0, .int .i64 0, .string ⟨#[]⟩, .string ⟨#[]⟩, .string ⟨#[]⟩, .int .i64 0, .slice none 0 0, .slice none 0 0, .int .u8 0, .int .i64 0, .slice none 0 0, .slice none 0 0, .int .u8 0, .int .i64 0, .slice none 0 0, .slice none 0 0, .slice none 0 0] 31 _ rfl
  have hbz : Below w.heap.size w (w.alloc (.cells #[.int .u8 0, .int .u8 0, .int .i64 0, .int .i64 0, .string ⟨#[]⟩, .string ⟨#[]⟩, .string ⟨#[]⟩, .int .i64 0, .slice none 0 0, .slice none 0 0, .int .u8 0, .int .i64 0, .slice none 0 0, .slice none 0 0, .int .u8 0, .int .i64 0, .slice none 0 0, .slice none 0 0, .slice none 0 0] 31)) := (Below.refl _ _).alloc (Nat.le_refl _) _
  have HZ0 := hid hz0
  have HBZ := hid hbz
  have HR := hid hr
  clear hz0 hbz hr
  go_enter Tryz.func34, Tryz.ntmps34
  go_upto_region 2 with (refine wpList_store_row rfl 31 _ _ rfl _ #[.int .u8 1, .int .u8 0, .int .i64 0, .int .i64 1, .string ⟨#[]⟩, .string ⟨#[]⟩, .string ⟨#[]⟩, .int .i64 0, .slice none 0 0, .slice none 0 0, .int .u8 0, .int .i64 0, .slice none 0 0, .slice none 0 0, .int .u8 0, .int .i64 0, .slice none 0 0, .slice none 0 0, .slice none 0 0] rfl rfl 31 _ (heap_new_at _ _ _ _ (by simp)) (by kernel_rfl) rfl (by simp [Value.oneCell']) ?_; rw [setRow_alloc_at _ _ _ _ _ (by simp)])
  have HX1 := hid (heap_new_at (w.alloc (.cells #[.int .u8 0, .int .u8 0, .int .i64 0, .int .i64 0, .string ⟨#[]⟩, .string ⟨#[]⟩, .string ⟨#[]⟩, .int .i64 0, .slice none 0 0, .slice none 0 0, .int .u8 0, .int .i64 0, .slice none 0 0, .slice none 0 0, .int .u8 0, .int .i64 0, .slice none 0 0, .slice none 0 0, .slice none 0 0] 31)) #[.int .u8 1, .int .u8 0, .int .i64 0, .int .i64 1, .string ⟨#[]⟩, .string ⟨#[]⟩, .string ⟨#[]⟩, .int .i64 0, .slice none 0 0, .slice none 0 0, .int .u8 0, .int .i64 0, .slice none 0 0, .slice none 0 0, .int .u8 0, .int .i64 0, .slice none 0 0, .slice none 0 0, .slice none 0 0] 31 _ rfl)
  have hb1 : Below (w.alloc (.cells #[.int .u8 0, .int .u8 0, .int .i64 0, .int .i64 0, .string ⟨#[]⟩, .string ⟨#[]⟩, .string ⟨#[]⟩, .int .i64 0, .slice none 0 0, .slice none 0 0, .int .u8 0, .int .i64 0, .slice none 0 0, .slice none 0 0, .int .u8 0, .int .i64 0, .slice none 0 0, .slice none 0 0, .slice none 0 0] 31)).heap.size (w.alloc (.cells #[.int .u8 0, .int .u8 0, .int .i64 0, .int .i64 0, .string ⟨#[]⟩, .string ⟨#[]⟩, .string ⟨#[]⟩, .int .i64 0, .slice none 0 0, .slice none 0 0, .int .u8 0, .int .i64 0, .slice none 0 0, .slice none 0 0, .int .u8 0, .int .i64 0, .slice none 0 0, .slice none 0 0, .slice none 0 0] 31)) ((w.alloc (.cells #[.int .u8 0, .int .u8 0, .int .i64 0, .int .i64 0, .string ⟨#[]⟩, .string ⟨#[]⟩, .string ⟨#[]⟩, .int .i64 0, .slice none 0 0, .slice none 0 0, .int .u8 0, .int .i64 0, .slice none 0 0, .slice none 0 0, .int .u8 0, .int .i64 0, .slice none 0 0, .slice none 0 0, .slice none 0 0] 31)).alloc (.cells #[.int .u8 1, .int .u8 0, .int .i64 0, .int .i64 1, .string ⟨#[]⟩, .string ⟨#[]⟩, .string ⟨#[]⟩, .int .i64 0, .slice none 0 0, .slice none 0 0, .int .u8 0, .int .i64 0, .slice none 0 0, .slice none 0 0, .int .u8 0, .int .i64 0, .slice none 0 0, .slice none 0 0, .slice none 0 0] 31)) := (Below.refl _ _).alloc (Nat.le_refl _) _
  have HZ1 := hid ((hb1.block _ (lt_heap HZ0.out)).trans HZ0.out)
  have HB1 := hid (HBZ.out.trans (hb1.mono HBZ.out.size))
  have hs1 : (w.alloc (.cells #[.int .u8 0, .int .u8 0, .int .i64 0, .int .i64 0, .string ⟨#[]⟩, .string ⟨#[]⟩, .string ⟨#[]⟩, .int .i64 0, .slice none 0 0, .slice none 0 0, .int .u8 0, .int .i64 0, .slice none 0 0, .slice none 0 0, .int .u8 0, .int .i64 0, .slice none 0 0, .slice none 0 0, .slice none 0 0] 31)).heap.size = w.heap.size + 1 := by simp
  rw [hs1] at HX1
  clear hb1 hs1 HZ0 HBZ
  generalize ((w.alloc (.cells #[.int .u8 0, .int .u8 0, .int .i64 0, .int .i64 0, .string ⟨#[]⟩, .string ⟨#[]⟩, .string ⟨#[]⟩, .int .i64 0, .slice none 0 0, .slice none 0 0, .int .u8 0, .int .i64 0, .slice none 0 0, .slice none 0 0, .int .u8 0, .int .i64 0, .slice none 0 0, .slice none 0 0, .slice none 0 0] 31)).alloc (.cells #[.int .u8 1, .int .u8 0, .int .i64 0, .int .i64 1, .string ⟨#[]⟩, .string ⟨#[]⟩, .string ⟨#[]⟩, .int .i64 0, .slice none 0 0, .slice none 0 0, .int .u8 0, .int .i64 0, .slice none 0 0, .slice none 0 0, .int .u8 0, .int .i64 0, .slice none 0 0, .slice none 0 0, .slice none 0 0] 31)) = W1 at *
  have hb2 : Below W1.heap.size W1 (W1.alloc (.cells #[.int .u8 1, .int .u8 0, .int .i64 0, .int .i64 1, .string ⟨#[]⟩, .string ⟨#[]⟩, .string ⟨#[]⟩, .int .i64 0, .slice none 0 0, .slice none 0 0, .int .u8 0, .int .i64 0, .slice none 0 0, .slice none 0 0, .int .u8 0, .int .i64 0, .slice none 0 0, .slice none 0 0, .slice none 0 0, .int .u8 1, .int .u8 0, .int .i64 0, .int .i64 1, .string ⟨#[]⟩, .string ⟨#[]⟩, .string ⟨#[]⟩, .int .i64 0, .slice none 0 0, .slice none 0 0, .int .u8 0, .int .i64 0, .slice none 0 0, .slice none 0 0, .int .u8 0, .int .i64 0, .slice none 0 0, .slice none 0 0, .slice none 0 0] 31)) := (Below.refl _ _).alloc (Nat.le_refl _) _
  have HZ2 := hid ((hb2.block _ (lt_heap HZ1.out)).trans HZ1.out)
  have HR2 := hid (rowTA_two (mkA_leaf W1 (kind := 1) (n := 1) (rho := 0) (by omega) (by omega) ⟨by omega, by omega⟩ ⟨by omega, by omega⟩) (mkA_leaf W1 (kind := 1) (n := 1) (rho := 0) (by omega) (by omega) ⟨by omega, by omega⟩ ⟨by omega, by omega⟩) #[.int .u8 1, .int .u8 0, .int .i64 0, .int .i64 1, .string ⟨#[]⟩, .string ⟨#[]⟩, .string ⟨#[]⟩, .int .i64 0, .slice none 0 0, .slice none 0 0, .int .u8 0, .int .i64 0, .slice none 0 0, .slice none 0 0, .int .u8 0, .int .i64 0, .slice none 0 0, .slice none 0 0, .slice none 0 0, .int .u8 1, .int .u8 0, .int .i64 0, .int .i64 1, .string ⟨#[]⟩, .string ⟨#[]⟩, .string ⟨#[]⟩, .int .i64 0, .slice none 0 0, .slice none 0 0, .int .u8 0, .int .i64 0, .slice none 0 0, .slice none 0 0, .int .u8 0, .int .i64 0, .slice none 0 0, .slice none 0 0, .slice none 0 0] rfl 31 _ rfl)
  have HB2 := hid (HB1.out.trans (hb2.mono HB1.out.size))
  clear hb2
  go_wp2_with (first
    | (refine wpList_load_row rfl 31 _ rfl (w.heap.size + 1) rfl 31 _ (0, 0) _ HX1.out Tryz.underlying31 rfl (by kernel_rfl) ?_)
    | (refine wpList_store_row rfl 31 _ _ rfl w.heap.size #[.int .u8 3, .int .u8 0, .int .i64 0, .int .i64 0, .string ⟨#[]⟩, .string ⟨#[]⟩, .string ⟨#[]⟩, .int .i64 r, .slice none 0 0, .slice none 0 0, .int .u8 0, .int .i64 0, .slice none 0 0, .slice none 0 0, .int .u8 0, .int .i64 0, .slice none 0 0, .slice none 0 0, .slice (some ⟨W1.heap.size, 0, none⟩) 2 2] rfl rfl 31 _ HZ2.out (by kernel_rfl) rfl (by simp [Value.oneCell']) ?_))
  refine bodyPost_ret (results_cell_row rfl _ _ _ _ _ _ _ rfl (setRow_heap _ _ _ _ _ _ HZ2.out) Tryz.underlying31 rfl (by kernel_rfl)) rfl ?_
  have hgr : (W1.alloc (.cells #[.int .u8 1, .int .u8 0, .int .i64 0, .int .i64 1, .string ⟨#[]⟩, .string ⟨#[]⟩, .string ⟨#[]⟩, .int .i64 0, .slice none 0 0, .slice none 0 0, .int .u8 0, .int .i64 0, .slice none 0 0, .slice none 0 0, .int .u8 0, .int .i64 0, .slice none 0 0, .slice none 0 0, .slice none 0 0, .int .u8 1, .int .u8 0, .int .i64 0, .int .i64 1, .string ⟨#[]⟩, .string ⟨#[]⟩, .string ⟨#[]⟩, .int .i64 0, .slice none 0 0, .slice none 0 0, .int .u8 0, .int .i64 0, .slice none 0 0, .slice none 0 0, .int .u8 0, .int .i64 0, .slice none 0 0, .slice none 0 0, .slice none 0 0] 31)).grownBy ((W1.alloc (.cells #[.int .u8 1, .int .u8 0, .int .i64 0, .int .i64 1, .string ⟨#[]⟩, .string ⟨#[]⟩, .string ⟨#[]⟩, .int .i64 0, .slice none 0 0, .slice none 0 0, .int .u8 0, .int .i64 0, .slice none 0 0, .slice none 0 0, .int .u8 0, .int .i64 0, .slice none 0 0, .slice none 0 0, .slice none 0 0, .int .u8 1, .int .u8 0, .int .i64 0, .int .i64 1, .string ⟨#[]⟩, .string ⟨#[]⟩, .string ⟨#[]⟩, .int .i64 0, .slice none 0 0, .slice none 0 0, .int .u8 0, .int .i64 0, .slice none 0 0, .slice none 0 0, .int .u8 0, .int .i64 0, .slice none 0 0, .slice none 0 0, .slice none 0 0] 31)).setRow w.heap.size #[.int .u8 3, .int .u8 0, .int .i64 0, .int .i64 0, .string ⟨#[]⟩, .string ⟨#[]⟩, .string ⟨#[]⟩, .int .i64 r, .slice none 0 0, .slice none 0 0, .int .u8 0, .int .i64 0, .slice none 0 0, .slice none 0 0, .int .u8 0, .int .i64 0, .slice none 0 0, .slice none 0 0, .slice (some ⟨W1.heap.size, 0, none⟩) 2 2]) (some w.heap.size) := row_set
  have hne : w.heap.size < W1.heap.size := lt_heap HZ1.out
  refine ⟨W1.heap.size, rfl, mkA_lies (by omega) (by omega) ⟨by omega, by omega⟩ HR.out ⟨row_far HR2.out.row hgr (fun _ ad hp => by cases hp; dsimp only; omega), fun t ht => ?_⟩, HB2.out.grown hgr HB2.out.size (fun k e => by cases e; exact Nat.le_refl _)⟩
  have ht' : t = leafC := by simpa using ht
  rw [ht']
  exact mkA_leaf _ (by omega) (by omega) ⟨by omega, by omega⟩ ⟨by omega, by omega⟩
theorem pairC_small (g : Nat) (r : Int) : SmallNs (pairC g r) := SmallNs.node (mkA_small ..) (fun t ht => by
  have ht' : t = leafC := by simpa using ht
  rw [ht']
  exact SmallNs.node (mkA_small ..) (fun t ht => by cases ht))
def fstC (g1 g2 : Nat) : PA := .node (mkA 4 0 0 (some ⟨g2, 0, none⟩) 1 1) [pairC g1 1]
def regC (g1 g2 g3 : Nat) : PA := .node (mkA 17 0 1 (some ⟨g3, 0, none⟩) 1 1) [fstC g1 g2]
theorem fstC_small (g1 g2 : Nat) : SmallNs (fstC g1 g2) := SmallNs.node (mkA_small ..) (fun t ht => by rw [List.mem_singleton.1 ht]; exact pairC_small _ _)
theorem regC_small (g1 g2 g3 : Nat) : SmallNs (regC g1 g2 g3) := SmallNs.node (mkA_small ..) (fun t ht => by rw [List.mem_singleton.1 ht]; exact fstC_small _ _)
theorem regC_check (g1 g2 g3 : Nat) : checkR (regC g1 g2 g3) = .ok (tInt, []) := by kernel_rfl
theorem fstC_check (g1 g2 : Nat) : checkR (fstC g1 g2) = .error (0, 4) := by kernel_rfl
end
section
open Go.RowKit
set_option maxHeartbeats 8000000 in
theorem awake15_any {w : World} (hv : Vr w) : Calls Tryz.prog 11 #[] w fun e w' => e = .returned (.bool true) ∧ Below w.heap.size w w' := by
  have HV := hid hv
  clear hv
  go_enter Tryz.func11, Tryz.ntmps11
  go_upto_region 2 with (first
    | (go_at_call 34; refine (pair_any 1 ⟨by omega, by omega⟩).mono ?_; rintro e w1 ⟨g1, rfl, hl1, hb⟩; have HL1 := hid hl1; have HB1 := hid hb; clear hl1 hb)
    | (refine wpList_store_row rfl 31 _ _ rfl _ #[.int .u8 4, .int .u8 0, .int .i64 0, .int .i64 0, .string ⟨#[]⟩, .string ⟨#[]⟩, .string ⟨#[]⟩, .int .i64 0, .slice none 0 0, .slice none 0 0, .int .u8 0, .int .i64 0, .slice none 0 0, .slice none 0 0, .int .u8 0, .int .i64 0, .slice none 0 0, .slice none 0 0, .slice (some ⟨w1.heap.size, 0, none⟩) 1 1] rfl rfl 31 _ (heap_new_at _ _ _ _ (by simp)) (by kernel_rfl) rfl (by simp [Value.oneCell']) ?_; rw [setRow_alloc_at _ _ _ _ _ (by simp)]))
  have hb2 : Below w1.heap.size w1 (w1.alloc (.cells #[.int .u8 3, .int .u8 0, .int .i64 0, .int .i64 0, .string ⟨#[]⟩, .string ⟨#[]⟩, .string ⟨#[]⟩, .int .i64 1, .slice none 0 0, .slice none 0 0, .int .u8 0, .int .i64 0, .slice none 0 0, .slice none 0 0, .int .u8 0, .int .i64 0, .slice none 0 0, .slice none 0 0, .slice (some ⟨g1, 0, none⟩) 2 2] 31)) := (Below.refl _ _).alloc (Nat.le_refl _) _
  have HB2 := hid (HB1.out.trans (hb2.mono HB1.out.size))
  have HR2 := hid (show RowTA (w1.alloc (.cells #[.int .u8 3, .int .u8 0, .int .i64 0, .int .i64 0, .string ⟨#[]⟩, .string ⟨#[]⟩, .string ⟨#[]⟩, .int .i64 1, .slice none 0 0, .slice none 0 0, .int .u8 0, .int .i64 0, .slice none 0 0, .slice none 0 0, .int .u8 0, .int .i64 0, .slice none 0 0, .slice none 0 0, .slice (some ⟨g1, 0, none⟩) 2 2] 31)) (some ⟨w1.heap.size, 0, none⟩) 1 1 [pairC g1 1] from rowTA_made HL1.out 31 _ rfl)
  have hs2 : (w1.alloc (.cells #[.int .u8 3, .int .u8 0, .int .i64 0, .int .i64 0, .string ⟨#[]⟩, .string ⟨#[]⟩, .string ⟨#[]⟩, .int .i64 1, .slice none 0 0, .slice none 0 0, .int .u8 0, .int .i64 0, .slice none 0 0, .slice none 0 0, .int .u8 0, .int .i64 0, .slice none 0 0, .slice none 0 0, .slice (some ⟨g1, 0, none⟩) 2 2] 31)).heap.size = w1.heap.size + 1 := by simp
  clear hb2
  generalize w1.alloc (.cells #[.int .u8 3, .int .u8 0, .int .i64 0, .int .i64 0, .string ⟨#[]⟩, .string ⟨#[]⟩, .string ⟨#[]⟩, .int .i64 1, .slice none 0 0, .slice none 0 0, .int .u8 0, .int .i64 0, .slice none 0 0, .slice none 0 0, .int .u8 0, .int .i64 0, .slice none 0 0, .slice none 0 0, .slice (some ⟨g1, 0, none⟩) 2 2] 31) = W2 at *
  rw [← hs2]
  obtain ⟨g2, hg2⟩ : ∃ g2, w1.heap.size = g2 := ⟨_, rfl⟩
  rw [hg2] at HR2 ⊢
  clear hs2 hg2
  have HX3 := hid (heap_new_at W2 #[.int .u8 4, .int .u8 0, .int .i64 0, .int .i64 0, .string ⟨#[]⟩, .string ⟨#[]⟩, .string ⟨#[]⟩, .int .i64 0, .slice none 0 0, .slice none 0 0, .int .u8 0, .int .i64 0, .slice none 0 0, .slice none 0 0, .int .u8 0, .int .i64 0, .slice none 0 0, .slice none 0 0, .slice (some ⟨g2, 0, none⟩) 1 1] 31 _ rfl)
  have hb3 : Below W2.heap.size W2 (W2.alloc (.cells #[.int .u8 4, .int .u8 0, .int .i64 0, .int .i64 0, .string ⟨#[]⟩, .string ⟨#[]⟩, .string ⟨#[]⟩, .int .i64 0, .slice none 0 0, .slice none 0 0, .int .u8 0, .int .i64 0, .slice none 0 0, .slice none 0 0, .int .u8 0, .int .i64 0, .slice none 0 0, .slice none 0 0, .slice (some ⟨g2, 0, none⟩) 1 1] 31)) := (Below.refl _ _).alloc (Nat.le_refl _) _
  have HB3 := hid (HB2.out.trans (hb3.mono HB2.out.size))
  have HL3 := hid (show LA.lies (W2.alloc (.cells #[.int .u8 4, .int .u8 0, .int .i64 0, .int .i64 0, .string ⟨#[]⟩, .string ⟨#[]⟩, .string ⟨#[]⟩, .int .i64 0, .slice none 0 0, .slice none 0 0, .int .u8 0, .int .i64 0, .slice none 0 0, .slice none 0 0, .int .u8 0, .int .i64 0, .slice none 0 0, .slice none 0 0, .slice (some ⟨g2, 0, none⟩) 1 1] 31)) (fstC g1 g2) from mkA_lies (by omega) (by omega) ⟨by omega, by omega⟩ ⟨by omega, by omega⟩ (HR2.out.below hb3))
  clear hb3
  obtain ⟨g3, hg3⟩ : ∃ g3, W2.heap.size = g3 := ⟨_, rfl⟩
  rw [hg3] at HX3 ⊢
  generalize W2.alloc (.cells #[.int .u8 4, .int .u8 0, .int .i64 0, .int .i64 0, .string ⟨#[]⟩, .string ⟨#[]⟩, .string ⟨#[]⟩, .int .i64 0, .slice none 0 0, .slice none 0 0, .int .u8 0, .int .i64 0, .slice none 0 0, .slice none 0 0, .int .u8 0, .int .i64 0, .slice none 0 0, .slice none 0 0, .slice (some ⟨g2, 0, none⟩) 1 1] 31) = W3 at *
  clear hg3 HB2 HR2
  have hb4 : Below W3.heap.size W3 (W3.alloc (.cells #[.int .u8 4, .int .u8 0, .int .i64 0, .int .i64 0, .string ⟨#[]⟩, .string ⟨#[]⟩, .string ⟨#[]⟩, .int .i64 0, .slice none 0 0, .slice none 0 0, .int .u8 0, .int .i64 0, .slice none 0 0, .slice none 0 0, .int .u8 0, .int .i64 0, .slice none 0 0, .slice none 0 0, .slice (some ⟨g2, 0, none⟩) 1 1] 31)) := (Below.refl _ _).alloc (Nat.le_refl _) _
  have HB4 := hid (HB3.out.trans (hb4.mono HB3.out.size))
  have HX4 := hid ((hb4.block _ (lt_heap HX3.out)).trans HX3.out)
  have HL4 := hid (LA.lies_below hb4 _ HL3.out)
  have HR4 := hid (show RowTA (W3.alloc (.cells #[.int .u8 4, .int .u8 0, .int .i64 0, .int .i64 0, .string ⟨#[]⟩, .string ⟨#[]⟩, .string ⟨#[]⟩, .int .i64 0, .slice none 0 0, .slice none 0 0, .int .u8 0, .int .i64 0, .slice none 0 0, .slice none 0 0, .int .u8 0, .int .i64 0, .slice none 0 0, .slice none 0 0, .slice (some ⟨g2, 0, none⟩) 1 1] 31)) (some ⟨W3.heap.size, 0, none⟩) 1 1 [fstC g1 g2] from rowTA_made HL3.out 31 _ rfl)
  have HLR := hid (show LA.lies (W3.alloc (.cells #[.int .u8 4, .int .u8 0, .int .i64 0, .int .i64 0, .string ⟨#[]⟩, .string ⟨#[]⟩, .string ⟨#[]⟩, .int .i64 0, .slice none 0 0, .slice none 0 0, .int .u8 0, .int .i64 0, .slice none 0 0, .slice none 0 0, .int .u8 0, .int .i64 0, .slice none 0 0, .slice none 0 0, .slice (some ⟨g2, 0, none⟩) 1 1] 31)) (regC g1 g2 W3.heap.size) from mkA_lies (by omega) (by omega) ⟨by omega, by omega⟩ ⟨by omega, by omega⟩ HR4.out)
  clear hb4
  have HC1 := hid (check_Check_any (t := regC g1 g2 W3.heap.size) HLR.out (regC_small _ _ _) (show (5 : Nat) ≤ 1000 by omega) (HV.out.below HB4.out))
  rw [regC_check] at HC1
  go_upto_region 3 with (first
    | (refine wpList_load_row rfl 31 _ rfl g3 rfl 31 _ (0, 0) _ HX3.out Tryz.underlying31 rfl (by kernel_rfl) ?_)
    | (go_at_call 12; refine HC1.out.mono ?_; rintro e w5 ⟨⟨y, q, m, qc, rfl, hly, hey, hrow⟩, hb⟩; have HB5 := hid (HB4.out.trans (hb.mono HB4.out.size)); have HX5 := hid ((hb.block _ (lt_heap HX4.out)).trans HX4.out); have HL5 := hid (LA.lies_below hb _ HL4.out); obtain rfl : m = 0 := hrow.len.symm; have hky : y.head.kind = 1 := (by have h1 := er_head y; rw [hey] at h1; exact (congrArg LH.kind h1).symm); have HKY := hid hky; clear hly hey hrow hb hky)
    | (refine wpList_store_row rfl 28 _ _ rfl _ #[.int .u8 y.head.kind, .int .i64 y.head.rho, .slice y.head.ep y.head.en y.head.ec, .slice y.head.kp y.head.kn y.head.kc] rfl rfl 28 _ (heap_new_at _ _ _ _ (by simp)) (by kernel_rfl) rfl (by simp [Value.oneCell']) ?_; rw [setRow_alloc_at _ _ _ _ _ (by simp)]))
  clear HC1 HLR HR4 HB4 HX4 HL4
  have hb6 : Below w5.heap.size w5 (w5.alloc (.cells #[.int .u8 y.head.kind, .int .i64 y.head.rho, .slice y.head.ep y.head.en y.head.ec, .slice y.head.kp y.head.kn y.head.kc] 28)) := (Below.refl _ _).alloc (Nat.le_refl _) _
  have HB6 := hid (HB5.out.trans (hb6.mono HB5.out.size))
  have HX6 := hid ((hb6.block _ (lt_heap HX5.out)).trans HX5.out)
  have HY6 := hid (heap_new_at w5 #[.int .u8 y.head.kind, .int .i64 y.head.rho, .slice y.head.ep y.head.en y.head.ec, .slice y.head.kp y.head.kn y.head.kc] 28 _ rfl)
  have HC2 := hid (check_Check_any (t := fstC g1 g2) (LA.lies_below hb6 _ HL5.out) (fstC_small _ _) (show (4 : Nat) ≤ 1000 by omega) (HV.out.below HB6.out))
  rw [fstC_check] at HC2
  clear hb6
  obtain ⟨g6, hg6⟩ : ∃ g6, w5.heap.size = g6 := ⟨_, rfl⟩
  rw [hg6] at HY6 ⊢
  generalize w5.alloc (.cells #[.int .u8 y.head.kind, .int .i64 y.head.rho, .slice y.head.ep y.head.en y.head.ec, .slice y.head.kp y.head.kn y.head.kc] 28) = W6 at *
  clear hg6
  go_upto_region 4 with (first
    | (refine wpList_load_row rfl 31 _ rfl g3 rfl 31 _ (0, 0) _ HX6.out Tryz.underlying31 rfl (by kernel_rfl) ?_)
    | (go_at_call 12; refine HC2.out.mono ?_; rintro e w7 ⟨he, hb⟩; obtain rfl := he; have HB7 := hid (HB6.out.trans (hb.mono HB6.out.size)); have HY7 := hid ((hb.block _ (lt_heap HY6.out)).trans HY6.out); clear hb)
    | (refine wpList_store_row rfl 28 _ _ rfl _ #[.int .u8 0, .int .i64 0, .slice none 0 0, .slice none 0 0] rfl rfl 28 _ (heap_new_at _ _ _ _ (by simp)) (by kernel_rfl) rfl (by simp [Value.oneCell']) ?_; rw [setRow_alloc_at _ _ _ _ _ (by simp)]))
  have hb8 : Below w7.heap.size w7 (w7.alloc (.cells #[.int .u8 0, .int .i64 0, .slice none 0 0, .slice none 0 0] 28)) := (Below.refl _ _).alloc (Nat.le_refl _) _
  have HB8 := hid (HB7.out.trans (hb8.mono HB7.out.size))
  have c0 : (w7.alloc (.cells #[.int .u8 0, .int .i64 0, .slice none 0 0, .slice none 0 0] 28)).cell? ⟨g6, 0, none⟩ = some (.int .u8 1) := by
    rw [Lib.cell_of_heap ((hb8.block _ (lt_heap HY7.out)).trans HY7.out), ← HKY.out]; rfl
  clear hb8
  go_wp2_with fail
  go_ret
  exact ⟨ret_bool (by decide), HB8.out⟩
end
section
open Go.RowKit
end
section
open Go.RowKit
end
section
open Go.RowKit
theorem wpList_appendF {P : Program} {α : Type} {ops : Array Oper} {rest : List Oper} {o : Oper} {a : Act} {Q : Exit → Act → World → Prop} (hgd : o.guard = none) (s x : Operand) (t : TypeId)
    (ho : o.op = .call { callee := .builtin .append, args := #[s, x], argTypes := #[t, t] })
    (base : Nat) (e : TypeId) (z : Value) (k bytes : Nat) (ht : P.underlying t = some (.slice e)) (hinfo : (P.info? e).map (fun i => (i.zero, i.size, i.bytes)) = some (some z, k, bytes))
    (hzs : z.cells.size = k) (hsz : 0 < k)
    (enc : α → List Value) (hk : ∀ x, (enc x).length = k) (h1 : ∀ y, ∀ u ∈ enc y, u.oneCell' = true) (l' l : List α) (n : Nat) {w : World} (v : Value) (hown : OwnE enc k w base e v n l)
    (p : Option Addr) (m c : Nat) (hs : a.eval s = v) (hx : a.eval x = .slice p m c) (hl : l'.length = m) (hp : p = none → c = 0) (hr : RowE enc k w p l')
    (hbytes : (n + m) * bytes ≤ 140737488355328) (h63 : n + m ≤ 9223372036854775807) (hbase : base ≤ w.heap.size)
    (h : ∀ v' w', OwnE enc k w' base e v' (n + m) (l ++ l') → w.grownBy w' v.ownBlock → (∀ b, b < w.heap.size → v'.ownBlock = some b → v.ownBlock = some b) → wpList P ops Q rest (a.put o.dst v') w') :
    wpList P ops Q (o :: rest) a w := by
  refine wpList_plain hgd fun K' hK' => ?_
  have := step_appendR (K := K') (Q := Q) (ops := ops) (E := True) hgd s x t ho base e z k bytes ht hinfo hzs hsz enc hk h1 l' l n v hown p m c hs hx hl hp hr hbytes h63 hbase (fun v' w' a1 a2 a3 => hK' _ _ (h v' w' a1 a2 a3))
  rwa [if_pos (by simp [Region.wanted, hgd])] at this
def bindsA (l : List AH) : List Int := l.flatMap (fun a => bindsR a.plain)
structure BnI (w W1 w2 : World) (p2 : Option Addr) (n2 c2 : Nat) (l : List AH) (u : Value) (k : Nat) (wr : World) : Prop where
  own : OwnE encN 1 wr (w.heap.size + 1) 3 u (bindsA (l.take k)).length (bindsA (l.take k))
  far : ∀ b, u.ownBlock = some b → b < W1.heap.size ∨ w2.heap.size ≤ b
  row : IsRow encAH 19 wr p2 n2 c2 l
  below : Below w.heap.size w wr
  size : w2.heap.size ≤ wr.heap.size
theorem BnI.step {w W1 w2 : World} {p2 : Option Addr} {n2 c2 : Nat} {l : List AH} {u : Value} {k : Nat} {wr wr' : World} (h : BnI w W1 w2 p2 n2 c2 l u k wr) (hb : Below wr.heap.size wr wr') : BnI w W1 w2 p2 n2 c2 l u k wr' :=
  ⟨h.own.below hb, h.far, h.row.below hb, h.below.trans (hb.mono h.below.size), Nat.le_trans h.size hb.size⟩
theorem BnI.base {w W1 w2 : World} {p2 : Option Addr} {n2 c2 : Nat} {l : List AH} {u : Value} {k : Nat} {wr : World} (h : BnI w W1 w2 p2 n2 c2 l u k wr) (hs : w.heap.size + 1 ≤ w2.heap.size) : w.heap.size + 1 ≤ wr.heap.size := Nat.le_trans hs h.size
theorem BnI.add {w W1 w2 : World} {p2 : Option Addr} {n2 c2 : Nat} {l : List AH} {u v : Value} {k m : Nat} {wr wr' : World} {x : AH} (h : BnI w W1 w2 p2 n2 c2 l u k wr) (hfr : ∀ b : Addr, p2 = some b → W1.heap.size ≤ b.block ∧ b.block < w2.heap.size) (hx : l[k]? = some x) (hm : (bindsR x.plain).length = m)
    (hown : OwnE encN 1 wr' (w.heap.size + 1) 3 v ((bindsA (l.take k)).length + m) (bindsA (l.take k) ++ bindsR x.plain)) (hg : wr.grownBy wr' u.ownBlock) (hf : ∀ b, b < wr.heap.size → v.ownBlock = some b → u.ownBlock = some b) : BnI w W1 w2 p2 n2 c2 l v (k + 1) wr' := by
  have e : bindsA (l.take (k + 1)) = bindsA (l.take k) ++ bindsR x.plain := by
    rw [take_succ_get hx]
    simp [bindsA]
  refine ⟨?_, fun b hb => ?_, isRow_grown hg (fun _ ad hp e => ?_) h.row, h.below.grown hg h.below.size (fun b hb => by have := (World.ownsRow.lt h.own b hb).1; omega), Nat.le_trans h.size hg.size⟩
  · rw [e, List.length_append, hm]; exact hown
  · by_cases hlt : b < wr.heap.size
    · exact h.far b (hf b hlt hb)
    · have := h.size; exact .inr (by omega)
  · have h1 := hfr ad hp
    have h2 := h.far ad.block e
    omega
end
section
open Go.RowKit
end
section
open Go.RowKit
def litV1 : DataW Unit → List Value
  | .lit (.int k z) => [.int k z]
  | _ => []
def litV2 : DataW Unit → List Value
  | .agg l => l.flatMap litV1
  | d => litV1 d
def litV3 : DataW Unit → List Value
  | .agg l => l.flatMap litV2
  | _ => []
def putW (h : Array Obj) (g : Nat) (cs : Array Value) : Array Obj := h.modify g fun
  | .cells _ t frozen => .cells cs t frozen
  | o => o
noncomputable def laidW (os : Os) : World :=
  { World.holding Tryz.prog os ⟨#[], #[], []⟩ with heap := putW (putW (World.holding Tryz.prog os ⟨#[], #[], []⟩).heap 1 (litV3 Rows.laid_unicode_utf8_first).toArray) 2 (litV3 Rows.laid_unicode_utf8_acceptRanges).toArray }
end
section
open Go.RowKit
def zs (l : List Int) : Prop := l = [] ∨ l = [0]
end
section
open Go.RowKit
end
end Go.Proofs.YtkdjnegfnhldpaaGreatDoor
