/- Part 40 of the texts: Sa, Aw, Mr. -/
import Derived.Test.YtdlbjngpohkglaaGreatDoorG38
import Derived.Test.YtdlbjngpohkglaaGreatDoorG39
import Derived.Deep.RegionHeld3
import Derived.Test.YtdlbjngpohkglaaGreatDoorG33
import Derived.Test.YtdlbjngpohkglaaGreatDoorG32
section
set_option linter.unusedVariables false
set_option maxRecDepth 100000
set_option linter.unusedSimpArgs false
namespace Go.Proofs.YtdlbjngpohkglaaGreatDoor
open Go.RowKit Go.Sort Go.Lib

theorem ref13_Same_of {a b : AH} {l m : List PA} {w : World} (ha : NodeA w a l) (hb : NodeA w b m) (hf : ∀ x ∈ l, ∀ y ∈ m, ∀ W, Below w.heap.size w W → RSame13At x y W) : RSame13At (.node a l) (.node b m) w := by
  cases h1 : hdB a.kh b.kh
  · exact same13_h ha hb hf h1
  · cases h2 : decide (a.rho = b.rho)
    · exact same13_r ha hb hf h1 h2
    · by_cases hn : a.kn = b.kn
      · exact same13_e ha hb hf h1 h2 hn
      · exact same13_n ha hb hf h1 h2 hn
theorem rsame13At_any (x : PA) : ∀ y w, LA.lies w x → LA.lies w y → RSame13At x y w := by
  refine Rose.ind (P := fun (x : PA) => ∀ y w, LA.lies w x → LA.lies w y → RSame13At x y w) (fun a l ih => ?_) x
  rintro ⟨b, m⟩ w hx hy
  have hN := nodeA hx
  have hM := nodeA hy
  exact ref13_Same_of hN hM (fun x hx y hy W hW => ih x hx y W (LA.lies_below hW x (hN.each x hx)) (LA.lies_below hW y (hM.each y hy)))
end Go.Proofs.YtdlbjngpohkglaaGreatDoor
end
section
set_option linter.unusedVariables false
set_option maxRecDepth 100000
set_option linter.unusedSimpArgs false
namespace Go.Proofs.YtdlbjngpohkglaaGreatDoor
open Go.RowKit

def zRH : RH := ⟨0, 0, none, 0, 0, [], none, 0, 0⟩
def zPT : PT := .node zRH []
theorem zPT_lies (W : World) : LR.lies W zPT :=
  NodeIn.lies ⟨⟨IsRow.none _ _ _, (by intro x hx; cases hx), by decide, by decide, by decide, by decide, by decide, by decide, fun _ => rfl⟩, IsRow.none _ _ _, (by intro x hx; cases hx)⟩
/-- a node that has nothing but a kind, a number, a region and kids -/
abbrev mkA (kind n rho : Int) (kp : Option Addr) (kn kc : Nat) : AH := ⟨kind, 0, 0, n, ⟨#[]⟩, ⟨#[]⟩, ⟨#[]⟩, rho, none, 0, 0, [], none, 0, 0, [], zPT, zPT, kp, kn, kc⟩
theorem mkA_own (W : World) {kind n rho : Int} {kp : Option Addr} {kn kc : Nat} (h0 : 0 ≤ kind) (h1 : kind ≤ 255) (hn : inI n) (hr : inI rho) (hk : kn ≤ 9223372036854775807) (hc : kn ≤ kc) (hp : kp = none → kc = 0) : AH.Own W (mkA kind n rho kp kn kc) :=
  ⟨h0, h1, (show (0 : Int) ≤ 0 by omega), (show (0 : Int) ≤ 255 by omega), ⟨(show (-9223372036854775808 : Int) ≤ 0 by omega), (show (0 : Int) ≤ 9223372036854775807 by omega)⟩, hn, (show 0 ≤ 9223372036854775807 by omega), (show 0 ≤ 9223372036854775807 by omega), (show 0 ≤ 9223372036854775807 by omega), hr, IsRow.none _ _ _, (by intro x hx; cases hx), IsRow.none _ _ _, (by intro x hx; cases hx), zPT_lies W, zPT_lies W, hk, hc, hp⟩
theorem mkA_lies {W : World} {kind n rho : Int} {kp : Option Addr} {kn kc : Nat} {l : List PA} (h0 : 0 ≤ kind) (h1 : kind ≤ 255) (hn : inI n) (hr : inI rho) (hR : RowTA W kp kn kc l) : LA.lies W (.node (mkA kind n rho kp kn kc) l) :=
  NodeA.lies ⟨mkA_own W h0 h1 hn hr hR.row.max hR.row.le hR.row.nil, hR.row, hR.each⟩
theorem mkA_leaf (W : World) {kind n rho : Int} (h0 : 0 ≤ kind) (h1 : kind ≤ 255) (hn : inI n) (hr : inI rho) : LA.lies W (.node (mkA kind n rho none 0 0) []) :=
  mkA_lies h0 h1 hn hr ⟨IsRow.none _ _ _, (by intro x hx; cases hx)⟩
theorem mkA_small (kind n rho : Int) (kp : Option Addr) (kn kc : Nat) : SmallN (mkA kind n rho kp kn kc) :=
  ⟨(show 0 ≤ 100 by omega), (show 0 ≤ 100 by omega), (show 0 ≤ 100 by omega), (show 0 ≤ 50 by omega), rfl, ⟨(show zPT.er.size ≤ 100 by decide), rfl⟩, ⟨(show zPT.er.size ≤ 100 by decide), rfl⟩⟩
/-- a row of two terms -/
theorem rowTA_two {w : World} {x y : PA} (hx : LA.lies w x) (hy : LA.lies w y) (cs : Array Value) (hcs : cs = (LA.encT x ++ LA.encT y).toArray) (e : TypeId) (gs : Nat) (hgs : w.heap.size = gs) : RowTA (w.alloc (.cells cs e)) (some ⟨gs, 0, none⟩) 2 2 [x, y] := by
  subst hgs
  refine ⟨row_made LAlen (by omega) w e [x, y] 2 _ (by simp [hcs]) rfl (by decide), fun z hz => ?_⟩
  have hb : Below w.heap.size w (w.alloc (.cells cs e)) := (Below.refl _ w).alloc (Nat.le_refl _) _
  rcases List.mem_cons.1 hz with rfl | hz
  · exact LA.lies_below hb _ hx
  · rw [List.mem_singleton.1 hz]; exact LA.lies_below hb _ hy
/-- the example -/
def leafW : PA := .node (mkA 1 2 0 none 0 0) []
def pairW (g : Nat) : PA := .node (mkA 3 0 1 (some ⟨g, 0, none⟩) 2 2) [leafW, leafW]
def fstW (g1 g2 : Nat) : PA := .node (mkA 4 0 0 (some ⟨g2, 0, none⟩) 1 1) [pairW g1]
def regW (g1 g2 g3 : Nat) : PA := .node (mkA 17 0 1 (some ⟨g3, 0, none⟩) 1 1) [fstW g1 g2]
theorem regW_may (g1 g2 g3 : Nat) : mayA (regW g1 g2 g3) = true := by kernel_rfl
theorem regW_text (g1 g2 g3 : Nat) : textOf (regW g1 g2 g3) = ⟨#[40, 32, 114, 101, 103, 105, 111, 110, 32, 49, 32, 105, 110, 32, 40, 32, 102, 115, 116, 32, 40, 32, 50, 32, 44, 32, 50, 32, 64, 32, 49, 32, 41, 32, 41, 32, 41]⟩ := by kernel_rfl
theorem regW_small (g1 g2 g3 : Nat) : SmallNs (regW g1 g2 g3) :=
  SmallNs.node (mkA_small ..) (fun t ht => by
    rw [List.mem_singleton.1 ht]
    refine SmallNs.node (mkA_small ..) (fun t ht => ?_)
    rw [List.mem_singleton.1 ht]
    refine SmallNs.node (mkA_small ..) (fun t ht => ?_)
    have : t = leafW := by simpa using ht
    rw [this]
    exact SmallNs.node (mkA_small ..) (fun t ht => by cases ht))
theorem setRow_alloc_at (W : World) (cs vals : Array Value) (e : TypeId) (g : Nat) (h : W.heap.size = g) : (W.alloc (.cells cs e)).setRow g vals = W.alloc (.cells vals e) := by
  subst h; exact World.setRow_alloc_new ..
theorem heap_new_at (W : World) (cs : Array Value) (e : TypeId) (g : Nat) (h : W.heap.size = g) : (W.alloc (.cells cs e)).heap[g]? = some (.cells cs e (0, 0)) := by
  subst h; exact heap_alloc_new W _
set_option maxHeartbeats 4000000 in
theorem awake_any {w : World} (hv : Vr w) (ht : Tab w) : Calls Tryz.prog 10 #[] w fun e w' => e = .returned (.bool true) ∧ Below w.heap.size w w' := by
  have HV := Lib.hid hv
  have HT := Lib.hid ht
  clear hv ht
  go_enter Tryz.func10, Tryz.ntmps10
  go_upto_region 2 with (refine wpList_store_row rfl 31 _ _ rfl _ #[.int .u8 1, .int .u8 0, .int .i64 0, .int .i64 2, .string ⟨#[]⟩, .string ⟨#[]⟩, .string ⟨#[]⟩, .int .i64 0, .slice none 0 0, .slice none 0 0, .int .u8 0, .int .i64 0, .slice none 0 0, .slice none 0 0, .int .u8 0, .int .i64 0, .slice none 0 0, .slice none 0 0, .slice none 0 0] rfl rfl 31 _ (heap_new_at _ _ _ _ (by simp)) (by kernel_rfl) rfl (all_oneCell_toArray (encAH_one (mkA 1 2 0 none 0 0))) ?_; rw [setRow_alloc_at _ _ _ _ _ (by simp)])
  have HX1 := Lib.hid (heap_new_at w #[.int .u8 1, .int .u8 0, .int .i64 0, .int .i64 2, .string ⟨#[]⟩, .string ⟨#[]⟩, .string ⟨#[]⟩, .int .i64 0, .slice none 0 0, .slice none 0 0, .int .u8 0, .int .i64 0, .slice none 0 0, .slice none 0 0, .int .u8 0, .int .i64 0, .slice none 0 0, .slice none 0 0, .slice none 0 0] 31 _ rfl)
  have HB1 := Lib.hid ((Below.refl w.heap.size w).alloc (Nat.le_refl _) (.cells #[.int .u8 1, .int .u8 0, .int .i64 0, .int .i64 2, .string ⟨#[]⟩, .string ⟨#[]⟩, .string ⟨#[]⟩, .int .i64 0, .slice none 0 0, .slice none 0 0, .int .u8 0, .int .i64 0, .slice none 0 0, .slice none 0 0, .int .u8 0, .int .i64 0, .slice none 0 0, .slice none 0 0, .slice none 0 0] 31))
  generalize w.alloc (.cells #[.int .u8 1, .int .u8 0, .int .i64 0, .int .i64 2, .string ⟨#[]⟩, .string ⟨#[]⟩, .string ⟨#[]⟩, .int .i64 0, .slice none 0 0, .slice none 0 0, .int .u8 0, .int .i64 0, .slice none 0 0, .slice none 0 0, .int .u8 0, .int .i64 0, .slice none 0 0, .slice none 0 0, .slice none 0 0] 31) = W1 at *
  go_upto_region 3 with (first
    | (refine wpList_load_row rfl 31 _ rfl w.heap.size rfl 31 _ (0, 0) _ HX1.out Tryz.underlying31 rfl (by kernel_rfl) ?_)
    | (refine wpList_store_row rfl 31 _ _ rfl _ #[.int .u8 3, .int .u8 0, .int .i64 0, .int .i64 0, .string ⟨#[]⟩, .string ⟨#[]⟩, .string ⟨#[]⟩, .int .i64 1, .slice none 0 0, .slice none 0 0, .int .u8 0, .int .i64 0, .slice none 0 0, .slice none 0 0, .int .u8 0, .int .i64 0, .slice none 0 0, .slice none 0 0, .slice (some ⟨W1.heap.size, 0, none⟩) 2 2] rfl rfl 31 _ (heap_new_at _ _ _ _ (by simp)) (by kernel_rfl) rfl (all_oneCell_toArray (encAH_one (mkA 3 0 1 (some ⟨W1.heap.size, 0, none⟩) 2 2))) ?_; rw [setRow_alloc_at _ _ _ _ _ (by simp)]))
  have HR2 := Lib.hid (rowTA_two (mkA_leaf W1 (kind := 1) (n := 2) (rho := 0) (by omega) (by omega) ⟨by omega, by omega⟩ ⟨by omega, by omega⟩) (mkA_leaf W1 (kind := 1) (n := 2) (rho := 0) (by omega) (by omega) ⟨by omega, by omega⟩ ⟨by omega, by omega⟩) #[.int .u8 1, .int .u8 0, .int .i64 0, .int .i64 2, .string ⟨#[]⟩, .string ⟨#[]⟩, .string ⟨#[]⟩, .int .i64 0, .slice none 0 0, .slice none 0 0, .int .u8 0, .int .i64 0, .slice none 0 0, .slice none 0 0, .int .u8 0, .int .i64 0, .slice none 0 0, .slice none 0 0, .slice none 0 0, .int .u8 1, .int .u8 0, .int .i64 0, .int .i64 2, .string ⟨#[]⟩, .string ⟨#[]⟩, .string ⟨#[]⟩, .int .i64 0, .slice none 0 0, .slice none 0 0, .int .u8 0, .int .i64 0, .slice none 0 0, .slice none 0 0, .int .u8 0, .int .i64 0, .slice none 0 0, .slice none 0 0, .slice none 0 0] rfl 31 _ rfl)
  have HB2 := Lib.hid (HB1.out.alloc HB1.out.size (.cells #[.int .u8 1, .int .u8 0, .int .i64 0, .int .i64 2, .string ⟨#[]⟩, .string ⟨#[]⟩, .string ⟨#[]⟩, .int .i64 0, .slice none 0 0, .slice none 0 0, .int .u8 0, .int .i64 0, .slice none 0 0, .slice none 0 0, .int .u8 0, .int .i64 0, .slice none 0 0, .slice none 0 0, .slice none 0 0, .int .u8 1, .int .u8 0, .int .i64 0, .int .i64 2, .string ⟨#[]⟩, .string ⟨#[]⟩, .string ⟨#[]⟩, .int .i64 0, .slice none 0 0, .slice none 0 0, .int .u8 0, .int .i64 0, .slice none 0 0, .slice none 0 0, .int .u8 0, .int .i64 0, .slice none 0 0, .slice none 0 0, .slice none 0 0] 31))
  have hz2 : (W1.alloc (.cells #[.int .u8 1, .int .u8 0, .int .i64 0, .int .i64 2, .string ⟨#[]⟩, .string ⟨#[]⟩, .string ⟨#[]⟩, .int .i64 0, .slice none 0 0, .slice none 0 0, .int .u8 0, .int .i64 0, .slice none 0 0, .slice none 0 0, .int .u8 0, .int .i64 0, .slice none 0 0, .slice none 0 0, .slice none 0 0, .int .u8 1, .int .u8 0, .int .i64 0, .int .i64 2, .string ⟨#[]⟩, .string ⟨#[]⟩, .string ⟨#[]⟩, .int .i64 0, .slice none 0 0, .slice none 0 0, .int .u8 0, .int .i64 0, .slice none 0 0, .slice none 0 0, .int .u8 0, .int .i64 0, .slice none 0 0, .slice none 0 0, .slice none 0 0] 31)).heap.size = W1.heap.size + 1 := by simp
  generalize W1.alloc (.cells #[.int .u8 1, .int .u8 0, .int .i64 0, .int .i64 2, .string ⟨#[]⟩, .string ⟨#[]⟩, .string ⟨#[]⟩, .int .i64 0, .slice none 0 0, .slice none 0 0, .int .u8 0, .int .i64 0, .slice none 0 0, .slice none 0 0, .int .u8 0, .int .i64 0, .slice none 0 0, .slice none 0 0, .slice none 0 0, .int .u8 1, .int .u8 0, .int .i64 0, .int .i64 2, .string ⟨#[]⟩, .string ⟨#[]⟩, .string ⟨#[]⟩, .int .i64 0, .slice none 0 0, .slice none 0 0, .int .u8 0, .int .i64 0, .slice none 0 0, .slice none 0 0, .int .u8 0, .int .i64 0, .slice none 0 0, .slice none 0 0, .slice none 0 0] 31) = W2 at *
  rw [← hz2]
  have HX3 := Lib.hid (heap_new_at W2 #[.int .u8 3, .int .u8 0, .int .i64 0, .int .i64 0, .string ⟨#[]⟩, .string ⟨#[]⟩, .string ⟨#[]⟩, .int .i64 1, .slice none 0 0, .slice none 0 0, .int .u8 0, .int .i64 0, .slice none 0 0, .slice none 0 0, .int .u8 0, .int .i64 0, .slice none 0 0, .slice none 0 0, .slice (some ⟨W1.heap.size, 0, none⟩) 2 2] 31 _ rfl)
  have hb3 : Below W2.heap.size W2 (W2.alloc (.cells #[.int .u8 3, .int .u8 0, .int .i64 0, .int .i64 0, .string ⟨#[]⟩, .string ⟨#[]⟩, .string ⟨#[]⟩, .int .i64 1, .slice none 0 0, .slice none 0 0, .int .u8 0, .int .i64 0, .slice none 0 0, .slice none 0 0, .int .u8 0, .int .i64 0, .slice none 0 0, .slice none 0 0, .slice (some ⟨W1.heap.size, 0, none⟩) 2 2] 31)) := (Below.refl _ _).alloc (Nat.le_refl _) _
  have HB3 := Lib.hid (HB2.out.trans (hb3.mono HB2.out.size))
  have HL3 := Lib.hid (mkA_lies (kind := 3) (n := 0) (rho := 1) (by omega) (by omega) ⟨by omega, by omega⟩ ⟨by omega, by omega⟩ (HR2.out.below hb3))
  clear hb3 hz2
  generalize W2.alloc (.cells #[.int .u8 3, .int .u8 0, .int .i64 0, .int .i64 0, .string ⟨#[]⟩, .string ⟨#[]⟩, .string ⟨#[]⟩, .int .i64 1, .slice none 0 0, .slice none 0 0, .int .u8 0, .int .i64 0, .slice none 0 0, .slice none 0 0, .int .u8 0, .int .i64 0, .slice none 0 0, .slice none 0 0, .slice (some ⟨W1.heap.size, 0, none⟩) 2 2] 31) = W3 at *
  go_upto_region 4 with (first
    | (refine wpList_load_row rfl 31 _ rfl W2.heap.size rfl 31 _ (0, 0) _ HX3.out Tryz.underlying31 rfl (by kernel_rfl) ?_)
    | (refine wpList_store_row rfl 31 _ _ rfl _ #[.int .u8 4, .int .u8 0, .int .i64 0, .int .i64 0, .string ⟨#[]⟩, .string ⟨#[]⟩, .string ⟨#[]⟩, .int .i64 0, .slice none 0 0, .slice none 0 0, .int .u8 0, .int .i64 0, .slice none 0 0, .slice none 0 0, .int .u8 0, .int .i64 0, .slice none 0 0, .slice none 0 0, .slice (some ⟨W3.heap.size, 0, none⟩) 1 1] rfl rfl 31 _ (heap_new_at _ _ _ _ (by simp)) (by kernel_rfl) rfl (all_oneCell_toArray (encAH_one (mkA 4 0 0 (some ⟨W3.heap.size, 0, none⟩) 1 1))) ?_; rw [setRow_alloc_at _ _ _ _ _ (by simp)]))
  have HR4 := Lib.hid (show RowTA (W3.alloc (.cells #[.int .u8 3, .int .u8 0, .int .i64 0, .int .i64 0, .string ⟨#[]⟩, .string ⟨#[]⟩, .string ⟨#[]⟩, .int .i64 1, .slice none 0 0, .slice none 0 0, .int .u8 0, .int .i64 0, .slice none 0 0, .slice none 0 0, .int .u8 0, .int .i64 0, .slice none 0 0, .slice none 0 0, .slice (some ⟨W1.heap.size, 0, none⟩) 2 2] 31)) (some ⟨W3.heap.size, 0, none⟩) 1 1 [pairW W1.heap.size] from rowTA_made (t := pairW W1.heap.size) HL3.out 31 _ rfl)
  have HB4 := Lib.hid (HB3.out.alloc HB3.out.size (.cells #[.int .u8 3, .int .u8 0, .int .i64 0, .int .i64 0, .string ⟨#[]⟩, .string ⟨#[]⟩, .string ⟨#[]⟩, .int .i64 1, .slice none 0 0, .slice none 0 0, .int .u8 0, .int .i64 0, .slice none 0 0, .slice none 0 0, .int .u8 0, .int .i64 0, .slice none 0 0, .slice none 0 0, .slice (some ⟨W1.heap.size, 0, none⟩) 2 2] 31))
  have hz4 : (W3.alloc (.cells #[.int .u8 3, .int .u8 0, .int .i64 0, .int .i64 0, .string ⟨#[]⟩, .string ⟨#[]⟩, .string ⟨#[]⟩, .int .i64 1, .slice none 0 0, .slice none 0 0, .int .u8 0, .int .i64 0, .slice none 0 0, .slice none 0 0, .int .u8 0, .int .i64 0, .slice none 0 0, .slice none 0 0, .slice (some ⟨W1.heap.size, 0, none⟩) 2 2] 31)).heap.size = W3.heap.size + 1 := by simp
  generalize W3.alloc (.cells #[.int .u8 3, .int .u8 0, .int .i64 0, .int .i64 0, .string ⟨#[]⟩, .string ⟨#[]⟩, .string ⟨#[]⟩, .int .i64 1, .slice none 0 0, .slice none 0 0, .int .u8 0, .int .i64 0, .slice none 0 0, .slice none 0 0, .int .u8 0, .int .i64 0, .slice none 0 0, .slice none 0 0, .slice (some ⟨W1.heap.size, 0, none⟩) 2 2] 31) = W4 at *
  rw [← hz4]
  have HX5 := Lib.hid (heap_new_at W4 #[.int .u8 4, .int .u8 0, .int .i64 0, .int .i64 0, .string ⟨#[]⟩, .string ⟨#[]⟩, .string ⟨#[]⟩, .int .i64 0, .slice none 0 0, .slice none 0 0, .int .u8 0, .int .i64 0, .slice none 0 0, .slice none 0 0, .int .u8 0, .int .i64 0, .slice none 0 0, .slice none 0 0, .slice (some ⟨W3.heap.size, 0, none⟩) 1 1] 31 _ rfl)
  have hb5 : Below W4.heap.size W4 (W4.alloc (.cells #[.int .u8 4, .int .u8 0, .int .i64 0, .int .i64 0, .string ⟨#[]⟩, .string ⟨#[]⟩, .string ⟨#[]⟩, .int .i64 0, .slice none 0 0, .slice none 0 0, .int .u8 0, .int .i64 0, .slice none 0 0, .slice none 0 0, .int .u8 0, .int .i64 0, .slice none 0 0, .slice none 0 0, .slice (some ⟨W3.heap.size, 0, none⟩) 1 1] 31)) := (Below.refl _ _).alloc (Nat.le_refl _) _
  have HB5 := Lib.hid (HB4.out.trans (hb5.mono HB4.out.size))
  have HL5 := Lib.hid (show LA.lies (W4.alloc (.cells #[.int .u8 4, .int .u8 0, .int .i64 0, .int .i64 0, .string ⟨#[]⟩, .string ⟨#[]⟩, .string ⟨#[]⟩, .int .i64 0, .slice none 0 0, .slice none 0 0, .int .u8 0, .int .i64 0, .slice none 0 0, .slice none 0 0, .int .u8 0, .int .i64 0, .slice none 0 0, .slice none 0 0, .slice (some ⟨W3.heap.size, 0, none⟩) 1 1] 31)) (fstW W1.heap.size W3.heap.size) from mkA_lies (kind := 4) (n := 0) (rho := 0) (by omega) (by omega) ⟨by omega, by omega⟩ ⟨by omega, by omega⟩ (HR4.out.below hb5))
  clear hb5 hz4
  generalize W4.alloc (.cells #[.int .u8 4, .int .u8 0, .int .i64 0, .int .i64 0, .string ⟨#[]⟩, .string ⟨#[]⟩, .string ⟨#[]⟩, .int .i64 0, .slice none 0 0, .slice none 0 0, .int .u8 0, .int .i64 0, .slice none 0 0, .slice none 0 0, .int .u8 0, .int .i64 0, .slice none 0 0, .slice none 0 0, .slice (some ⟨W3.heap.size, 0, none⟩) 1 1] 31) = W5 at *
  have HR6 := Lib.hid (show RowTA (W5.alloc (.cells #[.int .u8 4, .int .u8 0, .int .i64 0, .int .i64 0, .string ⟨#[]⟩, .string ⟨#[]⟩, .string ⟨#[]⟩, .int .i64 0, .slice none 0 0, .slice none 0 0, .int .u8 0, .int .i64 0, .slice none 0 0, .slice none 0 0, .int .u8 0, .int .i64 0, .slice none 0 0, .slice none 0 0, .slice (some ⟨W3.heap.size, 0, none⟩) 1 1] 31)) (some ⟨W5.heap.size, 0, none⟩) 1 1 [fstW W1.heap.size W3.heap.size] from rowTA_made (t := fstW W1.heap.size W3.heap.size) HL5.out 31 _ rfl)
  have HB6 := Lib.hid (HB5.out.alloc HB5.out.size (.cells #[.int .u8 4, .int .u8 0, .int .i64 0, .int .i64 0, .string ⟨#[]⟩, .string ⟨#[]⟩, .string ⟨#[]⟩, .int .i64 0, .slice none 0 0, .slice none 0 0, .int .u8 0, .int .i64 0, .slice none 0 0, .slice none 0 0, .int .u8 0, .int .i64 0, .slice none 0 0, .slice none 0 0, .slice (some ⟨W3.heap.size, 0, none⟩) 1 1] 31))
  have HTE : Hid (TEnv (W5.alloc (.cells #[.int .u8 4, .int .u8 0, .int .i64 0, .int .i64 0, .string ⟨#[]⟩, .string ⟨#[]⟩, .string ⟨#[]⟩, .int .i64 0, .slice none 0 0, .slice none 0 0, .int .u8 0, .int .i64 0, .slice none 0 0, .slice none 0 0, .int .u8 0, .int .i64 0, .slice none 0 0, .slice none 0 0, .slice (some ⟨W3.heap.size, 0, none⟩) 1 1] 31)) (regW W1.heap.size W3.heap.size W5.heap.size)) := Lib.hid ⟨mkA_lies (kind := 17) (n := 0) (rho := 1) (by omega) (by omega) ⟨by omega, by omega⟩ ⟨by omega, by omega⟩ HR6.out, regW_small _ _ _, (show 5 ≤ 1000 by omega), HV.out.below HB6.out, HT.out.below HB6.out⟩
  have HTM := Lib.hid (Term_any HTE.out)
  have htr : termR (regW W1.heap.size W3.heap.size W5.heap.size) = .tuple #[.string ⟨#[40, 32, 114, 101, 103, 105, 111, 110, 32, 49, 32, 105, 110, 32, 40, 32, 102, 115, 116, 32, 40, 32, 50, 32, 44, 32, 50, 32, 64, 32, 49, 32, 41, 32, 41, 32, 41]⟩, .int .i64 0] := by
    unfold termR; rw [regW_may, regW_text]; rfl
  rw [htr] at HTM
  clear htr
  go_wp2_with (first
    | (refine wpList_load_row rfl 31 _ rfl W4.heap.size rfl 31 _ (0, 0) _ HX5.out Tryz.underlying31 rfl (by kernel_rfl) ?_)
    | (go_at_call 11; refine HTM.out.mono ?_; rintro e w8 ⟨rfl, hb8⟩; have HB8 := Lib.hid (HB6.out.trans (hb8.mono HB6.out.size)); clear hb8))
  go_ret
  exact ⟨ret_bool (by decide), HB8.out⟩
end Go.Proofs.YtdlbjngpohkglaaGreatDoor
end
section
set_option linter.unusedVariables false
set_option maxRecDepth 100000
set_option linter.unusedSimpArgs false
namespace Go.Proofs.YtdlbjngpohkglaaGreatDoor
open Go.RowKit

set_option maxHeartbeats 4000000 in
theorem ref13_May_any (t : PA) {w : World} (hl : LA.lies w t) (hz : t.size ≤ 1000) :
    Calls Tryz.prog 9 #[aggT t.head] w fun e w' => e = .returned (.bool (mayA t)) ∧ Below w.heap.size w w' := by
  have HB := Lib.hid ((Below.refl w.heap.size w).alloc (Nat.le_refl _) (boxA t.head))
  have HBX := Lib.hid (boxA_new w t.head)
  have HALL := Lib.hid (allAt_any t _ (LA.lies_below HB.out t hl) hz)
  have HOK := Lib.hid (fun (W : World) (hb : Below w.heap.size w W) (a : AH) (ha : a ∈ Rose.nodes t) => (show AH.Own W a ∧ a.kn ≤ 1000000 by
    obtain ⟨h1, h2⟩ := nodes_own t hl a ha
    exact ⟨LA.below h1 hb, by omega⟩))
  have hlen := nodes_length t
  have HLEN := Lib.hid hlen
  have hgt : decide ((t.size : Int) > 40000) = false := by simp; omega
  clear hl hlen
  go_enter Tryz.func9, Tryz.ntmps9
  go_upto_region 4 with (first
    | (refine wpList_load_row rfl 31 _ rfl w.heap.size rfl 31 _ (0, 0) _ HBX.out.blk Tryz.underlying31 rfl (by kernel_rfl) ?_)
    | (go_at_call 14; refine HALL.out.mono ?_; rintro e w2 ⟨⟨p, c, rfl, hown⟩, hb⟩; obtain ⟨p', c', hv', hrow⟩ := hown.isRow encAH_len (by omega); have HROW := Lib.hid hrow; have HB2 := Lib.hid (HB.out.trans (hb.mono HB.out.size)); cases hv'; clear hb hrow hown))
  go_wp2_with fail
  go_loopw [4, 12] (fun _ i wr => ∃ k : Nat, k ≤ t.size ∧ i = .int .i64 k ∧ ((Rose.nodes t).take k).all node13 = true ∧ Below w2.heap.size w2 wr) (fun _ i _ => t.size - (intOf i).toNat)
  case atStart => exact ⟨0, by omega, rfl, by simp, Below.refl _ _⟩
  case round =>
    obtain ⟨k, hk, rfl, hall, hb⟩ := hrel
    have HAL := Lib.hid hall
    have HBR := Lib.hid hb
    have HBW := Lib.hid (HB2.out.trans (hb.mono HB2.out.size))
    clear hall hb
    by_cases hlt : k < t.size
    · obtain ⟨a, hx⟩ := get_of_lt (l := Rose.nodes t) (j := k) (by rw [HLEN.out]; exact hlt)
      obtain ⟨b, o, hbo, hbl, hcs⟩ := (HROW.out.below HBR.out).row.elem hx
      have HCS := Lib.hid hcs
      subst hbo
      obtain ⟨hown, hkn⟩ := HOK.out wr HBW.out a (List.mem_of_getElem? hx)
      have HC := Lib.hid (ref13_Node_any a wr hown (by omega))
      have HTK : Hid (((Rose.nodes t).take (k + 1)).all node13 = node13 a) := by
        show _ = _
        rw [take_succ_get hx, List.all_append, HAL.out]; simp
      have HNO : Hid (node13 a = false → mayA t = false) := fun h => by
        have h2 := List.mem_of_getElem? hx
        unfold mayA
        rw [List.all_eq_false]
        exact ⟨a, h2, by rw [h]; exact Bool.false_ne_true⟩
      clear hx hbl hcs hown hkn
      cases hq : node13 a with
      | false =>
        have HQ := Lib.hid hq
        rw [hq] at HC
        clear hq
        go_wp2_with (first
          | (refine wpList_load_mid rfl 31 _ rfl b (o + k * 19) rfl (encAH a) _ HCS.out Tryz.underlying31 rfl (by kernel_rfl) ?_)
          | (go_at_call 22; refine HC.out.mono ?_; rintro e w3 ⟨rfl, hb⟩; have HB3 := Lib.hid (HBW.out.trans (hb.mono HBW.out.size)); clear hb))
        go_ret
        exact ⟨ret_bool (HNO.out HQ.out).symm, HB3.out⟩
      | true =>
        rw [hq] at HC HTK
        clear hq
        go_wp2_with (first
          | (refine wpList_load_mid rfl 31 _ rfl b (o + k * 19) rfl (encAH a) _ HCS.out Tryz.underlying31 rfl (by kernel_rfl) ?_)
          | (go_at_call 22; refine HC.out.mono ?_; rintro e w3 ⟨rfl, hb⟩; have HB3 := Lib.hid (HBR.out.trans (hb.mono HBR.out.size)); clear hb))
        go_roundw
        case rel => exact ⟨k + 1, by omega, by go_num, HTK.out, HB3.out⟩
        case measure => simp [intOf]; omega
    · have hkn : k = t.size := by omega
      have hfull : (Rose.nodes t).take k = Rose.nodes t := take_full (by rw [HLEN.out, hkn]; exact Nat.le_refl _)
      rw [hfull] at HAL
      go_wp2_with fail
      go_ret
      exact ⟨ret_bool HAL.out.symm, HBW.out⟩
end Go.Proofs.YtdlbjngpohkglaaGreatDoor
end
