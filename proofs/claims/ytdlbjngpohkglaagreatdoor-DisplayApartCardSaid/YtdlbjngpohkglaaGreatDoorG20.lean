/- Part 20 of the texts: Nd. -/
import Derived.Test.YtdlbjngpohkglaaGreatDoorG19
import Derived.Test.YtdlbjngpohkglaaGreatDoorG09
section
set_option linter.unusedVariables false
set_option maxRecDepth 100000
set_option linter.unusedSimpArgs false
namespace Go.Proofs.YtdlbjngpohkglaaGreatDoor
open Go.RowKit

def encU (x : Int) : List Value := [.int .u8 x]
theorem encU_len (x : Int) : (encU x).length = 1 := rfl
theorem RowE.u8 {w : World} {p : Option Addr} {l : List Int} (h : RowE encU 1 w p l) {j : Nat} {x : Int} (hx : l[j]? = some x) : ∃ b o, p = some ⟨b, o, none⟩ ∧ w.cell? ⟨b, o + j, none⟩ = some (.int .u8 x) := by
  obtain ⟨b, o, hp, _, hc⟩ := h.elem hx
  exact ⟨b, o, hp, by simpa using hc 0 _ rfl⟩
def inB (l : List Int) (k : Int) : Bool := l.any (· == k)
set_option maxHeartbeats 1000000 in
theorem ref13_in_any {p : Option Addr} {n cap : Nat} {l : List Int} {w : World} (hn : l.length = n) (hm : n ≤ 1000000) (hr : RowE encU 1 w p l) (k : Int) :
    Calls Tryz.prog 36 #[.slice p n cap, .int .u8 k] w fun e w' => e = .returned (.bool (inB l k)) ∧ w = w' := by
  have HR := Lib.hid hr
  have HN := Lib.hid hn
  clear hr hn
  go_enter Tryz.func36, Tryz.ntmps36
  go_wp2_with fail
  go_loop [5, 8] (fun _ i => ∃ j : Nat, j ≤ n ∧ i = .int .i64 j ∧ (l.take j).any (· == k) = false) (fun _ i => n - (intOf i).toNat)
  case atStart => exact ⟨0, by omega, rfl, by simp⟩
  case round =>
    obtain ⟨j, hj, rfl, hno⟩ := hrel
    have HNO := Lib.hid hno
    clear hno
    by_cases hlt : j < n
    · obtain ⟨y, hy⟩ := get_of_lt (l := l) (j := j) (by rw [HN.out]; exact hlt)
      have HE := Lib.hid hy
      obtain ⟨b, o, rfl, d0⟩ := HR.out.u8 hy
      clear hy
      cases hq : (y == k)
      · have HQ := Lib.hid hq
        go_wp2_with fail
        go_round
        case rel => exact ⟨j + 1, by omega, by go_num, by rw [any_take_get HE.out, HNO.out, HQ.out]; rfl⟩
        case measure => simp [intOf]; omega
      · have HQ := Lib.hid hq
        go_wp2_with fail
        go_ret
        exact ⟨ret_bool (any_get HE.out HQ.out).symm, rfl⟩
    · go_wp2_with fail
      go_ret
      have h := HNO.out
      rw [take_full (by rw [HN.out]; omega)] at h
      exact ⟨ret_bool h.symm, rfl⟩
/-- is a type none? -/
def plainB (a : RH) : Bool := (a.kind == 0) && (a.rho == 0) && ((a.en : Int) == 0) && ((a.kn : Int) == 0)
set_option maxHeartbeats 1000000 in
theorem ref13_plain_any (a : RH) (h1 : a.en ≤ 9223372036854775807) (h2 : a.kn ≤ 9223372036854775807) (w : World) : Calls Tryz.prog 40 #[aggR a] w fun e w' => e = .returned (.bool (plainB a)) ∧ Below w.heap.size w w' := by
  have HBX := Lib.hid ((Below.refl w.heap.size w).alloc (Nat.le_refl _) (.cells #[.int .u8 a.kind, .int .i64 a.rho, .slice a.ep a.en a.ec, .slice a.kp a.kn a.kc] 28))
  have HV : Hid (plainB a = ((a.kind == 0) && (a.rho == 0) && ((a.en : Int) == 0) && ((a.kn : Int) == 0))) := rfl
  cases e1 : (a.kind == 0)
  · go_enter Tryz.func40, Tryz.ntmps40
    go_wp2_with fail
    go_ret
    exact ⟨ret_bool (by rw [HV.out, e1]; rfl), HBX.out⟩
  · cases e2 : (a.rho == 0)
    · go_enter Tryz.func40, Tryz.ntmps40
      go_wp2_with fail
      go_ret
      exact ⟨ret_bool (by rw [HV.out, e1, e2]; rfl), HBX.out⟩
    · cases e3 : ((a.en : Int) == 0)
      · go_enter Tryz.func40, Tryz.ntmps40
        go_wp2_with fail
        go_ret
        exact ⟨ret_bool (by rw [HV.out, e1, e2, e3]; rfl), HBX.out⟩
      · go_enter Tryz.func40, Tryz.ntmps40
        go_wp2_with fail
        go_ret
        exact ⟨ret_bool (by rw [HV.out, e1, e2, e3]; rfl), HBX.out⟩
/-- the block of a term's box -/
structure BoxA (W : World) (b : Nat) (a : AH) : Prop where
  blk : W.heap[b]? = some (.cells #[.int .u8 a.kind, .int .u8 a.op, .int .i64 a.at_, .int .i64 a.n, .string a.name, .string a.arg, .string a.exn, .int .i64 a.rho, .slice a.rp a.rn a.rc, .slice a.ep a.en a.ec, .int .u8 a.ty.head.kind, .int .i64 a.ty.head.rho, .slice a.ty.head.ep a.ty.head.en a.ty.head.ec, .slice a.ty.head.kp a.ty.head.kn a.ty.head.kc, .int .u8 a.res.head.kind, .int .i64 a.res.head.rho, .slice a.res.head.ep a.res.head.en a.res.head.ec, .slice a.res.head.kp a.res.head.kn a.res.head.kc, .slice a.kp a.kn a.kc] 31 (0, 0))
theorem BoxA.c {W : World} {b : Nat} {a : AH} (h : BoxA W b a) (i : Nat) (u : Value) (hu : (encAH a)[i]? = some u) : W.cell? ⟨b, i, none⟩ = some u := by
  rw [Lib.cell_of_heap h.blk]
  have : (encAH a).toArray[i]? = some u := by simpa using hu
  exact this
theorem BoxA.below {w w' : World} {b : Nat} {a : AH} (h : BoxA w b a) (hb : Below w.heap.size w w') : BoxA w' b a := ⟨by rw [hb.block b (Array.getElem?_eq_some_iff.1 h.blk).1]; exact h.blk⟩
theorem boxA_new (w : World) (a : AH) : BoxA (w.alloc (boxA a)) w.heap.size a := ⟨heap_alloc_new w _⟩
theorem BoxA.all {W : World} {b : Nat} {a : AH} (h : BoxA W b a) : W.cell? ⟨b, 0, none⟩ = some (Value.int .u8 a.kind) ∧ W.cell? ⟨b, 1, none⟩ = some (Value.int .u8 a.op) ∧ W.cell? ⟨b, 2, none⟩ = some (Value.int .i64 a.at_) ∧ W.cell? ⟨b, 3, none⟩ = some (Value.int .i64 a.n) ∧ W.cell? ⟨b, 4, none⟩ = some (Value.string a.name) ∧ W.cell? ⟨b, 5, none⟩ = some (Value.string a.arg) ∧ W.cell? ⟨b, 6, none⟩ = some (Value.string a.exn) ∧ W.cell? ⟨b, 7, none⟩ = some (Value.int .i64 a.rho) ∧ W.cell? ⟨b, 8, none⟩ = some (Value.slice a.rp a.rn a.rc) ∧ W.cell? ⟨b, 9, none⟩ = some (Value.slice a.ep a.en a.ec) ∧ W.cell? ⟨b, 10, none⟩ = some (Value.int .u8 a.ty.head.kind) ∧ W.cell? ⟨b, 11, none⟩ = some (Value.int .i64 a.ty.head.rho) ∧ W.cell? ⟨b, 12, none⟩ = some (Value.slice a.ty.head.ep a.ty.head.en a.ty.head.ec) ∧ W.cell? ⟨b, 13, none⟩ = some (Value.slice a.ty.head.kp a.ty.head.kn a.ty.head.kc) ∧ W.cell? ⟨b, 14, none⟩ = some (Value.int .u8 a.res.head.kind) ∧ W.cell? ⟨b, 15, none⟩ = some (Value.int .i64 a.res.head.rho) ∧ W.cell? ⟨b, 16, none⟩ = some (Value.slice a.res.head.ep a.res.head.en a.res.head.ec) ∧ W.cell? ⟨b, 17, none⟩ = some (Value.slice a.res.head.kp a.res.head.kn a.res.head.kc) ∧ W.cell? ⟨b, 18, none⟩ = some (Value.slice a.kp a.kn a.kc) :=
  ⟨h.c 0 _ rfl, h.c 1 _ rfl, h.c 2 _ rfl, h.c 3 _ rfl, h.c 4 _ rfl, h.c 5 _ rfl, h.c 6 _ rfl, h.c 7 _ rfl, h.c 8 _ rfl, h.c 9 _ rfl, h.c 10 _ rfl, h.c 11 _ rfl, h.c 12 _ rfl, h.c 13 _ rfl, h.c 14 _ rfl, h.c 15 _ rfl, h.c 16 _ rfl, h.c 17 _ rfl, h.c 18 _ rfl⟩
/-- is the i-th region of a node well? -/
def rhoB (k : Int) (l : List Int) (i : Nat) (x : Int) : Bool := !(decide (x < 0) || (k == 13) && ((x == 0) || inN (l.take i) x))
def rhosB (k : Int) (l : List Int) (n : Nat) : Bool := (List.range n).all (fun i => match l[i]? with | some x => rhoB k l i x | none => true)
theorem nodeIn' {w : World} {t : PT} (h : LR.lies w t) : NodeIn w t.head t.kids := by
  rw [Rose.eta t] at h; exact nodeIn h
theorem rhosB_step (k : Int) (l : List Int) (j : Nat) (x : Int) (hx : l[j]? = some x) : rhosB k l (j + 1) = (rhosB k l j && rhoB k l j x) := by
  unfold rhosB
  rw [List.range_succ, List.all_append]
  simp [hx]
theorem rhosB_mono (k : Int) (l : List Int) (i n : Nat) (h : i ≤ n) (hf : rhosB k l i = false) : rhosB k l n = false := by
  unfold rhosB at hf ⊢
  rw [List.all_eq_false] at hf ⊢
  obtain ⟨x, hx, hq⟩ := hf
  exact ⟨x, by rw [List.mem_range] at hx ⊢; omega, hq⟩
theorem rhosB_no (k : Int) (l : List Int) {j n : Nat} (h : j < n) (hf : rhosB k l (j + 1) = false) : rhosB k l n = false := rhosB_mono k l (j + 1) n h hf
theorem ref_Ints_b {p : Option Addr} {n cap : Nat} {l : List Int} {x : Int} {w : World} {r : Bool} (hq : inN l x = r) (h : IsRow encN 1 w p n cap l) :
    Calls Tryz.prog 37 #[.slice p n cap, .int .i64 x] w fun e w' => e = .returned (.bool r) ∧ Below w.heap.size w w' :=
  (ref_Ints_of hq h).mono (fun _ _ ⟨h1, h2⟩ => ⟨h1, h2 ▸ Below.refl _ _⟩)
/-- may a node alone be? -/
def node13 (a : AH) : Bool := !(!(headB a.hd a.kn) || decide (a.rho < 0) || ((a.kind == 17) && (a.rho == 0)) || (!(inB [3, 6, 11, 13, 17, 18] a.kind) && (a.rho != 0))) && !((a.kind != 13) && (a.kind != 18) && decide (0 < a.rn)) && rhosB a.kind a.rhos a.rn && !(!(inB [11, 13, 18] a.kind) && decide (0 < a.en) || !(mayB a.eff)) && !(inB [11, 13, 15] a.kind && !(mayT a.ty.er) || !(inB [11, 13, 15] a.kind) && !(plainB a.ty.head)) && ((a.kind == 13) && mayT a.res.er || (a.kind != 13) && plainB a.res.head)
def rowU (W : World) (b : Nat) (l : List Int) : Prop := RowE encU 1 W (some ⟨b, 0, none⟩) l
set_option maxHeartbeats 4000000 in
theorem ref13_Node_any (a : AH) (w : World) (ho : AH.Own w a) (hk : a.kn ≤ 9223372036854775807) :
    Calls Tryz.prog 22 #[aggT a] w fun e w' => e = .returned (.bool (node13 a)) ∧ Below w.heap.size w w' := by
  have HBX := Lib.hid ((Below.refl w.heap.size w).alloc (Nat.le_refl _) (boxA a))
  have HA := Lib.hid (boxA_new w a)
  have HO := Lib.hid ho
  have HV : Hid (node13 a = (!(!(headB a.hd a.kn) || decide (a.rho < 0) || ((a.kind == 17) && (a.rho == 0)) || (!(inB [3, 6, 11, 13, 17, 18] a.kind) && (a.rho != 0))) && !((a.kind != 13) && (a.kind != 18) && decide (0 < a.rn)) && rhosB a.kind a.rhos a.rn && !(!(inB [11, 13, 18] a.kind) && decide (0 < a.en) || !(mayB a.eff)) && !(inB [11, 13, 15] a.kind && !(mayT a.ty.er) || !(inB [11, 13, 15] a.kind) && !(plainB a.ty.head)) && ((a.kind == 13) && mayT a.res.er || (a.kind != 13) && plainB a.res.head))) := rfl
  have hrm := ho.rhos.max
  have hem := ho.eff.max
  clear ho
  go_enter Tryz.func22, Tryz.ntmps22
  go_upto_region 2 with fail
  go_cut [35] from 8 to 35 (fun s35 wx => s35 = .bool (!(headB a.hd a.kn) || decide (a.rho < 0) || ((a.kind == 17) && (a.rho == 0)) || (!(inB [3, 6, 11, 13, 17, 18] a.kind) && (a.rho != 0))) ∧ Below (w.alloc (.cells #[.int .u8 a.kind, .int .u8 a.op, .int .i64 a.at_, .int .i64 a.n, .string a.name, .string a.arg, .string a.exn, .int .i64 a.rho, .slice a.rp a.rn a.rc, .slice a.ep a.en a.ec, .int .u8 a.ty.head.kind, .int .i64 a.ty.head.rho, .slice a.ty.head.ep a.ty.head.en a.ty.head.ec, .slice a.ty.head.kp a.ty.head.kn a.ty.head.kc, .int .u8 a.res.head.kind, .int .i64 a.res.head.rho, .slice a.res.head.ep a.res.head.en a.res.head.ec, .slice a.res.head.kp a.res.head.kn a.res.head.kc, .slice a.kp a.kn a.kc] 31)).heap.size (w.alloc (.cells #[.int .u8 a.kind, .int .u8 a.op, .int .i64 a.at_, .int .i64 a.n, .string a.name, .string a.arg, .string a.exn, .int .i64 a.rho, .slice a.rp a.rn a.rc, .slice a.ep a.en a.ec, .int .u8 a.ty.head.kind, .int .i64 a.ty.head.rho, .slice a.ty.head.ep a.ty.head.en a.ty.head.ec, .slice a.ty.head.kp a.ty.head.kn a.ty.head.kc, .int .u8 a.res.head.kind, .int .i64 a.res.head.rho, .slice a.res.head.ep a.res.head.en a.res.head.ec, .slice a.res.head.kp a.res.head.kn a.res.head.kc, .slice a.kp a.kn a.kc] 31)) wx)
  case first =>
    have HU : Hid ((!(headB a.hd a.kn) || decide (a.rho < 0) || ((a.kind == 17) && (a.rho == 0)) || (!(inB [3, 6, 11, 13, 17, 18] a.kind) && (a.rho != 0))) = (!(headB a.hd a.kn) || decide (a.rho < 0) || ((a.kind == 17) && (a.rho == 0)) || (!(inB [3, 6, 11, 13, 17, 18] a.kind) && (a.rho != 0)))) := rfl
    cases e1 : headB a.hd a.kn
    · have E1 := Lib.hid e1
      clear e1
      go_wp2_with (refine wpList_load_row rfl 31 _ rfl w.heap.size rfl 31 _ (0, 0) _ (HA.out.blk) Tryz.underlying31 rfl (by kernel_rfl) ?_)
      refine (ref13_head_any a hk _).mono ?_
      rintro e w1 ⟨rfl, hb⟩
      rw [E1.out]
      have HB := Lib.hid hb
      clear hb
      go_wp2_with fail
      go_meet
      case rel => exact ⟨by rw [E1.out]; rfl, HB.out⟩
    · have E1 := Lib.hid e1
      clear e1
      go_wp2_with (refine wpList_load_row rfl 31 _ rfl w.heap.size rfl 31 _ (0, 0) _ (HA.out.blk) Tryz.underlying31 rfl (by kernel_rfl) ?_)
      refine (ref13_head_any a hk _).mono ?_
      rintro e w1 ⟨rfl, hb⟩
      rw [E1.out]
      have HA1 := Lib.hid (HA.out.below hb)
      have HB := Lib.hid hb
      clear hb
      obtain ⟨_, _, _, _, _, _, _, q7, _⟩ := HA1.out.all
      have hlt1 : w.heap.size < w1.heap.size := cell_block q7
      by_cases h2 : a.rho < 0
      · have e2 : decide (a.rho < 0) = true := by simpa using h2
        clear h2
        go_wp2_with fail
        go_meet
        case rel => exact ⟨by rw [E1.out, e2]; rfl, HB.out⟩
      · have e2 : decide (a.rho < 0) = false := by simpa using h2
        clear h2
        have E2 := Lib.hid e2
        cases e3 : (a.kind == 17)
        · have E3 := Lib.hid e3
          cases e4 : (a.rho == 0)
          · have E4 := Lib.hid e4
            have e4' : (a.rho != 0) = !false := by show (!(a.rho == 0)) = _; rw [e4]
            have E4' := Lib.hid e4'
            cases e5 : inB [3, 6, 11, 13, 17, 18] a.kind
            · have E5 := Lib.hid e5
              clear e5
              go_wp2_with fail
              refine (ref13_in_any (l := [3, 6, 11, 13, 17, 18]) rfl (by decide) (RowE.newAt encU_len _ _ _ rfl _ _ _ (by simp)) a.kind).mono ?_
              rintro e w2 ⟨rfl, rfl⟩
              rw [E5.out]
              go_wp2_with fail
              go_meet
              case rel => exact ⟨by rw [E1.out, E2.out, E3.out, E4.out, E4'.out, E5.out]; rfl, HB.out.alloc HB.out.size _⟩
            · have E5 := Lib.hid e5
              clear e5
              go_wp2_with fail
              refine (ref13_in_any (l := [3, 6, 11, 13, 17, 18]) rfl (by decide) (RowE.newAt encU_len _ _ _ rfl _ _ _ (by simp)) a.kind).mono ?_
              rintro e w2 ⟨rfl, rfl⟩
              rw [E5.out]
              go_wp2_with fail
              go_meet
              case rel => exact ⟨by rw [E1.out, E2.out, E3.out, E4.out, E4'.out, E5.out]; rfl, HB.out.alloc HB.out.size _⟩
          · have E4 := Lib.hid e4
            have e4' : (a.rho != 0) = !true := by show (!(a.rho == 0)) = _; rw [e4]
            have E4' := Lib.hid e4'
            cases e5 : inB [3, 6, 11, 13, 17, 18] a.kind
            · have E5 := Lib.hid e5
              clear e5
              go_wp2_with fail
              refine (ref13_in_any (l := [3, 6, 11, 13, 17, 18]) rfl (by decide) (RowE.newAt encU_len _ _ _ rfl _ _ _ (by simp)) a.kind).mono ?_
              rintro e w2 ⟨rfl, rfl⟩
              rw [E5.out]
              go_wp2_with fail
              go_meet
              case rel => exact ⟨by rw [E1.out, E2.out, E3.out, E4.out, E4'.out, E5.out]; rfl, HB.out.alloc HB.out.size _⟩
            · have E5 := Lib.hid e5
              clear e5
              go_wp2_with fail
              refine (ref13_in_any (l := [3, 6, 11, 13, 17, 18]) rfl (by decide) (RowE.newAt encU_len _ _ _ rfl _ _ _ (by simp)) a.kind).mono ?_
              rintro e w2 ⟨rfl, rfl⟩
              rw [E5.out]
              go_wp2_with fail
              go_meet
              case rel => exact ⟨by rw [E1.out, E2.out, E3.out, E4.out, E4'.out, E5.out]; rfl, HB.out.alloc HB.out.size _⟩
        · have E3 := Lib.hid e3
          cases e4 : (a.rho == 0)
          · have E4 := Lib.hid e4
            have e4' : (a.rho != 0) = !false := by show (!(a.rho == 0)) = _; rw [e4]
            have E4' := Lib.hid e4'
            cases e5 : inB [3, 6, 11, 13, 17, 18] a.kind
            · have E5 := Lib.hid e5
              clear e5
              go_wp2_with fail
              refine (ref13_in_any (l := [3, 6, 11, 13, 17, 18]) rfl (by decide) (RowE.newAt encU_len _ _ _ rfl _ _ _ (by simp)) a.kind).mono ?_
              rintro e w2 ⟨rfl, rfl⟩
              rw [E5.out]
              go_wp2_with fail
              go_meet
              case rel => exact ⟨by rw [E1.out, E2.out, E3.out, E4.out, E4'.out, E5.out]; rfl, HB.out.alloc HB.out.size _⟩
            · have E5 := Lib.hid e5
              clear e5
              go_wp2_with fail
              refine (ref13_in_any (l := [3, 6, 11, 13, 17, 18]) rfl (by decide) (RowE.newAt encU_len _ _ _ rfl _ _ _ (by simp)) a.kind).mono ?_
              rintro e w2 ⟨rfl, rfl⟩
              rw [E5.out]
              go_wp2_with fail
              go_meet
              case rel => exact ⟨by rw [E1.out, E2.out, E3.out, E4.out, E4'.out, E5.out]; rfl, HB.out.alloc HB.out.size _⟩
          · have E4 := Lib.hid e4
            go_wp2_with fail
            go_meet
            case rel => exact ⟨by rw [E1.out, E2.out, E3.out, E4.out]; rfl, HB.out⟩
  case rest =>
    obtain ⟨rfl, hb⟩ := hcut
    have HB0 := Lib.hid (HBX.out.trans (hb.mono HBX.out.size))
    have HA1 := Lib.hid (HA.out.below hb)
    clear hb
    generalize hc2 : (!(headB a.hd a.kn) || decide (a.rho < 0) || ((a.kind == 17) && (a.rho == 0)) || (!(inB [3, 6, 11, 13, 17, 18] a.kind) && (a.rho != 0))) = B2 at *
    have HC2 := Lib.hid hc2
    clear hc2
    cases B2
    · obtain ⟨_, _, _, _, _, _, _, q7, q8, q9, _, _, _, _, _, _, _, _, _⟩ := HA1.out.all
      go_upto_region 4 with fail
      go_cut [47] from 36 to 47 (fun s47 wx => s47 = .bool ((a.kind != 13) && (a.kind != 18) && decide (0 < a.rn)) ∧ wx = wc)
      case first =>
        cases e1 : (a.kind != 13)
        · have E1 := Lib.hid e1
          go_wp2_with fail
          go_meet
          case rel => exact ⟨by rw [E1.out]; rfl, rfl⟩
        · have E1 := Lib.hid e1
          cases e2 : (a.kind != 18)
          · have E2 := Lib.hid e2
            go_wp2_with fail
            go_meet
            case rel => exact ⟨by rw [E1.out, E2.out]; rfl, rfl⟩
          · have E2 := Lib.hid e2
            go_wp2_with fail
            go_meet
            case rel => exact ⟨by rw [E1.out, E2.out]; simp, rfl⟩
      case rest =>
        obtain ⟨rfl, rfl⟩ := hcut
        generalize hc4 : ((a.kind != 13) && (a.kind != 18) && decide (0 < a.rn)) = B4 at *
        have HC4 := Lib.hid hc4
        clear hc4
        cases B4
        · go_upto_region 6 with fail
          go_wp2_with fail
          clear q7 q8 q9
          go_loopw [51] (fun i wr => ∃ j : Nat, j ≤ a.rn ∧ i = .int .i64 j ∧ rhosB a.kind a.rhos j = true ∧ Below wc.heap.size wc wr) (fun i _ => a.rn - (intOf i).toNat)
          case atStart => exact ⟨0, by omega, rfl, rfl, Below.refl _ _⟩
          case round =>
            obtain ⟨j, hj, rfl, hall, hb⟩ := hrel
            have HALL := Lib.hid hall
            have HB := Lib.hid hb
            clear hall hb
            have HBW := Lib.hid (HB0.out.trans (HB.out.mono HB0.out.size))
            have HA2 := Lib.hid (HA1.out.below HB.out)
            have hB := gw_below wr
            obtain ⟨_, _, _, _, _, _, _, _, q8, q9, q10, q11, q12, q13, q14, q15, q16, q17, _⟩ := HA2.out.all
            by_cases hlt : j < a.rn
            · obtain ⟨x, hx⟩ := get_of_lt (l := a.rhos) (j := j) (by rw [HO.out.rhos.len]; exact hlt)
              obtain ⟨b, o, hbo, d⟩ := (HO.out.rhos.below HBW.out).row.num hx
              rw [hbo] at q8
              have g8 := fun g => gw_cell q8 g
              have gd := fun g => gw_cell d g
              have hjc : j ≤ a.rc := by have := HO.out.rhos.le; omega
              have HST := Lib.hid (rhosB_step a.kind a.rhos j x hx)
              have i0 : (0 : Int) ≤ (j : Int) := by omega
              have i1 : (j : Int) < (a.rn : Int) := by omega
              have i2 : (j : Int) ≤ (a.rc : Int) := by omega
              have HRW : Hid (∀ g, IsRow encN 1 (gw wr g) (some ⟨b, o, none⟩) j a.rc (a.rhos.take j)) := fun g => by
                have h := ((HO.out.rhos.below HBW.out).below (gw_below wr g))
                rw [hbo] at h
                exact ⟨by rw [List.length_take, h.len]; omega, by omega, hjc, (fun h => by cases h), h.row.take j⟩
              clear hx hbo d q8 q9 q10 q11 q12 q13 q14 q15 q16 q17
              cases e1 : decide (x < 0)
              · have E1 := Lib.hid e1
                cases e2 : (a.kind == 13)
                · have E2 := Lib.hid e2
                  go_upto_region 9 with fail
                  refine wp_region_gw (by kernel_rfl) (by kernel_rfl) ?_
                  repeat ((with_reducible refine wpQuiet_step (fun K hK => ?_)); go_simp; refine hK _ ?_; clear hK K)
                  refine wpQuiet_nil ?_
                  rintro w3 ⟨g, rfl⟩
                  go_wp2_with fail
                  go_roundw
                  case rel => exact ⟨j + 1, by omega, by go_num, by rw [HST.out, HALL.out]; unfold rhoB; rw [E1.out, E2.out]; rfl, HB.out.trans ((hB _).mono HB.out.size)⟩
                  case measure => simp [intOf]; omega
                · have E2 := Lib.hid e2
                  cases e3 : (x == 0)
                  · have E3 := Lib.hid e3
                    cases e4 : inN (a.rhos.take j) x
                    · have E4 := Lib.hid e4
                      clear e4
                      go_upto_region 9 with fail
                      refine wp_region_gw (by kernel_rfl) (by kernel_rfl) ?_
                      repeat ((with_reducible refine wpQuiet_step (fun K hK => ?_)); go_simp; refine hK _ ?_; clear hK K)
                      refine wpQuiet_step (fun K hK => ?_); go_simp; refine ⟨(.bool false), fun _ => calls_gw (ref_Ints_b E4.out (HRW.out _)), hK _ ?_⟩; clear hK K
                      repeat ((with_reducible refine wpQuiet_step (fun K hK => ?_)); go_simp; refine hK _ ?_; clear hK K)
                      refine wpQuiet_nil ?_
                      rintro w3 ⟨g, rfl⟩
                      go_wp2_with fail
                      go_roundw
                      case rel => exact ⟨j + 1, by omega, by go_num, by rw [HST.out, HALL.out]; unfold rhoB; rw [E1.out, E2.out, E3.out, E4.out]; rfl, HB.out.trans ((hB _).mono HB.out.size)⟩
                      case measure => simp [intOf]; omega
                    · have E4 := Lib.hid e4
                      clear e4
                      have HF : Hid (rhosB a.kind a.rhos a.rn = false) := rhosB_no a.kind a.rhos hlt (by rw [HST.out]; unfold rhoB; rw [E1.out, E2.out, E3.out, E4.out]; simp)
                      go_upto_region 9 with fail
                      refine wp_region_gw (by kernel_rfl) (by kernel_rfl) ?_
                      repeat ((with_reducible refine wpQuiet_step (fun K hK => ?_)); go_simp; refine hK _ ?_; clear hK K)
                      refine wpQuiet_step (fun K hK => ?_); go_simp; refine ⟨(.bool true), fun _ => calls_gw (ref_Ints_b E4.out (HRW.out _)), hK _ ?_⟩; clear hK K
                      repeat ((with_reducible refine wpQuiet_step (fun K hK => ?_)); go_simp; refine hK _ ?_; clear hK K)
                      refine wpQuiet_nil ?_
                      rintro w3 ⟨g, rfl⟩
                      go_wp2_with fail
                      go_ret
                      exact ⟨ret_bool (by rw [HV.out, HF.out]; simp), HBW.out.trans ((hB _).mono HBW.out.size)⟩
                  · have E3 := Lib.hid e3
                    have HF : Hid (rhosB a.kind a.rhos a.rn = false) := rhosB_no a.kind a.rhos hlt (by rw [HST.out]; unfold rhoB; rw [E1.out, E2.out, E3.out]; simp)
                    go_upto_region 9 with fail
                    refine wp_region_gw (by kernel_rfl) (by kernel_rfl) ?_
                    repeat ((with_reducible refine wpQuiet_step (fun K hK => ?_)); go_simp; refine hK _ ?_; clear hK K)
                    refine wpQuiet_nil ?_
                    rintro w3 ⟨g, rfl⟩
                    go_wp2_with fail
                    go_ret
                    exact ⟨ret_bool (by rw [HV.out, HF.out]; simp), HBW.out.trans ((hB _).mono HBW.out.size)⟩
              · have E1 := Lib.hid e1
                have HF : Hid (rhosB a.kind a.rhos a.rn = false) := rhosB_no a.kind a.rhos hlt (by rw [HST.out]; unfold rhoB; rw [E1.out]; simp)
                go_upto_region 9 with fail
                refine wp_region_gw (by kernel_rfl) (by kernel_rfl) ?_
                repeat ((with_reducible refine wpQuiet_step (fun K hK => ?_)); go_simp; refine hK _ ?_; clear hK K)
                refine wpQuiet_nil ?_
                rintro w3 ⟨g, rfl⟩
                go_wp2_with fail
                go_ret
                exact ⟨ret_bool (by rw [HV.out, HF.out]; simp), HBW.out.trans ((hB _).mono HBW.out.size)⟩
            · have hjn : j = a.rn := by omega
              have HAL : Hid (rhosB a.kind a.rhos a.rn = true) := by show _ = _; rw [← hjn]; exact HALL.out
              have hltw : w.heap.size < wr.heap.size := cell_block q9
              have HEF := Lib.hid (HO.out.eff.below HBW.out)
              clear hjn q8 q10 q11 q12 q13 q14 q15 q16 q17
              go_upto_region 12 with fail
              go_cut [100] from 85 to 100 (fun s100 wx => s100 = .bool (!(inB [11, 13, 18] a.kind) && decide (0 < a.en) || !(mayB a.eff)) ∧ Below wr.heap.size wr wx)
              case first =>
                cases e1 : inB [11, 13, 18] a.kind
                · have E1 := Lib.hid e1
                  clear e1
                  cases e2 : decide (0 < a.en)
                  · have e2' : decide ((0 : Int) < (a.en : Int)) = false := by simpa using e2
                    have E2 := Lib.hid e2
                    go_wp2_with fail
                    refine (ref13_in_any (l := [11, 13, 18]) rfl (by decide) (RowE.newAt encU_len _ _ _ rfl _ _ _ (by simp)) a.kind).mono ?_
                    rintro e w4 ⟨rfl, rfl⟩
                    rw [E1.out]
                    cases e3 : mayB a.eff
                    · have E3 := Lib.hid e3
                      clear e3
                      go_wp2_with fail
                      refine (ref_May11_is E3.out (HEF.out.alloc _)).mono ?_
                      rintro e w5 ⟨rfl, hb⟩
                      have HB5 := Lib.hid (((Below.refl wr.heap.size wr).alloc (Nat.le_refl _) (.cells #[.int .u8 11, .int .u8 13, .int .u8 18] 5)).trans (hb.mono (by simp)))
                      clear hb
                      go_wp2_with fail
                      go_meet
                      case rel => exact ⟨by rw [E1.out, E2.out, E3.out]; rfl, HB5.out⟩
                    · have E3 := Lib.hid e3
                      clear e3
                      go_wp2_with fail
                      refine (ref_May11_is E3.out (HEF.out.alloc _)).mono ?_
                      rintro e w5 ⟨rfl, hb⟩
                      have HB5 := Lib.hid (((Below.refl wr.heap.size wr).alloc (Nat.le_refl _) (.cells #[.int .u8 11, .int .u8 13, .int .u8 18] 5)).trans (hb.mono (by simp)))
                      clear hb
                      go_wp2_with fail
                      go_meet
                      case rel => exact ⟨by rw [E1.out, E2.out, E3.out]; rfl, HB5.out⟩
                  · have e2' : decide ((0 : Int) < (a.en : Int)) = true := by simpa using e2
                    have E2 := Lib.hid e2
                    go_wp2_with fail
                    refine (ref13_in_any (l := [11, 13, 18]) rfl (by decide) (RowE.newAt encU_len _ _ _ rfl _ _ _ (by simp)) a.kind).mono ?_
                    rintro e w4 ⟨rfl, rfl⟩
                    rw [E1.out]
                    go_wp2_with fail
                    go_meet
                    case rel => exact ⟨by rw [E1.out, E2.out]; rfl, (Below.refl _ _).alloc (Nat.le_refl _) _⟩
                · have E1 := Lib.hid e1
                  clear e1
                  have E2 : True := trivial
                  go_wp2_with fail
                  refine (ref13_in_any (l := [11, 13, 18]) rfl (by decide) (RowE.newAt encU_len _ _ _ rfl _ _ _ (by simp)) a.kind).mono ?_
                  rintro e w4 ⟨rfl, rfl⟩
                  rw [E1.out]
                  cases e3 : mayB a.eff
                  · have E3 := Lib.hid e3
                    clear e3
                    go_wp2_with fail
                    refine (ref_May11_is E3.out (HEF.out.alloc _)).mono ?_
                    rintro e w5 ⟨rfl, hb⟩
                    have HB5 := Lib.hid (((Below.refl wr.heap.size wr).alloc (Nat.le_refl _) (.cells #[.int .u8 11, .int .u8 13, .int .u8 18] 5)).trans (hb.mono (by simp)))
                    clear hb
                    go_wp2_with fail
                    go_meet
                    case rel => exact ⟨by rw [E1.out, E3.out]; rfl, HB5.out⟩
                  · have E3 := Lib.hid e3
                    clear e3
                    go_wp2_with fail
                    refine (ref_May11_is E3.out (HEF.out.alloc _)).mono ?_
                    rintro e w5 ⟨rfl, hb⟩
                    have HB5 := Lib.hid (((Below.refl wr.heap.size wr).alloc (Nat.le_refl _) (.cells #[.int .u8 11, .int .u8 13, .int .u8 18] 5)).trans (hb.mono (by simp)))
                    clear hb
                    go_wp2_with fail
                    go_meet
                    case rel => exact ⟨by rw [E1.out, E3.out]; rfl, HB5.out⟩
              case rest =>
                obtain ⟨rfl, hb⟩ := hcut
                have HB3 := Lib.hid (HBW.out.trans (hb.mono HBW.out.size))
                have HA3 := Lib.hid (HA2.out.below hb)
                have HB34 := Lib.hid hb
                clear hb q9
                generalize hc12 : (!(inB [11, 13, 18] a.kind) && decide (0 < a.en) || !(mayB a.eff)) = B12 at *
                have HC12 := Lib.hid hc12
                clear hc12
                cases B12
                · have hltc : w.heap.size < wc.heap.size := Nat.lt_of_lt_of_le hltw (by have := HB34.out.size; omega)
                  obtain ⟨_, _, _, _, _, _, _, _, _, _, q10, q11, q12, q13, q14, q15, q16, q17, _⟩ := HA3.out.all
                  have HTY := Lib.hid (LR.lies_below HB3.out _ HO.out.ty)
                  have HRS := Lib.hid (LR.lies_below HB3.out _ HO.out.res)
                  have htm := (nodeIn' HTY.out).own
                  clear hltw
                  go_upto_region 14 with fail
                  go_cut [121] from 101 to 121 (fun s121 wx => s121 = .bool (inB [11, 13, 15] a.kind && !(mayT a.ty.er) || !(inB [11, 13, 15] a.kind) && !(plainB a.ty.head)) ∧ Below wc.heap.size wc wx)
                  case first =>
                    cases e1 : inB [11, 13, 15] a.kind
                    · have E1 := Lib.hid e1
                      clear e1
                      cases e3 : plainB a.ty.head
                      · have E3 := Lib.hid e3
                        clear e3
                        go_wp2_with fail
                        refine (ref13_in_any (l := [11, 13, 15]) rfl (by decide) (RowE.newAt encU_len _ _ _ rfl _ _ _ (by simp)) a.kind).mono ?_
                        rintro e w4 ⟨rfl, rfl⟩
                        rw [E1.out]
                        go_wp2_with fail
                        refine (ref13_in_any (l := [11, 13, 15]) rfl (by decide) (RowE.newAt encU_len _ _ _ rfl _ _ _ (by simp)) a.kind).mono ?_
                        rintro e w4 ⟨rfl, rfl⟩
                        rw [E1.out]
                        go_wp2_with fail
                        refine (ref13_plain_any a.ty.head (htm.eff.max) (htm.kmax) _).mono ?_
                        rintro e w5 ⟨rfl, hb⟩
                        rw [E3.out]
                        have HB5 := Lib.hid ((((Below.refl wc.heap.size wc).alloc (Nat.le_refl _) (.cells #[.int .u8 11, .int .u8 13, .int .u8 15] 5)).alloc (by simp) (.cells #[.int .u8 11, .int .u8 13, .int .u8 15] 5)).trans (hb.mono (by simp; omega)))
                        clear hb
                        go_wp2_with fail
                        go_meet
                        case rel => exact ⟨by rw [E1.out, E3.out]; rfl, HB5.out⟩
                      · have E3 := Lib.hid e3
                        clear e3
                        go_wp2_with fail
                        refine (ref13_in_any (l := [11, 13, 15]) rfl (by decide) (RowE.newAt encU_len _ _ _ rfl _ _ _ (by simp)) a.kind).mono ?_
                        rintro e w4 ⟨rfl, rfl⟩
                        rw [E1.out]
                        go_wp2_with fail
                        refine (ref13_in_any (l := [11, 13, 15]) rfl (by decide) (RowE.newAt encU_len _ _ _ rfl _ _ _ (by simp)) a.kind).mono ?_
                        rintro e w4 ⟨rfl, rfl⟩
                        rw [E1.out]
                        go_wp2_with fail
                        refine (ref13_plain_any a.ty.head (htm.eff.max) (htm.kmax) _).mono ?_
                        rintro e w5 ⟨rfl, hb⟩
                        rw [E3.out]
                        have HB5 := Lib.hid ((((Below.refl wc.heap.size wc).alloc (Nat.le_refl _) (.cells #[.int .u8 11, .int .u8 13, .int .u8 15] 5)).alloc (by simp) (.cells #[.int .u8 11, .int .u8 13, .int .u8 15] 5)).trans (hb.mono (by simp; omega)))
                        clear hb
                        go_wp2_with fail
                        go_meet
                        case rel => exact ⟨by rw [E1.out, E3.out]; rfl, HB5.out⟩
                    · have E1 := Lib.hid e1
                      clear e1
                      cases e3 : mayT a.ty.er
                      · have E3 := Lib.hid e3
                        clear e3
                        go_wp2_with fail
                        refine (ref13_in_any (l := [11, 13, 15]) rfl (by decide) (RowE.newAt encU_len _ _ _ rfl _ _ _ (by simp)) a.kind).mono ?_
                        rintro e w4 ⟨rfl, rfl⟩
                        rw [E1.out]
                        go_wp2_with fail
                        refine (ref_May12_any a.ty _ (LR.lies_below ((Below.refl _ _).alloc (Nat.le_refl _) _) _ HTY.out)).mono ?_
                        rintro e w5 ⟨rfl, hb⟩
                        rw [E3.out]
                        have HB5 := Lib.hid (((Below.refl wc.heap.size wc).alloc (Nat.le_refl _) (.cells #[.int .u8 11, .int .u8 13, .int .u8 15] 5)).trans (hb.mono (by simp)))
                        clear hb
                        go_wp2_with fail
                        go_meet
                        case rel => exact ⟨by rw [E1.out, E3.out]; rfl, HB5.out⟩
                      · have E3 := Lib.hid e3
                        clear e3
                        go_wp2_with fail
                        refine (ref13_in_any (l := [11, 13, 15]) rfl (by decide) (RowE.newAt encU_len _ _ _ rfl _ _ _ (by simp)) a.kind).mono ?_
                        rintro e w4 ⟨rfl, rfl⟩
                        rw [E1.out]
                        go_wp2_with fail
                        refine (ref_May12_any a.ty _ (LR.lies_below ((Below.refl _ _).alloc (Nat.le_refl _) _) _ HTY.out)).mono ?_
                        rintro e w5 ⟨rfl, hb⟩
                        rw [E3.out]
                        have HB5 := Lib.hid (((Below.refl wc.heap.size wc).alloc (Nat.le_refl _) (.cells #[.int .u8 11, .int .u8 13, .int .u8 15] 5)).trans (hb.mono (by simp)))
                        clear hb
                        go_wp2_with fail
                        refine (ref13_in_any (l := [11, 13, 15]) rfl (by decide) (RowE.newAt encU_len _ _ _ rfl _ _ _ (by simp)) a.kind).mono ?_
                        rintro e w4 ⟨rfl, rfl⟩
                        rw [E1.out]
                        go_wp2_with fail
                        go_meet
                        case rel => exact ⟨by rw [E1.out, E3.out]; rfl, HB5.out.alloc HB5.out.size _⟩
                  case rest =>
                    obtain ⟨rfl, hb⟩ := hcut
                    have HB4 := Lib.hid (HB3.out.trans (hb.mono HB3.out.size))
                    have HA4 := Lib.hid (HA3.out.below hb)
                    have HRS4 := Lib.hid (LR.lies_below hb _ HRS.out)
                    have hrs := (nodeIn' HRS.out).own
                    clear hb q10 q11 q12 q13 q14 q15 q16 q17 hltc htm
                    generalize hc14 : (inB [11, 13, 15] a.kind && !(mayT a.ty.er) || !(inB [11, 13, 15] a.kind) && !(plainB a.ty.head)) = B14 at *
                    have HC14 := Lib.hid hc14
                    clear hc14
                    cases B14
                    · obtain ⟨_, _, _, _, _, _, _, _, _, _, q10, q11, q12, q13, q14, q15, q16, q17, _⟩ := HA4.out.all
                      cases e1 : (a.kind == 13)
                      · have e1' : (a.kind != 13) = true := by show (!(a.kind == 13)) = _; rw [e1]; rfl
                        have E1 := Lib.hid e1
                        have E1' := Lib.hid e1'
                        go_wp2_with fail
                        refine (ref13_plain_any a.res.head (hrs.eff.max) (hrs.kmax) _).mono ?_
                        rintro e w5 ⟨rfl, hb⟩
                        have HB5 := Lib.hid (HB4.out.trans (hb.mono HB4.out.size))
                        clear hb
                        go_wp2_with fail
                        go_ret
                        exact ⟨ret_bool (by rw [HV.out, HAL.out, E1.out, E1'.out]; simp), HB5.out⟩
                      · have e1' : (a.kind != 13) = false := by show (!(a.kind == 13)) = _; rw [e1]; rfl
                        have E1 := Lib.hid e1
                        have E1' := Lib.hid e1'
                        cases e3 : mayT a.res.er
                        · have E3 := Lib.hid e3
                          clear e3
                          go_wp2_with fail
                          refine (ref_May12_any a.res _ HRS4.out).mono ?_
                          rintro e w5 ⟨rfl, hb⟩
                          rw [E3.out]
                          have HB5 := Lib.hid (HB4.out.trans (hb.mono HB4.out.size))
                          clear hb
                          go_wp2_with fail
                          go_ret
                          exact ⟨ret_bool (by rw [HV.out, HAL.out, E1.out, E1'.out, E3.out]; simp), HB5.out⟩
                        · have E3 := Lib.hid e3
                          clear e3
                          go_wp2_with fail
                          refine (ref_May12_any a.res _ HRS4.out).mono ?_
                          rintro e w5 ⟨rfl, hb⟩
                          rw [E3.out]
                          have HB5 := Lib.hid (HB4.out.trans (hb.mono HB4.out.size))
                          clear hb
                          go_wp2_with fail
                          go_ret
                          exact ⟨ret_bool (by rw [HV.out, HAL.out, E1.out, E1'.out, E3.out]; simp), HB5.out⟩
                    · go_wp2_with fail
                      go_ret
                      exact ⟨ret_bool (by rw [HV.out]; simp), HB4.out⟩
                · go_wp2_with fail
                  go_ret
                  exact ⟨ret_bool (by rw [HV.out]; simp), HB3.out⟩
        · go_wp2_with fail
          go_ret
          exact ⟨ret_bool (by rw [HV.out]; rfl), HB0.out⟩
    · go_wp2_with fail
      go_ret
      exact ⟨ret_bool (by rw [HV.out]; rfl), HB0.out⟩
end Go.Proofs.YtdlbjngpohkglaaGreatDoor
end
