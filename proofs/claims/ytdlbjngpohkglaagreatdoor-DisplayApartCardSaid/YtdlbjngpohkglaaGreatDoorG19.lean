/- Part 19 of the texts: Hd. -/
import Derived.Test.YtdlbjngpohkglaaGreatDoorG18
import Derived.Test.YtdlbjngpohkglaaGreatDoorG14
section
set_option linter.unusedVariables false
set_option maxRecDepth 100000
set_option linter.unusedSimpArgs false
namespace Go.Proofs.YtdlbjngpohkglaaGreatDoor
open Go.RowKit

def AH.hd (a : AH) : HeadV := ⟨a.kind, a.op, a.at_, a.n, a.name, a.arg, a.exn⟩
/-- nothing but a kind, a place, a name -/
def bareB (h : HeadV) : Bool := (h.op == 0) && (h.n == 0) && h.arg.toList.isEmpty && h.exn.toList.isEmpty
/-- may a node's head be, and how many kids it has? -/
def headB (h : HeadV) (n : Nat) : Bool :=
  if h.kind = 17 then bareB h && h.name.toList.isEmpty && decide (0 ≤ h.at_) && ((n : Int) == 1)
  else if h.kind = 18 then bareB h && nameB h.name && decide (0 ≤ h.at_) && ((n : Int) == 0)
  else node4B h (min n 4)
abbrev boxHd (h : HeadV) : Obj := .cells #[.int .u8 h.kind, .int .u8 h.op, .int .i64 h.at_, .int .i64 h.n, .string h.name, .string h.arg, .string h.exn] 23
abbrev zTm : List Value := [.int .u8 0, .int .u8 0, .int .i64 0, .int .i64 0, .string ⟨#[]⟩, .string ⟨#[]⟩, .string ⟨#[]⟩, .slice none 0 0]
def encZ (_ : Unit) : List Value := zTm
theorem encZ_len : ∀ x, (encZ x).length = 8 := fun _ => rfl
theorem encZ_one : ∀ y, ∀ u ∈ encZ y, u.oneCell' = true := by
  intro y u hu
  simp [encZ] at hu
  rcases hu with rfl | rfl | rfl | rfl | rfl <;> rfl
theorem infoTm : (Tryz.prog.info? 86).map (fun i => (i.zero, i.size, i.bytes)) = some (some (.agg #[.int .u8 0, .int .u8 0, .int .i64 0, .int .i64 0, .string .empty, .string .empty, .string .empty, .slice none 0 0]), 8, 96) := by kernel_rfl
/-- a block of a term without regions -/
structure Box8 (w : World) (g : Nat) (h : HeadV) (v : Value) : Prop where
  blk : w.heap[g]? = some (.cells #[.int .u8 h.kind, .int .u8 h.op, .int .i64 h.at_, .int .i64 h.n, .string h.name, .string h.arg, .string h.exn, v] 86 (0, 0))
theorem Box8.cells {w : World} {g : Nat} {h : HeadV} {v : Value} (hb : Box8 w g h v) : w.cell? ⟨g, 0, none⟩ = some (.int .u8 h.kind) ∧ w.cell? ⟨g, 1, none⟩ = some (.int .u8 h.op) ∧ w.cell? ⟨g, 2, none⟩ = some (.int .i64 h.at_) ∧ w.cell? ⟨g, 3, none⟩ = some (.int .i64 h.n) ∧
    w.cell? ⟨g, 4, none⟩ = some (.string h.name) ∧ w.cell? ⟨g, 5, none⟩ = some (.string h.arg) ∧ w.cell? ⟨g, 6, none⟩ = some (.string h.exn) ∧ w.cell? ⟨g, 7, none⟩ = some v ∧ w.frozen? ⟨g, 7, none⟩ = false := by
  have hb := hb.blk
  refine ⟨?_, ?_, ?_, ?_, ?_, ?_, ?_, ?_, ?_⟩ <;> simp [World.cell?, World.frozen?, hb]
theorem Box8.lt {w : World} {g : Nat} {h : HeadV} {v : Value} (hb : Box8 w g h v) : g < w.heap.size := (Array.getElem?_eq_some_iff.1 hb.blk).1
theorem Box8.grown {w w' : World} {g : Nat} {h : HeadV} {v : Value} {r : Option Nat} (hb : Box8 w g h v) (hg : w.grownBy w' r) (hr : r ≠ some g) : Box8 w' g h v := ⟨by rw [hg.block g hb.lt hr.symm]; exact hb.blk⟩
theorem Box8.below {w w' : World} {g : Nat} {h : HeadV} {v : Value} (hb : Box8 w g h v) (h' : Below w.heap.size w w') : Box8 w' g h v := ⟨by rw [h'.block g hb.lt]; exact hb.blk⟩
theorem Box8.set {w : World} {g : Nat} {h : HeadV} {v : Value} (hb : Box8 w g h v) (v' : Value) : Box8 (w.setCell ⟨g, 7, none⟩ v') g h v' := ⟨by simpa using heap_setCell1 (o := 7) v' hb.blk⟩
theorem box8_new (w : World) (h : HeadV) (v : Value) : Box8 (w.alloc (.cells #[.int .u8 h.kind, .int .u8 h.op, .int .i64 h.at_, .int .i64 h.n, .string h.name, .string h.arg, .string h.exn, v] 86)) w.heap.size h v := ⟨heap_alloc_new w _⟩
/-- x.Kids = append(x.Kids, Term{}), k times so far -/
structure ZInv (w wr : World) (h : HeadV) (a : AH) (v : Value) (k : Nat) : Prop where
  own : OwnE encZ 8 wr (w.heap.size + 3) 86 v k (List.replicate k ())
  box : Box8 wr (w.heap.size + 2) h v
  kids : wr.cell? ⟨w.heap.size, 18, none⟩ = some (.slice a.kp a.kn a.kc)
  size : w.heap.size + 3 ≤ wr.heap.size
  below : Below w.heap.size w wr
theorem ZInv.add {w wr w3 : World} {h : HeadV} {a : AH} {v v3 : Value} {k : Nat} (hi : ZInv w wr h a v k) (hown : OwnE encZ 8 w3 (w.heap.size + 3) 86 v3 (k + 1) (List.replicate k () ++ [()])) (hgw : wr.grownBy w3 v.ownBlock) :
    ZInv w (w3.setCell ⟨w.heap.size + 2, 7, none⟩ v3) h a v3 (k + 1) := by
  have hfr : ∀ b, v.ownBlock = some b → w.heap.size + 3 ≤ b := fun b hb => (World.ownsRow.lt hi.own b hb).1
  have hfr3 : ∀ b, v3.ownBlock = some b → w.heap.size + 3 ≤ b := fun b hb => (World.ownsRow.lt hown b hb).1
  have hgs : w3.grownBy (w3.setCell ⟨w.heap.size + 2, 7, none⟩ v3) (some (w.heap.size + 2)) := grown_setCell1 _ _ _ _
  have hlt := hi.size
  refine ⟨?_, (hi.box.grown hgw (fun e => by have := hfr _ e; omega)).set v3, ?_, Nat.le_trans hi.size (Nat.le_trans hgw.size hgs.size), ?_⟩
  · refine ⟨by rw [List.replicate_succ']; exact hown.1, ?_⟩
    rw [List.replicate_succ']
    rcases hown.2 with h0 | ⟨g, cap, cur, rfl, h1, h2, rest⟩
    · exact .inl h0
    · refine .inr ⟨g, cap, cur, rfl, h1, ?_, rest⟩
      rw [hgs.block g (Array.getElem?_eq_some_iff.1 h2).1 (fun e => by injection e with e; omega)]; exact h2
  · have h1 := hi.kids
    refine held_cell hgs (fun e => by injection e with e; have e' : w.heap.size + 2 = w.heap.size := e; omega) (held_cell hgw (fun e => by have := hfr _ e; have : w.heap.size + 3 ≤ w.heap.size := this; omega) h1)
  · exact (hi.below.grown hgw (by omega) (fun b hb => by have := hfr b hb; omega)).grown hgs (by have := hgw.size; omega) (fun b hb => by injection hb with hb; omega)
/-- the two boxes -/
structure HdIn (w W : World) (a : AH) : Prop where
  h : W.cell? ⟨w.heap.size + 1, 0, none⟩ = some (.int .u8 a.kind) ∧ W.cell? ⟨w.heap.size + 1, 1, none⟩ = some (.int .u8 a.op) ∧ W.cell? ⟨w.heap.size + 1, 2, none⟩ = some (.int .i64 a.at_) ∧ W.cell? ⟨w.heap.size + 1, 3, none⟩ = some (.int .i64 a.n) ∧
    W.cell? ⟨w.heap.size + 1, 4, none⟩ = some (.string a.name) ∧ W.cell? ⟨w.heap.size + 1, 5, none⟩ = some (.string a.arg) ∧ W.cell? ⟨w.heap.size + 1, 6, none⟩ = some (.string a.exn)
  t : W.cell? ⟨w.heap.size, 0, none⟩ = some (.int .u8 a.kind) ∧ W.cell? ⟨w.heap.size, 18, none⟩ = some (.slice a.kp a.kn a.kc)
  below : Below w.heap.size w W
  size : W.heap.size = w.heap.size + 2
theorem hdIn (w : World) (a : AH) : HdIn w ((w.alloc (.cells #[.int .u8 a.kind, .int .u8 a.op, .int .i64 a.at_, .int .i64 a.n, .string a.name, .string a.arg, .string a.exn, .int .i64 a.rho, .slice a.rp a.rn a.rc, .slice a.ep a.en a.ec, .int .u8 a.ty.head.kind, .int .i64 a.ty.head.rho, .slice a.ty.head.ep a.ty.head.en a.ty.head.ec, .slice a.ty.head.kp a.ty.head.kn a.ty.head.kc, .int .u8 a.res.head.kind, .int .i64 a.res.head.rho, .slice a.res.head.ep a.res.head.en a.res.head.ec, .slice a.res.head.kp a.res.head.kn a.res.head.kc, .slice a.kp a.kn a.kc] 31)).alloc (.cells #[.int .u8 a.kind, .int .u8 a.op, .int .i64 a.at_, .int .i64 a.n, .string a.name, .string a.arg, .string a.exn] 23)) a := by
  refine ⟨⟨?_, ?_, ?_, ?_, ?_, ?_, ?_⟩, ⟨?_, ?_⟩, ((Below.refl w.heap.size w).alloc (Nat.le_refl _) _).alloc (by simp) _, by simp⟩ <;> go_simp
theorem HdIn.drop {w W W' : World} {a : AH} (h : HdIn w W a) (hb : Below W.heap.size W W') : (W'.cell? ⟨w.heap.size + 1, 2, none⟩ = some (.int .i64 a.at_)) ∧ (W'.cell? ⟨w.heap.size, 18, none⟩ = some (.slice a.kp a.kn a.kc)) ∧ Below w.heap.size w W' :=
  ⟨by rw [hb.cell (by rw [h.size]; simp)]; exact h.h.2.2.1, by rw [hb.cell (by rw [h.size]; simp)]; exact h.t.2, h.below.trans (hb.mono (by rw [h.size]; omega))⟩
set_option maxHeartbeats 4000000 in
theorem ref13_head_any (a : AH) (hk : a.kn ≤ 9223372036854775807) (w : World) :
    Calls Tryz.prog 35 #[aggT a] w fun e w' => e = .returned (.bool (headB a.hd a.kn)) ∧ Below w.heap.size w w' := by
  have HI := Lib.hid (hdIn w a)
  go_enter Tryz.func35, Tryz.ntmps35
  go_upto_region 2 with fail
  generalize ((w.alloc (.cells #[.int .u8 a.kind, .int .u8 a.op, .int .i64 a.at_, .int .i64 a.n, .string a.name, .string a.arg, .string a.exn, .int .i64 a.rho, .slice a.rp a.rn a.rc, .slice a.ep a.en a.ec, .int .u8 a.ty.head.kind, .int .i64 a.ty.head.rho, .slice a.ty.head.ep a.ty.head.en a.ty.head.ec, .slice a.ty.head.kp a.ty.head.kn a.ty.head.kc, .int .u8 a.res.head.kind, .int .i64 a.res.head.rho, .slice a.res.head.ep a.res.head.en a.res.head.ec, .slice a.res.head.kp a.res.head.kn a.res.head.kc, .slice a.kp a.kn a.kc] 31)).alloc (.cells #[.int .u8 a.kind, .int .u8 a.op, .int .i64 a.at_, .int .i64 a.n, .string a.name, .string a.arg, .string a.exn] 23)) = W2 at *
  obtain ⟨q0, q1, q2, q3, q4, q5, q6⟩ := HI.out.h
  obtain ⟨r0, r1⟩ := HI.out.t
  go_cut [4] from 7 to 26 (fun s4 wx => s4 = .bool (bareB a.hd) ∧ wx = W2)
  case first =>
    have HE : Hid (bareB a.hd = ((a.op == 0) && (a.n == 0) && a.arg.toList.isEmpty && a.exn.toList.isEmpty)) := rfl
    cases e1 : (a.op == 0)
    · go_wp2_with fail
      go_meet
      case rel => exact ⟨by rw [HE.out, e1]; rfl, rfl⟩
    · cases e2 : (a.n == 0)
      · go_wp2_with fail
        go_meet
        case rel => exact ⟨by rw [HE.out, e1, e2]; rfl, rfl⟩
      · cases e3 : a.arg.toList.isEmpty
        · go_wp2_with fail
          go_meet
          case rel => exact ⟨by rw [HE.out, e1, e2, e3]; rfl, rfl⟩
        · cases e4 : a.exn.toList.isEmpty
          · go_wp2_with fail
            go_meet
            case rel => exact ⟨by rw [HE.out, e1, e2, e3, e4]; rfl, rfl⟩
          · go_wp2_with fail
            go_meet
            case rel => exact ⟨by rw [HE.out, e1, e2, e3, e4]; rfl, rfl⟩
  case rest =>
    obtain ⟨rfl, rfl⟩ := hcut
    have HU : Hid (headB a.hd a.kn = if a.kind = 17 then bareB a.hd && a.name.toList.isEmpty && decide (0 ≤ a.at_) && ((a.kn : Int) == 1) else if a.kind = 18 then bareB a.hd && nameB a.name && decide (0 ≤ a.at_) && ((a.kn : Int) == 0) else node4B a.hd (min a.kn 4)) := rfl
    generalize hB : bareB a.hd = B at *
    have HB := Lib.hid hB
    clear hB
    by_cases k17 : a.kind = 17
    · have e0 : (a.kind == 17) = true := by simpa using k17
      have HV : Hid (headB a.hd a.kn = (B && a.name.toList.isEmpty && decide (0 ≤ a.at_) && ((a.kn : Int) == 1))) := by show _ = _; rw [HU.out, if_pos k17]
      clear k17
      cases B
      · go_wp2_with fail
        go_ret
        exact ⟨ret_bool (by rw [HV.out]; rfl), HI.out.below⟩
      · cases e1 : a.name.toList.isEmpty
        · go_wp2_with fail
          go_ret
          exact ⟨ret_bool (by rw [HV.out, e1]; rfl), HI.out.below⟩
        · cases e2 : decide (0 ≤ a.at_)
          · go_wp2_with fail
            go_ret
            exact ⟨ret_bool (by rw [HV.out, e1, e2]; rfl), HI.out.below⟩
          · go_wp2_with fail
            go_ret
            exact ⟨ret_bool (by rw [HV.out, e1, e2]; rfl), HI.out.below⟩
    · have e0 : (a.kind == 17) = false := by simpa using k17
      by_cases k18 : a.kind = 18
      · have e00 : (a.kind == 18) = true := by simpa using k18
        have HV : Hid (headB a.hd a.kn = (B && nameB a.name && decide (0 ≤ a.at_) && ((a.kn : Int) == 0))) := by show _ = _; rw [HU.out, if_neg k17, if_pos k18]
        clear k17 k18
        cases B
        · go_wp2_with fail
          go_ret
          exact ⟨ret_bool (by rw [HV.out]; rfl), HI.out.below⟩
        · go_wp2_with fail
          refine (ref_Name_any a.name _).mono ?_
          rintro e w1 ⟨rfl, hb⟩
          obtain ⟨s2, s18, hb1⟩ := HI.out.drop hb
          have HB1 := Lib.hid hb1
          clear hb hb1
          cases e1 : nameB a.name
          · go_wp2_with fail
            go_ret
            exact ⟨ret_bool (by rw [HV.out, e1]; rfl), HB1.out⟩
          · cases e2 : decide (0 ≤ a.at_)
            · go_wp2_with fail
              go_ret
              exact ⟨ret_bool (by rw [HV.out, e1, e2]; rfl), HB1.out⟩
            · go_wp2_with fail
              go_ret
              exact ⟨ret_bool (by rw [HV.out, e1, e2]; rfl), HB1.out⟩
      · have e00 : (a.kind == 18) = false := by simpa using k18
        have HV : Hid (headB a.hd a.kn = node4B a.hd (min a.kn 4)) := by show _ = _; rw [HU.out, if_neg k17, if_neg k18]
        clear k17 k18
        have HZ : Hid (ZInv w (wc.alloc (.cells #[.int .u8 a.kind, .int .u8 a.op, .int .i64 a.at_, .int .i64 a.n, .string a.name, .string a.arg, .string a.exn, .slice none 0 0] 86)) a.hd a (.slice none 0 0) 0) := by
          have h1 := box8_new wc a.hd (.slice none 0 0)
          have h2 := HI.out.size
          refine ⟨OwnE.nil _ _ _ _ _, ?_, ?_, by simp; omega, HI.out.below.alloc (by omega) _⟩
          · rw [h2] at h1; exact h1
          · rw [((Below.refl wc.heap.size wc).alloc (Nat.le_refl _) _).cell (by rw [h2]; simp)]; exact HI.out.t.2
        have hsz := HI.out.size
        have HBC := HI.out.below
        go_upto_region 8 with fail
        clear q0 q1 q2 q3 q4 q5 q6 r0 r1
        generalize wc.alloc (.cells #[.int .u8 a.kind, .int .u8 a.op, .int .i64 a.at_, .int .i64 a.n, .string a.name, .string a.arg, .string a.exn, .slice none 0 0] 86) = W3 at *
        go_wp2_with fail
        clear hsz HBC
        go_loopw [6] (fun i wr => ∃ (k : Nat) (v : Value), k ≤ a.kn ∧ k ≤ 4 ∧ i = .int .i64 k ∧ ZInv w wr a.hd a v k) (fun i _ => 4 - (intOf i).toNat)
        case atStart => exact ⟨0, _, by omega, by omega, rfl, HZ.out⟩
        case round =>
          obtain ⟨k, v, hk1, hk4, rfl, hz⟩ := hrel
          have HZI := Lib.hid hz
          have r1 := hz.kids
          obtain ⟨x0, x1, x2, x3, x4, x5, x6, x7, x8⟩ := hz.box.cells
          have hlt2 := hz.box.lt
          clear hz
          by_cases hlt : k < a.kn ∧ k < 4
          · obtain ⟨hl1, hl2⟩ := hlt
            have HBA := Lib.hid (HZI.out.below)
            have HSZ := Lib.hid (HZI.out.size)
            go_wp2_with (at_builtin; refine wpList_append1 rfl _ _ 84 rfl (w.heap.size + 3) 86 _ 8 96 Tryz.underlying84 infoTm rfl (by decide) encZ encZ_len encZ_one () _ _ _ HZI.out.own rfl rfl ?c1 ?c2 ?c3 ?_)
            case c1 => omega
            case c2 => omega
            case c3 => have := HSZ.out; omega
            · intro v3 w3 hown3 hg3
              obtain ⟨p3, c3, rfl, hrow3⟩ := OwnE.isRow encZ_len (by omega) hown3
              clear hrow3
              have HA := Lib.hid (HZI.out.add hown3 hg3)
              have hgw := hg3
              have HB8 := Lib.hid (HZI.out.box.grown hgw (fun e => by have := (World.ownsRow.lt HZI.out.own _ e).1; omega))
              clear x0 x1 x2 x3 x4 x5 x6 x7 x8 r1
              obtain ⟨x0, x1, x2, x3, x4, x5, x6, x7, x8⟩ := HB8.out.cells
              clear hown3 hg3 hgw
              go_wp2_with fail
              go_roundw
              case rel => exact ⟨k + 1, _, by omega, by omega, by go_num, HA.out⟩
              case measure => simp [intOf]; omega
          · have HN := Lib.hid (fun p c W => ref04_Node_any a.hd p k c (by omega) W)
            obtain ⟨p', c', rfl, hrow⟩ := HZI.out.own.isRow encZ_len (by omega)
            clear hrow
            have hkm : min a.kn 4 = k := by omega
            have HK := Lib.hid hkm
            clear hkm
            rcases (by omega : ¬ k < a.kn ∨ (k < a.kn ∧ ¬ k < 4)) with h1 | ⟨h1, h2⟩
            · clear hlt
              go_wp2_with fail
              refine (HN.out p' c' wr).mono ?_
              rintro e w4 ⟨rfl, hb⟩
              have HB4 := Lib.hid (HZI.out.below.trans (hb.mono HZI.out.below.size))
              clear hb
              go_wp2_with fail
              go_ret
              exact ⟨ret_bool (by rw [HV.out, HK.out]), HB4.out⟩
            · clear hlt
              go_wp2_with fail
              refine (HN.out p' c' wr).mono ?_
              rintro e w4 ⟨rfl, hb⟩
              have HB4 := Lib.hid (HZI.out.below.trans (hb.mono HZI.out.below.size))
              clear hb
              go_wp2_with fail
              go_ret
              exact ⟨ret_bool (by rw [HV.out, HK.out]), HB4.out⟩
end Go.Proofs.YtdlbjngpohkglaaGreatDoor
end
