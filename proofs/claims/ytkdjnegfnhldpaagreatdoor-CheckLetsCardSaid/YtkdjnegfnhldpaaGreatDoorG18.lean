/- Part 18 of the texts: Gr, An. -/
import Derived.Test.YtkdjnegfnhldpaaGreatDoorG14
import Derived.Deep.MidRow
import Derived.Test.YtkdjnegfnhldpaaGreatDoorG17
set_option linter.unusedVariables false
set_option maxRecDepth 100000
set_option linter.unusedSimpArgs false
section
namespace Go.Proofs.YtkdjnegfnhldpaaGreatDoor
open Go.RowKit
structure SmallN (a : AH) : Prop where
  name : a.name.size ≤ 100
  arg : a.arg.size ≤ 100
  exn : a.exn.size ≤ 100
  rhos : a.rn ≤ 50
  eff : greatB a.eff = false
  ty : SmallT a.ty.er 100
  res : SmallT a.res.er 100
def SmallNs (t : PA) : Prop := ∀ a ∈ Rose.nodes t, SmallN a
theorem SmallNs.node {a : AH} {l : List PA} (ha : SmallN a) (hl : ∀ t ∈ l, SmallNs t) : SmallNs (.node a l) := by
  intro x hx
  rw [Rose.nodes_node, List.mem_cons] at hx
  rcases hx with rfl | hx
  · exact ha
  · rw [List.mem_flatten] at hx
    obtain ⟨m, hm, hx⟩ := hx
    obtain ⟨t, ht, rfl⟩ := List.mem_map.1 hm
    exact hl t ht x hx
def LeftA (t : PA) (n r : Int) : Prop := -1 ≤ r ∧ r ≤ n ∧ (0 ≤ r → (t.size : Int) + r = n ∧ SmallNs t)
def LeftATo (l : List PA) (n r : Int) : Prop := -1 ≤ r ∧ r ≤ n ∧ (0 ≤ r → ((l.map Rose.size).sum : Int) + r = n ∧ ∀ t ∈ l, SmallNs t)
theorem LeftATo.step {l : List PA} {n r r' : Int} {t : PA} (h : LeftATo l n r) (h0 : 0 ≤ r) (h' : LeftA t r r') : LeftATo (l ++ [t]) n r' := by
  refine ⟨h'.1, by have := h.2.1; have := h'.2.1; omega, fun hr => ?_⟩
  obtain ⟨h1, h2⟩ := h.2.2 h0
  obtain ⟨h3, h4⟩ := h'.2.2 hr
  refine ⟨?_, fun x hx => ?_⟩
  · simp only [List.map_append, List.map_cons, List.map_nil, List.sum_append, List.sum_cons, List.sum_nil]
    omega
  · rcases List.mem_append.1 hx with hx | hx
    · exact h2 x hx
    · rw [List.mem_singleton] at hx; subst hx; exact h4
theorem ref_Great12_b {t : PT} {w : World} (hl : LR.lies w t) :
    Calls Tryz.prog 87 #[aggR t.head] w fun e w' => (∃ r, e = .returned (.bool r) ∧ (r = false → SmallT t.er 100)) ∧ Below w.heap.size w w' := ref_Great12_any hl
theorem ref_Great_b {a : AH} {w : World} {r : Bool} (h : greatB a.eff = r) (ho : IsRow encA 3 w a.ep a.en a.ec a.eff) :
    Calls Tryz.prog 86 #[.slice a.ep a.en a.ec] w fun e w' => e = .returned (.bool r) ∧ w = w' := by
  subst h; exact ref_Great_any _ _ _ _ w ho.len ho.max ho.row
def LeftAt (t : PA) (w : World) : Prop := ∀ n : Int, 0 ≤ n → n ≤ 1000000 → Calls Tryz.prog 57 #[aggT t.head, .int .i64 n] w fun e w' => (∃ r : Int, e = .returned (.int .i64 r) ∧ LeftA t n r) ∧ Below w.heap.size w w'
set_option maxHeartbeats 4000000 in
theorem ref13_left_of {a : AH} {l : List PA} {w : World} (hN : NodeA w a l) (hf : ∀ x ∈ l, ∀ W, Below w.heap.size w W → LeftAt x W) : LeftAt (.node a l) w := by
  intro n h0 hn
  have HN := Lib.hid hN
  have HF := Lib.hid hf
  have hkm := hN.own.kmax
  have hrm := hN.own.rhos.max
  have hnm := hN.own.name
  have ham := hN.own.arg
  have hem := hN.own.exn
  have HA := Lib.hid (boxA_new w a)
  have HBX := Lib.hid ((Below.refl w.heap.size w).alloc (Nat.le_refl _) (boxA a))
  show Calls _ _ #[aggT a, .int .i64 n] w _
  clear hN hf
  go_enter Tryz.func57, Tryz.ntmps57
  go_upto_region 2 with fail
  generalize w.alloc (.cells #[.int .u8 a.kind, .int .u8 a.op, .int .i64 a.at_, .int .i64 a.n, .string a.name, .string a.arg, .string a.exn, .int .i64 a.rho, .slice a.rp a.rn a.rc, .slice a.ep a.en a.ec, .int .u8 a.ty.head.kind, .int .i64 a.ty.head.rho, .slice a.ty.head.ep a.ty.head.en a.ty.head.ec, .slice a.ty.head.kp a.ty.head.kn a.ty.head.kc, .int .u8 a.res.head.kind, .int .i64 a.res.head.rho, .slice a.res.head.ep a.res.head.en a.res.head.ec, .slice a.res.head.kp a.res.head.kn a.res.head.kc, .slice a.kp a.kn a.kc] 31) = W0 at *
  go_cut [47] from 8 to 47 (fun s47 wx => ∃ b, s47 = .bool b ∧ (b = false → SmallN a) ∧ Below W0.heap.size W0 wx)
  case first =>
    obtain ⟨_, _, _, _, q4, q5, q6, q7, q8, q9, q10, q11, q12, q13, q14, q15, q16, q17, _⟩ := HA.out.all
    by_cases h1 : 100 < a.name.size
    · have e1 : decide ((100 : Int) < (a.name.size : Int)) = true := by simp; omega
      clear h1
      go_wp2_with fail
      go_meet
      case rel => exact ⟨true, rfl, (fun h => by cases h), Below.refl _ _⟩
    have e1 : decide ((100 : Int) < (a.name.size : Int)) = false := by simp; omega
    by_cases h2 : 100 < a.arg.size
    · have e2 : decide ((100 : Int) < (a.arg.size : Int)) = true := by simp; omega
      clear h1 h2
      go_wp2_with fail
      go_meet
      case rel => exact ⟨true, rfl, (fun h => by cases h), Below.refl _ _⟩
    have e2 : decide ((100 : Int) < (a.arg.size : Int)) = false := by simp; omega
    by_cases h3 : 100 < a.exn.size
    · have e3 : decide ((100 : Int) < (a.exn.size : Int)) = true := by simp; omega
      clear h1 h2 h3
      go_wp2_with fail
      go_meet
      case rel => exact ⟨true, rfl, (fun h => by cases h), Below.refl _ _⟩
    have e3 : decide ((100 : Int) < (a.exn.size : Int)) = false := by simp; omega
    by_cases h4 : 50 < a.rn
    · have e4 : decide ((50 : Int) < (a.rn : Int)) = true := by simp; omega
      clear h1 h2 h3 h4
      go_wp2_with fail
      go_meet
      case rel => exact ⟨true, rfl, (fun h => by cases h), Below.refl _ _⟩
    have e4 : decide ((50 : Int) < (a.rn : Int)) = false := by simp; omega
    have HSZ : Hid (a.name.size ≤ 100 ∧ a.arg.size ≤ 100 ∧ a.exn.size ≤ 100 ∧ a.rn ≤ 50) := by show _ ∧ _; omega
    have HEF := Lib.hid (HN.out.own.eff.below HBX.out)
    clear h1 h2 h3 h4
    cases hg : greatB a.eff
    · have HG := Lib.hid hg
      clear hg
      go_wp2_with fail
      refine (ref_Great_b HG.out HEF.out).mono ?_
      rintro e w1 ⟨rfl, rfl⟩
      go_wp2_with fail
      refine (ref_Great12_b (LR.lies_below HBX.out _ HN.out.own.ty)).mono ?_
      rintro e w2 ⟨⟨r, rfl, hr⟩, hb⟩
      have HR := Lib.hid hr
      have HB2 := Lib.hid hb
      have HA2 := Lib.hid (HA.out.below hb)
      clear hb hr q4 q5 q6 q7 q8 q9 q10 q11 q12 q13 q14 q15 q16 q17
      cases r
      · obtain ⟨_, _, _, _, q4, q5, q6, q7, q8, q9, q10, q11, q12, q13, q14, q15, q16, q17, _⟩ := HA2.out.all
        go_wp2_with fail
        refine (ref_Great12_b (LR.lies_below (HBX.out.trans (HB2.out.mono HBX.out.size)) _ HN.out.own.res)).mono ?_
        rintro e w3 ⟨⟨r', rfl, hr⟩, hb⟩
        have HR2 := Lib.hid hr
        have HB3 := Lib.hid (HB2.out.trans (hb.mono HB2.out.size))
        clear hb hr q4 q5 q6 q7 q8 q9 q10 q11 q12 q13 q14 q15 q16 q17
        go_wp2_with fail
        go_meet
        case rel => exact ⟨r', rfl, fun h => ⟨HSZ.out.1, HSZ.out.2.1, HSZ.out.2.2.1, HSZ.out.2.2.2, HG.out, HR.out (by first | rfl | trivial), HR2.out h⟩, HB3.out⟩
      · go_wp2_with fail
        go_meet
        case rel => exact ⟨true, rfl, (fun h => by cases h), HB2.out⟩
    · have HG := Lib.hid hg
      clear hg
      go_wp2_with fail
      refine (ref_Great_b HG.out HEF.out).mono ?_
      rintro e w1 ⟨rfl, rfl⟩
      go_wp2_with fail
      go_meet
      case rel => exact ⟨true, rfl, (fun h => by cases h), Below.refl _ _⟩
  case rest =>
    obtain ⟨b, rfl, hs, hb⟩ := hcut
    have HSM := Lib.hid hs
    have HB := Lib.hid (HBX.out.trans (hb.mono HBX.out.size))
    have HA1 := Lib.hid (HA.out.below hb)
    clear hb hs
    cases b
    · have hlt0 : w.heap.size < wc.heap.size := (Array.getElem?_eq_some_iff.1 HA1.out.blk).1
      have HNW := Lib.hid (HN.out.below HB.out)
      go_upto_region 4 with fail
      go_wp2_with fail
      go_loopw [1, 5] (fun u i wr => ∃ (k : Nat) (r : Int), k ≤ a.kn ∧ i = .int .i64 k ∧ u = .int .i64 r ∧ LeftATo (l.take k) (n - 1) r ∧ Below wc.heap.size wc wr) (fun _ i _ => a.kn - (intOf i).toNat)
      case atStart => exact ⟨0, n - 1, by omega, rfl, by go_num, ⟨by omega, by omega, fun _ => ⟨by simp, fun t ht => by simp at ht⟩⟩, Below.refl _ _⟩
      case round =>
        obtain ⟨k, r, hk, rfl, rfl, hto, hb⟩ := hrel
        have hr1 := hto.1
        have hr2 := hto.2.1
        have HTO := Lib.hid hto
        have HBR := Lib.hid hb
        clear hto hb
        have q18 : wr.cell? ⟨w.heap.size, 18, none⟩ = some (.slice a.kp a.kn a.kc) := (HA1.out.below HBR.out).c 18 _ rfl
        by_cases hlt : k < a.kn
        · by_cases hr0 : 0 ≤ r
          · obtain ⟨x, hx⟩ := (HNW.out.rowT).at (j := k) hlt
            have HE := Lib.hid hx
            obtain ⟨b, o, hbo, hbl, hcs⟩ := (HNW.out.rowT.below HBR.out).kid hx
            have HCS := Lib.hid hcs
            rw [hbo] at q18
            clear hx hbl hbo hcs
            go_wp2_with (refine wpList_load_mid rfl 31 _ rfl b (o + k * 19) rfl (encAH x.head) _ HCS.out.c Tryz.underlying31 rfl (by kernel_rfl) ?_)
            refine Calls.mono (HF.out x (List.mem_of_getElem? HE.out) wr (HB.out.trans (HBR.out.mono HB.out.size)) r hr0 (by omega)) ?_
            rintro e w2 ⟨⟨r', rfl, hok⟩, hb⟩
            have HOK := Lib.hid hok
            have HB2 := Lib.hid (HBR.out.trans (hb.mono HBR.out.size))
            clear hok hb q18
            go_wp2_with fail
            go_roundw
            case rel => exact ⟨k + 1, r', by omega, by go_num, rfl, by rw [take_succ_get HE.out]; exact HTO.out.step hr0 HOK.out, HB2.out⟩
            case measure => simp [intOf]; omega
          · have hd : decide (0 ≤ r) = false := by simpa using hr0
            go_wp2_with fail
            go_ret
            exact ⟨⟨r, rfl, by have := HTO.out; refine ⟨this.1, by omega, fun h => absurd h (by omega)⟩⟩, HB.out.trans (HBR.out.mono HB.out.size)⟩
        · have hkn : k = a.kn := by omega
          have h := HTO.out
          rw [take_full (by rw [HNW.out.kids.len]; omega)] at h
          have H := Lib.hid h
          clear hkn h
          go_wp2_with fail
          go_ret
          refine ⟨⟨r, rfl, H.out.1, by omega, fun h0 => ?_⟩, HB.out.trans (HBR.out.mono HB.out.size)⟩
          obtain ⟨h1, h2⟩ := H.out.2.2 h0
          refine ⟨by rw [Rose.size_node]; omega, SmallNs.node (HSM.out (by first | rfl | trivial)) h2⟩
    · go_wp2_with fail
      go_ret
      exact ⟨⟨-1, rfl, by omega, by omega, fun h => absurd h (by omega)⟩, HB.out⟩
theorem leftAt_any (t : PA) : ∀ w, LA.lies w t → LeftAt t w := by
  refine Rose.ind (P := fun (t : PA) => ∀ w, LA.lies w t → LeftAt t w) (fun a l ih => ?_) t
  intro w hl
  have HN := nodeA hl
  exact ref13_left_of HN (fun x hx W hW => ih x hx W (LA.lies_below hW x (HN.each x hx)))
theorem ref13_Great_any {t : PA} {w : World} (hl : LA.lies w t) :
    Calls Tryz.prog 33 #[aggT t.head] w fun e w' => (∃ r, e = .returned (.bool r) ∧ (r = false → t.size ≤ 400 ∧ SmallNs t)) ∧ Below w.heap.size w w' := by
  have HBX := Lib.hid ((Below.refl w.heap.size w).alloc (Nat.le_refl _) (boxA t.head))
  have HL := Lib.hid (leftAt_any t _ (LA.lies_below ((Below.refl w.heap.size w).alloc (Nat.le_refl _) (boxA t.head)) t hl) 400 (by omega) (by omega))
  have HA := Lib.hid (boxA_new w t.head)
  obtain ⟨a, l⟩ := t
  show Calls _ _ #[aggT a] w _
  clear hl
  go_enter Tryz.func33, Tryz.ntmps33
  go_wp2_with (refine wpList_load_row rfl 31 _ rfl w.heap.size rfl 31 _ (0, 0) _ (HA.out.blk) Tryz.underlying31 rfl (by kernel_rfl) ?_)
  refine Calls.mono HL.out ?_
  rintro e w1 ⟨⟨r, rfl, hok⟩, hb⟩
  have HOK := Lib.hid hok
  have HB := Lib.hid (HBX.out.trans (hb.mono HBX.out.size))
  clear hok hb
  go_wp2_with fail
  go_ret
  refine ⟨⟨_, rfl, fun h => ?_⟩, HB.out⟩
  have h0 : 0 ≤ r := by simpa using h
  obtain ⟨h1, h2⟩ := HOK.out.2.2 h0
  exact ⟨by omega, h2⟩
end Go.Proofs.YtkdjnegfnhldpaaGreatDoor
end
section
namespace Go.Proofs.YtkdjnegfnhldpaaGreatDoor
open Go.RowKit
structure AnS (w W : World) (g : Nat) (a : AH) (b0 b1 b2 b3 b4 : Bool) : Prop where
  box : BoxA W w.heap.size a
  f : W.heap[g]? = some (.cells #[.bool b0, .bool b1, .bool b2, .bool b3, .bool b4] 137 (0, 0))
  below : Below w.heap.size w W
theorem AnS.drop {w W W' : World} {g : Nat} {a : AH} {b0 b1 b2 b3 b4 : Bool} (h : AnS w W g a b0 b1 b2 b3 b4) (hb : Below W.heap.size W W') : AnS w W' g a b0 b1 b2 b3 b4 :=
  ⟨h.box.below hb, by rw [hb.block g (Array.getElem?_eq_some_iff.1 h.f).1]; exact h.f, h.below.trans (hb.mono h.below.size)⟩
theorem AnS.cells {w W : World} {g : Nat} {a : AH} {b0 b1 b2 b3 b4 : Bool} (h : AnS w W g a b0 b1 b2 b3 b4) :
    (W.cell? ⟨g, 0, none⟩ = some (.bool b0) ∧ W.cell? ⟨g, 1, none⟩ = some (.bool b1) ∧ W.cell? ⟨g, 2, none⟩ = some (.bool b2) ∧ W.cell? ⟨g, 3, none⟩ = some (.bool b3) ∧ W.cell? ⟨g, 4, none⟩ = some (.bool b4)) ∧
    W.cell? ⟨w.heap.size, 0, none⟩ = some (.int .u8 a.kind) ∧ W.cell? ⟨w.heap.size, 8, none⟩ = some (.slice a.rp a.rn a.rc) ∧ W.cell? ⟨w.heap.size, 9, none⟩ = some (.slice a.ep a.en a.ec) ∧
    W.cell? ⟨w.heap.size, 10, none⟩ = some (.int .u8 a.ty.head.kind) ∧ W.cell? ⟨w.heap.size, 11, none⟩ = some (.int .i64 a.ty.head.rho) ∧ W.cell? ⟨w.heap.size, 12, none⟩ = some (.slice a.ty.head.ep a.ty.head.en a.ty.head.ec) ∧ W.cell? ⟨w.heap.size, 13, none⟩ = some (.slice a.ty.head.kp a.ty.head.kn a.ty.head.kc) ∧
    W.cell? ⟨w.heap.size, 14, none⟩ = some (.int .u8 a.res.head.kind) ∧ W.cell? ⟨w.heap.size, 15, none⟩ = some (.int .i64 a.res.head.rho) ∧ W.cell? ⟨w.heap.size, 16, none⟩ = some (.slice a.res.head.ep a.res.head.en a.res.head.ec) ∧ W.cell? ⟨w.heap.size, 17, none⟩ = some (.slice a.res.head.kp a.res.head.kn a.res.head.kc) := by
  have hf := h.f
  refine ⟨⟨?_, ?_, ?_, ?_, ?_⟩, h.box.c 0 _ rfl, h.box.c 8 _ rfl, h.box.c 9 _ rfl, h.box.c 10 _ rfl, h.box.c 11 _ rfl, h.box.c 12 _ rfl, h.box.c 13 _ rfl, h.box.c 14 _ rfl, h.box.c 15 _ rfl, h.box.c 16 _ rfl, h.box.c 17 _ rfl⟩ <;> simp [World.cell?, hf]
theorem smallT_head {t : PT} {w : World} {n : Nat} (hl : LR.lies w t) (hs : SmallT t.er n) (hn : n ≤ 1000000) : t.head.en ≤ 1000000 ∧ t.head.kn ≤ 1000000 := by
  have hN := nodeIn' hl
  obtain ⟨a, l⟩ := t
  rw [PT.er_node] at hs
  have h1 := hs.kids
  have h2 := greatB_len' hs.eff
  have h3 := hN.own.eff.len
  have h4 := hN.kids.len
  simp only [List.length_map] at h1
  have h5 : a.eff.length ≤ 100 := h2
  have h6 : a.eff.length = a.en := h3
  have h7 : l.length = a.kn := h4
  show a.en ≤ 1000000 ∧ a.kn ≤ 1000000
  omega
set_option maxHeartbeats 4000000 in
theorem aterm_node_any (a : AH) {w : World} (ho : AH.Own w a) (hs : SmallN a) (hk : a.kn ≤ 1000000) (hv : Vr w) :
    Calls Tryz.prog 60 #[aggT a] w fun e w' => e = .returned (.bool (node13 a)) ∧ Below w.heap.size w w' := by
  have hel := greatB_len' hs.eff
  have hen : a.en ≤ 1000000 := by have := ho.eff.len; omega
  obtain ⟨ht1, ht2⟩ := smallT_head ho.ty hs.ty (by omega)
  obtain ⟨hr1, hr2⟩ := smallT_head ho.res hs.res (by omega)
  have HM : Hid (node13 a = (headB a.hd a.kn && regB a (inB [3, 6, 11, 13, 17, 18] a.kind) ((a.kind == 13) || (a.kind == 18)) && (!(a.kind == 13) || onceB a.rhos) && (!(inB [11, 13, 18] a.kind) || mayB a.eff) && (inB [11, 13, 18] a.kind || !decide (0 < a.en)) &&
    (fitsT (inB [11, 13, 15] a.kind) a.ty && fitsT (a.kind == 13) a.res))) := (nodeM_eq a ho.rhos.len ho.eff.len).symm
  have hen63 := ho.eff.max
  have CH : ∀ W, Below w.heap.size w W → Calls Tryz.prog 90 #[aggT a] W fun e w' => e = .returned (.bool (headB a.hd a.kn)) ∧ Below W.heap.size W w' := fun W hb => aterm_headed_any a ho.k0 ho.k1 hk (hv.below hb)
  have CR : ∀ W, Below w.heap.size w W → Calls Tryz.prog 91 #[aggT a, ofB a.kind] W fun e w' => e = .returned (.bool (regB a (inB [3, 6, 11, 13, 17, 18] a.kind) ((a.kind == 13) || (a.kind == 18)))) ∧ Below W.heap.size W w' := fun W hb => regions_any a _ _ _ _ _ (ho.rhos.below hb)
  have CO : ∀ W, Below w.heap.size w W → Calls Tryz.prog 92 #[.slice a.rp a.rn a.rc] W fun e w' => e = .returned (.bool (onceB a.rhos)) ∧ Below W.heap.size W w' := fun W hb => once_any (ho.rhos.below hb) (by have := hs.rhos; omega)
  have CM : ∀ W, Below w.heap.size w W → Calls Tryz.prog 93 #[.slice a.ep a.en a.ec] W fun e w' => e = .returned (.bool (mayB a.eff)) ∧ Below W.heap.size W w' := fun W hb => eff_May_is rfl (ho.eff.below hb)
  have CF1 : ∀ W, Below w.heap.size w W → Calls Tryz.prog 94 #[.bool (inB [11, 13, 15] a.kind), aggR a.ty.head] W fun e w' => e = .returned (.bool (fitsT (inB [11, 13, 15] a.kind) a.ty)) ∧ Below W.heap.size W w' := fun W hb => aterm_fits_any _ _ (LR.lies_below hb _ ho.ty) ht1 ht2
  have CF2 : ∀ W, Below w.heap.size w W → Calls Tryz.prog 94 #[.bool (a.kind == 13), aggR a.res.head] W fun e w' => e = .returned (.bool (fitsT (a.kind == 13) a.res)) ∧ Below W.heap.size W w' := fun W hb => aterm_fits_any _ _ (LR.lies_below hb _ ho.res) hr1 hr2
  have COf := Lib.hid (of_any a.kind (w.alloc (boxA a)))
  have HB0 := Lib.hid ((Below.refl w.heap.size w).alloc (Nat.le_refl _) (boxA a))
  have HA0 := Lib.hid (boxA_new w a)
  unfold ofB at COf CR
  clear ho hs hk hv hel ht1 ht2 hr1 hr2
  generalize headB a.hd a.kn = H at *
  generalize regB a (inB [3, 6, 11, 13, 17, 18] a.kind) ((a.kind == 13) || (a.kind == 18)) = R at *
  generalize onceB a.rhos = O at *
  generalize mayB a.eff = M at *
  generalize fitsT (inB [11, 13, 15] a.kind) a.ty = F1 at *
  generalize fitsT (a.kind == 13) a.res = F2 at *
  generalize inB [3, 6, 11, 13, 17, 18] a.kind = I1 at *
  generalize ((a.kind == 13) || (a.kind == 18)) = FH at *
  generalize inB [11, 13, 18] a.kind = I2 at *
  generalize inB [11, 13, 15] a.kind = I3 at *
  generalize h13 : (a.kind == 13) = K13 at *
  have HCH := Lib.hid CH
  have HCR := Lib.hid CR
  have HCO := Lib.hid CO
  have HCM := Lib.hid CM
  have HCF1 := Lib.hid CF1
  have HCF2 := Lib.hid CF2
  clear CH CR CO CM CF1 CF2
  have c0 := HA0.out.c 0 _ rfl
  go_enter Tryz.func60, Tryz.ntmps60
  go_upto_region 2 with (go_at_call 89; refine COf.out.mono ?_; rintro e w2 ⟨rfl, hb⟩; have HB2 := Lib.hid hb; clear hb)
  have HN : Hid (AnS w (w2.alloc (.cells #[.bool I1, .bool FH, .bool I2, .bool I3, .bool K13] 137)) w2.heap.size a I1 FH I2 I3 K13) :=
    Lib.hid ⟨(HA0.out.below HB2.out).below ((Below.refl _ _).alloc (Nat.le_refl _) _), heap_alloc_new w2 _, (HB0.out.trans (HB2.out.mono HB0.out.size)).alloc (HB0.out.trans (HB2.out.mono HB0.out.size)).size _⟩
  generalize w2.alloc (.cells #[.bool I1, .bool FH, .bool I2, .bool I3, .bool K13] 137) = W at *
  clear c0 COf HB0 HA0
  generalize w2.heap.size = g at *
  clear HB2
  obtain ⟨⟨f0, f1, f2, f3, f4⟩, c0, c8, c9, c10, c11, c12, c13, c14, c15, c16, c17⟩ := HN.out.cells
  cases H with
  | false =>
    go_wp2_with (first
      | (refine wpList_load_row rfl 31 _ rfl w.heap.size rfl 31 _ (0, 0) _ HN.out.box.blk Tryz.underlying31 rfl (by kernel_rfl) ?_)
      | (go_at_call 90; refine (HCH.out _ HN.out.below).mono ?_; rintro e w8 ⟨rfl, hb⟩; have HN := Lib.hid (HN.out.drop hb); clear hb f0 f1 f2 f3 f4 c0 c8 c9 c10 c11 c12 c13 c14 c15 c16 c17; obtain ⟨⟨f0, f1, f2, f3, f4⟩, c0, c8, c9, c10, c11, c12, c13, c14, c15, c16, c17⟩ := HN.out.cells))
    go_ret
    exact ⟨ret_bool (by rw [HM.out]; rfl), HN.out.below⟩
  | true =>
    rw [Bool.true_and] at HM
    cases R with
    | false =>
      go_wp2_with (first
        | (refine wpList_load_row rfl 31 _ rfl w.heap.size rfl 31 _ (0, 0) _ HN.out.box.blk Tryz.underlying31 rfl (by kernel_rfl) ?_)
        | (go_at_call 90; refine (HCH.out _ HN.out.below).mono ?_; rintro e w8 ⟨rfl, hb⟩; have HN := Lib.hid (HN.out.drop hb); clear hb f0 f1 f2 f3 f4 c0 c8 c9 c10 c11 c12 c13 c14 c15 c16 c17; obtain ⟨⟨f0, f1, f2, f3, f4⟩, c0, c8, c9, c10, c11, c12, c13, c14, c15, c16, c17⟩ := HN.out.cells)
        | (go_at_call 91; refine (HCR.out _ HN.out.below).mono ?_; rintro e w8 ⟨rfl, hb⟩; have HN := Lib.hid (HN.out.drop hb); clear hb f0 f1 f2 f3 f4 c0 c8 c9 c10 c11 c12 c13 c14 c15 c16 c17; obtain ⟨⟨f0, f1, f2, f3, f4⟩, c0, c8, c9, c10, c11, c12, c13, c14, c15, c16, c17⟩ := HN.out.cells))
      go_ret
      exact ⟨ret_bool (by rw [HM.out]; rfl), HN.out.below⟩
    | true =>
      rw [Bool.true_and] at HM
      go_upto_region 4 with (first
        | (refine wpList_load_row rfl 31 _ rfl w.heap.size rfl 31 _ (0, 0) _ HN.out.box.blk Tryz.underlying31 rfl (by kernel_rfl) ?_)
        | (go_at_call 90; refine (HCH.out _ HN.out.below).mono ?_; rintro e w8 ⟨rfl, hb⟩; have HN := Lib.hid (HN.out.drop hb); clear hb f0 f1 f2 f3 f4 c0 c8 c9 c10 c11 c12 c13 c14 c15 c16 c17; obtain ⟨⟨f0, f1, f2, f3, f4⟩, c0, c8, c9, c10, c11, c12, c13, c14, c15, c16, c17⟩ := HN.out.cells)
        | (go_at_call 91; refine (HCR.out _ HN.out.below).mono ?_; rintro e w8 ⟨rfl, hb⟩; have HN := Lib.hid (HN.out.drop hb); clear hb f0 f1 f2 f3 f4 c0 c8 c9 c10 c11 c12 c13 c14 c15 c16 c17; obtain ⟨⟨f0, f1, f2, f3, f4⟩, c0, c8, c9, c10, c11, c12, c13, c14, c15, c16, c17⟩ := HN.out.cells))
      clear HCH HCR
      cases K13 with
      | true =>
        cases O with
        | false =>
          have HCFX := HCF1
          go_wp2_with (first
            | (go_at_call 92; refine (HCO.out _ HN.out.below).mono ?_; rintro e w8 ⟨rfl, hb⟩; have HN := Lib.hid (HN.out.drop hb); clear hb f0 f1 f2 f3 f4 c0 c8 c9 c10 c11 c12 c13 c14 c15 c16 c17; obtain ⟨⟨f0, f1, f2, f3, f4⟩, c0, c8, c9, c10, c11, c12, c13, c14, c15, c16, c17⟩ := HN.out.cells)
            | (go_at_call 93; refine (HCM.out _ HN.out.below).mono ?_; rintro e w8 ⟨rfl, hb⟩; have HN := Lib.hid (HN.out.drop hb); clear hb f0 f1 f2 f3 f4 c0 c8 c9 c10 c11 c12 c13 c14 c15 c16 c17; obtain ⟨⟨f0, f1, f2, f3, f4⟩, c0, c8, c9, c10, c11, c12, c13, c14, c15, c16, c17⟩ := HN.out.cells)
            | (go_at_call 94; refine (HCFX.out _ HN.out.below).mono ?_; rintro e w8 ⟨rfl, hb⟩; clear HCFX; have HCFX := HCF2; have HN := Lib.hid (HN.out.drop hb); clear hb f0 f1 f2 f3 f4 c0 c8 c9 c10 c11 c12 c13 c14 c15 c16 c17; obtain ⟨⟨f0, f1, f2, f3, f4⟩, c0, c8, c9, c10, c11, c12, c13, c14, c15, c16, c17⟩ := HN.out.cells))
          go_ret
          exact ⟨ret_bool (by rw [HM.out]; rfl), HN.out.below⟩
        | true =>
          cases I2 with
          | true =>
            cases M with
            | false =>
              have HCFX := HCF1
              go_wp2_with (first
                | (go_at_call 92; refine (HCO.out _ HN.out.below).mono ?_; rintro e w8 ⟨rfl, hb⟩; have HN := Lib.hid (HN.out.drop hb); clear hb f0 f1 f2 f3 f4 c0 c8 c9 c10 c11 c12 c13 c14 c15 c16 c17; obtain ⟨⟨f0, f1, f2, f3, f4⟩, c0, c8, c9, c10, c11, c12, c13, c14, c15, c16, c17⟩ := HN.out.cells)
                | (go_at_call 93; refine (HCM.out _ HN.out.below).mono ?_; rintro e w8 ⟨rfl, hb⟩; have HN := Lib.hid (HN.out.drop hb); clear hb f0 f1 f2 f3 f4 c0 c8 c9 c10 c11 c12 c13 c14 c15 c16 c17; obtain ⟨⟨f0, f1, f2, f3, f4⟩, c0, c8, c9, c10, c11, c12, c13, c14, c15, c16, c17⟩ := HN.out.cells)
                | (go_at_call 94; refine (HCFX.out _ HN.out.below).mono ?_; rintro e w8 ⟨rfl, hb⟩; clear HCFX; have HCFX := HCF2; have HN := Lib.hid (HN.out.drop hb); clear hb f0 f1 f2 f3 f4 c0 c8 c9 c10 c11 c12 c13 c14 c15 c16 c17; obtain ⟨⟨f0, f1, f2, f3, f4⟩, c0, c8, c9, c10, c11, c12, c13, c14, c15, c16, c17⟩ := HN.out.cells))
              go_ret
              exact ⟨ret_bool (by rw [HM.out]; rfl), HN.out.below⟩
            | true =>
              cases F1 with
              | false =>
                have HCFX := HCF1
                go_wp2_with (first
                  | (go_at_call 92; refine (HCO.out _ HN.out.below).mono ?_; rintro e w8 ⟨rfl, hb⟩; have HN := Lib.hid (HN.out.drop hb); clear hb f0 f1 f2 f3 f4 c0 c8 c9 c10 c11 c12 c13 c14 c15 c16 c17; obtain ⟨⟨f0, f1, f2, f3, f4⟩, c0, c8, c9, c10, c11, c12, c13, c14, c15, c16, c17⟩ := HN.out.cells)
                  | (go_at_call 93; refine (HCM.out _ HN.out.below).mono ?_; rintro e w8 ⟨rfl, hb⟩; have HN := Lib.hid (HN.out.drop hb); clear hb f0 f1 f2 f3 f4 c0 c8 c9 c10 c11 c12 c13 c14 c15 c16 c17; obtain ⟨⟨f0, f1, f2, f3, f4⟩, c0, c8, c9, c10, c11, c12, c13, c14, c15, c16, c17⟩ := HN.out.cells)
                  | (go_at_call 94; refine (HCFX.out _ HN.out.below).mono ?_; rintro e w8 ⟨rfl, hb⟩; clear HCFX; have HCFX := HCF2; have HN := Lib.hid (HN.out.drop hb); clear hb f0 f1 f2 f3 f4 c0 c8 c9 c10 c11 c12 c13 c14 c15 c16 c17; obtain ⟨⟨f0, f1, f2, f3, f4⟩, c0, c8, c9, c10, c11, c12, c13, c14, c15, c16, c17⟩ := HN.out.cells))
                go_ret
                exact ⟨ret_bool (by rw [HM.out]; rfl), HN.out.below⟩
              | true =>
                rw [Bool.true_and] at HM
                have HCFX := HCF1
                go_wp2_with (first
                  | (go_at_call 92; refine (HCO.out _ HN.out.below).mono ?_; rintro e w8 ⟨rfl, hb⟩; have HN := Lib.hid (HN.out.drop hb); clear hb f0 f1 f2 f3 f4 c0 c8 c9 c10 c11 c12 c13 c14 c15 c16 c17; obtain ⟨⟨f0, f1, f2, f3, f4⟩, c0, c8, c9, c10, c11, c12, c13, c14, c15, c16, c17⟩ := HN.out.cells)
                  | (go_at_call 93; refine (HCM.out _ HN.out.below).mono ?_; rintro e w8 ⟨rfl, hb⟩; have HN := Lib.hid (HN.out.drop hb); clear hb f0 f1 f2 f3 f4 c0 c8 c9 c10 c11 c12 c13 c14 c15 c16 c17; obtain ⟨⟨f0, f1, f2, f3, f4⟩, c0, c8, c9, c10, c11, c12, c13, c14, c15, c16, c17⟩ := HN.out.cells)
                  | (go_at_call 94; refine (HCFX.out _ HN.out.below).mono ?_; rintro e w8 ⟨rfl, hb⟩; clear HCFX; have HCFX := HCF2; have HN := Lib.hid (HN.out.drop hb); clear hb f0 f1 f2 f3 f4 c0 c8 c9 c10 c11 c12 c13 c14 c15 c16 c17; obtain ⟨⟨f0, f1, f2, f3, f4⟩, c0, c8, c9, c10, c11, c12, c13, c14, c15, c16, c17⟩ := HN.out.cells))
                go_ret
                exact ⟨ret_bool (by rw [HM.out]; rfl), HN.out.below⟩
          | false =>
            by_cases hE : 0 < a.en
            · rw [decide_eq_true hE] at HM
              have HCFX := HCF1
              go_wp2_with (first
                | (go_at_call 92; refine (HCO.out _ HN.out.below).mono ?_; rintro e w8 ⟨rfl, hb⟩; have HN := Lib.hid (HN.out.drop hb); clear hb f0 f1 f2 f3 f4 c0 c8 c9 c10 c11 c12 c13 c14 c15 c16 c17; obtain ⟨⟨f0, f1, f2, f3, f4⟩, c0, c8, c9, c10, c11, c12, c13, c14, c15, c16, c17⟩ := HN.out.cells)
                | (go_at_call 93; refine (HCM.out _ HN.out.below).mono ?_; rintro e w8 ⟨rfl, hb⟩; have HN := Lib.hid (HN.out.drop hb); clear hb f0 f1 f2 f3 f4 c0 c8 c9 c10 c11 c12 c13 c14 c15 c16 c17; obtain ⟨⟨f0, f1, f2, f3, f4⟩, c0, c8, c9, c10, c11, c12, c13, c14, c15, c16, c17⟩ := HN.out.cells)
                | (go_at_call 94; refine (HCFX.out _ HN.out.below).mono ?_; rintro e w8 ⟨rfl, hb⟩; clear HCFX; have HCFX := HCF2; have HN := Lib.hid (HN.out.drop hb); clear hb f0 f1 f2 f3 f4 c0 c8 c9 c10 c11 c12 c13 c14 c15 c16 c17; obtain ⟨⟨f0, f1, f2, f3, f4⟩, c0, c8, c9, c10, c11, c12, c13, c14, c15, c16, c17⟩ := HN.out.cells))
              go_ret
              exact ⟨ret_bool (by rw [HM.out]; rfl), HN.out.below⟩
            · rw [decide_eq_false hE] at HM
              cases F1 with
              | false =>
                have HCFX := HCF1
                go_wp2_with (first
                  | (go_at_call 92; refine (HCO.out _ HN.out.below).mono ?_; rintro e w8 ⟨rfl, hb⟩; have HN := Lib.hid (HN.out.drop hb); clear hb f0 f1 f2 f3 f4 c0 c8 c9 c10 c11 c12 c13 c14 c15 c16 c17; obtain ⟨⟨f0, f1, f2, f3, f4⟩, c0, c8, c9, c10, c11, c12, c13, c14, c15, c16, c17⟩ := HN.out.cells)
                  | (go_at_call 93; refine (HCM.out _ HN.out.below).mono ?_; rintro e w8 ⟨rfl, hb⟩; have HN := Lib.hid (HN.out.drop hb); clear hb f0 f1 f2 f3 f4 c0 c8 c9 c10 c11 c12 c13 c14 c15 c16 c17; obtain ⟨⟨f0, f1, f2, f3, f4⟩, c0, c8, c9, c10, c11, c12, c13, c14, c15, c16, c17⟩ := HN.out.cells)
                  | (go_at_call 94; refine (HCFX.out _ HN.out.below).mono ?_; rintro e w8 ⟨rfl, hb⟩; clear HCFX; have HCFX := HCF2; have HN := Lib.hid (HN.out.drop hb); clear hb f0 f1 f2 f3 f4 c0 c8 c9 c10 c11 c12 c13 c14 c15 c16 c17; obtain ⟨⟨f0, f1, f2, f3, f4⟩, c0, c8, c9, c10, c11, c12, c13, c14, c15, c16, c17⟩ := HN.out.cells))
                go_ret
                exact ⟨ret_bool (by rw [HM.out]; rfl), HN.out.below⟩
              | true =>
                rw [Bool.true_and] at HM
                have HCFX := HCF1
                go_wp2_with (first
                  | (go_at_call 92; refine (HCO.out _ HN.out.below).mono ?_; rintro e w8 ⟨rfl, hb⟩; have HN := Lib.hid (HN.out.drop hb); clear hb f0 f1 f2 f3 f4 c0 c8 c9 c10 c11 c12 c13 c14 c15 c16 c17; obtain ⟨⟨f0, f1, f2, f3, f4⟩, c0, c8, c9, c10, c11, c12, c13, c14, c15, c16, c17⟩ := HN.out.cells)
                  | (go_at_call 93; refine (HCM.out _ HN.out.below).mono ?_; rintro e w8 ⟨rfl, hb⟩; have HN := Lib.hid (HN.out.drop hb); clear hb f0 f1 f2 f3 f4 c0 c8 c9 c10 c11 c12 c13 c14 c15 c16 c17; obtain ⟨⟨f0, f1, f2, f3, f4⟩, c0, c8, c9, c10, c11, c12, c13, c14, c15, c16, c17⟩ := HN.out.cells)
                  | (go_at_call 94; refine (HCFX.out _ HN.out.below).mono ?_; rintro e w8 ⟨rfl, hb⟩; clear HCFX; have HCFX := HCF2; have HN := Lib.hid (HN.out.drop hb); clear hb f0 f1 f2 f3 f4 c0 c8 c9 c10 c11 c12 c13 c14 c15 c16 c17; obtain ⟨⟨f0, f1, f2, f3, f4⟩, c0, c8, c9, c10, c11, c12, c13, c14, c15, c16, c17⟩ := HN.out.cells))
                go_ret
                exact ⟨ret_bool (by rw [HM.out]; rfl), HN.out.below⟩
      | false =>
        cases I2 with
        | true =>
          cases M with
          | false =>
            have HCFX := HCF1
            go_wp2_with (first
              | (go_at_call 92; refine (HCO.out _ HN.out.below).mono ?_; rintro e w8 ⟨rfl, hb⟩; have HN := Lib.hid (HN.out.drop hb); clear hb f0 f1 f2 f3 f4 c0 c8 c9 c10 c11 c12 c13 c14 c15 c16 c17; obtain ⟨⟨f0, f1, f2, f3, f4⟩, c0, c8, c9, c10, c11, c12, c13, c14, c15, c16, c17⟩ := HN.out.cells)
              | (go_at_call 93; refine (HCM.out _ HN.out.below).mono ?_; rintro e w8 ⟨rfl, hb⟩; have HN := Lib.hid (HN.out.drop hb); clear hb f0 f1 f2 f3 f4 c0 c8 c9 c10 c11 c12 c13 c14 c15 c16 c17; obtain ⟨⟨f0, f1, f2, f3, f4⟩, c0, c8, c9, c10, c11, c12, c13, c14, c15, c16, c17⟩ := HN.out.cells)
              | (go_at_call 94; refine (HCFX.out _ HN.out.below).mono ?_; rintro e w8 ⟨rfl, hb⟩; clear HCFX; have HCFX := HCF2; have HN := Lib.hid (HN.out.drop hb); clear hb f0 f1 f2 f3 f4 c0 c8 c9 c10 c11 c12 c13 c14 c15 c16 c17; obtain ⟨⟨f0, f1, f2, f3, f4⟩, c0, c8, c9, c10, c11, c12, c13, c14, c15, c16, c17⟩ := HN.out.cells))
            go_ret
            exact ⟨ret_bool (by rw [HM.out]; rfl), HN.out.below⟩
          | true =>
            cases F1 with
            | false =>
              have HCFX := HCF1
              go_wp2_with (first
                | (go_at_call 92; refine (HCO.out _ HN.out.below).mono ?_; rintro e w8 ⟨rfl, hb⟩; have HN := Lib.hid (HN.out.drop hb); clear hb f0 f1 f2 f3 f4 c0 c8 c9 c10 c11 c12 c13 c14 c15 c16 c17; obtain ⟨⟨f0, f1, f2, f3, f4⟩, c0, c8, c9, c10, c11, c12, c13, c14, c15, c16, c17⟩ := HN.out.cells)
                | (go_at_call 93; refine (HCM.out _ HN.out.below).mono ?_; rintro e w8 ⟨rfl, hb⟩; have HN := Lib.hid (HN.out.drop hb); clear hb f0 f1 f2 f3 f4 c0 c8 c9 c10 c11 c12 c13 c14 c15 c16 c17; obtain ⟨⟨f0, f1, f2, f3, f4⟩, c0, c8, c9, c10, c11, c12, c13, c14, c15, c16, c17⟩ := HN.out.cells)
                | (go_at_call 94; refine (HCFX.out _ HN.out.below).mono ?_; rintro e w8 ⟨rfl, hb⟩; clear HCFX; have HCFX := HCF2; have HN := Lib.hid (HN.out.drop hb); clear hb f0 f1 f2 f3 f4 c0 c8 c9 c10 c11 c12 c13 c14 c15 c16 c17; obtain ⟨⟨f0, f1, f2, f3, f4⟩, c0, c8, c9, c10, c11, c12, c13, c14, c15, c16, c17⟩ := HN.out.cells))
              go_ret
              exact ⟨ret_bool (by rw [HM.out]; rfl), HN.out.below⟩
            | true =>
              rw [Bool.true_and] at HM
              have HCFX := HCF1
              go_wp2_with (first
                | (go_at_call 92; refine (HCO.out _ HN.out.below).mono ?_; rintro e w8 ⟨rfl, hb⟩; have HN := Lib.hid (HN.out.drop hb); clear hb f0 f1 f2 f3 f4 c0 c8 c9 c10 c11 c12 c13 c14 c15 c16 c17; obtain ⟨⟨f0, f1, f2, f3, f4⟩, c0, c8, c9, c10, c11, c12, c13, c14, c15, c16, c17⟩ := HN.out.cells)
                | (go_at_call 93; refine (HCM.out _ HN.out.below).mono ?_; rintro e w8 ⟨rfl, hb⟩; have HN := Lib.hid (HN.out.drop hb); clear hb f0 f1 f2 f3 f4 c0 c8 c9 c10 c11 c12 c13 c14 c15 c16 c17; obtain ⟨⟨f0, f1, f2, f3, f4⟩, c0, c8, c9, c10, c11, c12, c13, c14, c15, c16, c17⟩ := HN.out.cells)
                | (go_at_call 94; refine (HCFX.out _ HN.out.below).mono ?_; rintro e w8 ⟨rfl, hb⟩; clear HCFX; have HCFX := HCF2; have HN := Lib.hid (HN.out.drop hb); clear hb f0 f1 f2 f3 f4 c0 c8 c9 c10 c11 c12 c13 c14 c15 c16 c17; obtain ⟨⟨f0, f1, f2, f3, f4⟩, c0, c8, c9, c10, c11, c12, c13, c14, c15, c16, c17⟩ := HN.out.cells))
              go_ret
              exact ⟨ret_bool (by rw [HM.out]; rfl), HN.out.below⟩
        | false =>
          by_cases hE : 0 < a.en
          · rw [decide_eq_true hE] at HM
            have HCFX := HCF1
            go_wp2_with (first
              | (go_at_call 92; refine (HCO.out _ HN.out.below).mono ?_; rintro e w8 ⟨rfl, hb⟩; have HN := Lib.hid (HN.out.drop hb); clear hb f0 f1 f2 f3 f4 c0 c8 c9 c10 c11 c12 c13 c14 c15 c16 c17; obtain ⟨⟨f0, f1, f2, f3, f4⟩, c0, c8, c9, c10, c11, c12, c13, c14, c15, c16, c17⟩ := HN.out.cells)
              | (go_at_call 93; refine (HCM.out _ HN.out.below).mono ?_; rintro e w8 ⟨rfl, hb⟩; have HN := Lib.hid (HN.out.drop hb); clear hb f0 f1 f2 f3 f4 c0 c8 c9 c10 c11 c12 c13 c14 c15 c16 c17; obtain ⟨⟨f0, f1, f2, f3, f4⟩, c0, c8, c9, c10, c11, c12, c13, c14, c15, c16, c17⟩ := HN.out.cells)
              | (go_at_call 94; refine (HCFX.out _ HN.out.below).mono ?_; rintro e w8 ⟨rfl, hb⟩; clear HCFX; have HCFX := HCF2; have HN := Lib.hid (HN.out.drop hb); clear hb f0 f1 f2 f3 f4 c0 c8 c9 c10 c11 c12 c13 c14 c15 c16 c17; obtain ⟨⟨f0, f1, f2, f3, f4⟩, c0, c8, c9, c10, c11, c12, c13, c14, c15, c16, c17⟩ := HN.out.cells))
            go_ret
            exact ⟨ret_bool (by rw [HM.out]; rfl), HN.out.below⟩
          · rw [decide_eq_false hE] at HM
            cases F1 with
            | false =>
              have HCFX := HCF1
              go_wp2_with (first
                | (go_at_call 92; refine (HCO.out _ HN.out.below).mono ?_; rintro e w8 ⟨rfl, hb⟩; have HN := Lib.hid (HN.out.drop hb); clear hb f0 f1 f2 f3 f4 c0 c8 c9 c10 c11 c12 c13 c14 c15 c16 c17; obtain ⟨⟨f0, f1, f2, f3, f4⟩, c0, c8, c9, c10, c11, c12, c13, c14, c15, c16, c17⟩ := HN.out.cells)
                | (go_at_call 93; refine (HCM.out _ HN.out.below).mono ?_; rintro e w8 ⟨rfl, hb⟩; have HN := Lib.hid (HN.out.drop hb); clear hb f0 f1 f2 f3 f4 c0 c8 c9 c10 c11 c12 c13 c14 c15 c16 c17; obtain ⟨⟨f0, f1, f2, f3, f4⟩, c0, c8, c9, c10, c11, c12, c13, c14, c15, c16, c17⟩ := HN.out.cells)
                | (go_at_call 94; refine (HCFX.out _ HN.out.below).mono ?_; rintro e w8 ⟨rfl, hb⟩; clear HCFX; have HCFX := HCF2; have HN := Lib.hid (HN.out.drop hb); clear hb f0 f1 f2 f3 f4 c0 c8 c9 c10 c11 c12 c13 c14 c15 c16 c17; obtain ⟨⟨f0, f1, f2, f3, f4⟩, c0, c8, c9, c10, c11, c12, c13, c14, c15, c16, c17⟩ := HN.out.cells))
              go_ret
              exact ⟨ret_bool (by rw [HM.out]; rfl), HN.out.below⟩
            | true =>
              rw [Bool.true_and] at HM
              have HCFX := HCF1
              go_wp2_with (first
                | (go_at_call 92; refine (HCO.out _ HN.out.below).mono ?_; rintro e w8 ⟨rfl, hb⟩; have HN := Lib.hid (HN.out.drop hb); clear hb f0 f1 f2 f3 f4 c0 c8 c9 c10 c11 c12 c13 c14 c15 c16 c17; obtain ⟨⟨f0, f1, f2, f3, f4⟩, c0, c8, c9, c10, c11, c12, c13, c14, c15, c16, c17⟩ := HN.out.cells)
                | (go_at_call 93; refine (HCM.out _ HN.out.below).mono ?_; rintro e w8 ⟨rfl, hb⟩; have HN := Lib.hid (HN.out.drop hb); clear hb f0 f1 f2 f3 f4 c0 c8 c9 c10 c11 c12 c13 c14 c15 c16 c17; obtain ⟨⟨f0, f1, f2, f3, f4⟩, c0, c8, c9, c10, c11, c12, c13, c14, c15, c16, c17⟩ := HN.out.cells)
                | (go_at_call 94; refine (HCFX.out _ HN.out.below).mono ?_; rintro e w8 ⟨rfl, hb⟩; clear HCFX; have HCFX := HCF2; have HN := Lib.hid (HN.out.drop hb); clear hb f0 f1 f2 f3 f4 c0 c8 c9 c10 c11 c12 c13 c14 c15 c16 c17; obtain ⟨⟨f0, f1, f2, f3, f4⟩, c0, c8, c9, c10, c11, c12, c13, c14, c15, c16, c17⟩ := HN.out.cells))
              go_ret
              exact ⟨ret_bool (by rw [HM.out]; rfl), HN.out.below⟩
end Go.Proofs.YtkdjnegfnhldpaaGreatDoor
end
