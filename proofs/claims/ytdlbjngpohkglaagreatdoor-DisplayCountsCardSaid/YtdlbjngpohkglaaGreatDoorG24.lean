/- Part 24 of the texts: Gr. -/
import Derived.Test.YtdlbjngpohkglaaGreatDoorG23
import Derived.Deep.MidRow
section
set_option linter.unusedVariables false
set_option maxRecDepth 100000
set_option linter.unusedSimpArgs false
namespace Go.Proofs.YtdlbjngpohkglaaGreatDoor
open Go.RowKit

/-- a node that isn't too great -/
structure SmallN (a : AH) : Prop where
  name : a.name.size ≤ 100
  arg : a.arg.size ≤ 100
  exn : a.exn.size ≤ 100
  rhos : a.rn ≤ 50
  eff : greatB a.eff = false
  ty : SmallT a.ty.er 100
  res : SmallT a.res.er 100
def SmallNs (t : PA) : Prop := ∀ a ∈ Rose.nodes t, SmallN a
theorem SmallNs.node {a : AH} {l : List PA} (ha : SmallN a) (hl : ∀ t ∈ l, SmallNs t) : SmallNs (.node a l) := by
  intro x hx
  rw [Rose.nodes_node, List.mem_cons] at hx
  rcases hx with rfl | hx
  · exact ha
  · rw [List.mem_flatten] at hx
    obtain ⟨m, hm, hx⟩ := hx
    obtain ⟨t, ht, rfl⟩ := List.mem_map.1 hm
    exact hl t ht x hx
/-- what left answers -/
def LeftA (t : PA) (n r : Int) : Prop := -1 ≤ r ∧ r ≤ n ∧ (0 ≤ r → (t.size : Int) + r = n ∧ SmallNs t)
def LeftATo (l : List PA) (n r : Int) : Prop := -1 ≤ r ∧ r ≤ n ∧ (0 ≤ r → ((l.map Rose.size).sum : Int) + r = n ∧ ∀ t ∈ l, SmallNs t)
theorem LeftATo.step {l : List PA} {n r r' : Int} {t : PA} (h : LeftATo l n r) (h0 : 0 ≤ r) (h' : LeftA t r r') : LeftATo (l ++ [t]) n r' := by
  refine ⟨h'.1, by have := h.2.1; have := h'.2.1; omega, fun hr => ?_⟩
  obtain ⟨h1, h2⟩ := h.2.2 h0
  obtain ⟨h3, h4⟩ := h'.2.2 hr
  refine ⟨?_, fun x hx => ?_⟩
  · simp only [List.map_append, List.map_cons, List.map_nil, List.sum_append, List.sum_cons, List.sum_nil]
    omega
  · rcases List.mem_append.1 hx with hx | hx
    · exact h2 x hx
    · rw [List.mem_singleton] at hx; subst hx; exact h4
theorem ref_Great12_b {t : PT} {w : World} (hl : LR.lies w t) :
    Calls Tryz.prog 34 #[aggR t.head] w fun e w' => (∃ r, e = .returned (.bool r) ∧ (r = false → SmallT t.er 100)) ∧ Below w.heap.size w w' := ref_Great12_any hl
theorem ref_Great_b {a : AH} {w : World} {r : Bool} (h : greatB a.eff = r) (ho : IsRow encA 3 w a.ep a.en a.ec a.eff) :
    Calls Tryz.prog 33 #[.slice a.ep a.en a.ec] w fun e w' => e = .returned (.bool r) ∧ w = w' := by
  subst h; exact ref_Great_any _ _ _ _ w ho.len ho.max ho.row
def LeftAt (t : PA) (w : World) : Prop := ∀ n : Int, 0 ≤ n → n ≤ 1000000 → Calls Tryz.prog 21 #[aggT t.head, .int .i64 n] w fun e w' => (∃ r : Int, e = .returned (.int .i64 r) ∧ LeftA t n r) ∧ Below w.heap.size w w'
set_option maxHeartbeats 4000000 in
theorem ref13_left_of {a : AH} {l : List PA} {w : World} (hN : NodeA w a l) (hf : ∀ x ∈ l, ∀ W, Below w.heap.size w W → LeftAt x W) : LeftAt (.node a l) w := by
  intro n h0 hn
  have HN := Lib.hid hN
  have HF := Lib.hid hf
  have hkm := hN.own.kmax
  have hrm := hN.own.rhos.max
  have hnm := hN.own.name
  have ham := hN.own.arg
  have hem := hN.own.exn
  have HA := Lib.hid (boxA_new w a)
  have HBX := Lib.hid ((Below.refl w.heap.size w).alloc (Nat.le_refl _) (boxA a))
  show Calls _ _ #[aggT a, .int .i64 n] w _
  clear hN hf
  go_enter Tryz.func21, Tryz.ntmps21
  go_upto_region 2 with fail
  generalize w.alloc (.cells #[.int .u8 a.kind, .int .u8 a.op, .int .i64 a.at_, .int .i64 a.n, .string a.name, .string a.arg, .string a.exn, .int .i64 a.rho, .slice a.rp a.rn a.rc, .slice a.ep a.en a.ec, .int .u8 a.ty.head.kind, .int .i64 a.ty.head.rho, .slice a.ty.head.ep a.ty.head.en a.ty.head.ec, .slice a.ty.head.kp a.ty.head.kn a.ty.head.kc, .int .u8 a.res.head.kind, .int .i64 a.res.head.rho, .slice a.res.head.ep a.res.head.en a.res.head.ec, .slice a.res.head.kp a.res.head.kn a.res.head.kc, .slice a.kp a.kn a.kc] 31) = W0 at *
  go_cut [47] from 8 to 47 (fun s47 wx => ∃ b, s47 = .bool b ∧ (b = false → SmallN a) ∧ Below W0.heap.size W0 wx)
  case first =>
    obtain ⟨_, _, _, _, q4, q5, q6, q7, q8, q9, q10, q11, q12, q13, q14, q15, q16, q17, _⟩ := HA.out.all
    by_cases h1 : 100 < a.name.size
    · have e1 : decide ((100 : Int) < (a.name.size : Int)) = true := by simp; omega
      clear h1
      go_wp2_with fail
      go_meet
      case rel => exact ⟨true, rfl, (fun h => by cases h), Below.refl _ _⟩
    have e1 : decide ((100 : Int) < (a.name.size : Int)) = false := by simp; omega
    by_cases h2 : 100 < a.arg.size
    · have e2 : decide ((100 : Int) < (a.arg.size : Int)) = true := by simp; omega
      clear h1 h2
      go_wp2_with fail
      go_meet
      case rel => exact ⟨true, rfl, (fun h => by cases h), Below.refl _ _⟩
    have e2 : decide ((100 : Int) < (a.arg.size : Int)) = false := by simp; omega
    by_cases h3 : 100 < a.exn.size
    · have e3 : decide ((100 : Int) < (a.exn.size : Int)) = true := by simp; omega
      clear h1 h2 h3
      go_wp2_with fail
      go_meet
      case rel => exact ⟨true, rfl, (fun h => by cases h), Below.refl _ _⟩
    have e3 : decide ((100 : Int) < (a.exn.size : Int)) = false := by simp; omega
    by_cases h4 : 50 < a.rn
    · have e4 : decide ((50 : Int) < (a.rn : Int)) = true := by simp; omega
      clear h1 h2 h3 h4
      go_wp2_with fail
      go_meet
      case rel => exact ⟨true, rfl, (fun h => by cases h), Below.refl _ _⟩
    have e4 : decide ((50 : Int) < (a.rn : Int)) = false := by simp; omega
    have HSZ : Hid (a.name.size ≤ 100 ∧ a.arg.size ≤ 100 ∧ a.exn.size ≤ 100 ∧ a.rn ≤ 50) := by show _ ∧ _; omega
    have HEF := Lib.hid (HN.out.own.eff.below HBX.out)
    clear h1 h2 h3 h4
    cases hg : greatB a.eff
    · have HG := Lib.hid hg
      clear hg
      go_wp2_with fail
      refine (ref_Great_b HG.out HEF.out).mono ?_
      rintro e w1 ⟨rfl, rfl⟩
      go_wp2_with fail
      refine (ref_Great12_b (LR.lies_below HBX.out _ HN.out.own.ty)).mono ?_
      rintro e w2 ⟨⟨r, rfl, hr⟩, hb⟩
      have HR := Lib.hid hr
      have HB2 := Lib.hid hb
      have HA2 := Lib.hid (HA.out.below hb)
      clear hb hr q4 q5 q6 q7 q8 q9 q10 q11 q12 q13 q14 q15 q16 q17
      cases r
      · obtain ⟨_, _, _, _, q4, q5, q6, q7, q8, q9, q10, q11, q12, q13, q14, q15, q16, q17, _⟩ := HA2.out.all
        go_wp2_with fail
        refine (ref_Great12_b (LR.lies_below (HBX.out.trans (HB2.out.mono HBX.out.size)) _ HN.out.own.res)).mono ?_
        rintro e w3 ⟨⟨r', rfl, hr⟩, hb⟩
        have HR2 := Lib.hid hr
        have HB3 := Lib.hid (HB2.out.trans (hb.mono HB2.out.size))
        clear hb hr q4 q5 q6 q7 q8 q9 q10 q11 q12 q13 q14 q15 q16 q17
        go_wp2_with fail
        go_meet
        case rel => exact ⟨r', rfl, fun h => ⟨HSZ.out.1, HSZ.out.2.1, HSZ.out.2.2.1, HSZ.out.2.2.2, HG.out, HR.out (by first | rfl | trivial), HR2.out h⟩, HB3.out⟩
      · go_wp2_with fail
        go_meet
        case rel => exact ⟨true, rfl, (fun h => by cases h), HB2.out⟩
    · have HG := Lib.hid hg
      clear hg
      go_wp2_with fail
      refine (ref_Great_b HG.out HEF.out).mono ?_
      rintro e w1 ⟨rfl, rfl⟩
      go_wp2_with fail
      go_meet
      case rel => exact ⟨true, rfl, (fun h => by cases h), Below.refl _ _⟩
  case rest =>
    obtain ⟨b, rfl, hs, hb⟩ := hcut
    have HSM := Lib.hid hs
    have HB := Lib.hid (HBX.out.trans (hb.mono HBX.out.size))
    have HA1 := Lib.hid (HA.out.below hb)
    clear hb hs
    cases b
    · have hlt0 : w.heap.size < wc.heap.size := (Array.getElem?_eq_some_iff.1 HA1.out.blk).1
      have HNW := Lib.hid (HN.out.below HB.out)
      go_upto_region 4 with fail
      go_wp2_with fail
      go_loopw [1, 5] (fun u i wr => ∃ (k : Nat) (r : Int), k ≤ a.kn ∧ i = .int .i64 k ∧ u = .int .i64 r ∧ LeftATo (l.take k) (n - 1) r ∧ Below wc.heap.size wc wr) (fun _ i _ => a.kn - (intOf i).toNat)
      case atStart => exact ⟨0, n - 1, by omega, rfl, by go_num, ⟨by omega, by omega, fun _ => ⟨by simp, fun t ht => by simp at ht⟩⟩, Below.refl _ _⟩
      case round =>
        obtain ⟨k, r, hk, rfl, rfl, hto, hb⟩ := hrel
        have hr1 := hto.1
        have hr2 := hto.2.1
        have HTO := Lib.hid hto
        have HBR := Lib.hid hb
        clear hto hb
        have q18 : wr.cell? ⟨w.heap.size, 18, none⟩ = some (.slice a.kp a.kn a.kc) := (HA1.out.below HBR.out).c 18 _ rfl
        by_cases hlt : k < a.kn
        · by_cases hr0 : 0 ≤ r
          · obtain ⟨x, hx⟩ := (HNW.out.rowT).at (j := k) hlt
            have HE := Lib.hid hx
            obtain ⟨b, o, hbo, hbl, hcs⟩ := (HNW.out.rowT.below HBR.out).kid hx
            have HCS := Lib.hid hcs
            rw [hbo] at q18
            clear hx hbl hbo hcs
            go_wp2_with (refine wpList_load_mid rfl 31 _ rfl b (o + k * 19) rfl (encAH x.head) _ HCS.out.c Tryz.underlying31 rfl (by kernel_rfl) ?_)
            refine Calls.mono (HF.out x (List.mem_of_getElem? HE.out) wr (HB.out.trans (HBR.out.mono HB.out.size)) r hr0 (by omega)) ?_
            rintro e w2 ⟨⟨r', rfl, hok⟩, hb⟩
            have HOK := Lib.hid hok
            have HB2 := Lib.hid (HBR.out.trans (hb.mono HBR.out.size))
            clear hok hb q18
            go_wp2_with fail
            go_roundw
            case rel => exact ⟨k + 1, r', by omega, by go_num, rfl, by rw [take_succ_get HE.out]; exact HTO.out.step hr0 HOK.out, HB2.out⟩
            case measure => simp [intOf]; omega
          · have hd : decide (0 ≤ r) = false := by simpa using hr0
            go_wp2_with fail
            go_ret
            exact ⟨⟨r, rfl, by have := HTO.out; refine ⟨this.1, by omega, fun h => absurd h (by omega)⟩⟩, HB.out.trans (HBR.out.mono HB.out.size)⟩
        · have hkn : k = a.kn := by omega
          have h := HTO.out
          rw [take_full (by rw [HNW.out.kids.len]; omega)] at h
          have H := Lib.hid h
          clear hkn h
          go_wp2_with fail
          go_ret
          refine ⟨⟨r, rfl, H.out.1, by omega, fun h0 => ?_⟩, HB.out.trans (HBR.out.mono HB.out.size)⟩
          obtain ⟨h1, h2⟩ := H.out.2.2 h0
          refine ⟨by rw [Rose.size_node]; omega, SmallNs.node (HSM.out (by first | rfl | trivial)) h2⟩
    · go_wp2_with fail
      go_ret
      exact ⟨⟨-1, rfl, by omega, by omega, fun h => absurd h (by omega)⟩, HB.out⟩
theorem leftAt_any (t : PA) : ∀ w, LA.lies w t → LeftAt t w := by
  refine Rose.ind (P := fun (t : PA) => ∀ w, LA.lies w t → LeftAt t w) (fun a l ih => ?_) t
  intro w hl
  have HN := nodeA hl
  exact ref13_left_of HN (fun x hx W hW => ih x hx W (LA.lies_below hW x (HN.each x hx)))
/-- Great answers no only of small ones. -/
theorem ref13_Great_any {t : PA} {w : World} (hl : LA.lies w t) :
    Calls Tryz.prog 8 #[aggT t.head] w fun e w' => (∃ r, e = .returned (.bool r) ∧ (r = false → t.size ≤ 400 ∧ SmallNs t)) ∧ Below w.heap.size w w' := by
  have HBX := Lib.hid ((Below.refl w.heap.size w).alloc (Nat.le_refl _) (boxA t.head))
  have HL := Lib.hid (leftAt_any t _ (LA.lies_below ((Below.refl w.heap.size w).alloc (Nat.le_refl _) (boxA t.head)) t hl) 400 (by omega) (by omega))
  have HA := Lib.hid (boxA_new w t.head)
  obtain ⟨a, l⟩ := t
  show Calls _ _ #[aggT a] w _
  clear hl
  go_enter Tryz.func8, Tryz.ntmps8
  go_wp2_with (refine wpList_load_row rfl 31 _ rfl w.heap.size rfl 31 _ (0, 0) _ (HA.out.blk) Tryz.underlying31 rfl (by kernel_rfl) ?_)
  refine Calls.mono HL.out ?_
  rintro e w1 ⟨⟨r, rfl, hok⟩, hb⟩
  have HOK := Lib.hid hok
  have HB := Lib.hid (HBX.out.trans (hb.mono HBX.out.size))
  clear hok hb
  go_wp2_with fail
  go_ret
  refine ⟨⟨_, rfl, fun h => ?_⟩, HB.out⟩
  have h0 : 0 ≤ r := by simpa using h
  obtain ⟨h1, h2⟩ := HOK.out.2.2 h0
  exact ⟨by omega, h2⟩
end Go.Proofs.YtdlbjngpohkglaaGreatDoor
end
