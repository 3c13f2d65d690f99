/- Part 21 of the texts: Gr, Ws. -/
import Derived.Test.YtdlbjngpohkglaaGreatDoorG20
import Derived.Deep.MidRow
import Derived.Test.YtdlbjngpohkglaaGreatDoorG17
import Derived.Test.YtdlbjngpohkglaaGreatDoorG13
section
set_option linter.unusedVariables false
set_option maxRecDepth 100000
set_option linter.unusedSimpArgs false
namespace Go.Proofs.YtdlbjngpohkglaaGreatDoor
open Go.RowKit

/-- a node that isn't too great -/
structure SmallN (a : AH) : Prop where
  name : a.name.size ≤ 100
  arg : a.arg.size ≤ 100
  exn : a.exn.size ≤ 100
  rhos : a.rn ≤ 50
  eff : greatB a.eff = false
  ty : SmallT a.ty.er 100
  res : SmallT a.res.er 100
def SmallNs (t : PA) : Prop := ∀ a ∈ Rose.nodes t, SmallN a
theorem SmallNs.node {a : AH} {l : List PA} (ha : SmallN a) (hl : ∀ t ∈ l, SmallNs t) : SmallNs (.node a l) := by
  intro x hx
  rw [Rose.nodes_node, List.mem_cons] at hx
  rcases hx with rfl | hx
  · exact ha
  · rw [List.mem_flatten] at hx
    obtain ⟨m, hm, hx⟩ := hx
    obtain ⟨t, ht, rfl⟩ := List.mem_map.1 hm
    exact hl t ht x hx
/-- what left answers -/
def LeftA (t : PA) (n r : Int) : Prop := -1 ≤ r ∧ r ≤ n ∧ (0 ≤ r → (t.size : Int) + r = n ∧ SmallNs t)
def LeftATo (l : List PA) (n r : Int) : Prop := -1 ≤ r ∧ r ≤ n ∧ (0 ≤ r → ((l.map Rose.size).sum : Int) + r = n ∧ ∀ t ∈ l, SmallNs t)
theorem LeftATo.step {l : List PA} {n r r' : Int} {t : PA} (h : LeftATo l n r) (h0 : 0 ≤ r) (h' : LeftA t r r') : LeftATo (l ++ [t]) n r' := by
  refine ⟨h'.1, by have := h.2.1; have := h'.2.1; omega, fun hr => ?_⟩
  obtain ⟨h1, h2⟩ := h.2.2 h0
  obtain ⟨h3, h4⟩ := h'.2.2 hr
  refine ⟨?_, fun x hx => ?_⟩
  · simp only [List.map_append, List.map_cons, List.map_nil, List.sum_append, List.sum_cons, List.sum_nil]
    omega
  · rcases List.mem_append.1 hx with hx | hx
    · exact h2 x hx
    · rw [List.mem_singleton] at hx; subst hx; exact h4
theorem ref_Great12_b {t : PT} {w : World} (hl : LR.lies w t) :
    Calls Tryz.prog 34 #[aggR t.head] w fun e w' => (∃ r, e = .returned (.bool r) ∧ (r = false → SmallT t.er 100)) ∧ Below w.heap.size w w' := ref_Great12_any hl
theorem ref_Great_b {a : AH} {w : World} {r : Bool} (h : greatB a.eff = r) (ho : IsRow encA 3 w a.ep a.en a.ec a.eff) :
    Calls Tryz.prog 33 #[.slice a.ep a.en a.ec] w fun e w' => e = .returned (.bool r) ∧ w = w' := by
  subst h; exact ref_Great_any _ _ _ _ w ho.len ho.max ho.row
def LeftAt (t : PA) (w : World) : Prop := ∀ n : Int, 0 ≤ n → n ≤ 1000000 → Calls Tryz.prog 21 #[aggT t.head, .int .i64 n] w fun e w' => (∃ r : Int, e = .returned (.int .i64 r) ∧ LeftA t n r) ∧ Below w.heap.size w w'
set_option maxHeartbeats 4000000 in
theorem ref13_left_of {a : AH} {l : List PA} {w : World} (hN : NodeA w a l) (hf : ∀ x ∈ l, ∀ W, Below w.heap.size w W → LeftAt x W) : LeftAt (.node a l) w := by
  intro n h0 hn
  have HN := Lib.hid hN
  have HF := Lib.hid hf
  have hkm := hN.own.kmax
  have hrm := hN.own.rhos.max
  have hnm := hN.own.name
  have ham := hN.own.arg
  have hem := hN.own.exn
  have HA := Lib.hid (boxA_new w a)
  have HBX := Lib.hid ((Below.refl w.heap.size w).alloc (Nat.le_refl _) (boxA a))
  show Calls _ _ #[aggT a, .int .i64 n] w _
  clear hN hf
  go_enter Tryz.func21, Tryz.ntmps21
  go_upto_region 2 with fail
  generalize w.alloc (.cells #[.int .u8 a.kind, .int .u8 a.op, .int .i64 a.at_, .int .i64 a.n, .string a.name, .string a.arg, .string a.exn, .int .i64 a.rho, .slice a.rp a.rn a.rc, .slice a.ep a.en a.ec, .int .u8 a.ty.head.kind, .int .i64 a.ty.head.rho, .slice a.ty.head.ep a.ty.head.en a.ty.head.ec, .slice a.ty.head.kp a.ty.head.kn a.ty.head.kc, .int .u8 a.res.head.kind, .int .i64 a.res.head.rho, .slice a.res.head.ep a.res.head.en a.res.head.ec, .slice a.res.head.kp a.res.head.kn a.res.head.kc, .slice a.kp a.kn a.kc] 31) = W0 at *
  go_cut [47] from 8 to 47 (fun s47 wx => ∃ b, s47 = .bool b ∧ (b = false → SmallN a) ∧ Below W0.heap.size W0 wx)
  case first =>
    obtain ⟨_, _, _, _, q4, q5, q6, q7, q8, q9, q10, q11, q12, q13, q14, q15, q16, q17, _⟩ := HA.out.all
    by_cases h1 : 100 < a.name.size
    · have e1 : decide ((100 : Int) < (a.name.size : Int)) = true := by simp; omega
      clear h1
      go_wp2_with fail
      go_meet
      case rel => exact ⟨true, rfl, (fun h => by cases h), Below.refl _ _⟩
    have e1 : decide ((100 : Int) < (a.name.size : Int)) = false := by simp; omega
    by_cases h2 : 100 < a.arg.size
    · have e2 : decide ((100 : Int) < (a.arg.size : Int)) = true := by simp; omega
      clear h1 h2
      go_wp2_with fail
      go_meet
      case rel => exact ⟨true, rfl, (fun h => by cases h), Below.refl _ _⟩
    have e2 : decide ((100 : Int) < (a.arg.size : Int)) = false := by simp; omega
    by_cases h3 : 100 < a.exn.size
    · have e3 : decide ((100 : Int) < (a.exn.size : Int)) = true := by simp; omega
      clear h1 h2 h3
      go_wp2_with fail
      go_meet
      case rel => exact ⟨true, rfl, (fun h => by cases h), Below.refl _ _⟩
    have e3 : decide ((100 : Int) < (a.exn.size : Int)) = false := by simp; omega
    by_cases h4 : 50 < a.rn
    · have e4 : decide ((50 : Int) < (a.rn : Int)) = true := by simp; omega
      clear h1 h2 h3 h4
      go_wp2_with fail
      go_meet
      case rel => exact ⟨true, rfl, (fun h => by cases h), Below.refl _ _⟩
    have e4 : decide ((50 : Int) < (a.rn : Int)) = false := by simp; omega
    have HSZ : Hid (a.name.size ≤ 100 ∧ a.arg.size ≤ 100 ∧ a.exn.size ≤ 100 ∧ a.rn ≤ 50) := by show _ ∧ _; omega
    have HEF := Lib.hid (HN.out.own.eff.below HBX.out)
    clear h1 h2 h3 h4
    cases hg : greatB a.eff
    · have HG := Lib.hid hg
      clear hg
      go_wp2_with fail
      refine (ref_Great_b HG.out HEF.out).mono ?_
      rintro e w1 ⟨rfl, rfl⟩
      go_wp2_with fail
      refine (ref_Great12_b (LR.lies_below HBX.out _ HN.out.own.ty)).mono ?_
      rintro e w2 ⟨⟨r, rfl, hr⟩, hb⟩
      have HR := Lib.hid hr
      have HB2 := Lib.hid hb
      have HA2 := Lib.hid (HA.out.below hb)
      clear hb hr q4 q5 q6 q7 q8 q9 q10 q11 q12 q13 q14 q15 q16 q17
      cases r
      · obtain ⟨_, _, _, _, q4, q5, q6, q7, q8, q9, q10, q11, q12, q13, q14, q15, q16, q17, _⟩ := HA2.out.all
        go_wp2_with fail
        refine (ref_Great12_b (LR.lies_below (HBX.out.trans (HB2.out.mono HBX.out.size)) _ HN.out.own.res)).mono ?_
        rintro e w3 ⟨⟨r', rfl, hr⟩, hb⟩
        have HR2 := Lib.hid hr
        have HB3 := Lib.hid (HB2.out.trans (hb.mono HB2.out.size))
        clear hb hr q4 q5 q6 q7 q8 q9 q10 q11 q12 q13 q14 q15 q16 q17
        go_wp2_with fail
        go_meet
        case rel => exact ⟨r', rfl, fun h => ⟨HSZ.out.1, HSZ.out.2.1, HSZ.out.2.2.1, HSZ.out.2.2.2, HG.out, HR.out (by first | rfl | trivial), HR2.out h⟩, HB3.out⟩
      · go_wp2_with fail
        go_meet
        case rel => exact ⟨true, rfl, (fun h => by cases h), HB2.out⟩
    · have HG := Lib.hid hg
      clear hg
      go_wp2_with fail
      refine (ref_Great_b HG.out HEF.out).mono ?_
      rintro e w1 ⟨rfl, rfl⟩
      go_wp2_with fail
      go_meet
      case rel => exact ⟨true, rfl, (fun h => by cases h), Below.refl _ _⟩
  case rest =>
    obtain ⟨b, rfl, hs, hb⟩ := hcut
    have HSM := Lib.hid hs
    have HB := Lib.hid (HBX.out.trans (hb.mono HBX.out.size))
    have HA1 := Lib.hid (HA.out.below hb)
    clear hb hs
    cases b
    · have hlt0 : w.heap.size < wc.heap.size := (Array.getElem?_eq_some_iff.1 HA1.out.blk).1
      have HNW := Lib.hid (HN.out.below HB.out)
      go_upto_region 4 with fail
      go_wp2_with fail
      go_loopw [1, 5] (fun u i wr => ∃ (k : Nat) (r : Int), k ≤ a.kn ∧ i = .int .i64 k ∧ u = .int .i64 r ∧ LeftATo (l.take k) (n - 1) r ∧ Below wc.heap.size wc wr) (fun _ i _ => a.kn - (intOf i).toNat)
      case atStart => exact ⟨0, n - 1, by omega, rfl, by go_num, ⟨by omega, by omega, fun _ => ⟨by simp, fun t ht => by simp at ht⟩⟩, Below.refl _ _⟩
      case round =>
        obtain ⟨k, r, hk, rfl, rfl, hto, hb⟩ := hrel
        have hr1 := hto.1
        have hr2 := hto.2.1
        have HTO := Lib.hid hto
        have HBR := Lib.hid hb
        clear hto hb
        have q18 : wr.cell? ⟨w.heap.size, 18, none⟩ = some (.slice a.kp a.kn a.kc) := (HA1.out.below HBR.out).c 18 _ rfl
        by_cases hlt : k < a.kn
        · by_cases hr0 : 0 ≤ r
          · obtain ⟨x, hx⟩ := (HNW.out.rowT).at (j := k) hlt
            have HE := Lib.hid hx
            obtain ⟨b, o, hbo, hbl, hcs⟩ := (HNW.out.rowT.below HBR.out).kid hx
            have HCS := Lib.hid hcs
            rw [hbo] at q18
            clear hx hbl hbo hcs
            go_wp2_with (refine wpList_load_mid rfl 31 _ rfl b (o + k * 19) rfl (encAH x.head) _ HCS.out.c Tryz.underlying31 rfl (by kernel_rfl) ?_)
            refine Calls.mono (HF.out x (List.mem_of_getElem? HE.out) wr (HB.out.trans (HBR.out.mono HB.out.size)) r hr0 (by omega)) ?_
            rintro e w2 ⟨⟨r', rfl, hok⟩, hb⟩
            have HOK := Lib.hid hok
            have HB2 := Lib.hid (HBR.out.trans (hb.mono HBR.out.size))
            clear hok hb q18
            go_wp2_with fail
            go_roundw
            case rel => exact ⟨k + 1, r', by omega, by go_num, rfl, by rw [take_succ_get HE.out]; exact HTO.out.step hr0 HOK.out, HB2.out⟩
            case measure => simp [intOf]; omega
          · have hd : decide (0 ≤ r) = false := by simpa using hr0
            go_wp2_with fail
            go_ret
            exact ⟨⟨r, rfl, by have := HTO.out; refine ⟨this.1, by omega, fun h => absurd h (by omega)⟩⟩, HB.out.trans (HBR.out.mono HB.out.size)⟩
        · have hkn : k = a.kn := by omega
          have h := HTO.out
          rw [take_full (by rw [HNW.out.kids.len]; omega)] at h
          have H := Lib.hid h
          clear hkn h
          go_wp2_with fail
          go_ret
          refine ⟨⟨r, rfl, H.out.1, by omega, fun h0 => ?_⟩, HB.out.trans (HBR.out.mono HB.out.size)⟩
          obtain ⟨h1, h2⟩ := H.out.2.2 h0
          refine ⟨by rw [Rose.size_node]; omega, SmallNs.node (HSM.out (by first | rfl | trivial)) h2⟩
    · go_wp2_with fail
      go_ret
      exact ⟨⟨-1, rfl, by omega, by omega, fun h => absurd h (by omega)⟩, HB.out⟩
theorem leftAt_any (t : PA) : ∀ w, LA.lies w t → LeftAt t w := by
  refine Rose.ind (P := fun (t : PA) => ∀ w, LA.lies w t → LeftAt t w) (fun a l ih => ?_) t
  intro w hl
  have HN := nodeA hl
  exact ref13_left_of HN (fun x hx W hW => ih x hx W (LA.lies_below hW x (HN.each x hx)))
/-- Great answers no only of small ones. -/
theorem ref13_Great_any {t : PA} {w : World} (hl : LA.lies w t) :
    Calls Tryz.prog 8 #[aggT t.head] w fun e w' => (∃ r, e = .returned (.bool r) ∧ (r = false → t.size ≤ 400 ∧ SmallNs t)) ∧ Below w.heap.size w w' := by
  have HBX := Lib.hid ((Below.refl w.heap.size w).alloc (Nat.le_refl _) (boxA t.head))
  have HL := Lib.hid (leftAt_any t _ (LA.lies_below ((Below.refl w.heap.size w).alloc (Nat.le_refl _) (boxA t.head)) t hl) 400 (by omega) (by omega))
  have HA := Lib.hid (boxA_new w t.head)
  obtain ⟨a, l⟩ := t
  show Calls _ _ #[aggT a] w _
  clear hl
  go_enter Tryz.func8, Tryz.ntmps8
  go_wp2_with (refine wpList_load_row rfl 31 _ rfl w.heap.size rfl 31 _ (0, 0) _ (HA.out.blk) Tryz.underlying31 rfl (by kernel_rfl) ?_)
  refine Calls.mono HL.out ?_
  rintro e w1 ⟨⟨r, rfl, hok⟩, hb⟩
  have HOK := Lib.hid hok
  have HB := Lib.hid (HBX.out.trans (hb.mono HBX.out.size))
  clear hok hb
  go_wp2_with fail
  go_ret
  refine ⟨⟨_, rfl, fun h => ?_⟩, HB.out⟩
  have h0 : 0 ≤ r := by simpa using h
  obtain ⟨h1, h2⟩ := HOK.out.2.2 h0
  exact ⟨by omega, h2⟩
end Go.Proofs.YtdlbjngpohkglaaGreatDoor
end
section
set_option linter.unusedVariables false
set_option maxRecDepth 100000
set_option linter.unusedSimpArgs false
namespace Go.Proofs.YtdlbjngpohkglaaGreatDoor
open Go.RowKit

/-- where a writer's method is called -/
structure DEnv (w0 : World) (g : Nat) : Prop where
  hg : w0.heap.size ≤ g
  vr : Vr w0
  tab : Tab w0
theorem DEnv.pos {w0 : World} {g : Nat} (h : DEnv w0 g) : 0 < g := by
  obtain ⟨m, hm⟩ := h.vr
  have := cell_block hm
  have := h.hg
  simp at *
  omega
/-- a call that puts words -/
def PutsTo (g : Nat) (f : FuncId) (args : Array Value) (ws : List ByteArray) (L : List ByteArray) (W0 : World) (v : Value) (W : World) : Prop :=
  Calls Tryz.prog f args W fun e w' => e = .returned (.tuple #[]) ∧ ∃ v', WrS g (L ++ ws) w' v' ∧ Wrote g v v' W0 w'
def PutsAt (w0 : World) (g : Nat) (f : FuncId) (args : Array Value) (ws : List ByteArray) : Prop :=
  ∀ W v L, Below w0.heap.size w0 W → WrS g L W v → L.length + ws.length ≤ 1000000000000 → PutsTo g f args ws L W v W
/-- put at a row of its own -/
theorem put_new {w0 : World} {g : Nat} (hE : DEnv w0 g) {W : World} {v : Value} {L : List ByteArray} (hb : Below w0.heap.size w0 W) (hw : WrS g L W v) (ps : List ByteArray) (n : Nat) (hn : ps.length = n) (hm : n ≤ 1000) (cs : Array Value) (hcs : cs.toList = ps.flatMap encS) (e : TypeId) (gs : Nat) (hgs : W.heap.size = gs)
    (hsz : ∀ s ∈ ps, s.size < 4294967281) (hM : L.length + (wordsP ps).length ≤ 1000000000000) :
    PutsTo g 57 #[.pointer (some ⟨g, 0, none⟩), .slice (some ⟨gs, 0, none⟩) n n] (wordsP ps) L W v (W.alloc (.cells cs e)) := by
  subst hgs
  have hlt := hw.lt
  have hbl : Below W.heap.size W (W.alloc (.cells cs e)) := (Below.refl _ _).alloc (Nat.le_refl _) _
  refine (put_any (hw.below hbl) hE.pos (hE.vr.below (hb.trans (hbl.mono hb.size))) (b := W.heap.size) (by simp) (by omega) (fun h => by have := (hw.from _ h).2; omega) ps n n hn (by omega) (RowE.newAt encS_len W ps cs hcs _ _ _ rfl) hsz hM).mono ?_
  rintro e' w' ⟨rfl, v', h1, h2⟩
  exact ⟨rfl, v', h1, (Wrote.of_below hbl).trans h2⟩
/-- what a method with a boxed term holds -/
structure DSt (w0 W1 : World) (v1 : Value) (g : Nat) (a : AH) (L : List ByteArray) (W : World) (v : Value) : Prop where
  wr : WrS g L W v
  below : Below w0.heap.size w0 W
  box : BoxA W W1.heap.size a
  own : v.ownBlock ≠ some W1.heap.size
  wrote : Wrote g v1 v W1 W
theorem DSt.init {w0 W1 : World} {v1 : Value} {g : Nat} {L : List ByteArray} (hb : Below w0.heap.size w0 W1) (hw : WrS g L W1 v1) (a : AH) : DSt w0 W1 v1 g a L (W1.alloc (boxA a)) v1 :=
  ⟨hw.below ((Below.refl _ _).alloc (Nat.le_refl _) _), hb.alloc hb.size _, boxA_new _ _, fun h => by have := (hw.from _ h).2; omega, Wrote.of_below ((Below.refl _ _).alloc (Nat.le_refl _) _)⟩
theorem DSt.step {w0 W1 W W' : World} {v1 v v' : Value} {g : Nat} {a : AH} {L L' : List ByteArray} (h : DSt w0 W1 v1 g a L W v) (hg : w0.heap.size ≤ g) (hg1 : g < W1.heap.size) (hw : WrS g L' W' v') (ht : Wrote g v v' W W') : DSt w0 W1 v1 g a L' W' v' := by
  have hlt := (Array.getElem?_eq_some_iff.1 h.box.blk).1
  refine ⟨hw, ht.under h.below hg (fun b hb => (h.wr.from b hb).1), ⟨?_⟩, ht.own _ hlt h.own, h.wrote.trans ht⟩
  rw [ht.block _ hlt (by omega) h.own]
  exact h.box.blk
theorem DSt.below' {w0 W1 W W' : World} {v1 v : Value} {g : Nat} {a : AH} {L : List ByteArray} (h : DSt w0 W1 v1 g a L W v) (hb : Below W.heap.size W W') : DSt w0 W1 v1 g a L W' v :=
  ⟨h.wr.below hb, h.below.trans (hb.mono h.below.size), h.box.below hb, h.own, h.wrote.trans (Wrote.of_below hb)⟩
set_option maxHeartbeats 1000000 in
theorem num_any {w0 : World} {g : Nat} (hE : DEnv w0 g) {r : Int} (hr : inI r) : PutsAt w0 g 96 #[.pointer (some ⟨g, 0, none⟩), .int .i64 r] (wordsP [decB r]) := by
  intro W v L hb hw hM
  have HE := Lib.hid hE
  have HB := Lib.hid hb
  have HW := Lib.hid hw
  have HM := Lib.hid hM
  have HD := Lib.hid (digits_any r hr.1 hr.2 W (hE.tab.below hb))
  have hds : (decB r).size ≤ 21 := decB_size r hr.1 hr.2
  have HDS := Lib.hid hds
  clear hE hb hw hM hr hds
  show Calls _ _ _ _ _
  go_enter Tryz.func96, Tryz.ntmps96
  go_wp2_with (first
    | (go_at_call 58; refine HD.out.mono ?_; rintro e w2 ⟨rfl, hb2⟩; have HB2 := Lib.hid hb2; clear hb2)
    | (go_at_call 57; refine (put_new HE.out (HB.out.trans (HB2.out.mono HB.out.size)) (HW.out.below HB2.out) [decB r] 1 rfl (by omega) _ (by simp [encS]) _ _ (by simp) (by intro s hs; rw [List.mem_singleton.1 hs]; have := HDS.out; omega) HM.out).mono ?_; rintro e w3 ⟨rfl, v3, hw3, ht3⟩; have HW3 := Lib.hid hw3; have HT3 := Lib.hid ((Wrote.of_below HB2.out).trans ht3); clear hw3 ht3))
  go_end0
  exact ⟨rfl, _, HW3.out, HT3.out⟩
/-- the texts of a row of cells -/
def strOf : Value → ByteArray
  | .string s => s
  | _ => ⟨#[]⟩
def strsOf (cs : Array Value) : List ByteArray := cs.toList.map strOf
/-- put at a row of its own, whatever it holds -/
theorem put_cs {w0 : World} {g : Nat} (hE : DEnv w0 g) {W : World} {v : Value} {L : List ByteArray} (hb : Below w0.heap.size w0 W) (hw : WrS g L W v) (n : Nat) (hm : n ≤ 1000) (cs : Array Value) (hcs : cs.toList = (strsOf cs).flatMap encS) (hn : cs.size = n) (e : TypeId) (gs : Nat) (hgs : W.heap.size = gs)
    (hsz : ∀ s ∈ strsOf cs, s.size < 4294967281) (hM : L.length + (wordsP (strsOf cs)).length ≤ 1000000000000) :
    PutsTo g 57 #[.pointer (some ⟨g, 0, none⟩), .slice (some ⟨gs, 0, none⟩) n n] (wordsP (strsOf cs)) L W v (W.alloc (.cells cs e)) :=
  put_new hE hb hw (strsOf cs) n (by simp [strsOf, hn]) hm cs hcs e gs hgs hsz hM
set_option maxHeartbeats 2000000 in
theorem at_any {w0 : World} {g : Nat} (hE : DEnv w0 g) (a : AH) (hr : inI a.rho) : PutsAt w0 g 78 #[.pointer (some ⟨g, 0, none⟩), aggT a] (wordsP [⟨#[64]⟩] ++ wordsP [decB a.rho]) := by
  have HN := Lib.hid (num_any hE hr)
  clear hr
  intro W v L hb hw hM
  have HE := Lib.hid hE
  have HG := Lib.hid hE.hg
  have HG1 := Lib.hid hw.lt
  have HM := Lib.hid hM
  have HD := Lib.hid (DSt.init hb hw a)
  clear hE hb hw hM
  show Calls _ _ _ _ _
  go_enter Tryz.func78, Tryz.ntmps78
  go_upto_region 1 with fail
  generalize hW0 : W.alloc (boxA a) = W0 at *
  clear hW0
  go_wp2_with (first
    | (go_at_call 57; refine (put_cs HE.out HD.out.below HD.out.wr 1 (by omega) _ (by simp [strsOf, strOf, encS]) rfl _ _ (by simp) (by simp [strsOf, strOf]; try decide) (by have := HM.out; simp only [strsOf, strOf, List.map_cons, List.map_nil, List.length_append] at this ⊢; omega)).mono ?_; rintro e w8 ⟨rfl, v8, hw8, ht8⟩; have HD := Lib.hid (HD.out.step HG.out HG1.out hw8 ht8); clear hw8 ht8; have c7 := HD.out.box.c 7 _ rfl)
    | (go_at_call 96; refine (HN.out _ _ _ HD.out.below HD.out.wr (by have := HM.out; simp only [strsOf, strOf, List.map_cons, List.map_nil, List.length_append] at this ⊢; omega)).mono ?_; rintro e w8 ⟨rfl, v8, hw8, ht8⟩; have HD := Lib.hid (HD.out.step HG.out HG1.out hw8 ht8); clear hw8 ht8))
  go_end0
  exact ⟨rfl, _, by rw [← List.append_assoc]; exact HD.out.wr, HD.out.wrote⟩
/-- what effect.Text answers -/
def EffTx (w0 : World) (a : AH) (T : ByteArray) : Prop := ∀ W, Below w0.heap.size w0 W → Calls Tryz.prog 124 #[.slice a.ep a.en a.ec] W fun e w' => e = .returned (.string T) ∧ Below W.heap.size W w'
set_option maxHeartbeats 2000000 in
theorem eff_any {w0 : World} {g : Nat} (hE : DEnv w0 g) (a : AH) {T : ByteArray} (hT : EffTx w0 a T) (hs : T.size < 4294967281) : PutsAt w0 g 98 #[.pointer (some ⟨g, 0, none⟩), aggT a] (wordsP [⟨#[33]⟩, T]) := by
  have HT := Lib.hid hT
  have HSZ := Lib.hid hs
  clear hT hs
  intro W v L hb hw hM
  have HE := Lib.hid hE
  have HG := Lib.hid hE.hg
  have HG1 := Lib.hid hw.lt
  have HM := Lib.hid hM
  have HD := Lib.hid (DSt.init hb hw a)
  clear hE hb hw hM
  show Calls _ _ _ _ _
  go_enter Tryz.func98, Tryz.ntmps98
  go_upto_region 1 with fail
  generalize hW0 : W.alloc (boxA a) = W0 at *
  clear hW0
  have c9 := HD.out.box.c 9 _ rfl
  go_wp2_with (first
    | (go_at_call 124; refine (HT.out _ HD.out.below).mono ?_; rintro e w2 ⟨rfl, hb⟩; have HD := Lib.hid (HD.out.below' hb); clear hb)
    | (go_at_call 57; refine (put_cs HE.out HD.out.below HD.out.wr 2 (by omega) _ (by simp [strsOf, strOf, encS]) rfl _ _ (by simp) (by intro s hs; rcases List.mem_cons.1 hs with rfl | hs; exact (by decide); rcases List.mem_cons.1 hs with rfl | hs; exact HSZ.out; cases hs) (by have := HM.out; simp only [strsOf, strOf, List.map_cons, List.map_nil, List.length_append] at this ⊢; omega)).mono ?_; rintro e w8 ⟨rfl, v8, hw8, ht8⟩; have HD := Lib.hid (HD.out.step HG.out HG1.out hw8 ht8); clear hw8 ht8))
  go_end0
  exact ⟨rfl, _, HD.out.wr, HD.out.wrote⟩
/-- what rtype.Text answers of a type that may be -/
def TyTx (w0 : World) (t : PT) (T : ByteArray) : Prop := ∀ W, Below w0.heap.size w0 W → Calls Tryz.prog 123 #[aggR t.head] W fun e w' => e = .returned (.tuple #[.string T, .int .i64 0]) ∧ Below W.heap.size W w'
set_option maxHeartbeats 2000000 in
theorem typed_any {w0 : World} {g : Nat} (hE : DEnv w0 g) (t : PT) (sg : ByteArray) {T : ByteArray} (hT : TyTx w0 t T) (hs : T.size < 4294967281) (hs2 : sg.size ≤ 10) : PutsAt w0 g 97 #[.pointer (some ⟨g, 0, none⟩), .string sg, aggR t.head] (wordsP [sg, T]) := by
  intro W v L hb hw hM
  have HE := Lib.hid hE
  have HM := Lib.hid hM
  have HSZ := Lib.hid hs
  have HSZ2 := Lib.hid hs2
  have HBX : Hid (Below W.heap.size W (W.alloc (.cells #[.int .u8 t.head.kind, .int .i64 t.head.rho, .slice t.head.ep t.head.en t.head.ec, .slice t.head.kp t.head.kn t.head.kc] 28))) := (Below.refl _ _).alloc (Nat.le_refl _) _
  have HT := Lib.hid (hT _ (hb.trans (HBX.out.mono hb.size)))
  have HB := Lib.hid hb
  have HW := Lib.hid hw
  clear hE hb hw hM hT hs hs2
  show Calls _ _ _ _ _
  go_enter Tryz.func97, Tryz.ntmps97
  go_wp2_with (first
    | (go_at_call 123; refine HT.out.mono ?_; rintro e w2 ⟨rfl, hb⟩; have HB2 := Lib.hid (HBX.out.trans (hb.mono HBX.out.size)); clear hb)
    | (go_at_call 57; refine (put_cs HE.out (HB.out.trans (HB2.out.mono HB.out.size)) (HW.out.below HB2.out) 2 (by omega) _ (by simp [strsOf, strOf, encS]) rfl _ _ (by simp) (by intro s hs; rcases List.mem_cons.1 hs with rfl | hs; exact Nat.lt_of_le_of_lt HSZ2.out (by decide); rcases List.mem_cons.1 hs with rfl | hs; exact HSZ.out; cases hs) (by exact HM.out)).mono ?_; rintro e w8 ⟨rfl, v8, hw8, ht8⟩; have HW8 := Lib.hid hw8; have HT8 := Lib.hid ((Wrote.of_below HB2.out).trans ht8); clear hw8 ht8))
  go_end0
  exact ⟨rfl, _, HW8.out, HT8.out⟩
set_option maxHeartbeats 2000000 in
theorem rhos_any {w0 : World} {g : Nat} (hE : DEnv w0 g) (a : AH) (hr : IsRow encN 1 w0 a.rp a.rn a.rc a.rhos) (hok : ∀ z ∈ a.rhos, inI z) : PutsAt w0 g 100 #[.pointer (some ⟨g, 0, none⟩), aggT a] (wordsP [⟨#[91]⟩] ++ (wordsP (a.rhos.map decB) ++ wordsP [⟨#[93]⟩])) := by
  have HR := Lib.hid hr
  have HN := Lib.hid (fun z hz => num_any hE (hok z hz))
  have hmx := hr.max
  have HLN := Lib.hid hr.len
  clear hr hok
  intro W v L hb hw hM
  have HE := Lib.hid hE
  have HG := Lib.hid hE.hg
  have HG1 := Lib.hid hw.lt
  have HM := Lib.hid hM
  have HD := Lib.hid (DSt.init hb hw a)
  clear hE hb hw hM
  show Calls _ _ _ _ _
  go_enter Tryz.func100, Tryz.ntmps100
  go_upto_region 1 with fail
  generalize hW0 : W.alloc (boxA a) = W0 at *
  clear hW0
  go_upto_region 2 with (first
    | (go_at_call 57; refine (put_cs HE.out HD.out.below HD.out.wr 1 (by omega) _ (by simp [strsOf, strOf, encS]) rfl _ _ (by simp) (by simp [strsOf, strOf]; try decide) (by have := HM.out; simp only [strsOf, strOf, List.map_cons, List.map_nil, List.length_append] at this ⊢; omega)).mono ?_; rintro e w8 ⟨rfl, v8, hw8, ht8⟩; have HD := Lib.hid (HD.out.step HG.out HG1.out hw8 ht8); clear hw8 ht8; have c8 := HD.out.box.c 8 _ rfl)
    | fail)
  go_wp2_with fail
  go_loopw [5, 12] (fun _ i wr => ∃ (k : Nat) (v1 : Value), k ≤ a.rn ∧ i = .int .i64 k ∧ DSt w0 W v g a (L ++ (wordsP [⟨#[91]⟩] ++ wordsP ((a.rhos.take k).map decB))) wr v1) (fun _ i _ => a.rn - (intOf i).toNat)
  case atStart => exact ⟨0, _, by omega, rfl, by simpa [wordsP, strsOf, strOf] using HD.out⟩
  case round =>
    obtain ⟨k, v1, hk, rfl, hd⟩ := hrel
    have HD := Lib.hid hd
    clear hd c8
    by_cases hlt : k < a.rn
    · obtain ⟨z, hx⟩ := get_of_lt (l := a.rhos) (j := k) (by rw [HLN.out]; exact hlt)
      have HX := Lib.hid hx
      obtain ⟨b, o, hbo, d0⟩ := (HR.out.below HD.out.below).row.num hx
      rw [hbo]
      have HNZ := Lib.hid (HN.out z (List.mem_of_getElem? hx))
      have HSUM : Hid (L.length + ((wordsP [⟨#[91]⟩]).length + (wordsP ((a.rhos.take k).map decB)).length) + (wordsP [decB z]).length ≤ 1000000000000) := by
        have h1 := HM.out
        have h2 : a.rhos = a.rhos.take k ++ z :: a.rhos.drop (k + 1) := by
          have h3 : a.rhos.drop k = z :: a.rhos.drop (k + 1) := by rw [List.drop_eq_getElem?_toList_append, hx]; rfl
          rw [← h3, List.take_append_drop]
        have h4 : wordsP (a.rhos.map decB) = wordsP ((a.rhos.take k).map decB) ++ (wordsP [decB z] ++ wordsP ((a.rhos.drop (k + 1)).map decB)) := by
          rw [congrArg (List.map decB) h2, List.map_append, wordsP_app, List.map_cons]
          congr 1
          simp [wordsP]
        rw [h4] at h1
        simp only [List.length_append] at h1
        show _ ≤ _
        omega
      have HNX : Hid (wordsP ((a.rhos.take (k + 1)).map decB) = wordsP ((a.rhos.take k).map decB) ++ wordsP [decB z]) := by
        show _ = _
        rw [take_succ_get hx, List.map_append, wordsP_app]; rfl
      clear hx hbo
      go_wp2_with (go_at_call 96; refine (HNZ.out _ _ _ HD.out.below HD.out.wr (by have := HSUM.out; simp only [List.length_append] at this ⊢; omega)).mono ?_; rintro e w8 ⟨rfl, v8, hw8, ht8⟩; have HD := Lib.hid (HD.out.step HG.out HG1.out hw8 ht8); clear hw8 ht8)
      go_roundw
      case rel => exact ⟨k + 1, _, by omega, by go_num, by rw [HNX.out, ← List.append_assoc, ← List.append_assoc]; simpa [List.append_assoc] using HD.out⟩
      case measure => simp [intOf]; omega
    · have hkn : k = a.rn := by omega
      have hfull : a.rhos.take k = a.rhos := take_full (by rw [HLN.out, hkn]; exact Nat.le_refl _)
      rw [hfull] at HD
      go_wp2_with (go_at_call 57; refine (put_cs HE.out HD.out.below HD.out.wr 1 (by omega) _ (by simp [strsOf, strOf, encS]) rfl _ _ (by simp) (by simp [strsOf, strOf]; try decide) (by have := HM.out; simp only [strsOf, strOf, List.map_cons, List.map_nil, List.length_append] at this ⊢; omega)).mono ?_; rintro e w8 ⟨rfl, v8, hw8, ht8⟩; have HD := Lib.hid (HD.out.step HG.out HG1.out hw8 ht8); clear hw8 ht8)
      go_end0
      exact ⟨rfl, _, by have := HD.out.wr; simpa [List.append_assoc, strsOf, strOf] using this, HD.out.wrote⟩
end Go.Proofs.YtdlbjngpohkglaaGreatDoor
end
