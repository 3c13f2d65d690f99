/- Part 17 of the texts: Wr, OpenR, OpenT. -/
import Derived.Test.YtdlbjngpohkglaaGreatDoorG15
import Derived.Test.YtdlbjngpohkglaaGreatDoorG16
import Derived.Test.YtdlbjngpohkglaaGreatDoorG11
section
set_option linter.unusedVariables false
set_option maxRecDepth 100000
set_option linter.unusedSimpArgs false
namespace Go.Proofs.YtdlbjngpohkglaaGreatDoor
open Go.RowKit

/-- the writer in block g holds the words L -/
structure WrS (g : Nat) (L : List ByteArray) (W : World) (v : Value) : Prop where
  box : W.heap[g]? = some (.cells #[v] 65 (0, 0))
  own : OwnE encS 1 W (g + 1) 9 v L.length L
theorem WrS.cells {g : Nat} {L : List ByteArray} {W : World} {v : Value} (h : WrS g L W v) : W.cell? ⟨g, 0, none⟩ = some v ∧ W.frozen? ⟨g, 0, none⟩ = false := by
  have hb := h.box
  simp [World.cell?, World.frozen?, hb]
theorem WrS.lt {g : Nat} {L : List ByteArray} {W : World} {v : Value} (h : WrS g L W v) : g < W.heap.size := (Array.getElem?_eq_some_iff.1 h.box).1
theorem WrS.below {g : Nat} {L : List ByteArray} {W W' : World} {v : Value} (h : WrS g L W v) (hb : Below W.heap.size W W') : WrS g L W' v := ⟨by rw [hb.block g h.lt]; exact h.box, h.own.below hb⟩
theorem WrS.from {g : Nat} {L : List ByteArray} {W : World} {v : Value} (h : WrS g L W v) : ∀ b, v.ownBlock = some b → g < b ∧ b < W.heap.size := fun b hb => by
  have := World.ownsRow.lt h.own b hb
  omega
/-- only the writer, and its row, have changed -/
structure Wrote (g : Nat) (v v' : Value) (W W' : World) : Prop where
  os : W'.os = W.os
  tape : W'.tape = W.tape
  output : W'.output = W.output
  size : W.heap.size ≤ W'.heap.size
  block : ∀ b, b < W.heap.size → b ≠ g → v.ownBlock ≠ some b → W'.heap[b]? = W.heap[b]?
  own : ∀ b, b < W.heap.size → v.ownBlock ≠ some b → v'.ownBlock ≠ some b
theorem Wrote.refl (g : Nat) (v : Value) (W : World) : Wrote g v v W W := ⟨rfl, rfl, rfl, Nat.le_refl _, fun _ _ _ _ => rfl, fun _ _ h => h⟩
theorem Wrote.trans {g : Nat} {v v1 v2 : Value} {W W1 W2 : World} (h1 : Wrote g v v1 W W1) (h2 : Wrote g v1 v2 W1 W2) : Wrote g v v2 W W2 :=
  ⟨h2.os.trans h1.os, h2.tape.trans h1.tape, h2.output.trans h1.output, Nat.le_trans h1.size h2.size,
    fun b hb hg hv => (h2.block b (Nat.lt_of_lt_of_le hb h1.size) hg (h1.own b hb hv)).trans (h1.block b hb hg hv),
    fun b hb hv => h2.own b (Nat.lt_of_lt_of_le hb h1.size) (h1.own b hb hv)⟩
theorem Wrote.of_below {g : Nat} {v : Value} {W W' : World} (h : Below W.heap.size W W') : Wrote g v v W W' :=
  ⟨h.os, h.tape, h.output, h.size, fun b hb _ _ => h.block b hb, fun _ _ h => h⟩
theorem Wrote.under {g : Nat} {v v' : Value} {W0 W W' : World} (h : Wrote g v v' W W') (hb : Below W0.heap.size W0 W) (hg : W0.heap.size ≤ g) (hv : ∀ b, v.ownBlock = some b → g < b) : Below W0.heap.size W0 W' :=
  ⟨h.os.trans hb.os, h.tape.trans hb.tape, h.output.trans hb.output, Nat.le_trans hb.size h.size, fun b hlt =>
    (h.block b (Nat.lt_of_lt_of_le hlt hb.size) (by omega) (fun e => by have := hv b e; omega)).trans (hb.block b hlt)⟩
theorem WrS.held {g : Nat} {L : List ByteArray} {W w3 : World} {v : Value} (h : WrS g L W v) (hg : W.grownBy w3 v.ownBlock) : w3.cell? ⟨g, 0, none⟩ = some v ∧ w3.frozen? ⟨g, 0, none⟩ = false := by
  have hb3 : w3.heap[g]? = some (.cells #[v] 65 (0, 0)) := by
    rw [hg.block g h.lt (fun e => by have := h.from g e.symm; omega)]; exact h.box
  simp [World.cell?, World.frozen?, hb3]
/-- one append, and one store -/
theorem WrS.add {g : Nat} {L l' : List ByteArray} {W w3 : World} {v v3 : Value} (h : WrS g L W v) (hown : OwnE encS 1 w3 (g + 1) 9 v3 (L.length + l'.length) (L ++ l')) (hg : W.grownBy w3 v.ownBlock)
    (hf : ∀ b, b < W.heap.size → v3.ownBlock = some b → v.ownBlock = some b) :
    WrS g (L ++ l') (w3.setCell ⟨g, 0, none⟩ v3) v3 ∧ Wrote g v v3 W (w3.setCell ⟨g, 0, none⟩ v3) := by
  have hlt := h.lt
  have hgs : w3.grownBy (w3.setCell ⟨g, 0, none⟩ v3) (some g) := grown_setCell1 _ _ _ _
  have hb3 : w3.heap[g]? = some (.cells #[v] 65 (0, 0)) := by
    rw [hg.block g hlt (fun e => by have := h.from g e.symm; omega)]; exact h.box
  refine ⟨⟨by simpa using heap_setCell1 (o := 0) v3 hb3, ?_⟩, hgs.os.trans hg.os, hgs.tape.trans hg.tape, hgs.output.trans hg.output, Nat.le_trans hg.size hgs.size, ?_, ?_⟩
  · rw [List.length_append]
    refine ⟨hown.1, ?_⟩
    rcases hown.2 with h0 | ⟨b, cap, cur, rfl, h1, h2, rest⟩
    · exact .inl h0
    · refine .inr ⟨b, cap, cur, rfl, h1, ?_, rest⟩
      rw [hgs.block b (Array.getElem?_eq_some_iff.1 h2).1 (fun e => by injection e with e; omega)]; exact h2
  · intro b hb hbg hbv
    rw [hgs.block b (Nat.lt_of_lt_of_le hb hg.size) (fun e => by injection e with e; exact hbg e), hg.block b hb hbv.symm]
  · intro b hb hbv e
    exact hbv (hf b hb e)
theorem RowE.block {α : Type} {enc : α → List Value} {k b : Nat} {W W' : World} {l : List α} (h : RowE enc k W (some ⟨b, 0, none⟩) l) (hb : W'.heap[b]? = W.heap[b]?) (hs : W.heap.size ≤ W'.heap.size) : RowE enc k W' (some ⟨b, 0, none⟩) l := by
  rcases h with h | ⟨b', o, hp, hlt, hc⟩
  · exact .inl h
  · refine .inr ⟨b', o, hp, Nat.lt_of_lt_of_le hlt hs, fun j x hx i u hu => ?_⟩
    injection hp with hp
    injection hp with hp1 hp2
    subst hp1
    have := hc j x hx i u hu
    unfold World.cell? at this ⊢
    rw [hb]; exact this
theorem split_any {w : World} (hv : Vr w) (s : ByteArray) (hs : s.size < 4294967281) : Calls Tryz.prog 75 #[.string s, .string ⟨#[32]⟩] w fun e w' => e = .returned (.slice (some ⟨w.heap.size, 0, none⟩) (spl s).length (spl s).length) ∧ RowE encS 1 w' (some ⟨w.heap.size, 0, none⟩) (spl s) ∧ Below w.heap.size w w' := by
  obtain ⟨m, hm⟩ := hv
  refine (Tryz.strings_Split s ⟨#[32]⟩ m w hs hm (by decide)).mono ?_
  rintro e w1 ⟨rfl, rfl⟩
  refine ⟨by rw [spl_length], ?_, (Below.refl _ _).alloc (Nat.le_refl _) _⟩
  refine RowE.newAt encS_len w _ _ ?_ _ _ _ rfl
  show (((Lib.splitB ⟨#[32]⟩ 0 (Lib.countB s ⟨#[32]⟩) s).map Value.string).toArray).toList = (spl s).flatMap encS
  unfold spl
  generalize Lib.splitB ⟨#[32]⟩ 0 (Lib.countB s ⟨#[32]⟩) s = l
  induction l with
  | nil => rfl
  | cons x l ih => simpa [encS] using ih
set_option maxHeartbeats 4000000 in
theorem put_any {W : World} {g : Nat} {L : List ByteArray} {v : Value} (hw : WrS g L W v) (hg : 0 < g) (hv : Vr W) {b : Nat} (hb : b < W.heap.size) (hbg : b ≠ g) (hbv : v.ownBlock ≠ some b) (ps : List ByteArray) (n c : Nat) (hn : ps.length = n) (hm : n ≤ 1000000)
    (hr : RowE encS 1 W (some ⟨b, 0, none⟩) ps) (hsz : ∀ s ∈ ps, s.size < 4294967281) (hM : L.length + (wordsP ps).length ≤ 1000000000000) :
    Calls Tryz.prog 57 #[.pointer (some ⟨g, 0, none⟩), .slice (some ⟨b, 0, none⟩) n c] W fun e w' => e = .returned (.tuple #[]) ∧ ∃ v', WrS g (L ++ wordsP ps) w' v' ∧ Wrote g v v' W w' := by
  have HW := Lib.hid hw
  have HV := Lib.hid hv
  have HR := Lib.hid hr
  have HSZ := Lib.hid hsz
  have HM := Lib.hid hM
  have HN := Lib.hid hn
  have HBV := Lib.hid hbv
  have HBLT := Lib.hid hb
  have HBG := Lib.hid hbg
  have HG0 := Lib.hid hg
  clear hw hv hr hsz hM hn hbv hb hbg hg
  go_enter Tryz.func57, Tryz.ntmps57
  go_wp2_with fail
  go_loopw [5, 8] (fun _ i wr => ∃ (k : Nat) (v1 : Value), k ≤ n ∧ i = .int .i64 k ∧ WrS g (L ++ wordsP (ps.take k)) wr v1 ∧ Wrote g v v1 W wr) (fun _ i _ => n - (intOf i).toNat)
  case atStart => exact ⟨0, v, by omega, rfl, by simpa [wordsP] using HW.out, Wrote.refl _ _ _⟩
  case round =>
    obtain ⟨k, v1, hk, rfl, hw1, ht1⟩ := hrel
    have HW1 := Lib.hid hw1
    have HT1 := Lib.hid ht1
    clear hw1 ht1
    by_cases hlt : k < n
    · obtain ⟨s, hx⟩ := get_of_lt (l := ps) (j := k) (by rw [HN.out]; exact hlt)
      have HE := Lib.hid hx
      obtain ⟨b', o, hbo, d0⟩ := (HR.out.block (HT1.out.block b HBLT.out HBG.out HBV.out) HT1.out.size).str hx
      have hbo' : b' = b ∧ o = 0 := by injection hbo with h1; injection h1 with h1 h2; exact ⟨h1.symm, h2.symm⟩
      obtain ⟨rfl, rfl⟩ := hbo'
      have HLS := Lib.hid (HSZ.out s (List.mem_of_getElem? hx))
      have HV1 : Hid (Vr wr.drew) := by
        obtain ⟨m, hm0⟩ := HV.out
        refine Lib.hid ⟨m, ?_⟩
        have h0 := HT1.out.block 0 (cell_block hm0) (by have := HG0.out; omega) (fun e => by have := HW.out.from 0 e; omega)
        show wr.cell? _ = _
        unfold World.cell? at hm0 ⊢
        rw [h0]; exact hm0
      have HLEN : Hid ((L ++ wordsP (ps.take k)).length + (spl s).length ≤ 1000000000000) := by
        have h1 : wordsP ps = wordsP (ps.take k) ++ (spl s ++ wordsP (ps.drop (k + 1))) := by
          have h2 : ps = ps.take k ++ s :: ps.drop (k + 1) := by
            have h3 : ps.drop k = s :: ps.drop (k + 1) := by rw [List.drop_eq_getElem?_toList_append, hx]; rfl
            rw [← h3, List.take_append_drop]
          rw [congrArg wordsP h2, wordsP_app]
          congr 1
        have h4 := HM.out
        rw [h1] at h4
        simp only [List.length_append] at h4 ⊢
        show _ ≤ _
        omega
      obtain ⟨x0, x1⟩ := HW1.out.cells
      rw [Nat.zero_add] at d0
      clear hx hbo
      generalize hL1 : L ++ wordsP (ps.take k) = L1 at *
      have HL1 := Lib.hid hL1
      clear hL1
      have HNXT : Hid (L ++ wordsP (ps.take (k + 1)) = L1 ++ spl s) := by
        show _ = _
        rw [take_succ_get HE.out, wordsP_app, ← List.append_assoc, HL1.out]
        simp [wordsP]
      go_wp2_with fail
      go_region_law (first
        | (refine step_appendR (by rfl) _ _ 44 (by rfl) (g + 1) 9 _ 1 16 Tryz.underlying44 infoS rfl (by decide) encS encS_len encS_one (spl s) L1 L1.length v1 HO2.out _ _ _ (by rfl) (by rfl) rfl (by intro h; cases h) HRY.out (by have := HLEN.out; omega) (by have := HLEN.out; omega) (by have := HZ2.out; omega) ?_
           intro v3 w3 hown3 hg3 hf3
           obtain ⟨p3, c3, rfl, hrow3⟩ := OwnE.isRow encS_len (by omega) hown3
           obtain ⟨y0, y1⟩ := HW2.out.held hg3)
        | (go_simp; go_at_call 75; refine (split_any HV1.out s HLS.out).mono ?_
           rintro e w2 ⟨rfl, hrow2, hb2⟩
           have hb2' : Below wr.heap.size wr w2 := bel_step (bel_drew wr) hb2
           have HW2 := Lib.hid (HW1.out.below hb2')
           have HB2 := Lib.hid hb2'
           have HO2 := Lib.hid HW2.out.own
           have HRY := Lib.hid hrow2
           have HZ2 : Hid (g < w2.heap.size) := HW2.out.lt
           obtain ⟨x0, x1⟩ := HW2.out.cells
           go_wp2_with fail))
      all_goals (
        obtain ⟨hA, hT⟩ := HW2.out.add hown3 hg3 hf3
        have HA := Lib.hid hA
        have HT := Lib.hid (HT1.out.trans ((Wrote.of_below HB2.out).trans hT))
        clear hown3 hg3 hf3 hrow3 hA hT x0 x1 y0 y1 hb2 hb2' hrow2
        go_wp2_with fail
        go_roundw
        case rel => exact ⟨k + 1, _, by omega, by go_num, by rw [HNXT.out]; exact HA.out, HT.out⟩
        case measure => simp [intOf]; omega)
    · have hkn : k = n := by omega
      have hfull : ps.take k = ps := take_full (by rw [HN.out, hkn]; exact Nat.le_refl _)
      rw [hfull] at HW1
      go_wp2_with fail
      go_end0
      exact ⟨rfl, _, HW1.out, HT1.out⟩
end Go.Proofs.YtdlbjngpohkglaaGreatDoor
end
section
set_option linter.unusedVariables false
set_option maxRecDepth 100000
set_option linter.unusedSimpArgs false
namespace Go.Proofs.YtdlbjngpohkglaaGreatDoor
open Go.ChangeShapes Go.WideShapes Go.ChangeAt Go.RowKit Go.Deep

section
variable {H : Type} {enc : TypeId × Value → H} {W : World} {base : Nat} {t e : TypeId} {v : Value} {d : DataW H} {ps : List MemPlace}

theorem elem_rt (n : Nat) : Elem enc W 28 n LR.encT (LR.lies W) := by
  induction n using Nat.strongRecOn with
  | _ n ih =>
  intro cs' x h hlen
  have he : Tryz.prog.underlying 28 = some (.struct (Tryz.prog.fieldsOf 28)) := by kernel_rfl
  have ce : Tryz.prog.cellsOf 28 = 4 := by kernel_rfl
  have F0 : ((Tryz.prog.fieldsOf 28)[0]?).map (fun f => (f.type, f.offset)) = some (5, 0) := by kernel_rfl
  have F1 : ((Tryz.prog.fieldsOf 28)[1]?).map (fun f => (f.type, f.offset)) = some (3, 1) := by kernel_rfl
  have F2 : ((Tryz.prog.fieldsOf 28)[2]?).map (fun f => (f.type, f.offset)) = some (25, 2) := by kernel_rfl
  have F3 : ((Tryz.prog.fieldsOf 28)[3]?).map (fun f => (f.type, f.offset)) = some (26, 3) := by kernel_rfl
  have C0 : Tryz.prog.cellsOf 5 = 1 := by kernel_rfl
  have C1 : Tryz.prog.cellsOf 3 = 1 := by kernel_rfl
  have C2 : Tryz.prog.cellsOf 25 = 1 := by kernel_rfl
  have C3 : Tryz.prog.cellsOf 26 = 1 := by kernel_rfl
  have CA : Tryz.prog.cellsOf 78 = 3 := by kernel_rfl
  rw [ce] at hlen
  obtain ⟨xs, k, hk, hxy, _, hxl, hf'⟩ := DataW.trod_struct he h
  obtain ⟨f0, e0, p0⟩ := Option.map_eq_some_iff.1 F0
  obtain ⟨f1, e1, p1⟩ := Option.map_eq_some_iff.1 F1
  obtain ⟨f2, e2, p2⟩ := Option.map_eq_some_iff.1 F2
  obtain ⟨f3, e3, p3⟩ := Option.map_eq_some_iff.1 F3
  simp only [Prod.mk.injEq] at p0 p1 p2 p3
  have g0 := hf' 0 f0 e0
  have g1 := hf' 1 f1 e1
  have g2 := hf' 2 f2 e2
  have g3 := hf' 3 f3 e3
  rw [p0.1, p0.2, C0] at g0
  rw [p1.1, p1.2, C1] at g1
  rw [p2.1, p2.2, C2] at g2
  rw [p3.1, p3.2, C3] at g3
  have b3 := (Array.getElem?_eq_some_iff.1 e3).1
  match cs', hlen with
  | [v0, v1, v2, v3], _ =>
    rw [List.getElem?_eq_getElem (show 0 < xs.length by omega)] at g0
    rw [List.getElem?_eq_getElem (show 1 < xs.length by omega)] at g1
    rw [List.getElem?_eq_getElem (show 2 < xs.length by omega)] at g2
    rw [List.getElem?_eq_getElem (show 3 < xs.length by omega)] at g3
    obtain ⟨z0, q0, _, b0'⟩ := DataW.trod_int Tryz.underlying5 g0
    obtain ⟨z1, q1, _, b1'⟩ := DataW.trod_int Tryz.underlying3 g1
    obtain ⟨ep, en, ec, eff, q2, re, oke⟩ := open_row_at encA okAt Tryz.underlying25 CA (by omega) encA_len g2 (fun n _ => elem_atom n)
    obtain ⟨kp, kn, kc, l, q3, rk, okk⟩ := open_row_at LR.encT (LR.lies W) Tryz.underlying26 ce (by omega) LRlen g3 (fun m hm => ih m (by omega))
    simp at q0 q1 q2 q3
    have h0 : 0 ≤ z0 ∧ z0 ≤ 255 := by simpa [Lit.wf, IntKind.min, IntKind.max, IntKind.signed, IntKind.bits] using b0'
    have h1 : -9223372036854775808 ≤ z1 ∧ z1 ≤ 9223372036854775807 := by simpa [Lit.wf, IntKind.min, IntKind.max, IntKind.signed, IntKind.bits] using b1'
    refine ⟨.node ⟨z0, z1, ep, en, ec, eff, kp, kn, kc⟩ l, by rw [q0, q1, q2, q3]; rfl, NodeIn.lies ⟨⟨re, oke, h0.1, h0.2, h1.1, h1.2, rk.max, rk.le, rk.nil⟩, rk, okk⟩⟩

/-- a type by value -/
theorem open_rt (hv : Value.okWide Tryz.prog W .any base 28 v) (h : DataW.Trod enc Tryz.prog W 0 (fun _ => true) true 28 v d ps) : ∃ x : PT, v = aggR x.head ∧ LR.lies W x := by
  have he : Tryz.prog.underlying 28 = some (.struct (Tryz.prog.fieldsOf 28)) := by kernel_rfl
  have ce : Tryz.prog.cellsOf 28 = 4 := by kernel_rfl
  simp only [Value.okWide, he] at hv
  obtain ⟨cs, rfl, hs, _⟩ := hv
  obtain ⟨fuel, hf⟩ := h
  obtain ⟨y, hy, hl⟩ := elem_rt fuel cs.toList _ hf (by simpa using hs)
  refine ⟨y, ?_, hl⟩
  obtain ⟨a⟩ := cs
  simp only [encT_LR, encRH] at hy
  rw [hy]
end
end Go.Proofs.YtdlbjngpohkglaaGreatDoor
end
section
set_option linter.unusedVariables false
set_option maxRecDepth 100000
set_option linter.unusedSimpArgs false
namespace Go.Proofs.YtdlbjngpohkglaaGreatDoor
open Go.ChangeShapes Go.WideShapes Go.ChangeAt Go.RowKit Go.Deep

section
variable {H : Type} {enc : TypeId × Value → H} {W : World} {base : Nat} {t e : TypeId} {v : Value} {d : DataW H} {ps : List MemPlace}

/-- a head's own cells -/
structure HeadV where
  kind : Int
  op : Int
  at_ : Int
  n : Int
  name : ByteArray
  arg : ByteArray
  exn : ByteArray
def encHd (h : HeadV) : List Value := [.int .u8 h.kind, .int .u8 h.op, .int .i64 h.at_, .int .i64 h.n, .string h.name, .string h.arg, .string h.exn]
structure HeadV.Ok (h : HeadV) : Prop where
  k0 : 0 ≤ h.kind
  k1 : h.kind ≤ 255
  o0 : 0 ≤ h.op
  o1 : h.op ≤ 255
  at_ : inI h.at_
  n : inI h.n
  name : h.name.size ≤ 9223372036854775807
  arg : h.arg.size ≤ 9223372036854775807
  exn : h.exn.size ≤ 9223372036854775807
theorem elem_head (n : Nat) : Elem enc W 23 n encHd HeadV.Ok := by
  intro cs' x h hlen
  have he : Tryz.prog.underlying 23 = some (.struct (Tryz.prog.fieldsOf 23)) := by kernel_rfl
  have ce : Tryz.prog.cellsOf 23 = 7 := by kernel_rfl
  have F0 : ((Tryz.prog.fieldsOf 23)[0]?).map (fun f => (f.type, f.offset)) = some (5, 0) := by kernel_rfl
  have F1 : ((Tryz.prog.fieldsOf 23)[1]?).map (fun f => (f.type, f.offset)) = some (5, 1) := by kernel_rfl
  have F2 : ((Tryz.prog.fieldsOf 23)[2]?).map (fun f => (f.type, f.offset)) = some (3, 2) := by kernel_rfl
  have F3 : ((Tryz.prog.fieldsOf 23)[3]?).map (fun f => (f.type, f.offset)) = some (2, 3) := by kernel_rfl
  have F4 : ((Tryz.prog.fieldsOf 23)[4]?).map (fun f => (f.type, f.offset)) = some (9, 4) := by kernel_rfl
  have F5 : ((Tryz.prog.fieldsOf 23)[5]?).map (fun f => (f.type, f.offset)) = some (9, 5) := by kernel_rfl
  have F6 : ((Tryz.prog.fieldsOf 23)[6]?).map (fun f => (f.type, f.offset)) = some (9, 6) := by kernel_rfl
  have C_uint8 : Tryz.prog.cellsOf 5 = 1 := by kernel_rfl
  have C_int : Tryz.prog.cellsOf 3 = 1 := by kernel_rfl
  have C_int64 : Tryz.prog.cellsOf 2 = 1 := by kernel_rfl
  have C_string : Tryz.prog.cellsOf 9 = 1 := by kernel_rfl
  rw [ce] at hlen
  obtain ⟨xs, k, hk, hxy, _, hxl, hf'⟩ := DataW.trod_struct he h
  obtain ⟨f0, e0, p0⟩ := Option.map_eq_some_iff.1 F0
  obtain ⟨f1, e1, p1⟩ := Option.map_eq_some_iff.1 F1
  obtain ⟨f2, e2, p2⟩ := Option.map_eq_some_iff.1 F2
  obtain ⟨f3, e3, p3⟩ := Option.map_eq_some_iff.1 F3
  obtain ⟨f4, e4, p4⟩ := Option.map_eq_some_iff.1 F4
  obtain ⟨f5, e5, p5⟩ := Option.map_eq_some_iff.1 F5
  obtain ⟨f6, e6, p6⟩ := Option.map_eq_some_iff.1 F6
  simp only [Prod.mk.injEq] at p0 p1 p2 p3 p4 p5 p6
  have g0 := hf' 0 f0 e0
  have g1 := hf' 1 f1 e1
  have g2 := hf' 2 f2 e2
  have g3 := hf' 3 f3 e3
  have g4 := hf' 4 f4 e4
  have g5 := hf' 5 f5 e5
  have g6 := hf' 6 f6 e6
  rw [p0.1, p0.2, C_uint8] at g0
  rw [p1.1, p1.2, C_uint8] at g1
  rw [p2.1, p2.2, C_int] at g2
  rw [p3.1, p3.2, C_int64] at g3
  rw [p4.1, p4.2, C_string] at g4
  rw [p5.1, p5.2, C_string] at g5
  rw [p6.1, p6.2, C_string] at g6
  have bl := (Array.getElem?_eq_some_iff.1 e6).1
  match cs', hlen with
  | [v0, v1, v2, v3, v4, v5, v6], _ =>
    rw [List.getElem?_eq_getElem (show 0 < xs.length by omega)] at g0
    rw [List.getElem?_eq_getElem (show 1 < xs.length by omega)] at g1
    rw [List.getElem?_eq_getElem (show 2 < xs.length by omega)] at g2
    rw [List.getElem?_eq_getElem (show 3 < xs.length by omega)] at g3
    rw [List.getElem?_eq_getElem (show 4 < xs.length by omega)] at g4
    rw [List.getElem?_eq_getElem (show 5 < xs.length by omega)] at g5
    rw [List.getElem?_eq_getElem (show 6 < xs.length by omega)] at g6
    obtain ⟨z0, q0, _, b0⟩ := DataW.trod_int Tryz.underlying5 g0
    obtain ⟨z1, q1, _, b1⟩ := DataW.trod_int Tryz.underlying5 g1
    obtain ⟨z2, q2, _, b2⟩ := DataW.trod_int Tryz.underlying3 g2
    obtain ⟨z3, q3, _, b3⟩ := DataW.trod_int Tryz.underlying2 g3
    obtain ⟨z4, q4, _, b4⟩ := DataW.trod_string Tryz.underlying9 g4
    obtain ⟨z5, q5, _, b5⟩ := DataW.trod_string Tryz.underlying9 g5
    obtain ⟨z6, q6, _, b6⟩ := DataW.trod_string Tryz.underlying9 g6
    simp at q0 q1 q2 q3 q4 q5 q6
    have h0 : 0 ≤ z0 ∧ z0 ≤ 255 := by simpa [Lit.wf, IntKind.min, IntKind.max, IntKind.signed, IntKind.bits] using b0
    have h1 : 0 ≤ z1 ∧ z1 ≤ 255 := by simpa [Lit.wf, IntKind.min, IntKind.max, IntKind.signed, IntKind.bits] using b1
    have h2 : -9223372036854775808 ≤ z2 ∧ z2 ≤ 9223372036854775807 := by simpa [Lit.wf, IntKind.min, IntKind.max, IntKind.signed, IntKind.bits] using b2
    have h3 : -9223372036854775808 ≤ z3 ∧ z3 ≤ 9223372036854775807 := by simpa [Lit.wf, IntKind.min, IntKind.max, IntKind.signed, IntKind.bits] using b3
    unfold maxLen at b4 b5 b6
    exact ⟨⟨z0, z1, z2, z3, z4, z5, z6⟩, by rw [q0, q1, q2, q3, q4, q5, q6]; rfl, h0.1, h0.2, h1.1, h1.2, h2, h3, by show z4.size ≤ _; omega, by show z5.size ≤ _; omega, by show z6.size ≤ _; omega⟩

theorem elem_at (n : Nat) : Elem enc W 31 n LA.encT (LA.lies W) := by
  induction n using Nat.strongRecOn with
  | _ n ih =>
  intro cs' x h hlen
  have he : Tryz.prog.underlying 31 = some (.struct (Tryz.prog.fieldsOf 31)) := by kernel_rfl
  have ce : Tryz.prog.cellsOf 31 = 19 := by kernel_rfl
  have CAt : Tryz.prog.cellsOf 78 = 3 := by kernel_rfl
  have CI : Tryz.prog.cellsOf 3 = 1 := by kernel_rfl
  have F0 : ((Tryz.prog.fieldsOf 31)[0]?).map (fun f => (f.type, f.offset)) = some (23, 0) := by kernel_rfl
  have F1 : ((Tryz.prog.fieldsOf 31)[1]?).map (fun f => (f.type, f.offset)) = some (3, 7) := by kernel_rfl
  have F2 : ((Tryz.prog.fieldsOf 31)[2]?).map (fun f => (f.type, f.offset)) = some (24, 8) := by kernel_rfl
  have F3 : ((Tryz.prog.fieldsOf 31)[3]?).map (fun f => (f.type, f.offset)) = some (25, 9) := by kernel_rfl
  have F4 : ((Tryz.prog.fieldsOf 31)[4]?).map (fun f => (f.type, f.offset)) = some (28, 10) := by kernel_rfl
  have F5 : ((Tryz.prog.fieldsOf 31)[5]?).map (fun f => (f.type, f.offset)) = some (28, 14) := by kernel_rfl
  have F6 : ((Tryz.prog.fieldsOf 31)[6]?).map (fun f => (f.type, f.offset)) = some (29, 18) := by kernel_rfl
  have C_apiHead : Tryz.prog.cellsOf 23 = 7 := by kernel_rfl
  have C_int : Tryz.prog.cellsOf 3 = 1 := by kernel_rfl
  have C_sint : Tryz.prog.cellsOf 24 = 1 := by kernel_rfl
  have C_sapiAtom : Tryz.prog.cellsOf 25 = 1 := by kernel_rfl
  have C_apiRType : Tryz.prog.cellsOf 28 = 4 := by kernel_rfl
  have C_sapiATerm : Tryz.prog.cellsOf 29 = 1 := by kernel_rfl
  rw [ce] at hlen
  obtain ⟨xs, k, hk, hxy, _, hxl, hf'⟩ := DataW.trod_struct he h
  obtain ⟨f0, e0, p0⟩ := Option.map_eq_some_iff.1 F0
  obtain ⟨f1, e1, p1⟩ := Option.map_eq_some_iff.1 F1
  obtain ⟨f2, e2, p2⟩ := Option.map_eq_some_iff.1 F2
  obtain ⟨f3, e3, p3⟩ := Option.map_eq_some_iff.1 F3
  obtain ⟨f4, e4, p4⟩ := Option.map_eq_some_iff.1 F4
  obtain ⟨f5, e5, p5⟩ := Option.map_eq_some_iff.1 F5
  obtain ⟨f6, e6, p6⟩ := Option.map_eq_some_iff.1 F6
  simp only [Prod.mk.injEq] at p0 p1 p2 p3 p4 p5 p6
  have g0 := hf' 0 f0 e0
  have g1 := hf' 1 f1 e1
  have g2 := hf' 2 f2 e2
  have g3 := hf' 3 f3 e3
  have g4 := hf' 4 f4 e4
  have g5 := hf' 5 f5 e5
  have g6 := hf' 6 f6 e6
  rw [p0.1, p0.2, C_apiHead] at g0
  rw [p1.1, p1.2, C_int] at g1
  rw [p2.1, p2.2, C_sint] at g2
  rw [p3.1, p3.2, C_sapiAtom] at g3
  rw [p4.1, p4.2, C_apiRType] at g4
  rw [p5.1, p5.2, C_apiRType] at g5
  rw [p6.1, p6.2, C_sapiATerm] at g6
  have bl := (Array.getElem?_eq_some_iff.1 e6).1
  match cs', hlen with
  | [v0, v1, v2, v3, v4, v5, v6, v7, v8, v9, v10, v11, v12, v13, v14, v15, v16, v17, v18], _ =>
    rw [List.getElem?_eq_getElem (show 0 < xs.length by omega)] at g0
    rw [List.getElem?_eq_getElem (show 1 < xs.length by omega)] at g1
    rw [List.getElem?_eq_getElem (show 2 < xs.length by omega)] at g2
    rw [List.getElem?_eq_getElem (show 3 < xs.length by omega)] at g3
    rw [List.getElem?_eq_getElem (show 4 < xs.length by omega)] at g4
    rw [List.getElem?_eq_getElem (show 5 < xs.length by omega)] at g5
    rw [List.getElem?_eq_getElem (show 6 < xs.length by omega)] at g6
    obtain ⟨hd, q0, hh⟩ := elem_head _ _ _ g0 (by simp [C_apiHead])
    obtain ⟨z1, q1, _, b1⟩ := DataW.trod_int Tryz.underlying3 g1
    obtain ⟨rp, rn, rc, rhos, q2, rr, rok⟩ := open_row_at encN inI Tryz.underlying24 CI (by omega) encN_len g2 (fun n _ => elem_num n)
    obtain ⟨ep, en, ec, eff, q3, re, eok⟩ := open_row_at encA okAt Tryz.underlying25 CAt (by omega) encA_len g3 (fun n _ => elem_atom n)
    obtain ⟨ty, q4, hty⟩ := elem_rt _ _ _ g4 (by simp [C_apiRType])
    obtain ⟨res, q5, hres⟩ := elem_rt _ _ _ g5 (by simp [C_apiRType])
    obtain ⟨kp, kn, kc, l, q6, rk, okk⟩ := open_row_at LA.encT (LA.lies W) Tryz.underlying29 ce (by omega) LAlen g6 (fun m hm => ih m (by omega))
    simp [encHd, encT_LR, encRH] at q0 q1 q2 q3 q4 q5 q6
    have h1 : -9223372036854775808 ≤ z1 ∧ z1 ≤ 9223372036854775807 := by simpa [Lit.wf, IntKind.min, IntKind.max, IntKind.signed, IntKind.bits] using b1
    obtain ⟨rfl, rfl, rfl, rfl, rfl, rfl, rfl⟩ := q0
    obtain ⟨rfl, rfl, rfl, rfl⟩ := q4
    obtain ⟨rfl, rfl, rfl, rfl⟩ := q5
    subst q1 q2 q3 q6
    exact ⟨.node ⟨hd.kind, hd.op, hd.at_, hd.n, hd.name, hd.arg, hd.exn, z1, rp, rn, rc, rhos, ep, en, ec, eff, ty, res, kp, kn, kc⟩ l, rfl,
      NodeA.lies ⟨⟨hh.k0, hh.k1, hh.o0, hh.o1, hh.at_, hh.n, hh.name, hh.arg, hh.exn, h1, rr, rok, re, eok, hty, hres, rk.max, rk.le, rk.nil⟩, rk, okk⟩⟩

/-- a term by value -/
theorem open_at (hv : Value.okWide Tryz.prog W .any base 31 v) (h : DataW.Trod enc Tryz.prog W 0 (fun _ => true) true 31 v d ps) : ∃ x : PA, v = aggT x.head ∧ LA.lies W x := by
  have he : Tryz.prog.underlying 31 = some (.struct (Tryz.prog.fieldsOf 31)) := by kernel_rfl
  have ce : Tryz.prog.cellsOf 31 = 19 := by kernel_rfl
  simp only [Value.okWide, he] at hv
  obtain ⟨cs, rfl, hs, _⟩ := hv
  obtain ⟨fuel, hf⟩ := h
  obtain ⟨y, hy, hl⟩ := elem_at fuel cs.toList _ hf (by simpa using hs)
  refine ⟨y, ?_, hl⟩
  obtain ⟨a⟩ := cs
  have e : LA.encT y = encAH y.head := rfl
  simp only [e, encAH] at hy
  rw [hy]
end
end Go.Proofs.YtdlbjngpohkglaaGreatDoor
end
