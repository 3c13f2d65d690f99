/- strings.Builder inside a struct of its own (sample.text): copyCheck, Len, WriteByte, WriteString, String. -/
import Derived.Test.YtekhblomdlehhaaDoorDig
import Derived.Lib.Builder
import Derived.Lib.AppendStr
import Derived.Lib.UnsafeStr
import Derived.Laws.Externs
import Derived.Shelf.RegionOpenPlain
set_option linter.unusedVariables false
set_option maxRecDepth 100000
set_option linter.unusedSimpArgs false
namespace Go.Proofs.YtekhblomdlehhaaDoor
open Go.RowKit Go.Sort Go.Lib

/-- a builder in block b that holds the bytes L -/
abbrev Bld (b : Nat) (L : List UInt8) (w : World) : Prop := Lib.IsBuilder 95 5 b b (Lib.byteCells L) w
/-- .. that has been written to -/
abbrev BldU (b : Nat) (L : List UInt8) (w : World) : Prop := Lib.BuilderAt 95 5 b b (.pointer (some ⟨b, 0, none⟩)) (Lib.byteCells L) w
/-- what isn't the builder's, stays: all below it, and what holds no bytes -/
structure Fr (b : Nat) (w w' : World) : Prop where
  below : Below b w w'
  keep : ∀ k cs e fr, k ≠ b → w.heap[k]? = some (.cells cs e fr) → e ≠ 5 → w'.heap[k]? = some (.cells cs e fr)
theorem Fr.refl (b : Nat) (w : World) : Fr b w w := ⟨Below.refl _ _, fun _ _ _ _ _ h _ => h⟩
theorem Fr.trans {b : Nat} {w w' w'' : World} (h : Fr b w w') (h' : Fr b w' w'') : Fr b w w'' := ⟨h.below.trans h'.below, fun k cs e fr hk hc he => h'.keep k cs e fr hk (h.keep k cs e fr hk hc he) he⟩
theorem Fr.drew (b : Nat) (w : World) : Fr b w w.drew := ⟨Below.drew (Below.refl _ _), fun _ _ _ _ _ h _ => h⟩
theorem Fr.alloc {b : Nat} {w w' : World} (h : Fr b w w') (hb : b ≤ w'.heap.size) (o : Obj) : Fr b w (w'.alloc o) := ⟨h.below.alloc hb o, fun k cs e fr hk hc he => by
  have h1 := h.keep k cs e fr hk hc he
  rw [Lib.alloc_old _ _ _ (Array.getElem?_eq_some_iff.1 h1).1]; exact h1⟩
theorem Fr.set {b : Nat} {w w' : World} (h : Fr b w w') (o : Nat) (v : Value) : Fr b w (w'.setCell ⟨b, o, none⟩ v) := ⟨h.below.setCell (p := ⟨b, o, none⟩) (Nat.le_refl _) v, fun k cs e fr hk hc he => by
  have h1 := h.keep k cs e fr hk hc he
  have : b ≠ k := fun e => hk e.symm
  simp [World.setCell, Array.getElem?_modify, this, h1]⟩
theorem Fr.grown {b : Nat} {w w' w'' : World} {v : Value} {n : Nat} {xs : List Value} (h : Fr b w w') (hg : w'.grownBy w'' v.ownBlock) (hown : w'.ownsRow b 5 1 v n xs) (hb : b ≤ w'.heap.size) : Fr b w w'' :=
  ⟨h.below.grown hg hb (fun k hk => (hown.lt k hk).1), fun k cs e fr hk hc he => by
    have h1 := h.keep k cs e fr hk hc he
    rw [hg.block k (Array.getElem?_eq_some_iff.1 h1).1 (fun e' => Lib.ownBlock_ne hown h1 he e'.symm)]; exact h1⟩
theorem infoBld : (Tryd.prog.info? 84).map (·.size) = some 2 := by kernel_rfl
theorem liesBld : liesAt Tryd.prog Tryd.prog.depth 95 (2 / Tryd.prog.cellsOf 95) 0 84 1 = true := by kernel_rfl
theorem infoU8 : (Tryd.prog.info? 5).map (fun i => (i.zero, i.size, i.bytes)) = some (some (.int .u8 0), 1, 1) := by kernel_rfl
theorem bld_parts {b : Nat} {L : List UInt8} {w : World} (h : Bld b L w) : ∃ p v, w.heap[b]? = some (.cells #[p, v] 95 (0, 0)) ∧ w.ownsRow b 5 1 v L.length (Lib.byteCells L) ∧ v.ownBlock ≠ some b := by
  rcases h with h | h
  all_goals
    obtain ⟨_, v, h1, h2, h3⟩ := h
    rw [Lib.byteCells_length] at h2
    exact ⟨_, v, h1, h2, h3⟩

set_option maxHeartbeats 1000000 in
theorem copyCheck_used (b : Nat) (w : World) (h0 : w.cell? ⟨b, 0, none⟩ = some (.pointer (some ⟨b, 0, none⟩))) :
    Calls Tryd.prog 109 #[.pointer (some ⟨b, 0, none⟩)] w fun e w' => e = .returned (.tuple #[]) ∧ w' = w := by
  obtain ⟨j, hj, _⟩ := Option.map_eq_some_iff.1 infoBld
  have HJ := Lib.hid hj
  clear hj
  go_enter Tryd.func109, Tryd.ntmps109
  go_wp2_with fail
  rw [Lib.run_neq_ptr_same w _ Tryd.underlying81 HJ.out]
  go_wp2_with fail
  go_end0
  exact ⟨rfl, rfl⟩
set_option maxHeartbeats 1000000 in
theorem copyCheck_fresh (b : Nat) (w : World) (h0 : w.cell? ⟨b, 0, none⟩ = some (.pointer none)) (hsh : w.shape? b = some (95, 2)) (hfz : w.frozen? ⟨b, 0, none⟩ = false) :
    Calls Tryd.prog 109 #[.pointer (some ⟨b, 0, none⟩)] w fun e w' => e = .returned (.tuple #[]) ∧ w' = w.setCell ⟨b, 0, none⟩ (.pointer (some ⟨b, 0, none⟩)) := by
  obtain ⟨j, hj, hjs⟩ := Option.map_eq_some_iff.1 infoBld
  have HJ := Lib.hid hj
  have HJS := Lib.hid hjs
  have HSH := Lib.hid hsh
  clear hj hjs hsh
  go_enter Tryd.func109, Tryd.ntmps109
  go_wp2_with fail
  rw [Lib.run_to_unsafe w ⟨b, 0, none⟩ Tryd.underlying81 Tryd.underlying126 HJ.out (by rw [HJS.out]; decide) HSH.out (Nat.zero_lt_succ 1)]
  simp only [Result.andThen]
  rw [Oper.upon_value]
  go_wp2_with fail
  rw [run_callFunc_extern Tryd.func124 (by kernel_rfl) (by kernel_rfl) (by kernel_rfl) (e := Extern.AbiNoEscape.same) (by kernel_rfl)]
  rw [Lib.run_noEscape]
  simp only [Result.andThen]
  rw [Oper.upon_value]
  go_wp2_with fail
  rw [Lib.run_from_unsafe w ⟨b, 0, none⟩ Tryd.underlying126 Tryd.underlying81 HJ.out HSH.out liesBld]
  simp only [Result.andThen]
  rw [Oper.upon_value]
  go_wp2_with fail
  go_end0
  exact ⟨rfl, rfl⟩
theorem copyCheck_any {b : Nat} {L : List UInt8} {w : World} (h : Bld b L w) :
    Calls Tryd.prog 109 #[.pointer (some ⟨b, 0, none⟩)] w fun e w' => e = .returned (.tuple #[]) ∧ BldU b L w' ∧ Fr b w w' := by
  rcases h with h | h
  · refine (copyCheck_fresh b w h.cell0 h.shape h.frozen0).mono ?_
    rintro e w' ⟨rfl, rfl⟩
    exact ⟨rfl, h.used _, (Fr.refl b w).set 0 _⟩
  · refine (copyCheck_used b w h.cell0).mono ?_
    rintro e w' ⟨rfl, rfl⟩
    exact ⟨rfl, h, Fr.refl b _⟩
set_option maxHeartbeats 1000000 in
theorem builder_Len {b : Nat} {L : List UInt8} {w : World} (h : Bld b L w) (n : Nat) (hn : L.length = n) :
    Calls Tryd.prog 89 #[.pointer (some ⟨b, 0, none⟩)] w fun e w' => e = .returned (.int .i64 n) ∧ w' = w := by
  subst hn
  obtain ⟨p, v, hbk, hown, hne⟩ := bld_parts h
  obtain ⟨ao, cap, rfl⟩ : ∃ ao cap, v = .slice ao L.length cap := by
    rcases hown.2 with ⟨hv, h0⟩ | ⟨g, cap, cur, hv, _⟩
    · exact ⟨none, 0, by rw [hv, h0]⟩
    · exact ⟨_, _, hv⟩
  have c1 : w.cell? ⟨b, 1, none⟩ = some (.slice ao L.length cap) := by rw [Lib.cell_of_heap hbk]; rfl
  clear h hbk hown hne
  go_enter Tryd.func89, Tryd.ntmps89
  go_wp2_with fail
  go_ret
  exact ⟨rfl, rfl⟩
set_option maxHeartbeats 2000000 in
theorem builder_WriteByte {b : Nat} {L : List UInt8} {w : World} (h : Bld b L w) (c : UInt8) (z : Int) (hz : z = c.toNat) (hlen : L.length ≤ 1000000000) (hbw : b ≤ w.heap.size) :
    Calls Tryd.prog 90 #[.pointer (some ⟨b, 0, none⟩), .int .u8 z] w fun e w' => e = .returned .nilIface ∧ Bld b (L ++ [c]) w' ∧ Fr b w w' := by
  subst hz
  obtain ⟨i0, hi, hz0, hz1, hz2⟩ := info_parts infoU8
  have HI := Lib.hid hi
  have H := Lib.hid h
  clear hi h
  go_enter Tryd.func90, Tryd.ntmps90
  go_wp2_with fail
  refine (copyCheck_any H.out).mono ?_
  rintro e w1 ⟨rfl, h1, hb1⟩
  have HF1 := Lib.hid hb1
  obtain ⟨hB, v, hbk, hown, hne⟩ := h1
  rw [Lib.byteCells_length] at hown
  have HOWN := Lib.hid hown
  have HBK := Lib.hid hbk
  have c0 : w1.cell? ⟨b, 0, none⟩ = some (.pointer (some ⟨b, 0, none⟩)) := by rw [Lib.cell_of_heap hbk]; rfl
  have c1 : w1.cell? ⟨b, 1, none⟩ = some v := by rw [Lib.cell_of_heap hbk]; rfl
  clear hbk hown hb1
  go_wp2_with (at_builtin; refine wpList_append_own _ rfl _ _ 82 rfl b 5 i0 (.int .u8 0) 1 1 Tryd.underlying82 HI.out hz0 hz1 hz2 rfl (by decide) _ _ _ rfl (HOWN.out.alloc _) ⟨w1.heap.size, 0, none⟩ 1 1 [.int .u8 c.toNat] rfl rfl ?c1 ?c2 ?c3 ?c4 ?c5 ?_)
  case c1 =>
    intro j u hj
    match j, hj with
    | 0, hj => simp at hj; subst hj; simp [Addr.add]
  case c2 => intro u hu; simp at hu; subst hu; rfl
  case c3 => unfold maxLen; omega
  case c4 => omega
  case c5 => have := HF1.out.below.size; simp; omega
  intro v' w2 hown' hgrow _
  have HO2 := Lib.hid hown'
  have hb2 : w2.heap[b]? = some (.cells #[.pointer (some ⟨b, 0, none⟩), v] 95 (0, 0)) := by
    have hlt := (Array.getElem?_eq_some_iff.1 HBK.out).1
    rw [hgrow.block b (by simp; omega) (fun e => hne e.symm), Lib.alloc_old w1 _ b hlt]
    exact HBK.out
  have HF2 := Lib.hid ((HF1.out.alloc (by have := HF1.out.below.size; omega) (.cells #[.int .u8 c.toNat] 5)).grown hgrow (HOWN.out.alloc _) (by have := HF1.out.below.size; simp; omega))
  have HB2 := Lib.hid hb2
  have d0 : w2.cell? ⟨b, 0, none⟩ = some (.pointer (some ⟨b, 0, none⟩)) := by rw [Lib.cell_of_heap hb2]; rfl
  have d1 : w2.cell? ⟨b, 1, none⟩ = some v := by rw [Lib.cell_of_heap hb2]; rfl
  have f1 : w2.frozen? ⟨b, 1, none⟩ = false := Lib.frozen_of_heap hb2 1
  obtain ⟨g, cap, rfl⟩ : ∃ g cap, v' = .slice (some ⟨g, 0, none⟩) (L.length + 1) cap := by
    rcases hown'.2 with ⟨_, h0⟩ | ⟨g, cap, cur, hv, _⟩
    · omega
    · exact ⟨g, cap, hv⟩
  clear hown' hgrow hb2 c0 c1
  go_wp2_with fail
  go_ret
  refine ⟨rfl, .inr ?_, HF2.out.set 1 _⟩
  exact Lib.BuilderAt.put (T := 95) (e := 5) (Nat.le_refl _) HB2.out (bs' := Lib.byteCells (L ++ [c])) (by rw [Lib.byteCells_length]; rw [Lib.byteCells_append]; simpa [Lib.byteCells] using HO2.out) (by decide)
set_option maxHeartbeats 2000000 in
theorem builder_WriteString {b : Nat} {L : List UInt8} {w : World} (h : Bld b L w) (s : ByteArray) (hlen : L.length + s.size ≤ 1000000000) (hbw : b ≤ w.heap.size) :
    Calls Tryd.prog 83 #[.pointer (some ⟨b, 0, none⟩), .string s] w fun e w' => e = .returned (.tuple #[.int .i64 s.size, .nilIface]) ∧ Bld b (L ++ s.data.toList) w' ∧ Fr b w w' := by
  obtain ⟨i0, hi, hz0, hz1, hz2⟩ := info_parts infoU8
  have HI := Lib.hid hi
  have H := Lib.hid h
  clear hi h
  go_enter Tryd.func83, Tryd.ntmps83
  go_wp2_with fail
  refine (copyCheck_any H.out).mono ?_
  rintro e w1 ⟨rfl, h1, hb1⟩
  have HF1 := Lib.hid hb1
  obtain ⟨hB, v, hbk, hown, hne⟩ := h1
  rw [Lib.byteCells_length] at hown
  have HOWN := Lib.hid hown
  have HBK := Lib.hid hbk
  have c0 : w1.cell? ⟨b, 0, none⟩ = some (.pointer (some ⟨b, 0, none⟩)) := by rw [Lib.cell_of_heap hbk]; rfl
  have c1 : w1.cell? ⟨b, 1, none⟩ = some v := by rw [Lib.cell_of_heap hbk]; rfl
  clear hbk hown hb1
  go_wp2_with (at_builtin; refine Lib.wpList_append_own_string _ rfl _ _ 82 9 rfl b 5 i0 Tryd.underlying82 Tryd.underlying9 HI.out hz0 hz1 hz2 _ _ _ rfl HOWN.out s rfl ?c3 ?c4 ?c5 ?_)
  case c3 => unfold maxLen; omega
  case c4 => omega
  case c5 => have := HF1.out.below.size; omega
  intro v' w2 hown' hgrow _
  have HO2 := Lib.hid hown'
  have hb2 : w2.heap[b]? = some (.cells #[.pointer (some ⟨b, 0, none⟩), v] 95 (0, 0)) := by
    have hlt := (Array.getElem?_eq_some_iff.1 HBK.out).1
    rw [hgrow.block b hlt (fun e => hne e.symm)]
    exact HBK.out
  have HF2 := Lib.hid (HF1.out.grown hgrow HOWN.out (by have := HF1.out.below.size; omega))
  have HB2 := Lib.hid hb2
  have d0 : w2.cell? ⟨b, 0, none⟩ = some (.pointer (some ⟨b, 0, none⟩)) := by rw [Lib.cell_of_heap hb2]; rfl
  have d1 : w2.cell? ⟨b, 1, none⟩ = some v := by rw [Lib.cell_of_heap hb2]; rfl
  have f1 : w2.frozen? ⟨b, 1, none⟩ = false := Lib.frozen_of_heap hb2 1
  obtain ⟨ao, n', cap, rfl⟩ : ∃ ao n' cap, v' = .slice ao n' cap := by
    rcases hown'.2 with ⟨hv, _⟩ | ⟨g, cap, cur, hv, _⟩
    · exact ⟨_, _, _, hv⟩
    · exact ⟨_, _, _, hv⟩
  clear hown' hgrow hb2 c0 c1
  go_wp2_with fail
  go_ret2
  refine ⟨rfl, .inr ?_, HF2.out.set 1 _⟩
  exact Lib.BuilderAt.put (T := 95) (e := 5) (Nat.le_refl _) HB2.out (bs' := Lib.byteCells (L ++ s.data.toList)) (by rw [Lib.byteCells_length, Lib.byteCells_append]; simpa [Lib.strCells_eq] using HO2.out) (by decide)
set_option maxHeartbeats 1000000 in
/-- String of a builder that holds a byte -/
theorem builder_String {b : Nat} {L : List UInt8} {w : World} (h : Bld b L w) (h0 : L ≠ []) :
    Calls Tryd.prog 84 #[.pointer (some ⟨b, 0, none⟩)] w fun e w' => e = .returned (.string ⟨L.toArray⟩) ∧ Below b w w' := by
  obtain ⟨p, v, hbk, hown, hne⟩ := bld_parts h
  have hl0 : L.length ≠ 0 := by simpa using h0
  obtain ⟨g, cap, cur, rfl, hbg, hg, hnc, hcm, hcs, htake⟩ : ∃ g cap cur, v = .slice (some ⟨g, 0, none⟩) L.length cap ∧ b ≤ g ∧ w.heap[g]? = some (.cells cur 5 (0, 0)) ∧ L.length ≤ cap ∧ cap ≤ maxLen ∧ cur.size = cap * 1 ∧ cur.toList.take (L.length * 1) = Lib.byteCells L := by
    rcases hown.2 with ⟨_, hz⟩ | ⟨g, cap, cur, hv, r⟩
    · exact absurd hz hl0
    · exact ⟨g, cap, cur, hv, r⟩
  have c1 : w.drew.cell? ⟨b, 1, none⟩ = some (.slice (some ⟨g, 0, none⟩) L.length cap) := by
    have : w.drew.heap[b]? = some (.cells #[p, .slice (some ⟨g, 0, none⟩) L.length cap] 95 (0, 0)) := hbk
    rw [Lib.cell_of_heap this]; rfl
  have hSD : (Builtin.unsafeSliceData_ #[82] 113 #[.slice (some ⟨g, 0, none⟩) L.length cap]).run Tryd.prog w.drew = .ok (.pointer (some ⟨g, 0, none⟩)) w.drew :=
    Lib.run_unsafeSliceData_row _ _ _ _ _ _ (by omega)
  have hUS : (Builtin.unsafeString_ #[113, 3] 9 #[.pointer (some ⟨g, 0, none⟩), .int .i64 L.length]).run Tryd.prog w.drew = .ok (.string ⟨L.toArray⟩) (w.drew.freeze ⟨g, 0, none⟩ L.length) := by
    refine Lib.run_unsafeString_row w.drew 113 3 9 5 Tryd.underlying113 (by kernel_rfl) g cur.size (by have hg' : w.drew.heap[g]? = some (.cells cur 5 (0, 0)) := hg; simp [World.shape?, hg']) L h0 (by omega) (by unfold maxLen at hcm; omega) ?_
    intro j x hx
    have := hown.cells (g := g) rfl j (.int .u8 x.toNat) (by simp [Lib.byteCells, hx])
    exact this
  clear hbk hown hne hg hnc hcm hcs htake h h0 hl0
  have mixed : Tryd.prog.follows .mixedOrders = true := by kernel_rfl
  go_enter Tryd.func84, Tryd.ntmps84
  go_wp2_with fail
  go_region_o
  all_goals (go_wp2_with fail; go_ret; exact ⟨rfl, Lib.below_freeze (Below.drew (Below.refl b w)) (p := ⟨g, 0, none⟩) hbg _⟩)
end Go.Proofs.YtekhblomdlehhaaDoor
