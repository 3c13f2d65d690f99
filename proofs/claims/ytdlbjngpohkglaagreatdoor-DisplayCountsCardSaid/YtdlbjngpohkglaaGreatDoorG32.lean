/- Part 32 of the texts: Wk. -/
import Derived.Test.YtdlbjngpohkglaaGreatDoorG25
import Derived.Test.YtdlbjngpohkglaaGreatDoorG26
import Derived.Test.YtdlbjngpohkglaaGreatDoorG31
section
set_option linter.unusedVariables false
set_option maxRecDepth 100000
set_option linter.unusedSimpArgs false
namespace Go.Proofs.YtdlbjngpohkglaaGreatDoor
open Go.RowKit

/-- the row of the words between kids -/
def BtRow (W : World) (g : Nat) (v : Value) (p : Option Addr) (bt : List ByteArray) : Prop :=
  bt = [] ∨ ∃ b, p = some ⟨b, 0, none⟩ ∧ b < W.heap.size ∧ b ≠ g ∧ v.ownBlock ≠ some b ∧ RowE encS 1 W p bt
theorem BtRow.at {W W' : World} {g : Nat} {v v' : Value} {p : Option Addr} {bt : List ByteArray} (h : BtRow W g v p bt) (ht : Wrote g v v' W W') {j : Nat} {s : ByteArray} (hs : bt[j]? = some s) : ∃ b, p = some ⟨b, 0, none⟩ ∧ W'.cell? ⟨b, j, none⟩ = some (.string s) := by
  rcases h with h | ⟨b, hp, hb, hbg, hbv, hr⟩
  · subst h; simp at hs
  · subst hp
    obtain ⟨b', o, hp, hc⟩ := (hr.block (ht.block b hb hbg hbv) ht.size).str hs
    injection hp with hp
    injection hp with h1 h2
    subst h1
    subst h2
    exact ⟨_, rfl, by simpa using hc⟩
/-- a kid's copy, beside the writer and the node -/
structure KSt (w0 W1 : World) (v1 : Value) (g : Nat) (a : AH) (bX : Nat) (x : AH) (L : List ByteArray) (W : World) (v : Value) : Prop where
  st : DSt w0 W1 v1 g a L W v
  box : BoxA W bX x
  own : v.ownBlock ≠ some bX
  ne : bX ≠ g
theorem KSt.step {w0 W1 W W' : World} {v1 v v' : Value} {g bX : Nat} {a x : AH} {L L' : List ByteArray} (h : KSt w0 W1 v1 g a bX x L W v) (hg : w0.heap.size ≤ g) (hg1 : g < W1.heap.size) (hw : WrS g L' W' v') (ht : Wrote g v v' W W') : KSt w0 W1 v1 g a bX x L' W' v' := by
  have hlt := (Array.getElem?_eq_some_iff.1 h.box.blk).1
  refine ⟨h.st.step hg hg1 hw ht, ⟨?_⟩, ht.own _ hlt h.own, h.ne⟩
  rw [ht.block _ hlt h.ne h.own]
  exact h.box.blk
theorem KSt.new {w0 W1 W : World} {v1 v : Value} {g : Nat} {a : AH} {L : List ByteArray} (h : DSt w0 W1 v1 g a L W v) (hg1 : g < W1.heap.size) (x : AH) : KSt w0 W1 v1 g a W.heap.size x L (W.alloc (boxA x)) v :=
  ⟨h.below' ((Below.refl _ _).alloc (Nat.le_refl _) _), boxA_new _ _, fun e => by have := (h.wr.from _ e).2; omega, by have := h.wr.lt; omega⟩
theorem kidsTo_le (bt : List ByteArray) (ks : List (List ByteArray)) : ∀ i j, i ≤ j → (wordsP (kidsTo bt ks i)).length ≤ (wordsP (kidsTo bt ks j)).length := by
  intro i j h
  induction j with
  | zero => have : i = 0 := by omega
            subst this; exact Nat.le_refl _
  | succ j ih =>
    by_cases hij : i = j + 1
    · subst hij; exact Nat.le_refl _
    · have h1 := ih (by omega)
      rw [kidsTo, wordsP_app, List.length_append]
      omega
def TermAt (w0 : World) (g : Nat) (x : PA) : Prop := PutsAt w0 g 42 #[.pointer (some ⟨g, 0, none⟩), aggT x.head] (wordsP (piecesT x))
set_option maxHeartbeats 4000000 in
theorem kids_any {w0 : World} {g : Nat} (hE : DEnv w0 g) {a : AH} {l : List PA} (hN : NodeA w0 a l) (hf : ∀ x ∈ l, TermAt w0 g x) {bt : List ByteArray} (hbt : ∀ s ∈ bt, s.size < 4294967281) (p : Option Addr) (n c : Nat) (hn : bt.length = n) (hn2 : n ≤ 1000) (hle : l.length ≤ n + 1)
    {W : World} {v : Value} {L : List ByteArray} (hb : Below w0.heap.size w0 W) (hw : WrS g L W v) (hM : L.length + (wordsP (kidsP bt (l.map piecesT))).length ≤ 1000000000000) (hr : BtRow W g v p bt) :
    PutsTo g 77 #[.pointer (some ⟨g, 0, none⟩), aggT a, .slice p n c] (wordsP (kidsP bt (l.map piecesT))) L W v W := by
  have hR : RowTA w0 a.kp a.kn a.kc l := hN.rowT
  have HR := Lib.hid hR
  have hkl := hR.row.len
  have hmx := hR.row.max
  have HKL := Lib.hid hkl
  have HF := Lib.hid hf
  have HBT := Lib.hid hbt
  have HN := Lib.hid hn
  have HRB := Lib.hid hr
  have HE := Lib.hid hE
  have HG := Lib.hid hE.hg
  have HG1 := Lib.hid hw.lt
  have HM := Lib.hid hM
  have HD := Lib.hid (DSt.init hb hw a)
  have hle' : a.kn ≤ n + 1 := by omega
  clear hE hb hw hM hN hf hbt hr hR hn hkl hle
  show Calls _ _ _ _ _
  go_enter Tryz.func77, Tryz.ntmps77
  go_upto_region 1 with fail
  generalize hW0 : W.alloc (boxA a) = W0 at *
  clear hW0
  have c18 := HD.out.box.c 18 _ rfl
  go_wp2_with fail
  go_loopw [11] (fun i wr => ∃ (k : Nat) (v1 : Value), k ≤ a.kn ∧ i = .int .i64 k ∧ DSt w0 W v g a (L ++ wordsP (kidsTo bt (l.map piecesT) k)) wr v1) (fun i _ => a.kn - (intOf i).toNat)
  case atStart => exact ⟨0, _, by omega, rfl, by simpa [wordsP, kidsTo] using HD.out⟩
  case round =>
    obtain ⟨k, v1, hk, rfl, hd⟩ := hrel
    have HD := Lib.hid hd
    clear hd c18
    by_cases hlt : k < a.kn
    · obtain ⟨y, hx⟩ := HR.out.at (j := k) hlt
      obtain ⟨b, o, hbo, hbl, hcs⟩ := (HR.out.below HD.out.below).kid hx
      obtain ⟨x, m, hxe⟩ : ∃ x m, y = Rose.node x m := ⟨y.head, y.kids, Rose.eta y⟩
      subst hxe
      have HCS := Lib.hid (CellsA.c (show CellsA wr b (o + k * 19) x from hcs))
      rw [hbo]
      have HT := Lib.hid (show PutsAt w0 g 42 #[.pointer (some ⟨g, 0, none⟩), aggT x] (wordsP (piecesT (.node x m))) from HF.out _ (List.mem_of_getElem? hx))
      have hgd : (l.map piecesT).getD k [] = piecesT (.node x m) := by
        rw [List.getD_eq_getElem?_getD, List.getElem?_map, hx]; rfl
      have HTO : Hid (wordsP (kidsTo bt (l.map piecesT) (k + 1)) = wordsP (kidsTo bt (l.map piecesT) k) ++ (wordsP (betw bt k) ++ wordsP (piecesT (.node x m)))) := by
        show _ = _
        rw [kidsTo, wordsP_app, wordsP_app, hgd]
      have HSUM : Hid (L.length + ((wordsP (kidsTo bt (l.map piecesT) k)).length + ((wordsP (betw bt k)).length + (wordsP (piecesT (.node x m))).length)) ≤ 1000000000000) := by
        have h1 := HM.out
        have h2 := kidsTo_le bt (l.map piecesT) (k + 1) (l.map piecesT).length (by rw [List.length_map, HKL.out]; exact hlt)
        rw [HTO.out] at h2
        unfold kidsP at h1
        simp only [List.length_append] at h2
        show _ ≤ _
        omega
      clear hx hbl hcs hbo hgd
      have hal : (wr.alloc (.cells #[.int .u8 0, .int .u8 0, .int .i64 0, .int .i64 0, .string ⟨#[]⟩, .string ⟨#[]⟩, .string ⟨#[]⟩, .int .i64 0, .slice none 0 0, .slice none 0 0, .int .u8 0, .int .i64 0, .slice none 0 0, .slice none 0 0, .int .u8 0, .int .i64 0, .slice none 0 0, .slice none 0 0, .slice none 0 0] 31)).heap[wr.heap.size]? = some (.cells #[.int .u8 0, .int .u8 0, .int .i64 0, .int .i64 0, .string ⟨#[]⟩, .string ⟨#[]⟩, .string ⟨#[]⟩, .int .i64 0, .slice none 0 0, .slice none 0 0, .int .u8 0, .int .i64 0, .slice none 0 0, .slice none 0 0, .int .u8 0, .int .i64 0, .slice none 0 0, .slice none 0 0, .slice none 0 0] 31 (0, 0)) := heap_alloc_new wr _
      have HAL := Lib.hid hal
      clear hal
      have HK := Lib.hid (KSt.new HD.out HG1.out x)
      by_cases k0 : 0 < k
      · obtain ⟨j, hj⟩ : ∃ j, k = j + 1 := ⟨k - 1, by omega⟩
        have hkj : k - 1 = j := by omega
        have HKJ := Lib.hid hkj
        have hwr : IntKind.i64.wrap ((k : Int) - 1) = (j : Int) := by rw [show (k : Int) - 1 = (j : Int) by omega]; exact IntWalk.i64_in _ (by omega)
        have hj0 : (0 : Int) ≤ (j : Int) := by omega
        have hjn : (j : Int) < (n : Int) := by omega
        obtain ⟨s, hs⟩ := get_of_lt (l := bt) (j := j) (by rw [HN.out]; omega)
        clear hj hkj
        obtain ⟨bb, rfl, s0⟩ := HRB.out.at (HD.out.wrote.trans (Wrote.of_below ((Below.refl _ _).alloc (Nat.le_refl _) (boxA x)))) hs
        have s0 : (wr.alloc (.cells (encAH x).toArray 31)).cell? ⟨bb, j, none⟩ = some (.string s) := s0
        have hsz := HBT.out s (List.mem_of_getElem? hs)
        have hbtd : bt.getD j ⟨#[]⟩ = s := by rw [List.getD_eq_getElem?_getD, hs]; rfl
        by_cases hs0 : s.size = 0
        · have HBW : Hid (betw bt k = []) := by show _ = _; unfold betw; rw [if_neg (by rw [HKJ.out, hbtd]; omega)]
          have hs1 : s.toList.isEmpty = true := by rw [toList_empty]; simpa using hs0
          clear hs hbtd hs0
          go_wp2_with (first
            | (refine wpList_load_mid rfl 31 _ rfl b (o + k * 19) rfl (encAH x) _ HCS.out Tryz.underlying31 rfl (by kernel_rfl) ?_)
            | (refine wpList_store_row rfl 31 _ _ rfl wr.heap.size (encAH x).toArray rfl rfl 31 _ HAL.out (by kernel_rfl) rfl (all_oneCell_toArray (encAH_one x)) ?_; rw [World.setRow_alloc_new])
            | (refine wpList_load_row rfl 31 _ rfl wr.heap.size rfl 31 _ (0, 0) _ HK.out.box.blk Tryz.underlying31 rfl (by kernel_rfl) ?_)
            | (go_at_call 42; refine (HT.out _ _ _ HK.out.st.below HK.out.st.wr (by have := HSUM.out; simp only [List.length_append] at this ⊢; omega)).mono ?_; rintro e w8 ⟨rfl, v8, hw8, ht8⟩; have HK := Lib.hid (HK.out.step HG.out HG1.out hw8 ht8); clear hw8 ht8))
          go_roundw
          case rel => exact ⟨k + 1, _, by omega, by go_num, by rw [HTO.out, HBW.out, ← List.append_assoc]; simpa [wordsP] using HK.out.st⟩
          case measure => simp [intOf]; omega
        · have HBW : Hid (betw bt k = [s]) := by show _ = _; unfold betw; rw [HKJ.out, hbtd, if_pos ⟨k0, hs0⟩]
          have hs1 : s.toList.isEmpty = false := by rw [toList_empty]; simpa using hs0
          clear hs hbtd hs0
          go_wp2_with (first
            | (refine wpList_load_mid rfl 31 _ rfl b (o + k * 19) rfl (encAH x) _ HCS.out Tryz.underlying31 rfl (by kernel_rfl) ?_)
            | (refine wpList_store_row rfl 31 _ _ rfl wr.heap.size (encAH x).toArray rfl rfl 31 _ HAL.out (by kernel_rfl) rfl (all_oneCell_toArray (encAH_one x)) ?_; rw [World.setRow_alloc_new])
            | (refine wpList_load_row rfl 31 _ rfl wr.heap.size rfl 31 _ (0, 0) _ HK.out.box.blk Tryz.underlying31 rfl (by kernel_rfl) ?_)
            | (first | (go_at_call 57; refine (put_cs HE.out HK.out.st.below HK.out.st.wr 1 (by omega) _ (by simp [strsOf, strOf, encS]) rfl _ _ (by simp) (by intro s' hs'; rcases List.mem_cons.1 hs' with rfl | hs'; exact hsz; cases hs') (by have := HSUM.out; rw [HBW.out] at this; simp only [strsOf, strOf, List.map_cons, List.map_nil, List.length_append] at this ⊢; omega)).mono ?_; rintro e w8 ⟨rfl, v8, hw8, ht8⟩; have HK := Lib.hid (HK.out.step HG.out HG1.out hw8 ht8); clear hw8 ht8) | (go_at_call 42; refine (HT.out _ _ _ HK.out.st.below HK.out.st.wr (by have := HSUM.out; rw [HBW.out] at this; simp only [strsOf, strOf, List.map_cons, List.map_nil, List.length_append] at this ⊢; omega)).mono ?_; rintro e w8 ⟨rfl, v8, hw8, ht8⟩; have HK := Lib.hid (HK.out.step HG.out HG1.out hw8 ht8); clear hw8 ht8)))
          go_roundw
          case rel => exact ⟨k + 1, _, by omega, by go_num, by rw [HTO.out, HBW.out]; simpa [List.append_assoc, strsOf, strOf] using HK.out.st⟩
          case measure => simp [intOf]; omega
      · have HBW : Hid (betw bt k = []) := by show _ = _; unfold betw; rw [if_neg (by omega)]
        go_wp2_with (first
          | (refine wpList_load_mid rfl 31 _ rfl b (o + k * 19) rfl (encAH x) _ HCS.out Tryz.underlying31 rfl (by kernel_rfl) ?_)
          | (refine wpList_store_row rfl 31 _ _ rfl wr.heap.size (encAH x).toArray rfl rfl 31 _ HAL.out (by kernel_rfl) rfl (all_oneCell_toArray (encAH_one x)) ?_; rw [World.setRow_alloc_new])
          | (refine wpList_load_row rfl 31 _ rfl wr.heap.size rfl 31 _ (0, 0) _ HK.out.box.blk Tryz.underlying31 rfl (by kernel_rfl) ?_)
          | (go_at_call 42; refine (HT.out _ _ _ HK.out.st.below HK.out.st.wr (by have := HSUM.out; simp only [List.length_append] at this ⊢; omega)).mono ?_; rintro e w8 ⟨rfl, v8, hw8, ht8⟩; have HK := Lib.hid (HK.out.step HG.out HG1.out hw8 ht8); clear hw8 ht8))
        go_roundw
        case rel => exact ⟨k + 1, _, by omega, by go_num, by rw [HTO.out, HBW.out, ← List.append_assoc]; simpa [wordsP] using HK.out.st⟩
        case measure => simp [intOf]; omega
    · have hkn : k = a.kn := by omega
      have hfull : kidsTo bt (l.map piecesT) k = kidsP bt (l.map piecesT) := by unfold kidsP; rw [List.length_map, HKL.out, hkn]
      rw [hfull] at HD
      go_wp2_with fail
      go_end0
      exact ⟨rfl, _, HD.out.wr, HD.out.wrote⟩
end Go.Proofs.YtdlbjngpohkglaaGreatDoor
end
