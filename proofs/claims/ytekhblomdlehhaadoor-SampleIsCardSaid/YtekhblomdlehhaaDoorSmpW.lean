/- The samples' functions: put, num, of, Chain .. Grow. -/
import Derived.Test.YtekhblomdlehhaaDoorBld
import Derived.Test.YtekhblomdlehhaaDoorSmpP
import Derived.Test.YtekhblomdlehhaaDoorEff14
set_option linter.unusedVariables false
set_option maxRecDepth 100000
set_option linter.unusedSimpArgs false
namespace Go.Proofs.YtekhblomdlehhaaDoor
open Go.RowKit Go.Sort Go.Lib

def wsum (l : List ByteArray) : Nat := (l.map (fun s => s.size + 1)).sum
theorem wsum_take {l : List ByteArray} {k : Nat} {x : ByteArray} (h : l[k]? = some x) : wsum (l.take k) + (x.size + 1) ≤ wsum l := by
  have e : wsum (l.take (k + 1)) = wsum (l.take k) + (x.size + 1) := by unfold wsum; rw [take_succ_get h]; simp
  have : ∀ (m : Nat) (l : List ByteArray), wsum (l.take m) ≤ wsum l := by
    intro m
    induction m with
    | zero => intro l; simp [wsum]
    | succ m ih => intro l; cases l with
      | nil => simp
      | cons y l => have := ih l; simp only [wsum, List.take_succ_cons, List.map_cons, List.sum_cons] at this ⊢; omega
  have := this (k + 1) l
  omega
theorem putL_le (L : List UInt8) : ∀ l : List ByteArray, (putL L l).length ≤ L.length + wsum l := by
  intro l
  induction l generalizing L with
  | nil => simp [putL, wsum]
  | cons s l ih =>
    have h1 := ih (putS L s)
    have h2 := putS_le L s
    simp only [putL, List.foldl_cons, wsum, List.map_cons, List.sum_cons] at h1 ⊢
    omega
theorem len_wsum : ∀ l : List ByteArray, l.length ≤ wsum l
  | [] => by simp
  | x :: l => by have := len_wsum l; simp only [wsum, List.length_cons, List.map_cons, List.sum_cons] at this ⊢; omega
theorem wsum1 (a : ByteArray) : wsum [a] = a.size + 1 := by simp [wsum]
theorem wsum2 (a b : ByteArray) : wsum [a, b] = a.size + b.size + 2 := by simp [wsum]; omega
theorem wsum3 (a b c : ByteArray) : wsum [a, b, c] = a.size + b.size + c.size + 3 := by simp [wsum]; omega
theorem Bld.below {b : Nat} {L : List UInt8} {w w' : World} (h : Bld b L w) (hb : Below w.heap.size w w') : Bld b L w' := by
  have key : ∀ p, Lib.BuilderAt 95 5 b b p (Lib.byteCells L) w → Lib.BuilderAt 95 5 b b p (Lib.byteCells L) w' := by
    rintro p ⟨hB, v, h1, h2, h3⟩
    refine ⟨hB, v, by rw [hb.block b (Array.getElem?_eq_some_iff.1 h1).1]; exact h1, ⟨h2.1, ?_⟩, h3⟩
    rcases h2.2 with hn | ⟨g, cap, cur, hv, hg', hgg, rest⟩
    · exact .inl hn
    · exact .inr ⟨g, cap, cur, hv, hg', by rw [hb.block g (Array.getElem?_eq_some_iff.1 hgg).1]; exact hgg, rest⟩
  exact h.imp (key _) (key _)
theorem Bld.alloc {b : Nat} {L : List UInt8} {w : World} (h : Bld b L w) (o : Obj) : Bld b L (w.alloc o) := Bld.below h ((Below.refl _ _).alloc (Nat.le_refl _) _)
set_option maxHeartbeats 2000000 in
theorem sample_put_any {b r : Nat} {L : List UInt8} {w : World} (h : Bld b L w) (l : List ByteArray) (n : Nat) (hn : l.length = n) (hr : w.heap[r]? = some (.cells (l.map Value.string).toArray 9 (0, 0))) (hs : L.length + wsum l ≤ 1000000) (hbw : b ≤ w.heap.size) :
    Calls Tryd.prog 65 #[.pointer (some ⟨b, 0, none⟩), .slice (some ⟨r, 0, none⟩) n n] w fun e w' => e = .returned (.pointer (some ⟨b, 0, none⟩)) ∧ Bld b (putL L l) w' ∧ Fr b w w' := by
  have hrb : r ≠ b := by
    rintro rfl
    obtain ⟨p, v, h1, _⟩ := bld_parts h
    rw [h1] at hr
    have := (Option.some.inj hr)
    injection this with _ h2
    exact absurd h2 (by decide)
  have hnm : n ≤ 1000000 := by have := len_wsum l; omega
  have HR := Lib.hid hr
  have HRB := Lib.hid hrb
  have HB := Lib.hid h
  have HS := Lib.hid hs
  have HBW := Lib.hid hbw
  have HN := Lib.hid hn
  clear hr hrb h hs hbw hn
  go_enter Tryd.func65, Tryd.ntmps65
  go_wp2_with fail
  go_loopw [9] (fun i wr => ∃ k : Nat, k ≤ n ∧ i = .int .i64 k ∧ Bld b (putL L (l.take k)) wr ∧ Fr b w wr) (fun i _ => n - (intOf i).toNat)
  case atStart => exact ⟨0, by omega, rfl, by simpa [putL] using HB.out, Fr.refl _ _⟩
  case round =>
    obtain ⟨k, hk, rfl, hbd, hf⟩ := hrel
    have HBD := Lib.hid hbd
    have HF := Lib.hid hf
    clear hbd hf
    by_cases hlt : k < n
    · obtain ⟨x, hx⟩ := get_of_lt (l := l) (j := k) (by rw [HN.out]; exact hlt)
      have HX := Lib.hid hx
      have hcell : wr.cell? ⟨r, k, none⟩ = some (.string x) := by
        rw [Lib.cell_of_heap (HF.out.keep r _ _ _ HRB.out HR.out (by decide))]
        simp [hx]
      have HLE := Lib.hid (show (putL L (l.take k)).length + (x.size + 1) ≤ 1000000 by
        have h1 := putL_le L (l.take k)
        have h2 := wsum_take hx
        have := HS.out
        omega)
      have HW := Lib.hid (Nat.le_trans HBW.out HF.out.below.size)
      clear hx
      by_cases h0 : putL L (l.take k) = []
      · have H0 := Lib.hid h0
        clear h0
        go_wp2_with fail
        refine (builder_Len HBD.out 0 (by rw [H0.out]; rfl)).mono ?_
        rintro e w1 ⟨rfl, rfl⟩
        go_wp2_with fail
        refine (builder_WriteString HBD.out x (by have := HLE.out; omega) HW.out).mono ?_
        rintro e w2 ⟨rfl, hb2, hf2⟩
        have HB2 : Hid (Bld b (putL L (l.take (k + 1))) w2) := by show Bld b _ _; rw [putL_take HX.out]; unfold putS; rw [if_pos H0.out]; rw [H0.out] at hb2; exact hb2
        have HF2 := Lib.hid (HF.out.trans hf2)
        clear hb2 hf2 hcell
        go_wp2_with fail
        go_roundw
        case rel => exact ⟨k + 1, by omega, by go_num, HB2.out, HF2.out⟩
        case measure => simp [intOf]; omega
      · have H0 := Lib.hid h0
        have hlen : 0 < (putL L (l.take k)).length := List.length_pos_iff.2 h0
        generalize hlz : (putL L (l.take k)).length = z at hlen
        have HLZ := Lib.hid hlz
        clear h0 hlz
        go_wp2_with fail
        refine (builder_Len HBD.out z HLZ.out).mono ?_
        rintro e w1 ⟨rfl, rfl⟩
        go_wp2_with fail
        refine (builder_WriteByte HBD.out 32 32 rfl (by have := HLE.out; omega) HW.out).mono ?_
        rintro e w2 ⟨rfl, hb2, hf2⟩
        have HB2 := Lib.hid hb2
        have HF2 := Lib.hid (HF.out.trans hf2)
        have hcell2 : w2.cell? ⟨r, k, none⟩ = some (.string x) := by
          rw [Lib.cell_of_heap (HF2.out.keep r _ _ _ HRB.out HR.out (by decide))]
          simp [HX.out]
        clear hb2 hf2 hcell
        go_wp2_with fail
        refine (builder_WriteString HB2.out x (by have := HLE.out; simp; omega) (Nat.le_trans HBW.out HF2.out.below.size)).mono ?_
        rintro e w3 ⟨rfl, hb3, hf3⟩
        have HB3 : Hid (Bld b (putL L (l.take (k + 1))) w3) := by show Bld b _ _; rw [putL_take HX.out, putS_ne H0.out]; exact hb3
        have HF3 := Lib.hid (HF2.out.trans hf3)
        clear hb3 hf3 hcell2
        go_wp2_with fail
        go_roundw
        case rel => exact ⟨k + 1, by omega, by go_num, HB3.out, HF3.out⟩
        case measure => simp [intOf]; omega
    · have hkn : k = n := by omega
      subst hkn
      have h := HBD.out
      rw [take_full (by rw [HN.out]; exact Nat.le_refl _)] at h
      have HD := Lib.hid h
      clear h
      go_wp2_with fail
      go_ret
      exact ⟨rfl, HD.out, HF.out⟩

set_option maxHeartbeats 1000000 in
theorem sample_num_any (r : Int) (h0 : -9223372036854775808 ≤ r) (h1 : r ≤ 9223372036854775807) (w : World) (ht : Tab w) :
    Calls Tryd.prog 66 #[.int .i64 r] w fun e w' => e = .returned (.string (decB r)) ∧ Below w.heap.size w w' := by
  have HT := Lib.hid ht
  clear ht
  go_enter Tryd.func66, Tryd.ntmps66
  go_wp2_with fail
  refine (digits_any r h0 h1 _ HT.out).mono ?_
  rintro e w1 ⟨rfl, hb⟩
  have HB := Lib.hid hb
  clear hb
  go_wp2_with fail
  go_ret
  exact ⟨rfl, HB.out⟩
/-- the closure puts S into a new builder -/
def PutTo (fid : FuncId) (caps : Array Value) (w0 : World) (S : List UInt8) : Prop :=
  ∀ b W, w0.heap.size ≤ b → b ≤ W.heap.size → Below w0.heap.size w0 W → Bld b [] W → Calls Tryd.prog fid (#[.pointer (some ⟨b, 0, none⟩)] ++ caps) W fun e w' => e = .returned (.tuple #[]) ∧ Bld b S w' ∧ Below b W w'

/-- what of answers -/
def ofV (n : Int) (S : List UInt8) : Value := if 1 ≤ n ∧ n ≤ 300 then .tuple #[.string ⟨S.toArray⟩, .int .i64 0] else .tuple #[.string .empty, .int .i64 1]
theorem ret_val {a b : Value} (h : a = b) : Ending.returned a = .returned b := by rw [h]
set_option maxHeartbeats 1000000 in
theorem sample_of_any (fid : FuncId) (caps : Array Value) (hent : Enters fid) (n : Int) (w : World) (S : List UInt8) (hS : S ≠ []) (hput : 1 ≤ n ∧ n ≤ 300 → PutTo fid caps w S) :
    Calls Tryd.prog 63 #[.int .i64 n, .func (.func fid) #[] caps] w fun e w' => e = .returned (ofV n S) ∧ Below w.heap.size w w' := by
  have HP := Lib.hid hput
  have HS := Lib.hid hS
  have hent' := hent
  unfold Enters at hent'
  clear hput hS
  by_cases h1 : n < 1
  · have HV : Hid (ofV n S = .tuple #[.string .empty, .int .i64 1]) := by show _ = _; unfold ofV; rw [if_neg (by omega)]
    go_enter Tryd.func63, Tryd.ntmps63
    go_wp2_with fail
    go_ret2
    refine ⟨?_, Below.refl _ _⟩
    rw [HV.out]; rfl
  by_cases h2 : 300 < n
  · have HV : Hid (ofV n S = .tuple #[.string .empty, .int .i64 1]) := by show _ = _; unfold ofV; rw [if_neg (by omega)]
    go_enter Tryd.func63, Tryd.ntmps63
    go_wp2_with fail
    go_ret2
    refine ⟨?_, Below.refl _ _⟩
    rw [HV.out]; rfl
  · have HV : Hid (ofV n S = .tuple #[.string ⟨S.toArray⟩, .int .i64 0]) := by show _ = _; unfold ofV; rw [if_pos (by omega)]
    have HIN : Hid (1 ≤ n ∧ n ≤ 300) := by show _ ∧ _; omega
    have HFR := Lib.hid (show Bld w.heap.size [] (w.alloc (.cells #[.pointer none, .slice none 0 0] 95)) from Lib.fresh_isBuilder 95 5 w)
    have HBA := Lib.hid ((Below.refl w.heap.size w).alloc (Nat.le_refl _) (.cells #[.pointer none, .slice none 0 0] 95))
    go_enter Tryd.func63, Tryd.ntmps63
    go_wp2_with fail
    refine Calls.mono (HP.out HIN.out w.heap.size _ (Nat.le_refl _) (by simp) HBA.out HFR.out) ?_
    rintro e w1 ⟨rfl, hbd, hb⟩
    have HBD := Lib.hid hbd
    have HB1 := Lib.hid (HBA.out.trans hb)
    clear hbd hb
    go_wp2_with fail
    refine (builder_String HBD.out HS.out).mono ?_
    rintro e w2 ⟨rfl, hb⟩
    have HB2 := Lib.hid (HB1.out.trans hb)
    clear hb
    go_wp2_with fail
    go_ret2
    refine ⟨?_, HB2.out⟩
    rw [HV.out]; rfl

/-- n lies in a box, ahead of the builder -/
structure Boxed (w0 : World) (nb N : Nat) : Prop where
  cell : w0.cell? ⟨nb, 0, none⟩ = some (.int .i64 N)
  le : N ≤ 300
  tab : Tab w0
theorem sz_fst : cFst.size = 5 := rfl
theorem sz_end : cEnd.size = 5 := rfl
theorem sz_plus : cPlus.size = 1 := rfl
theorem sz_one : cOne.size = 1 := rfl
theorem sz_nil : cNil.size = 1 := rfl
theorem sz_let0 : cLet0.size = 12 := rfl
theorem sz_let1 : cLet1.size = 20 := rfl
theorem sz_count : cCount.size = 54 := rfl
theorem sz_throw : cThrow.size = 74 := rfl
theorem sz_with : cWith.size = 13 := rfl
theorem sz_esc : cEsc.size = 66 := rfl
set_option maxHeartbeats 2000000 in
theorem chain_put {w0 : World} {nb N : Nat} (hx : Boxed w0 nb N) : PutTo 64 #[.pointer (some ⟨nb, 0, none⟩)] w0 (chainL N) := by
  intro b W hb0 hbW hB0 hbd
  have hle := hx.le
  have HT := Lib.hid hx.tab
  have HC := Lib.hid hx.cell
  have HNB : Hid (nb < w0.heap.size) := cell_block hx.cell
  have HB0 := Lib.hid hB0
  have HBD0 := Lib.hid hbd
  have H0 := Lib.hid hb0
  have HW := Lib.hid hbW
  have hc : W.cell? ⟨nb, 0, none⟩ = some (.int .i64 N) := by rw [hB0.cell HNB.out]; exact hx.cell
  clear hx hB0 hbd hb0 hbW
  show Calls _ _ #[.pointer (some ⟨b, 0, none⟩), .pointer (some ⟨nb, 0, none⟩)] W _
  go_enter Tryd.func64, Tryd.ntmps64
  go_wp2_with fail
  clear hc
  go_loopw [5] (fun i wr => ∃ k : Nat, k ≤ N ∧ i = .int .i64 k ∧ Bld b (chainL k) wr ∧ Below b W wr) (fun i _ => N - (intOf i).toNat)
  case atStart => exact ⟨0, by omega, rfl, HBD0.out, Below.refl _ _⟩
  case round =>
    obtain ⟨k, hk, rfl, hbd, hb⟩ := hrel
    have HSZ := Lib.hid (chainL_le k (by omega))
    have HDS := Lib.hid (decB_size ((k : Int) + 1) (by omega) (by omega))
    have HBD := Lib.hid hbd
    have HB := Lib.hid hb
    clear hbd hb
    by_cases hlt : k < N
    · by_cases hk0 : k = 0
      · subst hk0
        go_wp2_with fail
        refine (sample_num_any 1 (by omega) (by omega) _ (HT.out.below (HB0.out.trans (HB.out.mono H0.out)))).mono ?_
        rintro e w1 ⟨rfl, hb⟩
        have HB1 := Lib.hid (HB.out.trans (hb.mono (Nat.le_trans HW.out HB.out.size)))
        have HD1 := Lib.hid (HBD.out.below hb)
        have hd : (decB 1).size ≤ 21 := decB_size 1 (by omega) (by omega)
        clear hb
        go_wp2_with fail
        refine (sample_put_any (HD1.out.alloc _) [cFst, decB 1, cEnd] 3 rfl (heap_alloc_new _ _) (by rw [wsum3, sz_fst, sz_end]; simp [chainL]; omega) (by have := HB1.out.size; have := HW.out; simp; omega)).mono ?_
        rintro e w2 ⟨rfl, hbd, hf⟩
        have HB2 := Lib.hid ((HB1.out.alloc (Nat.le_trans HW.out HB1.out.size) _).trans hf.below)
        have HD2 : Hid (Bld b (chainL 1) w2) := by show Bld _ _ _; rw [← chain_first]; exact hbd
        clear hbd hf
        go_wp2_with fail
        go_roundw
        case rel => exact ⟨1, by omega, by go_num, HD2.out, HB2.out⟩
        case measure => simp [intOf]; omega
      · have hkp : 0 < k := by omega
        go_wp2_with fail
        refine (sample_put_any (HBD.out.alloc _) [cPlus] 1 rfl (heap_alloc_new _ _) (by rw [wsum1, sz_plus]; have := HSZ.out; omega) (by have := HB.out.size; have := HW.out; simp; omega)).mono ?_
        rintro e w1 ⟨rfl, hbd, hf⟩
        have HB1 := Lib.hid ((HB.out.alloc (Nat.le_trans HW.out HB.out.size) _).trans hf.below)
        have HD1 := Lib.hid hbd
        clear hbd hf
        go_wp2_with fail
        refine (sample_num_any ((k : Int) + 1) (by omega) (by omega) _ (HT.out.below (HB0.out.trans (HB1.out.mono H0.out)))).mono ?_
        rintro e w2 ⟨rfl, hb⟩
        have HB2 := Lib.hid (HB1.out.trans (hb.mono (Nat.le_trans HW.out HB1.out.size)))
        have HD2 := Lib.hid (HD1.out.below hb)
        have hd : (decB ((k : Int) + 1)).size ≤ 21 := HDS.out
        clear hb
        go_wp2_with fail
        refine (sample_put_any (HD2.out.alloc _) [cFst, decB ((k : Int) + 1), cEnd] 3 rfl (heap_alloc_new _ _) (by rw [wsum3, sz_fst, sz_end]; have h1 := putL_le (chainL k) [cPlus]; rw [wsum1, sz_plus] at h1; have := HSZ.out; omega) (by have := HB2.out.size; have := HW.out; simp; omega)).mono ?_
        rintro e w3 ⟨rfl, hbd, hf⟩
        have HB3 := Lib.hid ((HB2.out.alloc (Nat.le_trans HW.out HB2.out.size) _).trans hf.below)
        have HD3 : Hid (Bld b (chainL (k + 1)) w3) := by show Bld _ _ _; rw [← chain_next hkp]; exact hbd
        clear hbd hf
        go_wp2_with fail
        go_roundw
        case rel => exact ⟨k + 1, by omega, by go_num, HD3.out, HB3.out⟩
        case measure => simp [intOf]; omega
    · have hkn : k = N := by omega
      subst hkn
      go_wp2_with fail
      go_end0
      exact ⟨rfl, HBD.out, HB.out⟩

set_option maxHeartbeats 2000000 in
theorem deep_put {w0 : World} {nb N : Nat} (hx : Boxed w0 nb N) (hN : 0 < N) : PutTo 67 #[.pointer (some ⟨nb, 0, none⟩)] w0 (downL N N) := by
  intro b W hb0 hbW hB0 hbd
  have hle := hx.le
  have HT := Lib.hid hx.tab
  have HNB : Hid (nb < w0.heap.size) := cell_block hx.cell
  have HB0 := Lib.hid hB0
  have HBD0 := Lib.hid hbd
  have H0 := Lib.hid hb0
  have HW := Lib.hid hbW
  have HC : Hid (∀ wr, Below b W wr → wr.cell? ⟨nb, 0, none⟩ = some (.int .i64 N)) := fun wr h => by rw [(hB0.trans (h.mono hb0)).cell HNB.out]; exact hx.cell
  have hc := HC.out W (Below.refl _ _)
  clear hx hB0 hbd hb0 hbW
  show Calls _ _ #[.pointer (some ⟨b, 0, none⟩), .pointer (some ⟨nb, 0, none⟩)] W _
  go_enter Tryd.func67, Tryd.ntmps67
  go_wp2_with fail
  clear hc
  go_loopw [4] (fun i wr => ∃ k : Nat, k ≤ N ∧ i = .int .i64 k ∧ Bld b (upL k) wr ∧ Below b W wr) (fun i _ => N - (intOf i).toNat)
  case atStart => exact ⟨0, by omega, rfl, HBD0.out, Below.refl _ _⟩
  case round =>
    obtain ⟨k, hk, rfl, hbd, hb⟩ := hrel
    have HSZ := Lib.hid (upL_le k)
    have HBD := Lib.hid hbd
    have HB := Lib.hid hb
    clear hbd hb
    by_cases hlt : k < N
    · go_wp2_with fail
      refine (sample_put_any (HBD.out.alloc _) [cFst] 1 rfl (heap_alloc_new _ _) (by rw [wsum1, sz_fst]; have := HSZ.out; omega) (by have := HB.out.size; have := HW.out; simp; omega)).mono ?_
      rintro e w1 ⟨rfl, hbd, hf⟩
      have HB1 := Lib.hid ((HB.out.alloc (Nat.le_trans HW.out HB.out.size) _).trans hf.below)
      have HD1 : Hid (Bld b (upL (k + 1)) w1) := by show Bld _ _ _; exact ((show putL (upL k) [cFst] = upL (k + 1) from rfl) ▸ hbd)
      clear hbd hf
      go_wp2_with fail
      go_roundw
      case rel => exact ⟨k + 1, by omega, by go_num, HD1.out, HB1.out⟩
      case measure => simp [intOf]; omega
    · have hkn : k = N := by omega
      subst hkn
      go_wp2_with fail
      refine (sample_put_any (HBD.out.alloc _) [cOne] 1 rfl (heap_alloc_new _ _) (by rw [wsum1, sz_one]; have := HSZ.out; omega) (by have := HB.out.size; have := HW.out; simp; omega)).mono ?_
      rintro e w1 ⟨rfl, hbd, hf⟩
      have HB1 := Lib.hid ((HB.out.alloc (Nat.le_trans HW.out HB.out.size) _).trans hf.below)
      have HD1 : Hid (Bld b (downL k 0) w1) := by show Bld _ _ _; exact (down_first hN ▸ hbd)
      have HW1 := Lib.hid (Nat.le_trans HW.out HB1.out.size)
      clear hbd hf HSZ
      have hc1 := HC.out _ HB1.out
      go_wp2_with fail
      clear hc1
      go_loopw [14] (fun i wr => ∃ j : Nat, j ≤ k ∧ i = .int .i64 j ∧ Bld b (downL k j) wr ∧ Below b w1 wr) (fun i _ => k - (intOf i).toNat)
      case atStart => exact ⟨0, by omega, rfl, HD1.out, Below.refl _ _⟩
      case round =>
        obtain ⟨j, hj, rfl, hbd, hb⟩ := hrel
        have HSZ := Lib.hid (downL_le k j)
        have HBD2 := Lib.hid hbd
        have HB2 := Lib.hid hb
        clear hbd hb
        by_cases hlt : j < k
        · go_wp2_with fail
          refine (sample_put_any (HBD2.out.alloc _) [cEnd] 1 rfl (heap_alloc_new _ _) (by rw [wsum1, sz_end]; have := HSZ.out; omega) (by have := HB2.out.size; have := HW1.out; simp; omega)).mono ?_
          rintro e w2 ⟨rfl, hbd, hf⟩
          have HB3 := Lib.hid ((HB2.out.alloc (Nat.le_trans HW1.out HB2.out.size) _).trans hf.below)
          have HD3 : Hid (Bld b (downL k (j + 1)) w2) := by show Bld _ _ _; exact (down_next k j ▸ hbd)
          clear hbd hf
          go_wp2_with fail
          go_roundw
          case rel => exact ⟨j + 1, by omega, by go_num, HD3.out, HB3.out⟩
          case measure => simp [intOf]; omega
        · have hjn : j = k := by omega
          subst hjn
          go_wp2_with fail
          go_end0
          exact ⟨rfl, HBD2.out, HB1.out.trans HB2.out⟩
set_option maxHeartbeats 2000000 in
theorem grow_put {w0 : World} {nb N : Nat} (hx : Boxed w0 nb N) : PutTo 71 #[.pointer (some ⟨nb, 0, none⟩)] w0 (growZ N) := by
  intro b W hb0 hbW hB0 hbd
  have hle := hx.le
  have HT := Lib.hid hx.tab
  have HNB : Hid (nb < w0.heap.size) := cell_block hx.cell
  have HB0 := Lib.hid hB0
  have HBD0 := Lib.hid hbd
  have H0 := Lib.hid hb0
  have HW := Lib.hid hbW
  have HC : Hid (∀ wr, Below b W wr → wr.cell? ⟨nb, 0, none⟩ = some (.int .i64 N)) := fun wr h => by rw [(hB0.trans (h.mono hb0)).cell HNB.out]; exact hx.cell
  have hc := HC.out W (Below.refl _ _)
  clear hx hB0 hbd hb0 hbW
  show Calls _ _ #[.pointer (some ⟨b, 0, none⟩), .pointer (some ⟨nb, 0, none⟩)] W _
  go_enter Tryd.func71, Tryd.ntmps71
  go_wp2_with fail
  refine (sample_put_any (HBD0.out.alloc _) [cLet0] 1 rfl (heap_alloc_new _ _) (by rw [wsum1, sz_let0]; simp) (by have := HW.out; simp; omega)).mono ?_
  rintro e w1 ⟨rfl, hbd, hf⟩
  have HB1 := Lib.hid (((Below.refl b W).alloc HW.out _).trans hf.below)
  have HD1 : Hid (Bld b (growL 0) w1) := by show Bld _ _ _; exact (grow_first ▸ hbd)
  have HW1 := Lib.hid (Nat.le_trans HW.out HB1.out.size)
  clear hbd hf hc
  have hc1 := HC.out _ HB1.out
  go_wp2_with fail
  clear hc1
  go_loopw [7] (fun i wr => ∃ k : Nat, k ≤ N ∧ i = .int .i64 k ∧ Bld b (growL k) wr ∧ Below b w1 wr) (fun i _ => N - (intOf i).toNat)
  case atStart => exact ⟨0, by omega, rfl, HD1.out, Below.refl _ _⟩
  case round =>
    obtain ⟨k, hk, rfl, hbd, hb⟩ := hrel
    have HSZ := Lib.hid (growL_le k)
    have HBD2 := Lib.hid hbd
    have HB2 := Lib.hid hb
    clear hbd hb
    by_cases hlt : k < N
    · go_wp2_with fail
      refine (sample_put_any (HBD2.out.alloc _) [cLet1] 1 rfl (heap_alloc_new _ _) (by rw [wsum1, sz_let1]; have := HSZ.out; omega) (by have := HB2.out.size; have := HW1.out; simp; omega)).mono ?_
      rintro e w2 ⟨rfl, hbd, hf⟩
      have HB3 := Lib.hid ((HB2.out.alloc (Nat.le_trans HW1.out HB2.out.size) _).trans hf.below)
      have HD3 : Hid (Bld b (growL (k + 1)) w2) := by show Bld _ _ _; exact (grow_next k ▸ hbd)
      clear hbd hf
      go_wp2_with fail
      go_roundw
      case rel => exact ⟨k + 1, by omega, by go_num, HD3.out, HB3.out⟩
      case measure => simp [intOf]; omega
    · have hkn : k = N := by omega
      subst hkn
      go_wp2_with fail
      refine (sample_put_any (HBD2.out.alloc _) [cNil] 1 rfl (heap_alloc_new _ _) (by rw [wsum1, sz_nil]; have := HSZ.out; omega) (by have := HB2.out.size; have := HW1.out; simp; omega)).mono ?_
      rintro e w2 ⟨rfl, hbd, hf⟩
      have HB3 := Lib.hid (HB1.out.trans ((HB2.out.alloc (Nat.le_trans HW1.out HB2.out.size) _).trans hf.below))
      have HD3 : Hid (Bld b (growZ k) w2) := by show Bld _ _ _; exact (grow_last k ▸ hbd)
      clear hbd hf
      go_wp2_with fail
      go_end0
      exact ⟨rfl, HD3.out, HB3.out⟩
set_option maxHeartbeats 2000000 in
theorem count_put {w0 : World} {nb N : Nat} (hx : Boxed w0 nb N) : PutTo 68 #[.pointer (some ⟨nb, 0, none⟩)] w0 (countL N) := by
  intro b W hb0 hbW hB0 hbd
  have hle := hx.le
  have HT := Lib.hid hx.tab
  have HNB : Hid (nb < w0.heap.size) := cell_block hx.cell
  have HB0 := Lib.hid hB0
  have HBD0 := Lib.hid hbd
  have H0 := Lib.hid hb0
  have HW := Lib.hid hbW
  have HC : Hid (∀ wr, Below b W wr → wr.cell? ⟨nb, 0, none⟩ = some (.int .i64 N)) := fun wr h => by rw [(hB0.trans (h.mono hb0)).cell HNB.out]; exact hx.cell
  have hc := HC.out W (Below.refl _ _)
  clear hx hB0 hbd hb0 hbW
  show Calls _ _ #[.pointer (some ⟨b, 0, none⟩), .pointer (some ⟨nb, 0, none⟩)] W _
  have HDS := Lib.hid (decB_size (N : Int) (by omega) (by omega))
  go_enter Tryd.func68, Tryd.ntmps68
  go_wp2_with fail
  refine (sample_num_any (N : Int) (by omega) (by omega) _ (HT.out.below HB0.out)).mono ?_
  rintro e w1 ⟨rfl, hb⟩
  have HB1 := Lib.hid (hb.mono HW.out)
  have HD1 := Lib.hid (HBD0.out.below hb)
  have HW1 := Lib.hid (Nat.le_trans HW.out HB1.out.size)
  clear hb hc
  go_wp2_with fail
  refine (sample_put_any (HD1.out.alloc _) [cCount, decB (N : Int)] 2 rfl (heap_alloc_new _ _) (by rw [wsum2, sz_count]; have := HDS.out; simp; omega) (by have := HW1.out; simp; omega)).mono ?_
  rintro e w2 ⟨rfl, hbd, hf⟩
  have HB2 := Lib.hid ((HB1.out.alloc HW1.out _).trans hf.below)
  have HD2 : Hid (Bld b (countL N) w2) := by show Bld _ _ _; exact (count_is N ▸ hbd)
  clear hbd hf
  go_wp2_with fail
  go_end0
  exact ⟨rfl, HD2.out, HB2.out⟩
set_option maxHeartbeats 2000000 in
theorem throw_put {w0 : World} {nb N : Nat} (hx : Boxed w0 nb N) : PutTo 69 #[.pointer (some ⟨nb, 0, none⟩)] w0 (throwL N) := by
  intro b W hb0 hbW hB0 hbd
  have hle := hx.le
  have HT := Lib.hid hx.tab
  have HNB : Hid (nb < w0.heap.size) := cell_block hx.cell
  have HB0 := Lib.hid hB0
  have HBD0 := Lib.hid hbd
  have H0 := Lib.hid hb0
  have HW := Lib.hid hbW
  have HC : Hid (∀ wr, Below b W wr → wr.cell? ⟨nb, 0, none⟩ = some (.int .i64 N)) := fun wr h => by rw [(hB0.trans (h.mono hb0)).cell HNB.out]; exact hx.cell
  have hc := HC.out W (Below.refl _ _)
  clear hx hB0 hbd hb0 hbW
  show Calls _ _ #[.pointer (some ⟨b, 0, none⟩), .pointer (some ⟨nb, 0, none⟩)] W _
  have HDS := Lib.hid (decB_size (N : Int) (by omega) (by omega))
  go_enter Tryd.func69, Tryd.ntmps69
  go_wp2_with fail
  refine (sample_num_any (N : Int) (by omega) (by omega) _ (HT.out.below HB0.out)).mono ?_
  rintro e w1 ⟨rfl, hb⟩
  have HB1 := Lib.hid (hb.mono HW.out)
  have HD1 := Lib.hid (HBD0.out.below hb)
  have HW1 := Lib.hid (Nat.le_trans HW.out HB1.out.size)
  clear hb hc
  go_wp2_with fail
  refine (sample_put_any (HD1.out.alloc _) [cThrow, decB (N : Int), cWith] 3 rfl (heap_alloc_new _ _) (by rw [wsum3, sz_throw, sz_with]; have := HDS.out; simp; omega) (by have := HW1.out; simp; omega)).mono ?_
  rintro e w2 ⟨rfl, hbd, hf⟩
  have HB2 := Lib.hid ((HB1.out.alloc HW1.out _).trans hf.below)
  have HD2 : Hid (Bld b (throwL N) w2) := by show Bld _ _ _; exact (throw_is N ▸ hbd)
  clear hbd hf
  go_wp2_with fail
  go_end0
  exact ⟨rfl, HD2.out, HB2.out⟩
set_option maxHeartbeats 2000000 in
theorem esc_put {w0 : World} {nb N : Nat} (hx : Boxed w0 nb N) : PutTo 70 #[.pointer (some ⟨nb, 0, none⟩)] w0 (escL N) := by
  intro b W hb0 hbW hB0 hbd
  have hle := hx.le
  have HT := Lib.hid hx.tab
  have HNB : Hid (nb < w0.heap.size) := cell_block hx.cell
  have HB0 := Lib.hid hB0
  have HBD0 := Lib.hid hbd
  have H0 := Lib.hid hb0
  have HW := Lib.hid hbW
  have HC : Hid (∀ wr, Below b W wr → wr.cell? ⟨nb, 0, none⟩ = some (.int .i64 N)) := fun wr h => by rw [(hB0.trans (h.mono hb0)).cell HNB.out]; exact hx.cell
  have hc := HC.out W (Below.refl _ _)
  clear hx hB0 hbd hb0 hbW
  show Calls _ _ #[.pointer (some ⟨b, 0, none⟩), .pointer (some ⟨nb, 0, none⟩)] W _
  have HDS := Lib.hid (decB_size (N : Int) (by omega) (by omega))
  go_enter Tryd.func70, Tryd.ntmps70
  go_wp2_with fail
  refine (sample_num_any (N : Int) (by omega) (by omega) _ (HT.out.below HB0.out)).mono ?_
  rintro e w1 ⟨rfl, hb⟩
  have HB1 := Lib.hid (hb.mono HW.out)
  have HD1 := Lib.hid (HBD0.out.below hb)
  have HW1 := Lib.hid (Nat.le_trans HW.out HB1.out.size)
  clear hb hc
  go_wp2_with fail
  refine (sample_put_any (HD1.out.alloc _) [cEsc, decB (N : Int)] 2 rfl (heap_alloc_new _ _) (by rw [wsum2, sz_esc]; have := HDS.out; simp; omega) (by have := HW1.out; simp; omega)).mono ?_
  rintro e w2 ⟨rfl, hbd, hf⟩
  have HB2 := Lib.hid ((HB1.out.alloc HW1.out _).trans hf.below)
  have HD2 : Hid (Bld b (escL N) w2) := by show Bld _ _ _; exact (esc_is N ▸ hbd)
  clear hbd hf
  go_wp2_with fail
  go_end0
  exact ⟨rfl, HD2.out, HB2.out⟩

theorem ent_of (fid : FuncId) (h : Enters fid) : Enters fid := h
theorem smpV_of {k : Nat} {n : Int} {S : List UInt8} (h : 1 ≤ n ∧ n ≤ 300 → S = smpL k n.toNat) : ofV n S = smpV k n := by
  unfold ofV smpV smpB
  split
  · rename_i hn; rw [h hn]
  · rfl
theorem boxed_of {w : World} {n : Int} (hT : Tab w) (h : 1 ≤ n ∧ n ≤ 300) : Boxed (w.alloc (.cells #[.int .i64 n] 3)) w.heap.size n.toNat :=
  ⟨by rw [cell_new]; show some (Value.int .i64 n) = _; congr 2; omega, by omega, hT.below ((Below.refl _ _).alloc (Nat.le_refl _) _)⟩
set_option maxHeartbeats 1000000 in
theorem chain_any {w : World} (hT : Tab w) (n : Int) : Calls Tryd.prog 33 #[.int .i64 n] w fun e w' => e = .returned (smpV 0 n) ∧ Below w.heap.size w w' := by
  have HO := Lib.hid (sample_of_any 64 #[.pointer (some ⟨w.heap.size, 0, none⟩)] (fun args w => by kernel_rfl) n (w.alloc (.cells #[.int .i64 n] 3)) (smpL 0 (if 1 ≤ n ∧ n ≤ 300 then n.toNat else 1)) (smpL_ne (by split <;> omega)) (fun h => by rw [if_pos h]; exact chain_put (boxed_of hT h)))
  have HV := Lib.hid (smpV_of (k := 0) (n := n) (S := smpL 0 (if 1 ≤ n ∧ n ≤ 300 then n.toNat else 1)) (fun h => by rw [if_pos h]))
  have HBX := Lib.hid ((Below.refl w.heap.size w).alloc (Nat.le_refl _) (.cells #[.int .i64 n] 3))
  clear hT
  go_enter Tryd.func33, Tryd.ntmps33
  go_wp2_with fail
  refine Calls.mono HO.out ?_
  rintro e w1 ⟨rfl, hb⟩
  rw [HV.out]
  have HB1 := Lib.hid (HBX.out.trans (hb.mono HBX.out.size))
  clear hb
  by_cases hn : 1 ≤ n ∧ n ≤ 300
  · have HE : Hid (smpV 0 n = .tuple #[.string (smpB 0 n.toNat), .int .i64 0]) := by show _ = _; unfold smpV; rw [if_pos hn]
    clear hn
    rw [HE.out]
    go_wp2_with fail
    go_ret2
    refine ⟨?_, HB1.out⟩
    rw [HE.out]
    rfl
  · have HE : Hid (smpV 0 n = .tuple #[.string .empty, .int .i64 1]) := by show _ = _; unfold smpV; rw [if_neg hn]
    clear hn
    rw [HE.out]
    go_wp2_with fail
    go_ret2
    refine ⟨?_, HB1.out⟩
    rw [HE.out]
    rfl
set_option maxHeartbeats 1000000 in
theorem deep_any {w : World} (hT : Tab w) (n : Int) : Calls Tryd.prog 34 #[.int .i64 n] w fun e w' => e = .returned (smpV 1 n) ∧ Below w.heap.size w w' := by
  have HO := Lib.hid (sample_of_any 67 #[.pointer (some ⟨w.heap.size, 0, none⟩)] (fun args w => by kernel_rfl) n (w.alloc (.cells #[.int .i64 n] 3)) (smpL 1 (if 1 ≤ n ∧ n ≤ 300 then n.toNat else 1)) (smpL_ne (by split <;> omega)) (fun h => by rw [if_pos h]; exact deep_put (boxed_of hT h) (by omega)))
  have HV := Lib.hid (smpV_of (k := 1) (n := n) (S := smpL 1 (if 1 ≤ n ∧ n ≤ 300 then n.toNat else 1)) (fun h => by rw [if_pos h]))
  have HBX := Lib.hid ((Below.refl w.heap.size w).alloc (Nat.le_refl _) (.cells #[.int .i64 n] 3))
  clear hT
  go_enter Tryd.func34, Tryd.ntmps34
  go_wp2_with fail
  refine Calls.mono HO.out ?_
  rintro e w1 ⟨rfl, hb⟩
  rw [HV.out]
  have HB1 := Lib.hid (HBX.out.trans (hb.mono HBX.out.size))
  clear hb
  by_cases hn : 1 ≤ n ∧ n ≤ 300
  · have HE : Hid (smpV 1 n = .tuple #[.string (smpB 1 n.toNat), .int .i64 0]) := by show _ = _; unfold smpV; rw [if_pos hn]
    clear hn
    rw [HE.out]
    go_wp2_with fail
    go_ret2
    refine ⟨?_, HB1.out⟩
    rw [HE.out]
    rfl
  · have HE : Hid (smpV 1 n = .tuple #[.string .empty, .int .i64 1]) := by show _ = _; unfold smpV; rw [if_neg hn]
    clear hn
    rw [HE.out]
    go_wp2_with fail
    go_ret2
    refine ⟨?_, HB1.out⟩
    rw [HE.out]
    rfl
set_option maxHeartbeats 1000000 in
theorem count_any {w : World} (hT : Tab w) (n : Int) : Calls Tryd.prog 35 #[.int .i64 n] w fun e w' => e = .returned (smpV 2 n) ∧ Below w.heap.size w w' := by
  have HO := Lib.hid (sample_of_any 68 #[.pointer (some ⟨w.heap.size, 0, none⟩)] (fun args w => by kernel_rfl) n (w.alloc (.cells #[.int .i64 n] 3)) (smpL 2 (if 1 ≤ n ∧ n ≤ 300 then n.toNat else 1)) (smpL_ne (by split <;> omega)) (fun h => by rw [if_pos h]; exact count_put (boxed_of hT h)))
  have HV := Lib.hid (smpV_of (k := 2) (n := n) (S := smpL 2 (if 1 ≤ n ∧ n ≤ 300 then n.toNat else 1)) (fun h => by rw [if_pos h]))
  have HBX := Lib.hid ((Below.refl w.heap.size w).alloc (Nat.le_refl _) (.cells #[.int .i64 n] 3))
  clear hT
  go_enter Tryd.func35, Tryd.ntmps35
  go_wp2_with fail
  refine Calls.mono HO.out ?_
  rintro e w1 ⟨rfl, hb⟩
  rw [HV.out]
  have HB1 := Lib.hid (HBX.out.trans (hb.mono HBX.out.size))
  clear hb
  by_cases hn : 1 ≤ n ∧ n ≤ 300
  · have HE : Hid (smpV 2 n = .tuple #[.string (smpB 2 n.toNat), .int .i64 0]) := by show _ = _; unfold smpV; rw [if_pos hn]
    clear hn
    rw [HE.out]
    go_wp2_with fail
    go_ret2
    refine ⟨?_, HB1.out⟩
    rw [HE.out]
    rfl
  · have HE : Hid (smpV 2 n = .tuple #[.string .empty, .int .i64 1]) := by show _ = _; unfold smpV; rw [if_neg hn]
    clear hn
    rw [HE.out]
    go_wp2_with fail
    go_ret2
    refine ⟨?_, HB1.out⟩
    rw [HE.out]
    rfl
set_option maxHeartbeats 1000000 in
theorem throw_any {w : World} (hT : Tab w) (n : Int) : Calls Tryd.prog 36 #[.int .i64 n] w fun e w' => e = .returned (smpV 3 n) ∧ Below w.heap.size w w' := by
  have HO := Lib.hid (sample_of_any 69 #[.pointer (some ⟨w.heap.size, 0, none⟩)] (fun args w => by kernel_rfl) n (w.alloc (.cells #[.int .i64 n] 3)) (smpL 3 (if 1 ≤ n ∧ n ≤ 300 then n.toNat else 1)) (smpL_ne (by split <;> omega)) (fun h => by rw [if_pos h]; exact throw_put (boxed_of hT h)))
  have HV := Lib.hid (smpV_of (k := 3) (n := n) (S := smpL 3 (if 1 ≤ n ∧ n ≤ 300 then n.toNat else 1)) (fun h => by rw [if_pos h]))
  have HBX := Lib.hid ((Below.refl w.heap.size w).alloc (Nat.le_refl _) (.cells #[.int .i64 n] 3))
  clear hT
  go_enter Tryd.func36, Tryd.ntmps36
  go_wp2_with fail
  refine Calls.mono HO.out ?_
  rintro e w1 ⟨rfl, hb⟩
  rw [HV.out]
  have HB1 := Lib.hid (HBX.out.trans (hb.mono HBX.out.size))
  clear hb
  by_cases hn : 1 ≤ n ∧ n ≤ 300
  · have HE : Hid (smpV 3 n = .tuple #[.string (smpB 3 n.toNat), .int .i64 0]) := by show _ = _; unfold smpV; rw [if_pos hn]
    clear hn
    rw [HE.out]
    go_wp2_with fail
    go_ret2
    refine ⟨?_, HB1.out⟩
    rw [HE.out]
    rfl
  · have HE : Hid (smpV 3 n = .tuple #[.string .empty, .int .i64 1]) := by show _ = _; unfold smpV; rw [if_neg hn]
    clear hn
    rw [HE.out]
    go_wp2_with fail
    go_ret2
    refine ⟨?_, HB1.out⟩
    rw [HE.out]
    rfl
set_option maxHeartbeats 1000000 in
theorem escape_any {w : World} (hT : Tab w) (n : Int) : Calls Tryd.prog 37 #[.int .i64 n] w fun e w' => e = .returned (smpV 4 n) ∧ Below w.heap.size w w' := by
  have HO := Lib.hid (sample_of_any 70 #[.pointer (some ⟨w.heap.size, 0, none⟩)] (fun args w => by kernel_rfl) n (w.alloc (.cells #[.int .i64 n] 3)) (smpL 4 (if 1 ≤ n ∧ n ≤ 300 then n.toNat else 1)) (smpL_ne (by split <;> omega)) (fun h => by rw [if_pos h]; exact esc_put (boxed_of hT h)))
  have HV := Lib.hid (smpV_of (k := 4) (n := n) (S := smpL 4 (if 1 ≤ n ∧ n ≤ 300 then n.toNat else 1)) (fun h => by rw [if_pos h]))
  have HBX := Lib.hid ((Below.refl w.heap.size w).alloc (Nat.le_refl _) (.cells #[.int .i64 n] 3))
  clear hT
  go_enter Tryd.func37, Tryd.ntmps37
  go_wp2_with fail
  refine Calls.mono HO.out ?_
  rintro e w1 ⟨rfl, hb⟩
  rw [HV.out]
  have HB1 := Lib.hid (HBX.out.trans (hb.mono HBX.out.size))
  clear hb
  by_cases hn : 1 ≤ n ∧ n ≤ 300
  · have HE : Hid (smpV 4 n = .tuple #[.string (smpB 4 n.toNat), .int .i64 0]) := by show _ = _; unfold smpV; rw [if_pos hn]
    clear hn
    rw [HE.out]
    go_wp2_with fail
    go_ret2
    refine ⟨?_, HB1.out⟩
    rw [HE.out]
    rfl
  · have HE : Hid (smpV 4 n = .tuple #[.string .empty, .int .i64 1]) := by show _ = _; unfold smpV; rw [if_neg hn]
    clear hn
    rw [HE.out]
    go_wp2_with fail
    go_ret2
    refine ⟨?_, HB1.out⟩
    rw [HE.out]
    rfl
set_option maxHeartbeats 1000000 in
theorem grow_any {w : World} (hT : Tab w) (n : Int) : Calls Tryd.prog 38 #[.int .i64 n] w fun e w' => e = .returned (smpV 5 n) ∧ Below w.heap.size w w' := by
  have HO := Lib.hid (sample_of_any 71 #[.pointer (some ⟨w.heap.size, 0, none⟩)] (fun args w => by kernel_rfl) n (w.alloc (.cells #[.int .i64 n] 3)) (smpL 5 (if 1 ≤ n ∧ n ≤ 300 then n.toNat else 1)) (smpL_ne (by split <;> omega)) (fun h => by rw [if_pos h]; exact grow_put (boxed_of hT h)))
  have HV := Lib.hid (smpV_of (k := 5) (n := n) (S := smpL 5 (if 1 ≤ n ∧ n ≤ 300 then n.toNat else 1)) (fun h => by rw [if_pos h]))
  have HBX := Lib.hid ((Below.refl w.heap.size w).alloc (Nat.le_refl _) (.cells #[.int .i64 n] 3))
  clear hT
  go_enter Tryd.func38, Tryd.ntmps38
  go_wp2_with fail
  refine Calls.mono HO.out ?_
  rintro e w1 ⟨rfl, hb⟩
  rw [HV.out]
  have HB1 := Lib.hid (HBX.out.trans (hb.mono HBX.out.size))
  clear hb
  by_cases hn : 1 ≤ n ∧ n ≤ 300
  · have HE : Hid (smpV 5 n = .tuple #[.string (smpB 5 n.toNat), .int .i64 0]) := by show _ = _; unfold smpV; rw [if_pos hn]
    clear hn
    rw [HE.out]
    go_wp2_with fail
    go_ret2
    refine ⟨?_, HB1.out⟩
    rw [HE.out]
    rfl
  · have HE : Hid (smpV 5 n = .tuple #[.string .empty, .int .i64 1]) := by show _ = _; unfold smpV; rw [if_neg hn]
    clear hn
    rw [HE.out]
    go_wp2_with fail
    go_ret2
    refine ⟨?_, HB1.out⟩
    rw [HE.out]
    rfl
end Go.Proofs.YtekhblomdlehhaaDoor
