/- Part 52 of the texts: Wd, Cw. -/
import Derived.Test.YtdlbjngpohkglaaGreatDoorG19
import Derived.Test.YtdlbjngpohkglaaGreatDoorG05
import Derived.Test.YtdlbjngpohkglaaGreatDoorG11
import Derived.Test.YtdlbjngpohkglaaGreatDoorG10
import Derived.Test.YtdlbjngpohkglaaGreatDoorG18
import Derived.Test.YtdlbjngpohkglaaGreatDoorG51
import Derived.Test.YtdlbjngpohkglaaGreatDoorG45
import Derived.Test.YtdlbjngpohkglaaGreatDoorG47
section
set_option linter.unusedVariables false
set_option maxRecDepth 100000
set_option linter.unusedSimpArgs false
namespace Go.Proofs.YtdlbjngpohkglaaGreatDoor
open Go.RowKit

theorem ext_data (s : ByteArray) (f i : Nat) : (s.extract f i).data.toList = (s.data.toList.drop f).take (i - f) := by
  rw [ByteArray.data_extract, Array.toList_extract, List.extract_eq_take_drop]
/-- the words so far -/
structure WdI (s : ByteArray) (i f : Nat) (ws : List ByteArray) : Prop where
  fi : f ≤ i
  le : i ≤ s.size
  no : 32 ∉ (s.data.toList.drop f).take (i - f)
  is : cutL s.data.toList = ws.map (·.data.toList) ++ cutL (s.data.toList.drop f)
theorem WdI.init (s : ByteArray) : WdI s 0 0 [] := ⟨Nat.le_refl _, Nat.zero_le _, by simp, by simp⟩
theorem wd_at {s : ByteArray} {i : Nat} (h : i < s.size) : s.data.toList[i]? = some s[i] := by
  have hl : i < s.data.toList.length := by simpa using h
  rw [List.getElem?_eq_getElem hl]; rfl
theorem WdI.other {s : ByteArray} {i f : Nat} {ws : List ByteArray} (h : WdI s i f ws) (hi : i < s.size) (hb : s[i] ≠ 32) : WdI s (i + 1) f ws := by
  have hfi := h.fi
  refine ⟨by omega, by omega, ?_, h.is⟩
  have e : i + 1 - f = (i - f) + 1 := by omega
  have hx : (s.data.toList.drop f)[i - f]? = some s[i] := by rw [List.getElem?_drop, show f + (i - f) = i by omega, wd_at hi]
  rw [e, take_succ_get hx, List.mem_append]
  rintro (h1 | h1)
  · exact h.no h1
  · exact hb (List.mem_singleton.1 h1).symm
theorem WdI.cut {s : ByteArray} {i f : Nat} {ws : List ByteArray} (h : WdI s i f ws) (hi : i < s.size) (hb : s[i] = 32) : WdI s (i + 1) (i + 1) (ws ++ [s.extract f i]) := by
  have hfi := h.fi
  refine ⟨Nat.le_refl _, by omega, by simp, ?_⟩
  have hx : (s.data.toList.drop f)[i - f]? = some s[i] := by rw [List.getElem?_drop, show f + (i - f) = i by omega, wd_at hi]
  have e : s.data.toList.drop f = (s.data.toList.drop f).take (i - f) ++ 32 :: s.data.toList.drop (i + 1) := by
    have h1 := (List.take_append_drop (i - f) (s.data.toList.drop f)).symm
    have h2 : (s.data.toList.drop f).drop (i - f) = 32 :: s.data.toList.drop (i + 1) := by
      rw [List.drop_drop, show f + (i - f) = i by omega, ← hb]
      have hl : i < s.data.toList.length := by simpa using hi
      rw [List.drop_eq_getElem_cons hl]; rfl
    rw [h2] at h1
    exact h1
  rw [h.is, List.map_append, List.append_assoc]
  congr 1
  rw [e, cut_app, cut_word _ h.no]
  simp only [List.map_cons, List.map_nil, ext_data]
theorem WdI.done {s : ByteArray} {f : Nat} {ws : List ByteArray} (h : WdI s s.size f ws) : spl s = ws ++ [s.extract f s.size] := by
  apply spl_of
  have hl : s.data.toList.length = s.size := by simp
  have e : (s.data.toList.drop f).take (s.size - f) = s.data.toList.drop f := by rw [List.take_of_length_le]; rw [List.length_drop]; omega
  have hn := h.no
  rw [e] at hn
  rw [h.is, List.map_append, cut_word _ hn]
  simp only [List.map_cons, List.map_nil, ext_data, e]
theorem WdI.len {s : ByteArray} {i f : Nat} {ws : List ByteArray} (h : WdI s i f ws) : ws.length ≤ s.size := by
  have h1 := congrArg List.length h.is
  rw [List.length_append, List.length_map] at h1
  have h2 : (cutL s.data.toList).length = (spl s).length := by rw [← spl_data]; simp
  have h3 := spl_length s
  have h4 := Lib.countB_le ⟨#[32]⟩ (by decide) s.size s (Nat.le_refl _)
  have h5 : 0 < (cutL (s.data.toList.drop f)).length := List.length_pos_iff.2 (cutL_ne _)
  omega
theorem byte_lit {b : UInt8} : ((b.toNat : Nat) : Int) = 32 ↔ b = 32 := by
  constructor
  · intro h
    have h : b.toNat = 32 := by omega
    exact UInt8.toNat_inj.1 h
  · rintro rfl; rfl
set_option maxHeartbeats 2000000 in
theorem ref14_Words_any {s : ByteArray} (hs : s.size ≤ 100000000000) (w : World) :
    Calls Tryz.prog 18 #[.string s] w fun e w' => (∃ p c, e = .returned (.slice p (spl s).length c) ∧ IsRow encS 1 w' p (spl s).length c (spl s)) ∧ Below w.heap.size w w' := by
  go_enter Tryz.func18, Tryz.ntmps18
  go_upto_region 2 with fail
  have HO0 := Lib.hid (own_made encS_len w w.heap.size 9 [] 0 #[] (by simp) rfl (by unfold maxLen; omega) (Nat.le_refl _))
  have HB0 := Lib.hid ((Below.refl w.heap.size w).alloc (Nat.le_refl _) (.cells #[] 9))
  generalize w.alloc (.cells #[] 9) = W1 at *
  go_wp2_with fail
  go_loopw [3, 4, 5] (fun u fr i wr => ∃ (k f : Nat) (ws : List ByteArray), fr = .int .i64 f ∧ i = .int .i64 k ∧ WdI s k f ws ∧ OwnE encS 1 wr w.heap.size 9 u ws.length ws ∧ Below w.heap.size w wr) (fun _ _ i _ => s.size - (intOf i).toNat)
  case atStart => exact ⟨0, 0, [], rfl, rfl, WdI.init s, HO0.out, HB0.out⟩
  case round =>
    obtain ⟨k, f, ws, rfl, rfl, hI, hown, hb⟩ := hrel
    have hfk := hI.fi
    have hks := hI.le
    have hln := hI.len
    have HI := Lib.hid hI
    have HOWN := Lib.hid hown
    have HB := Lib.hid hb
    clear hI hown hb
    by_cases hlt : k < s.size
    · by_cases hc : ((s[k].toNat : Nat) : Int) = 32
      · have HI2 := Lib.hid (HI.out.cut hlt (byte_lit.1 hc))
        have ec : (((s[k].toNat : Nat) : Int) == 32) = true := by simpa using hc
        clear hc
        go_wp2_with (at_builtin; refine wpList_append1 rfl _ _ 44 rfl w.heap.size 9 _ 1 16 Tryz.underlying44 infoS rfl (by decide) encS encS_len encS_one (s.extract f k) _ _ _ HOWN.out rfl (by refine Eq.trans (b := Value.slice (some ⟨wr.heap.size, 0, none⟩) 1 1) rfl ?_; simp) ?c1 ?c2 ?c3 ?_)
        case c1 => omega
        case c2 => omega
        case c3 => exact HB.out.size
        · intro v3 w3 hown3 hg3
          have HB3 := Lib.hid (Below.own HB.out hg3 HB.out.size HOWN.out)
          have HO3 := Lib.hid hown3
          clear hown3 hg3
          go_wp2_with fail
          go_roundw
          case rel => exact ⟨k + 1, k + 1, ws ++ [s.extract f k], by go_num, by go_num, HI2.out, by rw [List.length_append]; exact HO3.out, HB3.out⟩
          case measure => simp [intOf]; omega
      · have HI2 := Lib.hid (HI.out.other hlt (fun e => hc (byte_lit.2 e)))
        have ec : (((s[k].toNat : Nat) : Int) == 32) = false := by simpa using hc
        clear hc
        go_wp2_with fail
        go_roundw
        case rel => exact ⟨k + 1, f, ws, rfl, by go_num, HI2.out, HOWN.out, HB.out⟩
        case measure => simp [intOf]; omega
    · obtain rfl : k = s.size := by omega
      have HD := Lib.hid HI.out.done
      go_wp2_with (at_builtin; refine wpList_append1 rfl _ _ 44 rfl w.heap.size 9 _ 1 16 Tryz.underlying44 infoS rfl (by decide) encS encS_len encS_one (s.extract f s.size) _ _ _ HOWN.out rfl (by refine Eq.trans (b := Value.slice (some ⟨wr.heap.size, 0, none⟩) 1 1) rfl ?_; simp) ?c1 ?c2 ?c3 ?_)
      case c1 => omega
      case c2 => omega
      case c3 => exact HB.out.size
      · intro v3 w3 hown3 hg3
        have HB3 := Lib.hid (Below.own HB.out hg3 HB.out.size HOWN.out)
        have hl : (ws ++ [s.extract f s.size]).length = ws.length + 1 := by simp
        rw [← hl, ← HD.out] at hown3
        obtain ⟨p, c, rfl, hrow⟩ := hown3.isRow encS_len (by have := spl_length s; have := congrArg List.length HD.out; rw [hl] at this; omega)
        have HR := Lib.hid hrow
        clear hown3 hg3 hrow hl
        go_wp2_with fail
        go_ret
        exact ⟨⟨p, c, rfl, HR.out⟩, HB3.out⟩
end Go.Proofs.YtdlbjngpohkglaaGreatDoor
end
section
set_option linter.unusedVariables false
set_option maxRecDepth 100000
set_option linter.unusedSimpArgs false
namespace Go.Proofs.YtdlbjngpohkglaaGreatDoor
open Go.RowKit

theorem spl_text (t : PA) : spl (textOf t) = wordsP (piecesT t) := spl_joinW _ (piecesT_ne' t)
set_option maxHeartbeats 4000000 in
theorem displayCounts_walk {w : World} (hv : Vr w) (ht : Tab w) (t : PA) (hl : LA.lies w t) (p : Option Addr) (n c : Nat) (bw : List ByteArray) (hbw : IsRow encS 1 w p n c bw) :
    Calls Tryz.prog 6 #[aggT t.head, .slice p n c] w fun e w' => e = .returned (.bool true) ∧ Below w.heap.size w w' := by
  have HB := Lib.hid ((Below.refl w.heap.size w).alloc (Nat.le_refl _) (boxA t.head))
  have HBX := Lib.hid (boxA_new w t.head)
  have HV := Lib.hid hv
  have HT := Lib.hid ht
  have HL := Lib.hid (fun (W : World) (h : Below w.heap.size w W) => LA.lies_below h t hl)
  have HG := Lib.hid (ref13_Great_any (LA.lies_below HB.out t hl))
  have HBW := Lib.hid (fun (W : World) (h : Below w.heap.size w W) => hbw.below h)
  have HC1 := Lib.hid (show mayA t = true → ∀ b : ByteArray, (b = ⟨#[40]⟩ ∨ b = ⟨#[41]⟩) → countW (wordsT t) [b] = cntN (Rose.nodes t) from by
    intro hm b hb
    unfold wordsT
    rw [if_pos hm]
    exact cb_term hb t hl hm)
  have hmx := hbw.max
  have HBLEN := Lib.hid hbw.len
  clear hl hv ht hbw
  by_cases hn20 : n ≤ 20
  · have e20 : decide ((n : Int) > 20) = false := by simp; omega
    have HN20 := Lib.hid hn20
    clear hn20
    go_enter Tryz.func6, Tryz.ntmps6
    go_upto_region 1 with fail
    go_upto_region 3 with (first
      | (refine wpList_load_row rfl 31 _ rfl w.heap.size rfl 31 _ (0, 0) _ HBX.out.blk Tryz.underlying31 rfl (by kernel_rfl) ?_)
      | (refine wpList_load_midG (by rfl) 31 _ rfl w.heap.size 0 rfl [.int .u8 t.head.kind, .int .u8 t.head.op, .int .i64 t.head.at_, .int .i64 t.head.n, .string t.head.name, .string t.head.arg, .string t.head.exn, .int .i64 t.head.rho, .slice t.head.rp t.head.rn t.head.rc, .slice t.head.ep t.head.en t.head.ec, .int .u8 t.head.ty.head.kind, .int .i64 t.head.ty.head.rho, .slice t.head.ty.head.ep t.head.ty.head.en t.head.ty.head.ec, .slice t.head.ty.head.kp t.head.ty.head.kn t.head.ty.head.kc, .int .u8 t.head.res.head.kind, .int .i64 t.head.res.head.rho, .slice t.head.res.head.ep t.head.res.head.en t.head.res.head.ec, .slice t.head.res.head.kp t.head.res.head.kn t.head.res.head.kc, .slice t.head.kp t.head.kn t.head.kc] _ HBX.out.range Tryz.underlying31 rfl (by kernel_rfl) ?_)
      | (go_at_call 10; refine (awake_any (HV.out.below HB.out) (HT.out.below HB.out)).mono ?_; rintro e w9 ⟨rfl, hb⟩; have HB := Lib.hid (HB.out.trans (hb.mono HB.out.size)); clear hb)
      | (go_at_call 8; refine HG.out.mono ?_; rintro e w8 ⟨⟨r, rfl, hgr⟩, hb⟩; have HB := Lib.hid (HB.out.trans (hb.mono HB.out.size)); have HBX := Lib.hid (HBX.out.below hb); clear hb; have HGR := Lib.hid hgr; clear hgr; cases r; have HTE := Lib.hid (show TEnv w8 t from ⟨HL.out _ HB.out, (HGR.out rfl).2, Nat.le_trans (HGR.out rfl).1 (by omega), HV.out.below HB.out, HT.out.below HB.out⟩))
      | (go_at_call 9; refine (ref13_May_any t HTE.out.lies HTE.out.size).mono ?_; rintro e w8 ⟨rfl, hb⟩; have HB := Lib.hid (HB.out.trans (hb.mono HB.out.size)); have HBX := Lib.hid (HBX.out.below hb); have HTE := Lib.hid (HTE.out.below hb); clear hb; cases hm : mayA t))
    all_goals (try (go_ret; exact ⟨rfl, HB.out⟩))
    have HM := Lib.hid hm
    clear hm
    go_wp2_with fail
    go_loopw [5] (fun i wr => ∃ k : Nat, k ≤ n ∧ i = .int .i64 k ∧ wr = w8) (fun i _ => n - (intOf i).toNat)
    case atStart => exact ⟨0, by omega, rfl, rfl⟩
    case round =>
      obtain ⟨k, hk, rfl, rfl⟩ := hrel
      by_cases hlt : k < n
      · obtain ⟨s, hx⟩ := get_of_lt (l := bw) (j := k) (by rw [HBLEN.out]; exact hlt)
        obtain ⟨b, o, rfl, d0⟩ := (HBW.out _ HB.out).row.str hx
        clear hx
        by_cases hs : s.size ≤ 100
        · have es : decide ((s.size : Int) > 100) = false := by simp; omega
          clear hs
          go_wp2_with fail
          go_roundw
          case rel => exact ⟨k + 1, by omega, by go_num, trivial⟩
          case measure => simp [intOf]; omega
        · have es : decide ((s.size : Int) > 100) = true := by simp; omega
          clear hs
          go_wp2_with (go_at_call 10; refine (awake_any (HV.out.below HB.out) (HT.out.below HB.out)).mono ?_; rintro e w9 ⟨rfl, hb⟩; have HB := Lib.hid (HB.out.trans (hb.mono HB.out.size)); clear hb)
          go_ret
          exact ⟨rfl, HB.out⟩
      · have htz : (textOf t).size ≤ 10000000000 := Nat.le_trans (joinB_lens _) (HTE.out.len HM.out)
        have HTZ := Lib.hid htz
        clear htz
        go_upto_region 10 with (first
          | (refine wpList_load_row rfl 31 _ rfl w.heap.size rfl 31 _ (0, 0) _ HBX.out.blk Tryz.underlying31 rfl (by kernel_rfl) ?_)
          | (go_at_call 17; refine Calls.mono (t14At_any t _ HTE.out.lies HTE.out.small HM.out HTE.out.size) ?_; rintro e w9 ⟨rfl, hb⟩; have HB := Lib.hid (HB.out.trans (hb.mono HB.out.size)); have HBX := Lib.hid (HBX.out.below hb); have HTE := Lib.hid (HTE.out.below hb); clear hb)
          | (go_at_call 18; refine (ref14_Words_any (by have := HTZ.out; omega) _).mono ?_; rintro e w10 ⟨⟨q, c', rfl, hrow⟩, hb⟩; have HR := Lib.hid hrow; have HB := Lib.hid (HB.out.trans (hb.mono HB.out.size)); have HBX := Lib.hid (HBX.out.below hb); have HTE := Lib.hid (HTE.out.below hb); have hmw := hrow.max; clear hb hrow))
        have hlw : (spl (textOf t)).length ≤ 10000000001 := by have := spl_len_le (textOf t); have := HTZ.out; omega
        have hwt : spl (textOf t) = wordsT t := by rw [spl_text]; unfold wordsT; rw [HM.out]; rfl
        have HWT := Lib.hid hwt
        generalize hWS : spl (textOf t) = WS at *
        have HLW : Hid (WS.length ≤ 10000000001) := hlw
        clear hWS hwt hlw
        generalize hm : WS.length = m at *
        have HLM := Lib.hid hm
        clear hm
        have hmm := HLW.out
        go_wp2_with fail
        go_loopw [6, 8] (fun u i wr => ∃ k : Nat, k ≤ m ∧ i = .int .i64 k ∧ u = .int .i64 (countW (WS.take k) bw) ∧ wr = w10) (fun _ i _ => m - (intOf i).toNat)
        case atStart => exact ⟨0, by omega, rfl, rfl, rfl⟩
        case round =>
          obtain ⟨k, hk, rfl, rfl, rfl⟩ := hrel
          by_cases hlt : k < m
          · obtain ⟨s, hx⟩ := get_of_lt (l := WS) (j := k) (by rw [HLM.out]; exact hlt)
            obtain ⟨b, o, rfl, d0⟩ := HR.out.row.str hx
            have HCT := Lib.hid (countW_take (bw := bw) hx)
            have hcl := countW_le (WS.take k) bw
            have htl : (WS.take k).length ≤ k := by rw [List.length_take]; omega
            have HC := Lib.hid (ref_InS_any (HBW.out _ HB.out) s)
            clear hx
            cases hq : bw.any (fun y => decide (y = s)) with
            | false =>
              rw [hq] at HC HCT
              clear hq
              go_wp2_with (go_at_call 19; refine HC.out.mono ?_; rintro e w3 ⟨rfl, rfl⟩)
              go_roundw
              case rel => exact ⟨k + 1, by omega, by go_num, by rw [HCT.out]; rfl, trivial⟩
              case measure => simp [intOf]; omega
            | true =>
              rw [hq] at HC HCT
              clear hq
              have hwr : IntKind.i64.wrap ((countW (WS.take k) bw : Int) + 1) = (countW (WS.take k) bw : Int) + 1 := IntWalk.i64_in _ (by omega)
              go_wp2_with (go_at_call 19; refine HC.out.mono ?_; rintro e w3 ⟨rfl, rfl⟩)
              go_roundw
              case rel => exact ⟨k + 1, by omega, by go_num, by rw [HCT.out]; simp, trivial⟩
              case measure => simp [intOf]; omega
          · have hkm : k = m := by omega
            have hfull : WS.take k = WS := take_full (by rw [HLM.out, hkm]; exact Nat.le_refl _)
            rw [hfull, HWT.out]
            have HQ40 : Hid (countW (wordsT t) (strsOf #[.string ⟨#[40]⟩]) = cntN (Rose.nodes t)) := HC1.out HM.out ⟨#[40]⟩ (.inl rfl)
            have HQ41 : Hid (countW (wordsT t) (strsOf #[.string ⟨#[41]⟩]) = cntN (Rose.nodes t)) := HC1.out HM.out ⟨#[41]⟩ (.inr rfl)
            have HQ0 : Hid (countW (wordsT t) [] = 0) := by show countW (wordsT t) [] = 0; unfold countW; simp
            have HNIL := Lib.hid (fun (W : World) => (IsRow.none encS 1 W : IsRow encS 1 W none 0 0 []))
            have HCN := Lib.hid (fun (W : World) (hT : TEnv W t) (gs : Nat) (hgs : W.heap.size = gs) (n : Nat) (hm : n ≤ 1000) (cs : Array Value) (hn : cs.size = n) (hcs : cs = ((strsOf cs).flatMap encS).toArray) (e : TypeId) =>
              (show Calls Tryz.prog 16 #[aggT t.head, .slice (some ⟨gs, 0, none⟩) n n] (W.alloc (.cells cs e)) fun e' w' => e' = .returned (.int .i64 (countW (wordsT t) (strsOf cs))) ∧ Below W.heap.size W w' by
                subst hgs
                have hba : Below W.heap.size W (W.alloc (.cells cs e)) := (Below.refl _ _).alloc (Nat.le_refl _) _
                refine (Count_any (hT.below hba) (row_made encS_len (by omega) W e (strsOf cs) n cs hcs (by simp [strsOf, hn]) (by unfold maxLen; omega))).mono ?_
                rintro e' w' ⟨rfl, hb'⟩
                exact ⟨rfl, hba.trans (hb'.mono hba.size)⟩))
            have HK40 : Hid (countW (wordsT t) [⟨#[40]⟩] = cntN (Rose.nodes t)) := HC1.out HM.out ⟨#[40]⟩ (.inl rfl)
            have HK41 : Hid (countW (wordsT t) [⟨#[41]⟩] = cntN (Rose.nodes t)) := HC1.out HM.out ⟨#[41]⟩ (.inr rfl)
            generalize hN : cntN (Rose.nodes t) = N at *
            generalize hM : countW (wordsT t) bw = M at *
            have HBM := Lib.hid hM
            clear hN hM
            -- REGION15
            go_upto_region 15 with fail
            have HSS : Hid (∀ W', Below wr.heap.size wr W' → W'.rangeAt w.heap.size 0 [.int .u8 t.head.kind, .int .u8 t.head.op, .int .i64 t.head.at_, .int .i64 t.head.n, .string t.head.name, .string t.head.arg, .string t.head.exn, .int .i64 t.head.rho, .slice t.head.rp t.head.rn t.head.rc, .slice t.head.ep t.head.en t.head.ec, .int .u8 t.head.ty.head.kind, .int .i64 t.head.ty.head.rho, .slice t.head.ty.head.ep t.head.ty.head.en t.head.ty.head.ec, .slice t.head.ty.head.kp t.head.ty.head.kn t.head.ty.head.kc, .int .u8 t.head.res.head.kind, .int .i64 t.head.res.head.rho, .slice t.head.res.head.ep t.head.res.head.en t.head.res.head.ec, .slice t.head.res.head.kp t.head.res.head.kn t.head.res.head.kc, .slice t.head.kp t.head.kn t.head.kc]) := fun W' h => (HBX.out.below h).range
            have HTEW := Lib.hid (fun (W : World) (h : Below wr.heap.size wr W) => HTE.out.below h)
            have HRA := Lib.hid (fun (W : World) => (row_made encS_len (by omega) W 9 [⟨#[40]⟩] 1 #[.string ⟨#[40]⟩] rfl rfl (by unfold maxLen; omega) : IsRow encS 1 (W.alloc (.cells #[.string ⟨#[40]⟩] 9)) (some ⟨W.heap.size, 0, none⟩) 1 1 [⟨#[40]⟩]))
            have HRB := Lib.hid (fun (W : World) => (row_made encS_len (by omega) W 9 [⟨#[41]⟩] 1 #[.string ⟨#[41]⟩] rfl rfl (by unfold maxLen; omega) : IsRow encS 1 (W.alloc (.cells #[.string ⟨#[41]⟩] 9)) (some ⟨W.heap.size, 0, none⟩) 1 1 [⟨#[41]⟩]))
            generalize wr = W5 at *
            refine wp_region_noPanic ?_
            refine wp_region_held_drew (S := fun W' => W'.rangeAt w.heap.size 0 [.int .u8 t.head.kind, .int .u8 t.head.op, .int .i64 t.head.at_, .int .i64 t.head.n, .string t.head.name, .string t.head.arg, .string t.head.exn, .int .i64 t.head.rho, .slice t.head.rp t.head.rn t.head.rc, .slice t.head.ep t.head.en t.head.ec, .int .u8 t.head.ty.head.kind, .int .i64 t.head.ty.head.rho, .slice t.head.ty.head.ep t.head.ty.head.en t.head.ty.head.ec, .slice t.head.ty.head.kp t.head.ty.head.kn t.head.ty.head.kc, .int .u8 t.head.res.head.kind, .int .i64 t.head.res.head.rho, .slice t.head.res.head.ep t.head.res.head.en t.head.res.head.ec, .slice t.head.res.head.kp t.head.res.head.kn t.head.res.head.kc, .slice t.head.kp t.head.kn t.head.kc]) (by kernel_rfl) ?_ (fun hHeld => ?_)
            · (try dsimp only); first | exact HSS.out _ (bel_drew _) | exact HSS.out _ HBa.out | exact HSS.out _ HBb.out | exact HSS.out _ (bel_alloc HBb.out _) | exact HSS.out _ (bel_alloc (bel_alloc HBb.out _) _) | exact HSS.out _ HBc.out | exact HSS.out _ (bel_alloc HBc.out _) | exact HSS.out _ HBd.out | exact HSS.out _ HBe.out
            refine wpAnyH_take (i := 0) (oi := _) (v := .agg ([.int .u8 t.head.kind, .int .u8 t.head.op, .int .i64 t.head.at_, .int .i64 t.head.n, .string t.head.name, .string t.head.arg, .string t.head.exn, .int .i64 t.head.rho, .slice t.head.rp t.head.rn t.head.rc, .slice t.head.ep t.head.en t.head.ec, .int .u8 t.head.ty.head.kind, .int .i64 t.head.ty.head.rho, .slice t.head.ty.head.ep t.head.ty.head.en t.head.ty.head.ec, .slice t.head.ty.head.kp t.head.ty.head.kn t.head.ty.head.kc, .int .u8 t.head.res.head.kind, .int .i64 t.head.res.head.rho, .slice t.head.res.head.ep t.head.res.head.en t.head.res.head.ec, .slice t.head.res.head.kp t.head.res.head.kn t.head.res.head.kc, .slice t.head.kp t.head.kn t.head.kc] : List Value).toArray) rfl (by kernel_rfl) (by kernel_rfl) (by kernel_rfl) (fun _ _ _ h => h) (yieldsIf_load_mid (by rfl) 31 _ rfl w.heap.size 0 rfl _ _ (fun W' h => h) Tryz.underlying31 rfl (by kernel_rfl)) (by assumption) ?_
            try simp only [Act.put, List.setIfInBounds_toArray, List.set_cons_zero, List.set_cons_succ]
            refine wpAnyH_take (i := 1) (oi := _) (v := ?_) rfl (by kernel_rfl) (by kernel_rfl) (by kernel_rfl) (fun _ _ _ h => h) (Or.inl ⟨by rfl, ?_⟩) (by assumption) ?_
            rotate_left
            · intro w hSw; clear hSw; go_simp; try with_reducible rfl
            try simp only [Act.put, List.setIfInBounds_toArray, List.set_cons_zero, List.set_cons_succ]
            refine wpAnyH_take (i := 3) (oi := _) (v := ?_) rfl (by kernel_rfl) (by kernel_rfl) (by kernel_rfl) (fun _ _ _ h => h) (Or.inl ⟨by rfl, ?_⟩) (by assumption) ?_
            rotate_left
            · intro w hSw; clear hSw; go_simp; try with_reducible rfl
            try simp only [Act.put, List.setIfInBounds_toArray, List.set_cons_zero, List.set_cons_succ]
            refine wpAnyH_ready (rs := [2]) (by kernel_rfl) (by simp) ?_
            refine AllReadyH.cons (o := _) rfl (fun K hK => ?_) AllReadyH.nil
            go_simp
            go_at_call 16
            refine (Count_any (HTEW.out _ (bel_drew W5)) (HBW.out _ (HB.out.trans ((bel_drew W5).mono HB.out.size)))).mono ?_
            rw [HBM.out]
            rintro e wa ⟨rfl, hb⟩
            have HBa : Hid (Below W5.heap.size W5 wa) := bel_step (bel_drew W5) hb
            clear hb
            refine hK.out _ _ ?_ (fun hNew => ?_)
            · (try dsimp only); first | exact HSS.out _ (bel_drew _) | exact HSS.out _ HBa.out | exact HSS.out _ HBb.out | exact HSS.out _ (bel_alloc HBb.out _) | exact HSS.out _ (bel_alloc (bel_alloc HBb.out _) _) | exact HSS.out _ HBc.out | exact HSS.out _ (bel_alloc HBc.out _) | exact HSS.out _ HBd.out | exact HSS.out _ HBe.out
            clear hHeld hK K
            have hHeld := hNew
            clear hNew
            try simp only [Act.put, List.setIfInBounds_toArray, List.set_cons_zero, List.set_cons_succ]
            refine wpAnyH_take (i := 4) (oi := _) (v := ?_) rfl (by kernel_rfl) (by kernel_rfl) (by kernel_rfl) (fun _ _ _ h => h) (Or.inl ⟨by rfl, ?_⟩) (by assumption) ?_
            rotate_left
            · intro w hSw; clear hSw; go_simp; try with_reducible rfl
            try simp only [Act.put, List.setIfInBounds_toArray, List.set_cons_zero, List.set_cons_succ]
            refine wpAnyH_take (i := 5) (oi := _) (v := ?_) rfl (by kernel_rfl) (by kernel_rfl) (by kernel_rfl) (fun _ _ _ h => h) (Or.inl ⟨by rfl, ?_⟩) (by assumption) ?_
            rotate_left
            · intro w hSw; clear hSw; go_simp; try with_reducible rfl
            try simp only [Act.put, List.setIfInBounds_toArray, List.set_cons_zero, List.set_cons_succ]
            refine wpAnyH_take (i := 6) (oi := _) (v := .agg ([.int .u8 t.head.kind, .int .u8 t.head.op, .int .i64 t.head.at_, .int .i64 t.head.n, .string t.head.name, .string t.head.arg, .string t.head.exn, .int .i64 t.head.rho, .slice t.head.rp t.head.rn t.head.rc, .slice t.head.ep t.head.en t.head.ec, .int .u8 t.head.ty.head.kind, .int .i64 t.head.ty.head.rho, .slice t.head.ty.head.ep t.head.ty.head.en t.head.ty.head.ec, .slice t.head.ty.head.kp t.head.ty.head.kn t.head.ty.head.kc, .int .u8 t.head.res.head.kind, .int .i64 t.head.res.head.rho, .slice t.head.res.head.ep t.head.res.head.en t.head.res.head.ec, .slice t.head.res.head.kp t.head.res.head.kn t.head.res.head.kc, .slice t.head.kp t.head.kn t.head.kc] : List Value).toArray) rfl (by kernel_rfl) (by kernel_rfl) (by kernel_rfl) (fun _ _ _ h => h) (yieldsIf_load_mid (by rfl) 31 _ rfl w.heap.size 0 rfl _ _ (fun W' h => h) Tryz.underlying31 rfl (by kernel_rfl)) (by assumption) ?_
            try simp only [Act.put, List.setIfInBounds_toArray, List.set_cons_zero, List.set_cons_succ]
            refine wpAnyH_ready (rs := [7]) (by kernel_rfl) (by simp) ?_
            refine AllReadyH.cons (o := _) rfl (fun K hK => ?_) AllReadyH.nil
            go_simp
            go_at_call 16
            refine (Count_any (HTEW.out _ (HBa.out)) (HNIL.out _)).mono ?_
            rw [HQ0.out]
            rintro e wb ⟨rfl, hb⟩
            have HBb : Hid (Below W5.heap.size W5 wb) := bel_step (HBa.out) hb
            clear hb
            refine hK.out _ _ ?_ (fun hNew => ?_)
            · (try dsimp only); first | exact HSS.out _ (bel_drew _) | exact HSS.out _ HBa.out | exact HSS.out _ HBb.out | exact HSS.out _ (bel_alloc HBb.out _) | exact HSS.out _ (bel_alloc (bel_alloc HBb.out _) _) | exact HSS.out _ HBc.out | exact HSS.out _ (bel_alloc HBc.out _) | exact HSS.out _ HBd.out | exact HSS.out _ HBe.out
            clear hHeld hK K
            have hHeld := hNew
            clear hNew
            try simp only [Act.put, List.setIfInBounds_toArray, List.set_cons_zero, List.set_cons_succ]
            refine wpAnyH_take (i := 8) (oi := _) (v := ?_) rfl (by kernel_rfl) (by kernel_rfl) (by kernel_rfl) (fun _ _ _ h => h) (Or.inl ⟨by rfl, ?_⟩) (by assumption) ?_
            rotate_left
            · intro w hSw; clear hSw; go_simp; try with_reducible rfl
            try simp only [Act.put, List.setIfInBounds_toArray, List.set_cons_zero, List.set_cons_succ]
            refine wpAnyH_take (i := 9) (oi := _) (v := ?_) rfl (by kernel_rfl) (by kernel_rfl) (by kernel_rfl) (fun _ _ _ h => h) (Or.inl ⟨by rfl, ?_⟩) (by assumption) ?_
            rotate_left
            · intro w hSw; clear hSw; go_simp; try with_reducible rfl
            try simp only [Act.put, List.setIfInBounds_toArray, List.set_cons_zero, List.set_cons_succ]
            refine wpAnyH_take (i := 10) (oi := _) (v := ?_) rfl (by kernel_rfl) (by kernel_rfl) (by kernel_rfl) (fun _ _ _ h => h) (Or.inl ⟨by rfl, ?_⟩) (by assumption) ?_
            rotate_left
            · intro w hSw; clear hSw; go_simp; try with_reducible rfl
            try simp only [Act.put, List.setIfInBounds_toArray, List.set_cons_zero, List.set_cons_succ]
            refine wpAnyH_take (i := 11) (oi := _) (v := .agg ([.int .u8 t.head.kind, .int .u8 t.head.op, .int .i64 t.head.at_, .int .i64 t.head.n, .string t.head.name, .string t.head.arg, .string t.head.exn, .int .i64 t.head.rho, .slice t.head.rp t.head.rn t.head.rc, .slice t.head.ep t.head.en t.head.ec, .int .u8 t.head.ty.head.kind, .int .i64 t.head.ty.head.rho, .slice t.head.ty.head.ep t.head.ty.head.en t.head.ty.head.ec, .slice t.head.ty.head.kp t.head.ty.head.kn t.head.ty.head.kc, .int .u8 t.head.res.head.kind, .int .i64 t.head.res.head.rho, .slice t.head.res.head.ep t.head.res.head.en t.head.res.head.ec, .slice t.head.res.head.kp t.head.res.head.kn t.head.res.head.kc, .slice t.head.kp t.head.kn t.head.kc] : List Value).toArray) rfl (by kernel_rfl) (by kernel_rfl) (by kernel_rfl) (fun _ _ _ h => h) (yieldsIf_load_mid (by rfl) 31 _ rfl w.heap.size 0 rfl _ _ (fun W' h => h) Tryz.underlying31 rfl (by kernel_rfl)) (by assumption) ?_
            try simp only [Act.put, List.setIfInBounds_toArray, List.set_cons_zero, List.set_cons_succ]
            refine wpAnyH_take (i := 14) (oi := _) (v := .agg ([.int .u8 t.head.kind, .int .u8 t.head.op, .int .i64 t.head.at_, .int .i64 t.head.n, .string t.head.name, .string t.head.arg, .string t.head.exn, .int .i64 t.head.rho, .slice t.head.rp t.head.rn t.head.rc, .slice t.head.ep t.head.en t.head.ec, .int .u8 t.head.ty.head.kind, .int .i64 t.head.ty.head.rho, .slice t.head.ty.head.ep t.head.ty.head.en t.head.ty.head.ec, .slice t.head.ty.head.kp t.head.ty.head.kn t.head.ty.head.kc, .int .u8 t.head.res.head.kind, .int .i64 t.head.res.head.rho, .slice t.head.res.head.ep t.head.res.head.en t.head.res.head.ec, .slice t.head.res.head.kp t.head.res.head.kn t.head.res.head.kc, .slice t.head.kp t.head.kn t.head.kc] : List Value).toArray) rfl (by kernel_rfl) (by kernel_rfl) (by kernel_rfl) (fun _ _ _ h => h) (yieldsIf_load_mid (by rfl) 31 _ rfl w.heap.size 0 rfl _ _ (fun W' h => h) Tryz.underlying31 rfl (by kernel_rfl)) (by assumption) ?_
            try simp only [Act.put, List.setIfInBounds_toArray, List.set_cons_zero, List.set_cons_succ]
            refine wpAnyH_ready (rs := [12, 15]) (by kernel_rfl) (by simp) ?_
            refine AllReadyH.cons (o := _) rfl (fun K hK => ?_) ?_
            · go_simp
              refine hK.out _ _ ?_ (fun hNew => ?_)
              · (try dsimp only); first | exact HSS.out _ (bel_drew _) | exact HSS.out _ HBa.out | exact HSS.out _ HBb.out | exact HSS.out _ (bel_alloc HBb.out _) | exact HSS.out _ (bel_alloc (bel_alloc HBb.out _) _) | exact HSS.out _ HBc.out | exact HSS.out _ (bel_alloc HBc.out _) | exact HSS.out _ HBd.out | exact HSS.out _ HBe.out
              clear hHeld hK K
              have hHeld := hNew
              clear hNew
              try simp only [Act.put, List.setIfInBounds_toArray, List.set_cons_zero, List.set_cons_succ]
              refine wpAnyH_ready (rs := [13, 15]) (by kernel_rfl) (by simp) ?_
              refine AllReadyH.cons (o := _) rfl (fun K hK => ?_) ?_
              · go_simp
                go_at_call 16
                refine (Count_any (HTEW.out _ (bel_alloc HBb.out _)) (HRA.out wb)).mono ?_
                rw [HK40.out]
                rintro e wc ⟨rfl, hb⟩
                have HBc : Hid (Below W5.heap.size W5 wc) := bel_step (bel_alloc HBb.out _) hb
                clear hb
                refine hK.out _ _ ?_ (fun hNew => ?_)
                · (try dsimp only); first | exact HSS.out _ (bel_drew _) | exact HSS.out _ HBa.out | exact HSS.out _ HBb.out | exact HSS.out _ (bel_alloc HBb.out _) | exact HSS.out _ (bel_alloc (bel_alloc HBb.out _) _) | exact HSS.out _ HBc.out | exact HSS.out _ (bel_alloc HBc.out _) | exact HSS.out _ HBd.out | exact HSS.out _ HBe.out
                clear hHeld hK K
                have hHeld := hNew
                clear hNew
                try simp only [Act.put, List.setIfInBounds_toArray, List.set_cons_zero, List.set_cons_succ]
                refine wpAnyH_ready (rs := [15]) (by kernel_rfl) (by simp) ?_
                refine AllReadyH.cons (o := _) rfl (fun K hK => ?_) AllReadyH.nil
                go_simp
                refine hK.out _ _ ?_ (fun hNew => ?_)
                · (try dsimp only); first | exact HSS.out _ (bel_drew _) | exact HSS.out _ HBa.out | exact HSS.out _ HBb.out | exact HSS.out _ (bel_alloc HBb.out _) | exact HSS.out _ (bel_alloc (bel_alloc HBb.out _) _) | exact HSS.out _ HBc.out | exact HSS.out _ (bel_alloc HBc.out _) | exact HSS.out _ HBd.out | exact HSS.out _ HBe.out
                clear hHeld hK K
                have hHeld := hNew
                clear hNew
                try simp only [Act.put, List.setIfInBounds_toArray, List.set_cons_zero, List.set_cons_succ]
                refine wpAnyH_ready (rs := [16]) (by kernel_rfl) (by simp) ?_
                refine AllReadyH.cons (o := _) rfl (fun K hK => ?_) AllReadyH.nil
                go_simp
                go_at_call 16
                refine (Count_any (HTEW.out _ (bel_alloc HBc.out _)) (HRB.out wc)).mono ?_
                rw [HK41.out]
                rintro e we ⟨rfl, hb⟩
                have HBd : Hid (Below W5.heap.size W5 we) := bel_step (bel_alloc HBc.out _) hb
                clear hb
                refine hK.out _ _ ?_ (fun hNew => ?_)
                · (try dsimp only); first | exact HSS.out _ (bel_drew _) | exact HSS.out _ HBa.out | exact HSS.out _ HBb.out | exact HSS.out _ (bel_alloc HBb.out _) | exact HSS.out _ (bel_alloc (bel_alloc HBb.out _) _) | exact HSS.out _ HBc.out | exact HSS.out _ (bel_alloc HBc.out _) | exact HSS.out _ HBd.out | exact HSS.out _ HBe.out
                clear hHeld hK K
                have hHeld := hNew
                clear hNew
                try simp only [Act.put, List.setIfInBounds_toArray, List.set_cons_zero, List.set_cons_succ]
                refine wpAnyH_take (i := 17) (oi := _) (v := ?_) rfl (by kernel_rfl) (by kernel_rfl) (by kernel_rfl) (fun _ _ _ h => h) (Or.inl ⟨by rfl, ?_⟩) (by assumption) ?_
                rotate_left
                · intro w hSw; clear hSw; go_simp; try with_reducible rfl
                try simp only [Act.put, List.setIfInBounds_toArray, List.set_cons_zero, List.set_cons_succ]
                refine wpAnyH_take (i := 18) (oi := _) (v := ?_) rfl (by kernel_rfl) (by kernel_rfl) (by kernel_rfl) (fun _ _ _ h => h) (Or.inl ⟨by rfl, ?_⟩) (by assumption) ?_
                rotate_left
                · intro w hSw; clear hSw; go_simp; try with_reducible rfl
                try simp only [Act.put, List.setIfInBounds_toArray, List.set_cons_zero, List.set_cons_succ]
                refine wpAnyH_take (i := 19) (oi := _) (v := ?_) rfl (by kernel_rfl) (by kernel_rfl) (by kernel_rfl) (fun _ _ _ h => h) (Or.inl ⟨by rfl, ?_⟩) (by assumption) ?_
                rotate_left
                · intro w hSw; clear hSw; go_simp; try with_reducible rfl
                try simp only [Act.put, List.setIfInBounds_toArray, List.set_cons_zero, List.set_cons_succ]
                refine wpAnyH_ready (rs := [20]) (by kernel_rfl) (by simp) ?_
                refine AllReadyH.cons (o := _) rfl (fun K hK => ?_) AllReadyH.nil
                go_simp
                go_at_call 10
                have hb5 : Below w.heap.size w we := HB.out.trans (HBd.out.mono HB.out.size)
                refine (awake_any (HV.out.below hb5) (HT.out.below hb5)).mono ?_
                rintro e wf ⟨rfl, hb⟩
                have HBe : Hid (Below W5.heap.size W5 wf) := HBd.out.trans (hb.mono HBd.out.size)
                clear hb hb5
                refine hK.out _ _ ?_ (fun hNew => ?_)
                · (try dsimp only); first | exact HSS.out _ (bel_drew _) | exact HSS.out _ HBa.out | exact HSS.out _ HBb.out | exact HSS.out _ (bel_alloc HBb.out _) | exact HSS.out _ (bel_alloc (bel_alloc HBb.out _) _) | exact HSS.out _ HBc.out | exact HSS.out _ (bel_alloc HBc.out _) | exact HSS.out _ HBd.out | exact HSS.out _ HBe.out
                clear hHeld hK K
                have hHeld := hNew
                clear hNew
                try simp only [Act.put, List.setIfInBounds_toArray, List.set_cons_zero, List.set_cons_succ]
                refine wpAnyH_ready (rs := [21]) (by kernel_rfl) (by simp) ?_
                refine AllReadyH.cons (o := _) rfl (fun K hK => ?_) AllReadyH.nil
                go_simp
                refine hK.out _ _ ?_ (fun hNew => ?_)
                · (try dsimp only); first | exact HSS.out _ (bel_drew _) | exact HSS.out _ HBa.out | exact HSS.out _ HBb.out | exact HSS.out _ (bel_alloc HBb.out _) | exact HSS.out _ (bel_alloc (bel_alloc HBb.out _) _) | exact HSS.out _ HBc.out | exact HSS.out _ (bel_alloc HBc.out _) | exact HSS.out _ HBd.out | exact HSS.out _ HBe.out
                clear hHeld hK K
                have hHeld := hNew
                clear hNew
                try simp only [Act.put, List.setIfInBounds_toArray, List.set_cons_zero, List.set_cons_succ]
                refine wpAnyH_ready (rs := [22]) (by kernel_rfl) (by simp) ?_
                refine AllReadyH.cons (o := _) rfl (fun K hK => ?_) AllReadyH.nil
                go_simp
                refine hK.out _ _ ?_ (fun hNew => ?_)
                · (try dsimp only); first | exact HSS.out _ (bel_drew _) | exact HSS.out _ HBa.out | exact HSS.out _ HBb.out | exact HSS.out _ (bel_alloc HBb.out _) | exact HSS.out _ (bel_alloc (bel_alloc HBb.out _) _) | exact HSS.out _ HBc.out | exact HSS.out _ (bel_alloc HBc.out _) | exact HSS.out _ HBd.out | exact HSS.out _ HBe.out
                clear hHeld hK K
                have hHeld := hNew
                clear hNew
                try simp only [Act.put, List.setIfInBounds_toArray, List.set_cons_zero, List.set_cons_succ]
                refine wpAnyH_done (by kernel_rfl) ?_ _
                refine NoPanic.normal ?_
                clear hHeld
                go_wp2_with fail
                go_ret
                exact ⟨by first | rfl | simp, HB.out.trans (HBe.out.mono HB.out.size)⟩
              refine AllReadyH.cons (o := _) rfl (fun K hK => ?_) AllReadyH.nil
              go_simp
              refine hK.out _ _ ?_ (fun hNew => ?_)
              · (try dsimp only); first | exact HSS.out _ (bel_drew _) | exact HSS.out _ HBa.out | exact HSS.out _ HBb.out | exact HSS.out _ (bel_alloc HBb.out _) | exact HSS.out _ (bel_alloc (bel_alloc HBb.out _) _) | exact HSS.out _ HBc.out | exact HSS.out _ (bel_alloc HBc.out _) | exact HSS.out _ HBd.out | exact HSS.out _ HBe.out
              clear hHeld hK K
              have hHeld := hNew
              clear hNew
              try simp only [Act.put, List.setIfInBounds_toArray, List.set_cons_zero, List.set_cons_succ]
              refine wpAnyH_ready (rs := [13]) (by kernel_rfl) (by simp) ?_
              refine AllReadyH.cons (o := _) rfl (fun K hK => ?_) AllReadyH.nil
              go_simp
              go_at_call 16
              refine (Count_any (HTEW.out _ (bel_alloc (bel_alloc HBb.out _) _)) ((HRA.out wb).below ((Below.refl _ _).alloc (Nat.le_refl _) _))).mono ?_
              rw [HK40.out]
              rintro e wc ⟨rfl, hb⟩
              have hbq := Lib.hid hb
              have HBc : Hid (Below W5.heap.size W5 wc) := bel_step (bel_alloc (bel_alloc HBb.out _) _) hb
              clear hb
              refine hK.out _ _ ?_ (fun hNew => ?_)
              · (try dsimp only); first | exact HSS.out _ (bel_drew _) | exact HSS.out _ HBa.out | exact HSS.out _ HBb.out | exact HSS.out _ (bel_alloc HBb.out _) | exact HSS.out _ (bel_alloc (bel_alloc HBb.out _) _) | exact HSS.out _ HBc.out | exact HSS.out _ (bel_alloc HBc.out _) | exact HSS.out _ HBd.out | exact HSS.out _ HBe.out
              clear hHeld hK K
              have hHeld := hNew
              clear hNew
              try simp only [Act.put, List.setIfInBounds_toArray, List.set_cons_zero, List.set_cons_succ]
              refine wpAnyH_ready (rs := [16]) (by kernel_rfl) (by simp) ?_
              refine AllReadyH.cons (o := _) rfl (fun K hK => ?_) AllReadyH.nil
              go_simp
              have hrow : IsRow encS 1 wc (some ⟨wb.heap.size + 1, 0, none⟩) 1 1 [⟨#[41]⟩] := by
                have h := (HRB.out (wb.alloc (.cells #[.string ⟨#[40]⟩] 9))).below hbq.out
                rw [show (wb.alloc (.cells #[.string ⟨#[40]⟩] 9)).heap.size = wb.heap.size + 1 by simp] at h
                exact h
              go_at_call 16
              refine (Count_any (HTEW.out _ (HBc.out)) (hrow)).mono ?_
              rw [HK41.out]
              rintro e we ⟨rfl, hb⟩
              have HBd : Hid (Below W5.heap.size W5 we) := bel_step (HBc.out) hb
              clear hb
              refine hK.out _ _ ?_ (fun hNew => ?_)
              · (try dsimp only); first | exact HSS.out _ (bel_drew _) | exact HSS.out _ HBa.out | exact HSS.out _ HBb.out | exact HSS.out _ (bel_alloc HBb.out _) | exact HSS.out _ (bel_alloc (bel_alloc HBb.out _) _) | exact HSS.out _ HBc.out | exact HSS.out _ (bel_alloc HBc.out _) | exact HSS.out _ HBd.out | exact HSS.out _ HBe.out
              clear hHeld hK K
              have hHeld := hNew
              clear hNew
              try simp only [Act.put, List.setIfInBounds_toArray, List.set_cons_zero, List.set_cons_succ]
              refine wpAnyH_take (i := 17) (oi := _) (v := ?_) rfl (by kernel_rfl) (by kernel_rfl) (by kernel_rfl) (fun _ _ _ h => h) (Or.inl ⟨by rfl, ?_⟩) (by assumption) ?_
              rotate_left
              · intro w hSw; clear hSw; go_simp; try with_reducible rfl
              try simp only [Act.put, List.setIfInBounds_toArray, List.set_cons_zero, List.set_cons_succ]
              refine wpAnyH_take (i := 18) (oi := _) (v := ?_) rfl (by kernel_rfl) (by kernel_rfl) (by kernel_rfl) (fun _ _ _ h => h) (Or.inl ⟨by rfl, ?_⟩) (by assumption) ?_
              rotate_left
              · intro w hSw; clear hSw; go_simp; try with_reducible rfl
              try simp only [Act.put, List.setIfInBounds_toArray, List.set_cons_zero, List.set_cons_succ]
              refine wpAnyH_take (i := 19) (oi := _) (v := ?_) rfl (by kernel_rfl) (by kernel_rfl) (by kernel_rfl) (fun _ _ _ h => h) (Or.inl ⟨by rfl, ?_⟩) (by assumption) ?_
              rotate_left
              · intro w hSw; clear hSw; go_simp; try with_reducible rfl
              try simp only [Act.put, List.setIfInBounds_toArray, List.set_cons_zero, List.set_cons_succ]
              refine wpAnyH_ready (rs := [20]) (by kernel_rfl) (by simp) ?_
              refine AllReadyH.cons (o := _) rfl (fun K hK => ?_) AllReadyH.nil
              go_simp
              go_at_call 10
              have hb5 : Below w.heap.size w we := HB.out.trans (HBd.out.mono HB.out.size)
              refine (awake_any (HV.out.below hb5) (HT.out.below hb5)).mono ?_
              rintro e wf ⟨rfl, hb⟩
              have HBe : Hid (Below W5.heap.size W5 wf) := HBd.out.trans (hb.mono HBd.out.size)
              clear hb hb5
              refine hK.out _ _ ?_ (fun hNew => ?_)
              · (try dsimp only); first | exact HSS.out _ (bel_drew _) | exact HSS.out _ HBa.out | exact HSS.out _ HBb.out | exact HSS.out _ (bel_alloc HBb.out _) | exact HSS.out _ (bel_alloc (bel_alloc HBb.out _) _) | exact HSS.out _ HBc.out | exact HSS.out _ (bel_alloc HBc.out _) | exact HSS.out _ HBd.out | exact HSS.out _ HBe.out
              clear hHeld hK K
              have hHeld := hNew
              clear hNew
              try simp only [Act.put, List.setIfInBounds_toArray, List.set_cons_zero, List.set_cons_succ]
              refine wpAnyH_ready (rs := [21]) (by kernel_rfl) (by simp) ?_
              refine AllReadyH.cons (o := _) rfl (fun K hK => ?_) AllReadyH.nil
              go_simp
              refine hK.out _ _ ?_ (fun hNew => ?_)
              · (try dsimp only); first | exact HSS.out _ (bel_drew _) | exact HSS.out _ HBa.out | exact HSS.out _ HBb.out | exact HSS.out _ (bel_alloc HBb.out _) | exact HSS.out _ (bel_alloc (bel_alloc HBb.out _) _) | exact HSS.out _ HBc.out | exact HSS.out _ (bel_alloc HBc.out _) | exact HSS.out _ HBd.out | exact HSS.out _ HBe.out
              clear hHeld hK K
              have hHeld := hNew
              clear hNew
              try simp only [Act.put, List.setIfInBounds_toArray, List.set_cons_zero, List.set_cons_succ]
              refine wpAnyH_ready (rs := [22]) (by kernel_rfl) (by simp) ?_
              refine AllReadyH.cons (o := _) rfl (fun K hK => ?_) AllReadyH.nil
              go_simp
              refine hK.out _ _ ?_ (fun hNew => ?_)
              · (try dsimp only); first | exact HSS.out _ (bel_drew _) | exact HSS.out _ HBa.out | exact HSS.out _ HBb.out | exact HSS.out _ (bel_alloc HBb.out _) | exact HSS.out _ (bel_alloc (bel_alloc HBb.out _) _) | exact HSS.out _ HBc.out | exact HSS.out _ (bel_alloc HBc.out _) | exact HSS.out _ HBd.out | exact HSS.out _ HBe.out
              clear hHeld hK K
              have hHeld := hNew
              clear hNew
              try simp only [Act.put, List.setIfInBounds_toArray, List.set_cons_zero, List.set_cons_succ]
              refine wpAnyH_done (by kernel_rfl) ?_ _
              refine NoPanic.normal ?_
              clear hHeld
              go_wp2_with fail
              go_ret
              exact ⟨by first | rfl | simp, HB.out.trans (HBe.out.mono HB.out.size)⟩
            refine AllReadyH.cons (o := _) rfl (fun K hK => ?_) AllReadyH.nil
            go_simp
            refine hK.out _ _ ?_ (fun hNew => ?_)
            · (try dsimp only); first | exact HSS.out _ (bel_drew _) | exact HSS.out _ HBa.out | exact HSS.out _ HBb.out | exact HSS.out _ (bel_alloc HBb.out _) | exact HSS.out _ (bel_alloc (bel_alloc HBb.out _) _) | exact HSS.out _ HBc.out | exact HSS.out _ (bel_alloc HBc.out _) | exact HSS.out _ HBd.out | exact HSS.out _ HBe.out
            clear hHeld hK K
            have hHeld := hNew
            clear hNew
            try simp only [Act.put, List.setIfInBounds_toArray, List.set_cons_zero, List.set_cons_succ]
            refine wpAnyH_ready (rs := [12]) (by kernel_rfl) (by simp) ?_
            refine AllReadyH.cons (o := _) rfl (fun K hK => ?_) AllReadyH.nil
            go_simp
            refine hK.out _ _ ?_ (fun hNew => ?_)
            · (try dsimp only); first | exact HSS.out _ (bel_drew _) | exact HSS.out _ HBa.out | exact HSS.out _ HBb.out | exact HSS.out _ (bel_alloc HBb.out _) | exact HSS.out _ (bel_alloc (bel_alloc HBb.out _) _) | exact HSS.out _ HBc.out | exact HSS.out _ (bel_alloc HBc.out _) | exact HSS.out _ HBd.out | exact HSS.out _ HBe.out
            clear hHeld hK K
            have hHeld := hNew
            clear hNew
            try simp only [Act.put, List.setIfInBounds_toArray, List.set_cons_zero, List.set_cons_succ]
            refine wpAnyH_ready (rs := [13]) (by kernel_rfl) (by simp) ?_
            refine AllReadyH.cons (o := _) rfl (fun K hK => ?_) AllReadyH.nil
            go_simp
            have hrow : IsRow encS 1 ((wb.alloc (.cells #[.string ⟨#[41]⟩] 9)).alloc (.cells #[.string ⟨#[40]⟩] 9)) (some ⟨wb.heap.size + 1, 0, none⟩) 1 1 [⟨#[40]⟩] := by
              have h := HRA.out (wb.alloc (.cells #[.string ⟨#[41]⟩] 9))
              rw [show (wb.alloc (.cells #[.string ⟨#[41]⟩] 9)).heap.size = wb.heap.size + 1 by simp] at h
              exact h
            go_at_call 16
            refine (Count_any (HTEW.out _ (bel_alloc (bel_alloc HBb.out _) _)) (hrow)).mono ?_
            rw [HK40.out]
            rintro e wc ⟨rfl, hb⟩
            have hbq := Lib.hid hb
            have HBc : Hid (Below W5.heap.size W5 wc) := bel_step (bel_alloc (bel_alloc HBb.out _) _) hb
            clear hb
            refine hK.out _ _ ?_ (fun hNew => ?_)
            · (try dsimp only); first | exact HSS.out _ (bel_drew _) | exact HSS.out _ HBa.out | exact HSS.out _ HBb.out | exact HSS.out _ (bel_alloc HBb.out _) | exact HSS.out _ (bel_alloc (bel_alloc HBb.out _) _) | exact HSS.out _ HBc.out | exact HSS.out _ (bel_alloc HBc.out _) | exact HSS.out _ HBd.out | exact HSS.out _ HBe.out
            clear hHeld hK K
            have hHeld := hNew
            clear hNew
            try simp only [Act.put, List.setIfInBounds_toArray, List.set_cons_zero, List.set_cons_succ]
            refine wpAnyH_ready (rs := [16]) (by kernel_rfl) (by simp) ?_
            refine AllReadyH.cons (o := _) rfl (fun K hK => ?_) AllReadyH.nil
            go_simp
            have hrow2 := ((HRB.out wb).below ((Below.refl _ _).alloc (Nat.le_refl _) (.cells #[.string ⟨#[40]⟩] 9))).below hbq.out
            go_at_call 16
            refine (Count_any (HTEW.out _ (HBc.out)) (hrow2)).mono ?_
            rw [HK41.out]
            rintro e we ⟨rfl, hb⟩
            have HBd : Hid (Below W5.heap.size W5 we) := bel_step (HBc.out) hb
            clear hb
            refine hK.out _ _ ?_ (fun hNew => ?_)
            · (try dsimp only); first | exact HSS.out _ (bel_drew _) | exact HSS.out _ HBa.out | exact HSS.out _ HBb.out | exact HSS.out _ (bel_alloc HBb.out _) | exact HSS.out _ (bel_alloc (bel_alloc HBb.out _) _) | exact HSS.out _ HBc.out | exact HSS.out _ (bel_alloc HBc.out _) | exact HSS.out _ HBd.out | exact HSS.out _ HBe.out
            clear hHeld hK K
            have hHeld := hNew
            clear hNew
            try simp only [Act.put, List.setIfInBounds_toArray, List.set_cons_zero, List.set_cons_succ]
            refine wpAnyH_take (i := 17) (oi := _) (v := ?_) rfl (by kernel_rfl) (by kernel_rfl) (by kernel_rfl) (fun _ _ _ h => h) (Or.inl ⟨by rfl, ?_⟩) (by assumption) ?_
            rotate_left
            · intro w hSw; clear hSw; go_simp; try with_reducible rfl
            try simp only [Act.put, List.setIfInBounds_toArray, List.set_cons_zero, List.set_cons_succ]
            refine wpAnyH_take (i := 18) (oi := _) (v := ?_) rfl (by kernel_rfl) (by kernel_rfl) (by kernel_rfl) (fun _ _ _ h => h) (Or.inl ⟨by rfl, ?_⟩) (by assumption) ?_
            rotate_left
            · intro w hSw; clear hSw; go_simp; try with_reducible rfl
            try simp only [Act.put, List.setIfInBounds_toArray, List.set_cons_zero, List.set_cons_succ]
            refine wpAnyH_take (i := 19) (oi := _) (v := ?_) rfl (by kernel_rfl) (by kernel_rfl) (by kernel_rfl) (fun _ _ _ h => h) (Or.inl ⟨by rfl, ?_⟩) (by assumption) ?_
            rotate_left
            · intro w hSw; clear hSw; go_simp; try with_reducible rfl
            try simp only [Act.put, List.setIfInBounds_toArray, List.set_cons_zero, List.set_cons_succ]
            refine wpAnyH_ready (rs := [20]) (by kernel_rfl) (by simp) ?_
            refine AllReadyH.cons (o := _) rfl (fun K hK => ?_) AllReadyH.nil
            go_simp
            go_at_call 10
            have hb5 : Below w.heap.size w we := HB.out.trans (HBd.out.mono HB.out.size)
            refine (awake_any (HV.out.below hb5) (HT.out.below hb5)).mono ?_
            rintro e wf ⟨rfl, hb⟩
            have HBe : Hid (Below W5.heap.size W5 wf) := HBd.out.trans (hb.mono HBd.out.size)
            clear hb hb5
            refine hK.out _ _ ?_ (fun hNew => ?_)
            · (try dsimp only); first | exact HSS.out _ (bel_drew _) | exact HSS.out _ HBa.out | exact HSS.out _ HBb.out | exact HSS.out _ (bel_alloc HBb.out _) | exact HSS.out _ (bel_alloc (bel_alloc HBb.out _) _) | exact HSS.out _ HBc.out | exact HSS.out _ (bel_alloc HBc.out _) | exact HSS.out _ HBd.out | exact HSS.out _ HBe.out
            clear hHeld hK K
            have hHeld := hNew
            clear hNew
            try simp only [Act.put, List.setIfInBounds_toArray, List.set_cons_zero, List.set_cons_succ]
            refine wpAnyH_ready (rs := [21]) (by kernel_rfl) (by simp) ?_
            refine AllReadyH.cons (o := _) rfl (fun K hK => ?_) AllReadyH.nil
            go_simp
            refine hK.out _ _ ?_ (fun hNew => ?_)
            · (try dsimp only); first | exact HSS.out _ (bel_drew _) | exact HSS.out _ HBa.out | exact HSS.out _ HBb.out | exact HSS.out _ (bel_alloc HBb.out _) | exact HSS.out _ (bel_alloc (bel_alloc HBb.out _) _) | exact HSS.out _ HBc.out | exact HSS.out _ (bel_alloc HBc.out _) | exact HSS.out _ HBd.out | exact HSS.out _ HBe.out
            clear hHeld hK K
            have hHeld := hNew
            clear hNew
            try simp only [Act.put, List.setIfInBounds_toArray, List.set_cons_zero, List.set_cons_succ]
            refine wpAnyH_ready (rs := [22]) (by kernel_rfl) (by simp) ?_
            refine AllReadyH.cons (o := _) rfl (fun K hK => ?_) AllReadyH.nil
            go_simp
            refine hK.out _ _ ?_ (fun hNew => ?_)
            · (try dsimp only); first | exact HSS.out _ (bel_drew _) | exact HSS.out _ HBa.out | exact HSS.out _ HBb.out | exact HSS.out _ (bel_alloc HBb.out _) | exact HSS.out _ (bel_alloc (bel_alloc HBb.out _) _) | exact HSS.out _ HBc.out | exact HSS.out _ (bel_alloc HBc.out _) | exact HSS.out _ HBd.out | exact HSS.out _ HBe.out
            clear hHeld hK K
            have hHeld := hNew
            clear hNew
            try simp only [Act.put, List.setIfInBounds_toArray, List.set_cons_zero, List.set_cons_succ]
            refine wpAnyH_done (by kernel_rfl) ?_ _
            refine NoPanic.normal ?_
            clear hHeld
            go_wp2_with fail
            go_ret
            exact ⟨by first | rfl | simp, HB.out.trans (HBe.out.mono HB.out.size)⟩
  · have e20 : decide ((n : Int) > 20) = true := by simp; omega
    clear hn20
    go_enter Tryz.func6, Tryz.ntmps6
    go_upto_region 1 with fail
    go_upto_region 4 with (first
      | (refine wpList_load_row rfl 31 _ rfl w.heap.size rfl 31 _ (0, 0) _ HBX.out.blk Tryz.underlying31 rfl (by kernel_rfl) ?_)
      | (refine wpList_load_midG (by rfl) 31 _ rfl w.heap.size 0 rfl [.int .u8 t.head.kind, .int .u8 t.head.op, .int .i64 t.head.at_, .int .i64 t.head.n, .string t.head.name, .string t.head.arg, .string t.head.exn, .int .i64 t.head.rho, .slice t.head.rp t.head.rn t.head.rc, .slice t.head.ep t.head.en t.head.ec, .int .u8 t.head.ty.head.kind, .int .i64 t.head.ty.head.rho, .slice t.head.ty.head.ep t.head.ty.head.en t.head.ty.head.ec, .slice t.head.ty.head.kp t.head.ty.head.kn t.head.ty.head.kc, .int .u8 t.head.res.head.kind, .int .i64 t.head.res.head.rho, .slice t.head.res.head.ep t.head.res.head.en t.head.res.head.ec, .slice t.head.res.head.kp t.head.res.head.kn t.head.res.head.kc, .slice t.head.kp t.head.kn t.head.kc] _ HBX.out.range Tryz.underlying31 rfl (by kernel_rfl) ?_)
      | (go_at_call 10; refine (awake_any (HV.out.below HB.out) (HT.out.below HB.out)).mono ?_; rintro e w9 ⟨rfl, hb⟩; have HB := Lib.hid (HB.out.trans (hb.mono HB.out.size)); clear hb)
      | (go_at_call 8; refine HG.out.mono ?_; rintro e w8 ⟨⟨r, rfl, hgr⟩, hb⟩; have HB := Lib.hid (HB.out.trans (hb.mono HB.out.size)); have HBX := Lib.hid (HBX.out.below hb); clear hb; have HGR := Lib.hid hgr; clear hgr; cases r; have HTE := Lib.hid (show TEnv w8 t from ⟨HL.out _ HB.out, (HGR.out rfl).2, Nat.le_trans (HGR.out rfl).1 (by omega), HV.out.below HB.out, HT.out.below HB.out⟩))
      | (go_at_call 9; refine (ref13_May_any t HTE.out.lies HTE.out.size).mono ?_; rintro e w8 ⟨rfl, hb⟩; have HB := Lib.hid (HB.out.trans (hb.mono HB.out.size)); have HBX := Lib.hid (HBX.out.below hb); have HTE := Lib.hid (HTE.out.below hb); clear hb; cases hm : mayA t))
    all_goals (
      go_ret
      exact ⟨rfl, HB.out⟩)
end Go.Proofs.YtdlbjngpohkglaaGreatDoor
end
