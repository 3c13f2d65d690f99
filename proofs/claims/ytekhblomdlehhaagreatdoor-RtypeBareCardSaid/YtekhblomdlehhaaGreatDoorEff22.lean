/- enclaveref11.Rhos, Exns; enclavelaw11.great; effect.Rhos. -/
import Derived.Test.YtekhblomdlehhaaGreatDoorEff21
import Derived.Test.YtekhblomdlehhaaGreatDoorOwn0
set_option linter.unusedVariables false
set_option maxRecDepth 100000
set_option linter.unusedSimpArgs false
namespace Go.Proofs.YtekhblomdlehhaaGreatDoor
open Go.RowKit Go.Sort Go.Lib

/-- does an atom name a region? -/
def hasR (x : Atom) : Bool := atomB x && decide (x.kind ≠ 3)
/-- the regions of an effect -/
def rhosOf (l : List Atom) : List Int := sortI ((l.filter hasR).map (·.rho))
def rhosF (l : List Atom) : List Int := (l.filter hasR).foldl (fun e a => putI a.rho e) []
theorem rhosF_snoc (l : List Atom) (x : Atom) : rhosF (l ++ [x]) = if hasR x then putI x.rho (rhosF l) else rhosF l := by
  unfold rhosF
  rw [List.filter_append, List.foldl_append]
  cases h : hasR x <;> simp [h]
theorem foldI : ∀ (l : List Int) (e : List Int), Rising ltI e → Rising ltI (l.foldl (fun e a => putI a e) e) ∧ ∀ x, x ∈ l.foldl (fun e a => putI a e) e ↔ x ∈ e ∨ x ∈ l
  | [], e, h => ⟨h, fun x => by simp⟩
  | a :: l, e, h => by
    obtain ⟨h1, h2⟩ := foldI l (putI a e) (rising_putI a e h)
    refine ⟨h1, fun x => ?_⟩
    rw [List.foldl_cons, h2, mem_putI, List.mem_cons]
    constructor
    · rintro ((rfl | h) | h)
      · exact .inr (.inl rfl)
      · exact .inl h
      · exact .inr (.inr h)
    · rintro (h | rfl | h)
      · exact .inl (.inr h)
      · exact .inl (.inl rfl)
      · exact .inr h
theorem rhosF_eq (l : List Atom) : rhosF l = rhosOf l := by
  have e : rhosF l = ((l.filter hasR).map (·.rho)).foldl (fun e a => putI a e) [] := by unfold rhosF; rw [List.foldl_map]
  obtain ⟨h1, h2⟩ := foldI ((l.filter hasR).map (·.rho)) [] (by simp [Rising])
  rw [e]
  exact eq_sortI h1 (fun x => by rw [h2]; simp)
theorem insertR_length {α : Type} (lt : α → α → Bool) (a : α) : ∀ l : List α, (insertR lt a l).length ≤ l.length + 1
  | [] => by simp [insertR]
  | b :: l => by
    unfold insertR
    split
    · simp
    · split
      · have := insertR_length lt a l; simp; omega
      · simp
theorem sortR_length {α : Type} (lt : α → α → Bool) : ∀ l : List α, (sortR lt l).length ≤ l.length
  | [] => by simp [sortR]
  | a :: l => by
    have h1 := insertR_length lt a (sortR lt l)
    have h2 := sortR_length lt l
    simp only [sortR, List.length_cons]; omega
theorem rhosOf_length (l : List Atom) : (rhosOf l).length ≤ l.length := by
  have h1 := sortR_length ltI ((l.filter hasR).map (·.rho))
  have h2 := List.length_filter_le hasR l
  rw [List.length_map] at h1
  exact Nat.le_trans h1 h2
theorem mem_rhosOf (l : List Atom) (r : Int) : r ∈ rhosOf l ↔ ∃ x ∈ l, atomB x = true ∧ x.kind ≠ 3 ∧ x.rho = r := by
  unfold rhosOf
  rw [mem_sortI, List.mem_map]
  constructor
  · rintro ⟨x, hx, rfl⟩
    rw [List.mem_filter] at hx
    have h := hx.2
    unfold hasR at h
    rw [Bool.and_eq_true] at h
    exact ⟨x, hx.1, h.1, of_decide_eq_true h.2, rfl⟩
  · rintro ⟨x, hx, h1, h2, rfl⟩
    exact ⟨x, List.mem_filter.2 ⟨hx, by unfold hasR; rw [h1, decide_eq_true h2]; rfl⟩, rfl⟩
theorem rhosOf_congr {l m : List Atom} (h : ∀ x, atomB x = true → (x ∈ l ↔ x ∈ m)) : rhosOf l = rhosOf m := by
  refine sortI_congr (fun r => ?_)
  have h1 := mem_rhosOf l r
  have h2 := mem_rhosOf m r
  unfold rhosOf at h1 h2
  rw [mem_sortI] at h1 h2
  rw [h1, h2]
  constructor
  · rintro ⟨x, hx, ha, hk, hr⟩; exact ⟨x, (h x ha).1 hx, ha, hk, hr⟩
  · rintro ⟨x, hx, ha, hk, hr⟩; exact ⟨x, (h x ha).2 hx, ha, hk, hr⟩
theorem rhosOf_effL (l : List Atom) : rhosOf (effL l) = rhosOf l := rhosOf_congr (fun x hx => by rw [mem_sortA, List.mem_filter]; simp [hx])

set_option maxHeartbeats 1000000 in
theorem ref_Rhos_any {p : Option Addr} {n cap : Nat} {l : List Atom} {w : World} (hr : IsRow encA 3 w p n cap l) (hm : n ≤ 1000000) :
    Calls Tryz.prog 16 #[.slice p n cap] w fun e w' => IsOut encN 1 w' e (rhosOf l) ∧ Below w.heap.size w w' := by
  have HR := Lib.hid hr
  clear hr
  go_enter Tryz.func16, Tryz.ntmps16
  go_wp2_with fail
  go_loopw [3, 4, 8] (fun u _ i wr => ∃ (k : Nat) (q : Option Addr) (m mc : Nat), k ≤ n ∧ i = .int .i64 k ∧ u = .slice q m mc ∧ m ≤ k ∧ IsRow encN 1 wr q m mc (rhosF (l.take k)) ∧ Below w.heap.size w wr) (fun _ _ i _ => n - (intOf i).toNat)
  case atStart => exact ⟨0, _, _, _, by omega, rfl, rfl, by omega, isRow_lit _ _ _ _, (Below.refl _ _).alloc (Nat.le_refl _) _⟩
  case round =>
    obtain ⟨k, q, m, mc, hk, rfl, rfl, hmk, hrow, hb⟩ := hrel
    have HROW := Lib.hid hrow
    have HB := Lib.hid hb
    clear hrow hb
    by_cases hlt : k < n
    · obtain ⟨x, hx⟩ := get_of_lt (l := l) (j := k) (by rw [HR.out.len]; exact hlt)
      have HE := Lib.hid hx
      obtain ⟨b, o, rfl, hbl, d0, d1, d2⟩ := RowA.atom (HR.out.below HB.out).row hx
      have HEL : Hid (∀ W, Below wr.heap.size wr W → W.cell? ⟨b, o + k * 3, none⟩ = some (.int .u8 x.kind) ∧ W.cell? ⟨b, o + k * 3 + 1, none⟩ = some (.int .i64 x.rho)) := fun W h => ⟨by rw [h.cell hbl]; exact d0, by rw [h.cell hbl]; exact d1⟩
      clear hx hbl
      cases ha : atomB x
      · have HQ : Hid (hasR x = false) := by show _ = _; simp [hasR, ha]
        have HA := Lib.hid ha
        clear ha
        go_wp2_with fail
        refine (ref_Atom_is HA.out _).mono ?_
        rintro e w1 ⟨rfl, hb⟩
        have HB1 := Lib.hid (HB.out.trans (hb.mono HB.out.size))
        have HBW := Lib.hid hb
        clear hb d0 d1 d2
        go_wp2_with fail
        go_roundw
        case rel => exact ⟨k + 1, q, m, mc, by omega, by go_num, rfl, by omega, by rw [take_succ_get HE.out, rhosF_snoc, HQ.out]; exact HROW.out.below HBW.out, HB1.out⟩
        case measure => simp [intOf]; omega
      · have HA := Lib.hid ha
        by_cases h3 : x.kind = 3
        · have h3' : (x.kind != 3) = false := by simp [h3]
          have HQ : Hid (hasR x = false) := by show _ = _; simp [hasR, h3]
          clear ha h3
          go_wp2_with fail
          refine (ref_Atom_is HA.out _).mono ?_
          rintro e w1 ⟨rfl, hb⟩
          have HB1 := Lib.hid (HB.out.trans (hb.mono HB.out.size))
          have HBW := Lib.hid hb
          clear d0 d1 d2
          obtain ⟨d0, d1⟩ := HEL.out w1 hb
          clear hb
          go_wp2_with fail
          go_roundw
          case rel => exact ⟨k + 1, q, m, mc, by omega, by go_num, rfl, by omega, by rw [take_succ_get HE.out, rhosF_snoc, HQ.out]; exact HROW.out.below HBW.out, HB1.out⟩
          case measure => simp [intOf]; omega
        · have h3' : (x.kind != 3) = true := by simpa using h3
          have HQ : Hid (hasR x = true) := by show _ = _; simp [hasR, h3, ha]
          clear ha h3
          go_wp2_with fail
          refine (ref_Atom_is HA.out _).mono ?_
          rintro e w1 ⟨rfl, hb⟩
          have HB1 := Lib.hid (HB.out.trans (hb.mono HB.out.size))
          have HR1 := Lib.hid (HROW.out.below hb)
          clear d0 d1 d2
          obtain ⟨d0, d1⟩ := HEL.out w1 hb
          clear hb
          go_wp2_with fail
          refine (ref_PutInt_any HR1.out (by omega) x.rho).mono ?_
          rintro e w2 ⟨v, q', m', mc', rfl, rfl, hr', hb⟩
          have HB2 := Lib.hid (HB1.out.trans (hb.mono HB1.out.size))
          have hm' : m' ≤ k + 1 := by have h1 := putI_length x.rho (rhosF (l.take k)); have h2 := hr'.len; have h3 := HROW.out.len; omega
          have HR' := Lib.hid hr'
          clear hb d0 d1 hr'
          go_wp2_with fail
          go_roundw
          case rel => exact ⟨k + 1, q', m', mc', by omega, by go_num, rfl, hm', by rw [take_succ_get HE.out, rhosF_snoc, HQ.out]; exact HR'.out, HB2.out⟩
          case measure => simp [intOf]; omega
    · have hkn : k = n := by omega
      subst hkn
      go_wp2_with fail
      go_ret
      have h2 := HROW.out
      rw [take_full (by rw [HR.out.len]; omega), rhosF_eq] at h2
      exact ⟨IsOut.mk h2, HB.out⟩

set_option maxHeartbeats 1000000 in
theorem ref_Exns_any {p : Option Addr} {n cap : Nat} {l : List Atom} {w : World} (hr : IsRow encA 3 w p n cap l) (hm : n ≤ 1000000) :
    Calls Tryz.prog 19 #[.slice p n cap] w fun e w' => IsOut encS 1 w' e (exnsL (effL l)) ∧ Below w.heap.size w w' := by
  have hel := effL_length l
  have HR := Lib.hid hr
  clear hr
  go_enter Tryz.func19, Tryz.ntmps19
  go_wp2_with fail
  refine (ref_Of_row (HR.out.alloc _) hm).mono ?_
  rintro e w1 ⟨⟨q, m, mc, rfl, hrow⟩, hb⟩
  have HROW := Lib.hid hrow
  have hm1 : m ≤ 1000000 := by have := hrow.len; have := HR.out.len; omega
  have HB := Lib.hid (((Below.refl _ w).alloc (Nat.le_refl _) (.cells #[] 9)).trans (hb.mono (by simp)))
  generalize hSS : effL l = S at *
  have HSS := Lib.hid hSS
  clear hb hrow hel hSS
  go_wp2_with fail
  go_loopw [3, 5, 11] (fun u _ i wr => ∃ k t : Nat, k ≤ m ∧ i = .int .i64 k ∧ t ≤ k ∧ Own0 encS 1 wr w1.heap.size 9 u t (exnsL (S.take k)) ∧ Below w1.heap.size w1 wr) (fun _ _ i _ => m - (intOf i).toNat)
  case atStart => exact ⟨0, 0, by omega, rfl, by omega, Own0.lit _ _ _ _ _ _, Below.refl _ _⟩
  case round =>
    obtain ⟨k, t, hk, rfl, htk, hown, hb⟩ := hrel
    have HOWN := Lib.hid hown
    have HBW := Lib.hid hb
    clear hown hb
    by_cases hlt : k < m
    · obtain ⟨x, hx⟩ := get_of_lt (l := S) (j := k) (by rw [HROW.out.len]; exact hlt)
      have HE := Lib.hid hx
      obtain ⟨b, o, rfl, hbl, d0, d1, d2⟩ := RowA.atom (HROW.out.below HBW.out).row hx
      obtain ⟨kd, rr, ss⟩ := x
      simp only at d0 d1 d2
      clear hx hbl
      by_cases h3 : kd = 3
      · subst h3
        go_wp2_with (at_builtin; refine wpList_append01 rfl _ _ 34 rfl w1.heap.size 9 _ 1 16 Tryz.underlying34 infoS rfl (by decide) encS encS_len encS_one ss _ _ _ HOWN.out rfl rfl ?c1 ?c2 ?c3 ?_)
        case c1 => omega
        case c2 => omega
        case c3 => exact HBW.out.size
        · intro v' w4 hown' hg
          have HO4 := Lib.hid hown'
          have HB4 := Lib.hid (hg _ _ (Nat.le_refl _) HBW.out.size HBW.out)
          clear hown' hg d0 d1 d2
          go_wp2_with fail
          go_roundw
          case rel => exact ⟨k + 1, t + 1, by omega, by go_num, by omega, by rw [take_succ_get HE.out]; unfold exnsL at HO4 ⊢; rw [List.filter_append, List.map_append]; exact HO4.out, HB4.out⟩
          case measure => simp [intOf]; omega
      · have h3' : (kd == 3) = false := by rw [beq_eq_false_iff_ne]; exact h3
        have HN3 := Lib.hid h3
        clear h3
        go_wp2_with fail
        go_roundw
        case rel => exact ⟨k + 1, t, by omega, by go_num, by omega, by rw [take_succ_get HE.out]; have := HOWN.out; unfold exnsL at this ⊢; rw [List.filter_append, List.map_append]; simpa [HN3.out] using this, HBW.out⟩
        case measure => simp [intOf]; omega
    · have hkm : k = m := by omega
      subst hkm
      go_wp2_with fail
      go_ret
      have h1 := HOWN.out
      rw [take_full (by rw [HROW.out.len]; omega)] at h1
      obtain ⟨p', c', rfl, h2, h3, h4, h5, h6⟩ := h1.isRow encS_len (by omega)
      exact ⟨by rw [HSS.out]; exact IsOut.mk ⟨h2, by omega, h3, h6, h4⟩, HB.out.trans (HBW.out.mono HB.out.size)⟩

/-- is one of the rows great, or are there more than 10? -/
def greatR (rows : List (SlE Atom)) : Bool := decide (10 < rows.length) || rows.any (fun r => greatB r.l)
theorem great_any {p : Option Addr} {n cap : Nat} {rows : List (SlE Atom)} {w : World} (hr : IsRow encSl 1 w p n cap rows) (hok : ∀ r ∈ rows, r.Ok encA 3 w ∧ r.n ≤ 9223372036854775807) :
    Calls Tryz.prog 9 #[.slice p n cap] w fun e w' => e = .returned (.bool (greatR rows)) ∧ w = w' := by
  have hmx := hr.max
  have HR := Lib.hid hr
  have HOK := Lib.hid hok
  clear hr hok
  by_cases h10 : 10 < n
  · have HG : Hid (greatR rows = true) := by show _ = _; simp [greatR, HR.out.len, h10]
    go_enter Tryz.func9, Tryz.ntmps9
    go_wp2_with fail
    go_ret
    exact ⟨ret_bool HG.out.symm, rfl⟩
  · have HG : Hid (greatR rows = rows.any (fun r => greatB r.l)) := by show _ = _; simp [greatR, HR.out.len, h10]
    go_enter Tryz.func9, Tryz.ntmps9
    go_wp2_with fail
    go_loop [3] (fun i => ∃ k : Nat, k ≤ n ∧ i = .int .i64 k ∧ (rows.take k).any (fun r => greatB r.l) = false) (fun i => n - (intOf i).toNat)
    case atStart => exact ⟨0, by omega, rfl, by simp⟩
    case round =>
      obtain ⟨k, hk, rfl, hno⟩ := hrel
      have HNO := Lib.hid hno
      clear hno
      by_cases hlt : k < n
      · obtain ⟨x, hx⟩ := get_of_lt (l := rows) (j := k) (by rw [HR.out.len]; exact hlt)
        have HE := Lib.hid hx
        obtain ⟨b, o, rfl, hbl, hc⟩ := HR.out.row.elem hx
        have d0 := hc 0 _ rfl
        simp only [Nat.mul_one, Nat.add_zero] at d0
        have HX := Lib.hid (HOK.out x (List.mem_of_getElem? hx))
        clear hx hbl hc
        cases hg : greatB x.l
        · have HQ := Lib.hid hg
          clear hg
          go_wp2_with fail
          refine (ref_Great_any x.p x.n x.cap x.l w HX.out.1.len HX.out.2 HX.out.1.row).mono ?_
          rintro e w1 ⟨rfl, rfl⟩
          rw [HQ.out]
          go_wp2_with fail
          go_round
          case rel => exact ⟨k + 1, by omega, by go_num, by rw [any_take_get HE.out, HNO.out, HQ.out]; rfl⟩
          case measure => simp [intOf]; omega
        · have HQ := Lib.hid hg
          clear hg
          go_wp2_with fail
          refine (ref_Great_any x.p x.n x.cap x.l w HX.out.1.len HX.out.2 HX.out.1.row).mono ?_
          rintro e w1 ⟨rfl, rfl⟩
          rw [HQ.out]
          go_wp2_with fail
          go_ret
          exact ⟨ret_bool (by rw [HG.out, any_get HE.out HQ.out]), rfl⟩
      · go_wp2_with fail
        go_ret
        have h := HNO.out
        rw [take_full (by rw [HR.out.len]; omega)] at h
        exact ⟨ret_bool (by rw [HG.out, h]), rfl⟩

set_option maxHeartbeats 1000000 in
theorem effect_Rhos_any (p : Option Addr) (n cap : Nat) (rows : List (SlE Atom)) (w : World) (hn : rows.length = n) (hm : n ≤ 1000000) (hr : RowE encSl 1 w p rows) (hok : ∀ r ∈ rows, r.Ok encA 3 w) (htot : (rows.map (·.n)).sum ≤ 1000000) :
    Calls Tryz.prog 15 #[.slice p n cap] w fun e w' => ∃ q m c, e = .returned (.slice q m c) ∧ m ≤ 1000000 ∧ IsRow encN 1 w' q m c (rhosOf (rows.flatMap (·.l))) ∧ Below w.heap.size w w' := by
  have HU := Lib.hid (effect_Union_any p n cap rows w hn hm hr hok htot)
  have HT := Lib.hid htot
  have HRE : Hid (sortI (((sortA ((rows.flatMap (·.l)).filter atomB)).filter (fun x => decide (x.kind ≠ 3))).map (·.rho)) = rhosOf (rows.flatMap (·.l))) := by
    show _ = _
    rw [← rhosOf_effL]
    unfold rhosOf
    congr 2
    apply List.filter_congr
    intro x hx
    rw [mem_sortA, List.mem_filter] at hx
    simp [hasR, hx.2]
  clear hn hr hok htot
  go_enter Tryz.func15, Tryz.ntmps15
  go_wp2_with fail
  refine HU.out.mono ?_
  rintro e w1 ⟨v, m, rfl, hmn, hown, hb⟩
  obtain ⟨q, mc, rfl, hrow⟩ := hown.isRow encA_len (by omega)
  have hm1 : m ≤ 1000000 := by have := HT.out; omega
  generalize hS : sortA ((rows.flatMap (·.l)).filter atomB) = S at hrow HRE
  have HS := Lib.hid hS
  have HR := Lib.hid hrow
  have HB := Lib.hid hb
  clear hrow hb
  clear hown hS hmn
  go_wp2_with fail
  go_loopw [3, 5, 9] (fun u _ i wr => ∃ k t : Nat, k ≤ m ∧ i = .int .i64 k ∧ t ≤ k ∧ OwnE encN 1 wr w1.heap.size 3 u t (((S.take k).filter (fun x => decide (x.kind ≠ 3))).map (·.rho)) ∧ Below w1.heap.size w1 wr) (fun _ _ i _ => m - (intOf i).toNat)
  case atStart => exact ⟨0, 0, by omega, rfl, by omega, OwnE.nil _ _ _ _ _, Below.refl _ _⟩
  case round =>
    obtain ⟨k, t, hk, rfl, htk, hown, hb⟩ := hrel
    have HOWN := Lib.hid hown
    have HBW := Lib.hid hb
    clear hown hb
    by_cases hlt : k < m
    · obtain ⟨x, hx⟩ := get_of_lt (l := S) (j := k) (by rw [HR.out.len]; exact hlt)
      have HE := Lib.hid hx
      obtain ⟨b, o, rfl, hbl, d0, d1, d2⟩ := RowA.atom (HR.out.below HBW.out).row hx
      obtain ⟨kd, rr, ss⟩ := x
      simp only at d0 d1 d2
      clear hx hbl
      have HBX := Lib.hid (HBW.out.alloc HBW.out.size (.cells #[.int .u8 kd, .int .i64 rr, .string ss] 70))
      have HO2 := Lib.hid (HOWN.out.below ((Below.refl _ wr).alloc (Nat.le_refl _) (.cells #[.int .u8 kd, .int .i64 rr, .string ss] 70)))
      by_cases h3 : kd = 3
      · have h3' : (kd != 3) = false := by simp [h3]
        have HN3 := Lib.hid h3
        clear h3
        go_wp2_with fail
        go_roundw
        case rel => exact ⟨k + 1, t, by omega, by go_num, by omega, by rw [take_succ_get HE.out, List.filter_append, List.map_append]; simpa [HN3.out] using HO2.out, HBX.out⟩
        case measure => simp [intOf]; omega
      · have h3' : (kd != 3) = true := by simpa using h3
        have HN3 := Lib.hid h3
        clear h3
        go_wp2_with (at_builtin; refine wpList_append1 rfl _ _ 30 rfl w1.heap.size 3 _ 1 8 Tryz.underlying30 infoN rfl (by decide) encN encN_len encN_one rr _ _ _ HO2.out rfl (by refine Eq.trans (b := Value.slice (some ⟨wr.heap.size + 1, 0, none⟩) 1 1) rfl ?_; simp) ?c1 ?c2 ?c3 ?_)
        case c1 => omega
        case c2 => omega
        case c3 => have := HBX.out.size; simp at this ⊢; omega
        · intro v' w4 hown' hg
          have HO4 := Lib.hid hown'
          have HB4 := Lib.hid (Below.own HBX.out hg (by have := HBX.out.size; simp at this ⊢; omega) HO2.out)
          clear hown' hg d0 d1 d2
          go_wp2_with fail
          go_roundw
          case rel => exact ⟨k + 1, t + 1, by omega, by go_num, by omega, by rw [take_succ_get HE.out, List.filter_append, List.map_append]; simpa [HN3.out] using HO4.out, HB4.out⟩
          case measure => simp [intOf]; omega
    · have hkm : k = m := by omega
      subst hkm
      have h1 := HOWN.out
      rw [take_full (by rw [HR.out.len]; omega)] at h1
      have HO := Lib.hid h1
      clear h1
      rcases HO.out.split encN_len (by omega) with ⟨rfl, rfl, hnil⟩ | ⟨g, cp, rfl, hcp, hbg⟩
      · have HNIL := Lib.hid hnil
        clear hnil
        go_wp2_with fail
        refine (Tryz.slices_Sort_int_none none 0 _).mono ?_
        rintro e w2 ⟨rfl, rfl⟩
        go_wp2_with fail
        refine (Tryz.slices_Compact_int_empty none 0 _).mono ?_
        rintro e w3 ⟨rfl, rfl⟩
        go_wp2_with fail
        go_ret
        exact ⟨none, 0, 0, rfl, by omega, by rw [← HRE.out, HNIL.out]; exact IsRow.none _ _ _, HB.out.trans (HBW.out.mono HB.out.size)⟩
      · go_wp2_with fail
        refine (sortN_any g cp t _ w1.heap.size wr HO.out (by omega)).mono ?_
        rintro e w2 ⟨rfl, ho1, hg1⟩
        have HB1 := Lib.hid (OwnE.drop_base (enc := encN) (k := 1) hg1 hbg HBW.out HBW.out.size)
        have HO1 := Lib.hid ho1
        clear ho1 hg1
        go_wp2_with fail
        refine (compactN_any g cp t _ w1.heap.size w2 HO1.out hcp (by omega)).mono ?_
        rintro e w3 ⟨m', rfl, hm', ho2, hg2⟩
        have HB2 := Lib.hid (OwnE.drop_base (enc := encN) (k := 1) hg2 hbg HB1.out HB1.out.size)
        rw [compact_msortI, HRE.out] at ho2
        obtain ⟨p', c', hv, hrow⟩ := ho2.isRow encN_len (by omega)
        cases hv
        have HO2 := Lib.hid hrow
        clear ho2 hg2 hrow
        go_wp2_with fail
        go_ret
        exact ⟨_, m', _, rfl, by omega, HO2.out, HB.out.trans (HB2.out.mono HB.out.size)⟩
end Go.Proofs.YtekhblomdlehhaaGreatDoor
