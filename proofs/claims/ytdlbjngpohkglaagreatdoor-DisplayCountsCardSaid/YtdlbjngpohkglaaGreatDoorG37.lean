/- Part 37 of the texts: Eff19. -/
import Derived.Test.YtdlbjngpohkglaaGreatDoorG10
section
set_option linter.unusedVariables false
set_option maxRecDepth 100000
set_option linter.unusedSimpArgs false
namespace Go.Proofs.YtdlbjngpohkglaaGreatDoor
open Go.RowKit Go.Sort Go.Lib

/-- texts of atoms, with " , " between them -/
def joinE (S : List Atom) : ByteArray := ⟨(Lib.join ((S.map textOne).map (·.data.toList)) [32, 44, 32]).toArray⟩
theorem textA_join {S : List Atom} (h : S ≠ []) : textA S = joinE S := by unfold textA joinE; rw [if_neg h]
theorem joinE_nil : joinE [] = ⟨#[]⟩ := rfl
theorem join_snoc (sep : List UInt8) : ∀ (xs : List (List UInt8)) (y : List UInt8), Lib.join (xs ++ [y]) sep = if xs = [] then y else Lib.join xs sep ++ sep ++ y
  | [], y => by simp [Lib.join_one]
  | x :: xs, y => by
    rw [List.cons_append, Lib.join_cons, Lib.join_cons, if_neg (by simp)]
    simp [Lib.joinTail, List.append_assoc]
theorem joinE_snoc {S : List Atom} {k : Nat} {x : Atom} (hx : S[k]? = some x) : joinE (S.take (k + 1)) = if k = 0 then textOne x else joinE (S.take k) ++ ⟨#[32, 44, 32]⟩ ++ textOne x := by
  have hk := get_lt hx
  unfold joinE
  rw [take_succ_get hx, List.map_append, List.map_append, List.map_singleton, List.map_singleton, join_snoc]
  by_cases h0 : k = 0
  · subst h0; simp
  · have hne : ¬ (S.take k).map textOne = [] := by
      intro h
      simp at h
      rcases h with h | h
      · exact h0 h
      · subst h; simp at hk
    have hne' : ¬ ((S.take k).map textOne).map (·.data.toList) = [] := by simpa using hne
    rw [if_neg h0, if_neg hne']
    apply ByteArray.ext
    simp
theorem bget_eq (o d : ByteArray) : o ++ ⟨#[103, 101, 116, 32]⟩ ++ d = o ++ (bGet ++ bSp ++ d) := by
  apply ByteArray.ext; simp [bGet, bSp]
theorem bput_eq (o d : ByteArray) : o ++ ⟨#[112, 117, 116, 32]⟩ ++ d = o ++ (bPut ++ bSp ++ d) := by
  apply ByteArray.ext; simp [bPut, bSp]
theorem bexn_eq (o d : ByteArray) : o ++ ⟨#[101, 120, 110, 32]⟩ ++ d = o ++ (bExn ++ bSp ++ d) := by
  apply ByteArray.ext; simp [bExn, bSp]
theorem empty_app (d : ByteArray) : (⟨#[]⟩ : ByteArray) ++ d = d := by apply ByteArray.ext; simp

set_option maxHeartbeats 1000000 in
theorem ref_Text_any {p : Option Addr} {n cap : Nat} {l : List Atom} {w : World} (hr : IsRow encA 3 w p n cap l) (hm : n ≤ 1000000) (hrng : ∀ a ∈ l, a.rho ≤ 9223372036854775807) (hlen : ∀ a ∈ l, atomB a = true → (textOne a).size ≤ 1000000) :
    Calls Tryz.prog 30 #[.slice p n cap] w fun e w' => e = .returned (.string (textA (sortA (l.filter atomB)))) ∧ Below w.heap.size w w' := by
  have HR := Lib.hid hr
  have HRNG := Lib.hid hrng
  have HLEN := Lib.hid hlen
  clear hr hrng hlen
  go_enter Tryz.func30, Tryz.ntmps30
  go_wp2_with fail
  refine (ref_Of_any p n cap l w HR.out.len hm HR.out.row).mono ?_
  rintro e w1 ⟨v, rfl, ⟨q, m, mc, rfl, hl, hmc, hrow⟩, hb⟩
  rw [refOf_eq] at hl hrow
  have hmn : m ≤ 1000000 := by
    have h1 := refOf_length l
    rw [refOf_eq] at h1
    have := HR.out.len; omega
  generalize hS : sortA (l.filter atomB) = S at hl hrow
  have HAT : Hid (∀ x ∈ S, x ∈ l ∧ atomB x = true) := fun x hx => by rw [← hS, mem_sortA, List.mem_filter] at hx; exact hx
  have HS := Lib.hid hS
  have HL := Lib.hid hl
  have HROW := Lib.hid hrow
  have HB1 := Lib.hid hb
  clear hl hrow hb
  clear hS
  go_wp2_with fail
  go_loopw [4, 5, 10] (fun o _ i wr => ∃ (k : Nat) (s : ByteArray), k ≤ m ∧ i = .int .i64 k ∧ o = .string s ∧ s = joinE (S.take k) ∧ s.size ≤ 1000003 * k ∧ Below w1.heap.size w1 wr) (fun _ _ i _ => m - (intOf i).toNat)
  case atStart => exact ⟨0, _, by omega, rfl, rfl, rfl, by decide, Below.refl _ _⟩
  case round =>
    obtain ⟨k, s, hk, rfl, rfl, hs, hsz, hb⟩ := hrel
    have HSS := Lib.hid hs
    have HB := Lib.hid hb
    clear hs hb
    by_cases hlt : k < m
    · obtain ⟨x, hx⟩ := get_of_lt (l := S) (j := k) (by rw [HL.out]; exact hlt)
      have HE := Lib.hid hx
      obtain ⟨b, o, rfl, hbl, d0, d1, d2⟩ := RowA.atom (HROW.out.below HB.out) hx
      obtain ⟨hxl, hxa⟩ := HAT.out x (List.mem_of_getElem? hx)
      have HJ := Lib.hid (joinE_snoc hx)
      have hxs := HLEN.out x hxl hxa
      have hxr := HRNG.out x hxl
      have HK := Lib.hid (atomB_kind hxa)
      have HBL := Lib.hid hbl
      clear hx hbl
      obtain ⟨kd, rr, ss⟩ := x
      simp only at d0 d1 d2 hxr
      rcases (by omega : k ≤ 0 ∨ 0 < k) with hkz | hkz
      · have HJ2 : Hid (joinE (S.take (k + 1)) = s ++ textOne ⟨kd, rr, ss⟩) := by
          show _ = _
          have hk0 : k = 0 := by omega
          rw [HJ.out, if_pos hk0, HSS.out, hk0]
          exact (empty_app _).symm
        rcases HK.out with hk1 | hk1 | hk1
        · simp only at hk1
          subst hk1
          have hr0 : 0 ≤ rr := by
            have := hxa
            unfold atomB at this
            simp at this
            exact this.1
          have hds := decB_size rr (by omega) hxr
          have HD := Lib.hid (fun W => ref_Digits_pos hr0 hxr W)
          clear hxa hxs
          go_wp2_with fail
          refine (HD.out _).mono ?_
          rintro e w2 ⟨rfl, hb⟩
          have HB2 := Lib.hid (HB.out.trans (hb.mono HB.out.size))
          have f0 : w2.cell? ⟨b, o + k * 3, none⟩ = some (.int .u8 1) := by rw [hb.cell HBL.out]; exact d0
          clear hb d0 d1 d2
          go_wp2_with fail
          go_roundw
          case rel => exact ⟨k + 1, _, by omega, by go_num, rfl, by rw [HJ2.out]; exact bget_eq _ _, by simp only [ByteArray.size_append]; have : (⟨#[32, 44, 32]⟩ : ByteArray).size = 3 := rfl; have : (⟨#[103, 101, 116, 32]⟩ : ByteArray).size = 4 := rfl; omega, HB2.out⟩
          case measure => simp [intOf]; omega
        · simp only at hk1
          subst hk1
          have hr0 : 0 ≤ rr := by
            have := hxa
            unfold atomB at this
            simp at this
            exact this.1
          have hds := decB_size rr (by omega) hxr
          have HD := Lib.hid (fun W => ref_Digits_pos hr0 hxr W)
          clear hxa hxs
          go_wp2_with fail
          refine (HD.out _).mono ?_
          rintro e w2 ⟨rfl, hb⟩
          have HB2 := Lib.hid (HB.out.trans (hb.mono HB.out.size))
          have f0 : w2.cell? ⟨b, o + k * 3, none⟩ = some (.int .u8 2) := by rw [hb.cell HBL.out]; exact d0
          clear hb d0 d1 d2
          go_wp2_with fail
          go_roundw
          case rel => exact ⟨k + 1, _, by omega, by go_num, rfl, by rw [HJ2.out]; exact bput_eq _ _, by simp only [ByteArray.size_append]; have : (⟨#[32, 44, 32]⟩ : ByteArray).size = 3 := rfl; have : (⟨#[112, 117, 116, 32]⟩ : ByteArray).size = 4 := rfl; omega, HB2.out⟩
          case measure => simp [intOf]; omega
        · simp only at hk1
          subst hk1
          have hss : 4 + ss.size ≤ 1000000 := by
            have e : (bExn ++ bSp ++ ss).size = 4 + ss.size := by rw [ByteArray.size_append, ByteArray.size_append]; rfl
            rw [← e]; exact hxs
          clear hxa hxs
          go_wp2_with fail
          go_roundw
          case rel => exact ⟨k + 1, _, by omega, by go_num, rfl, by rw [HJ2.out]; exact bexn_eq _ _, by simp only [ByteArray.size_append]; have : (⟨#[32, 44, 32]⟩ : ByteArray).size = 3 := rfl; have : (⟨#[101, 120, 110, 32]⟩ : ByteArray).size = 4 := rfl; omega, HB.out⟩
          case measure => simp [intOf]; omega
      · have HJ2 : Hid (joinE (S.take (k + 1)) = s ++ ⟨#[32, 44, 32]⟩ ++ textOne ⟨kd, rr, ss⟩) := by show _ = _; rw [HJ.out, if_neg (by omega), HSS.out]
        rcases HK.out with hk1 | hk1 | hk1
        · simp only at hk1
          subst hk1
          have hr0 : 0 ≤ rr := by
            have := hxa
            unfold atomB at this
            simp at this
            exact this.1
          have hds := decB_size rr (by omega) hxr
          have HD := Lib.hid (fun W => ref_Digits_pos hr0 hxr W)
          clear hxa hxs
          go_wp2_with fail
          refine (HD.out _).mono ?_
          rintro e w2 ⟨rfl, hb⟩
          have HB2 := Lib.hid (HB.out.trans (hb.mono HB.out.size))
          have f0 : w2.cell? ⟨b, o + k * 3, none⟩ = some (.int .u8 1) := by rw [hb.cell HBL.out]; exact d0
          clear hb d0 d1 d2
          go_wp2_with fail
          go_roundw
          case rel => exact ⟨k + 1, _, by omega, by go_num, rfl, by rw [HJ2.out]; exact bget_eq _ _, by simp only [ByteArray.size_append]; have : (⟨#[32, 44, 32]⟩ : ByteArray).size = 3 := rfl; have : (⟨#[103, 101, 116, 32]⟩ : ByteArray).size = 4 := rfl; omega, HB2.out⟩
          case measure => simp [intOf]; omega
        · simp only at hk1
          subst hk1
          have hr0 : 0 ≤ rr := by
            have := hxa
            unfold atomB at this
            simp at this
            exact this.1
          have hds := decB_size rr (by omega) hxr
          have HD := Lib.hid (fun W => ref_Digits_pos hr0 hxr W)
          clear hxa hxs
          go_wp2_with fail
          refine (HD.out _).mono ?_
          rintro e w2 ⟨rfl, hb⟩
          have HB2 := Lib.hid (HB.out.trans (hb.mono HB.out.size))
          have f0 : w2.cell? ⟨b, o + k * 3, none⟩ = some (.int .u8 2) := by rw [hb.cell HBL.out]; exact d0
          clear hb d0 d1 d2
          go_wp2_with fail
          go_roundw
          case rel => exact ⟨k + 1, _, by omega, by go_num, rfl, by rw [HJ2.out]; exact bput_eq _ _, by simp only [ByteArray.size_append]; have : (⟨#[32, 44, 32]⟩ : ByteArray).size = 3 := rfl; have : (⟨#[112, 117, 116, 32]⟩ : ByteArray).size = 4 := rfl; omega, HB2.out⟩
          case measure => simp [intOf]; omega
        · simp only at hk1
          subst hk1
          have hss : 4 + ss.size ≤ 1000000 := by
            have e : (bExn ++ bSp ++ ss).size = 4 + ss.size := by rw [ByteArray.size_append, ByteArray.size_append]; rfl
            rw [← e]; exact hxs
          clear hxa hxs
          go_wp2_with fail
          go_roundw
          case rel => exact ⟨k + 1, _, by omega, by go_num, rfl, by rw [HJ2.out]; exact bexn_eq _ _, by simp only [ByteArray.size_append]; have : (⟨#[32, 44, 32]⟩ : ByteArray).size = 3 := rfl; have : (⟨#[101, 120, 110, 32]⟩ : ByteArray).size = 4 := rfl; omega, HB.out⟩
          case measure => simp [intOf]; omega
    · have hkm : k = m := by omega
      subst hkm
      have HSK : Hid (s = joinE S) := by have h := HSS.out; rw [take_full (by rw [HL.out]; omega)] at h; exact h
      by_cases h0 : k = 0
      · have hS0 : S = [] := List.length_eq_zero_iff.1 (by rw [HL.out]; exact h0)
        have HT : Hid (textA S = ⟨#[110, 111, 110, 101]⟩) := by show _ = _; rw [hS0]; rfl
        have hkb : ((k : Int) == 0) = true := by simp; exact h0
        subst h0
        clear hS0 hkb
        go_wp2_with fail
        go_ret
        exact ⟨ret_str (by rw [HS.out, HT.out]), HB1.out.trans (HB.out.mono HB1.out.size)⟩
      · have HT : Hid (textA S = joinE S) := textA_join (fun h => h0 (by have := HL.out; rw [h] at this; simpa using this.symm))
        have hkb : ((k : Int) == 0) = false := by rw [beq_eq_false_iff_ne]; omega
        clear h0
        go_wp2_with fail
        go_ret
        exact ⟨ret_str (by rw [HS.out, HT.out, HSK.out]), HB1.out.trans (HB.out.mono HB1.out.size)⟩
end Go.Proofs.YtdlbjngpohkglaaGreatDoor
end
