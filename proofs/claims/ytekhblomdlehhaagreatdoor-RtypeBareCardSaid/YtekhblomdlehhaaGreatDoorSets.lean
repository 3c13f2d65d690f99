/- enclaveref11.PutInt, EqualInts; enclaveref07.In, Same. -/
import Derived.Test.YtekhblomdlehhaaGreatDoorEff6
import Derived.Test.YtekhblomdlehhaaGreatDoorIsRow
set_option linter.unusedVariables false
set_option maxRecDepth 100000
set_option linter.unusedSimpArgs false
namespace Go.Proofs.YtekhblomdlehhaaGreatDoor
open Go.RowKit

/-- a number ahead of the first greater one -/
def putPosI (a : Int) : List Int → List Int
  | [] => [a]
  | b :: l => if ltI a b then a :: b :: l else b :: putPosI a l
/-- a rising row with one more -/
def putI (a : Int) (e : List Int) : List Int := if inN e a then e else putPosI a e
theorem putPosI_hit (a : Int) : ∀ (l : List Int) (x : Int), l.any (ltI a) = true → putPosI a (l ++ [x]) = putPosI a l ++ [x]
  | [], x, h => by simp at h
  | b :: l, x, h => by
    simp only [List.cons_append, putPosI]
    by_cases hb : ltI a b = true
    · simp [hb]
    · rw [if_neg hb, if_neg hb, putPosI_hit a l x (by simpa [hb] using h)]; rfl
theorem putPosI_first (a : Int) : ∀ (l : List Int) (x : Int), l.any (ltI a) = false → ltI a x = true → putPosI a (l ++ [x]) = l ++ [a, x]
  | [], x, _, hx => by simp [putPosI, hx]
  | b :: l, x, h, hx => by
    simp only [List.any_cons, Bool.or_eq_false_iff] at h
    simp only [List.cons_append, putPosI]
    rw [if_neg (by simp [h.1]), putPosI_first a l x h.2 hx]
theorem putPosI_none (a : Int) : ∀ (l : List Int), l.any (ltI a) = false → putPosI a l = l ++ [a]
  | [], _ => rfl
  | b :: l, h => by
    simp only [List.any_cons, Bool.or_eq_false_iff] at h
    simp only [putPosI, List.cons_append]
    rw [if_neg (by simp [h.1]), putPosI_none a l h.2]
theorem putPosI_length (a : Int) : ∀ l : List Int, (putPosI a l).length = l.length + 1
  | [] => rfl
  | b :: l => by
    simp only [putPosI]
    split
    · rfl
    · simp [putPosI_length a l]
/-- what has been put out behind k of them -/
def outI (a : Int) (l : List Int) : List Int := if l.any (ltI a) then putPosI a l else l
theorem outI_done (a : Int) (l : List Int) (x : Int) (h : l.any (ltI a) = true) : outI a (l ++ [x]) = outI a l ++ [x] := by
  unfold outI
  rw [if_pos h, if_pos (by rw [List.any_append, h]; rfl), putPosI_hit a l x h]
theorem outI_first (a : Int) (l : List Int) (x : Int) (h : l.any (ltI a) = false) (hx : ltI a x = true) : outI a (l ++ [x]) = (outI a l ++ [a]) ++ [x] := by
  have e1 : (l ++ [x]).any (ltI a) = true := by rw [List.any_append]; simp [hx]
  unfold outI
  rw [if_pos e1, if_neg (by rw [h]; exact Bool.false_ne_true), putPosI_first a l x h hx]
  simp
theorem outI_not (a : Int) (l : List Int) (x : Int) (h : l.any (ltI a) = false) (hx : ltI a x = false) : outI a (l ++ [x]) = outI a l ++ [x] := by
  have e1 : (l ++ [x]).any (ltI a) = false := by rw [List.any_append, h]; simp [hx]
  unfold outI
  rw [if_neg (by rw [e1]; exact Bool.false_ne_true), if_neg (by rw [h]; exact Bool.false_ne_true)]
theorem mem_putPosI (a x : Int) : ∀ l : List Int, x ∈ putPosI a l ↔ x = a ∨ x ∈ l
  | [] => by simp [putPosI]
  | b :: l => by
    unfold putPosI
    by_cases h : ltI a b = true
    · rw [if_pos h]; simp
    · rw [if_neg h, List.mem_cons, mem_putPosI a x l, List.mem_cons]
      constructor
      · rintro (h | h | h)
        · exact .inr (.inl h)
        · exact .inl h
        · exact .inr (.inr h)
      · rintro (h | h | h)
        · exact .inr (.inl h)
        · exact .inl h
        · exact .inr (.inr h)
theorem rising_putPosI (a : Int) : ∀ l : List Int, Rising ltI l → a ∉ l → Rising ltI (putPosI a l)
  | [], _, _ => by simp [putPosI, Rising]
  | b :: l, hr, hn => by
    obtain ⟨hb, hl⟩ := List.pairwise_cons.1 hr
    unfold putPosI
    by_cases h : ltI a b = true
    · rw [if_pos h]
      refine List.pairwise_cons.2 ⟨fun x hx => ?_, hr⟩
      rcases List.mem_cons.1 hx with rfl | hx
      · exact h
      · exact ltI_trans _ _ _ h (hb x hx)
    · rw [if_neg h]
      refine List.pairwise_cons.2 ⟨fun x hx => ?_, rising_putPosI a l hl (fun h => hn (List.mem_cons_of_mem _ h))⟩
      rcases (mem_putPosI a x l).1 hx with rfl | hx
      · cases e : ltI b x with
        | true => rfl
        | false => exact absurd (List.mem_cons.2 (.inl (ltI_tri _ _ (by simpa using h) e))) hn
      · exact hb x hx
theorem inN_mem' (l : List Int) (x : Int) : inN l x = true ↔ x ∈ l := by
  unfold inN
  rw [List.any_eq_true]
  constructor
  · rintro ⟨y, hy, h⟩
    have : y = x := by simpa using h
    subst this; exact hy
  · intro h
    exact ⟨x, h, by simp⟩
theorem mem_putI (a x : Int) (l : List Int) : x ∈ putI a l ↔ x = a ∨ x ∈ l := by
  unfold putI
  by_cases h : inN l a = true
  · rw [if_pos h]
    constructor
    · exact .inr
    · rintro (rfl | h')
      · exact (inN_mem' _ _).1 h
      · exact h'
  · rw [if_neg h, mem_putPosI]
theorem rising_putI (a : Int) (l : List Int) (hr : Rising ltI l) : Rising ltI (putI a l) := by
  unfold putI
  by_cases h : inN l a = true
  · rw [if_pos h]; exact hr
  · rw [if_neg h]; exact rising_putPosI a l hr (fun hm => h ((inN_mem' l a).2 hm))
theorem putI_length (a : Int) (l : List Int) : (putI a l).length ≤ l.length + 1 := by
  unfold putI; split
  · omega
  · rw [putPosI_length]; omega

theorem infoN : (Tryz.prog.info? 3).map (fun i => (i.zero, i.size, i.bytes)) = some (some (.int .i64 0), 1, 8) := by kernel_rfl
theorem encN_one (y : Int) : ∀ u ∈ encN y, u.oneCell' = true := by
  intro u hu
  simp [encN] at hu
  subst hu; rfl
theorem ref_Ints_of {p : Option Addr} {n cap : Nat} {l : List Int} {x : Int} {w : World} {r : Bool} (hq : inN l x = r) (h : IsRow encN 1 w p n cap l) :
    Calls Tryz.prog 25 #[.slice p n cap, .int .i64 x] w fun e w' => e = .returned (.bool r) ∧ w = w' := by
  subst hq; exact ref_Ints_any p n cap l x w h.len h.max h.row

set_option maxHeartbeats 1000000 in
theorem ref_PutInt_any {p : Option Addr} {n cap : Nat} {l : List Int} {w : World} (hr : IsRow encN 1 w p n cap l) (hm : n ≤ 10000000) (a : Int) :
    Calls Tryz.prog 31 #[.slice p n cap, .int .i64 a] w fun e w' => ∃ v p' m c, e = .returned v ∧ v = .slice p' m c ∧ IsRow encN 1 w' p' m c (putI a l) ∧ Below w.heap.size w w' := by
  cases hi : inN l a
  · have HP : Hid (putI a l = putPosI a l) := by show _ = _; unfold putI; rw [hi]; rfl
    have HI := Lib.hid hi
    have HR := Lib.hid hr
    clear hr
    clear hi
    go_enter Tryz.func31, Tryz.ntmps31
    go_wp2_with fail
    refine (ref_Ints_of HI.out HR.out).mono ?_
    rintro e w1 ⟨rfl, rfl⟩
    have HOWN0 := Lib.hid (OwnE.lit encN w w.heap.size 3 1 (Nat.le_refl _))
    go_wp2_with fail
    go_loopw [5, 6, 7, 15] (fun u d _ i wr => ∃ k m : Nat, k ≤ n ∧ m ≤ 2 * k ∧ i = .int .i64 k ∧ d = .bool ((l.take k).any (ltI a)) ∧ OwnE encN 1 wr w.heap.size 3 u m (outI a (l.take k)) ∧ Below w.heap.size w wr) (fun _ _ _ i _ => n - (intOf i).toNat)
    case atStart => exact ⟨0, 0, by omega, by omega, rfl, by simp, HOWN0.out, (Below.refl _ _).alloc (Nat.le_refl _) _⟩
    case round =>
      obtain ⟨k, m, hk, hmk, rfl, rfl, hown, hb⟩ := hrel
      have HOWN := Lib.hid hown
      have HB := Lib.hid hb
      clear hown hb
      by_cases hlt : k < n
      · obtain ⟨x, hx⟩ := get_of_lt (l := l) (j := k) (by rw [HR.out.len]; exact hlt)
        obtain ⟨b, o, rfl, d0⟩ := (HR.out.below HB.out).row.num hx
        have HE := Lib.hid hx
        clear hx
        cases hany : (l.take k).any (ltI a)
        · have HANY := Lib.hid hany
          clear hany
          by_cases hax : a < x
          · have HLA : Hid (ltI a x = true) := by show _ = _; unfold ltI; simpa using hax
            go_wp2_with (at_builtin; refine wpList_append1 rfl _ _ 30 rfl w.heap.size 3 _ 1 8 Tryz.underlying30 infoN rfl (by decide) encN encN_len encN_one a _ _ _ HOWN.out rfl rfl ?c1 ?c2 ?c3 ?_)
            case c1 => omega
            case c2 => omega
            case c3 => exact HB.out.size
            · intro v' w4 hown' hg
              have HO := Lib.hid hown'
              have HB4 := Lib.hid (Below.own HB.out hg HB.out.size HOWN.out)
              have e0 : w4.cell? ⟨b, o + k, none⟩ = some (.int .i64 x) := by
                obtain ⟨b', o', hbo, d1⟩ := (HR.out.below HB4.out).row.num HE.out
                cases hbo; exact d1
              clear hown' hg d0
              go_wp2_with (at_builtin; refine wpList_append1 rfl _ _ 30 rfl w.heap.size 3 _ 1 8 Tryz.underlying30 infoN rfl (by decide) encN encN_len encN_one x _ _ _ HO.out rfl rfl ?c1 ?c2 ?c3 ?_)
              case c1 => omega
              case c2 => omega
              case c3 => exact HB4.out.size
              · intro v'' w5 hown' hg
                have HO5 := Lib.hid hown'
                have HB5 := Lib.hid (Below.own HB4.out hg HB4.out.size HO.out)
                clear hown' hg e0
                go_wp2_with fail
                go_roundw
                case rel => exact ⟨k + 1, m + 2, by omega, by omega, by go_num, by rw [any_take_get HE.out, HANY.out, HLA.out]; rfl, by rw [take_succ_get HE.out, outI_first a _ _ HANY.out HLA.out, List.append_assoc]; exact HO5.out, HB5.out⟩
                case measure => simp [intOf]; omega
          · have HLA : Hid (ltI a x = false) := by show _ = _; unfold ltI; simpa using hax
            go_wp2_with (at_builtin; refine wpList_append1 rfl _ _ 30 rfl w.heap.size 3 _ 1 8 Tryz.underlying30 infoN rfl (by decide) encN encN_len encN_one x _ _ _ HOWN.out rfl rfl ?c1 ?c2 ?c3 ?_)
            case c1 => omega
            case c2 => omega
            case c3 => exact HB.out.size
            · intro v' w4 hown' hg
              have HO := Lib.hid hown'
              have HB4 := Lib.hid (Below.own HB.out hg HB.out.size HOWN.out)
              clear hown' hg d0
              go_wp2_with fail
              go_roundw
              case rel => exact ⟨k + 1, m + 1, by omega, by omega, by go_num, by rw [any_take_get HE.out, HANY.out, HLA.out]; rfl, by rw [take_succ_get HE.out, outI_not a _ _ HANY.out HLA.out]; exact HO.out, HB4.out⟩
              case measure => simp [intOf]; omega
        · have HANY := Lib.hid hany
          clear hany
          go_wp2_with (at_builtin; refine wpList_append1 rfl _ _ 30 rfl w.heap.size 3 _ 1 8 Tryz.underlying30 infoN rfl (by decide) encN encN_len encN_one x _ _ _ HOWN.out rfl rfl ?c1 ?c2 ?c3 ?_)
          case c1 => omega
          case c2 => omega
          case c3 => exact HB.out.size
          · intro v' w4 hown' hg
            have HO := Lib.hid hown'
            have HB4 := Lib.hid (Below.own HB.out hg HB.out.size HOWN.out)
            clear hown' hg d0
            go_wp2_with fail
            go_roundw
            case rel => exact ⟨k + 1, m + 1, by omega, by omega, by go_num, by rw [any_take_get HE.out, HANY.out]; rfl, by rw [take_succ_get HE.out, outI_done a _ _ HANY.out]; exact HO.out, HB4.out⟩
            case measure => simp [intOf]; omega
      · have hkn : k = n := by omega
        subst hkn
        have ht : l.take k = l := take_full (by rw [HR.out.len]; omega)
        rw [ht]
        cases hany : l.any (ltI a)
        · have HP2 : Hid (putI a l = outI a l ++ [a]) := by
            show _ = _
            rw [HP.out]; unfold outI; rw [if_neg (by rw [hany]; exact Bool.false_ne_true), putPosI_none a l hany]
          clear hany
          go_wp2_with (at_builtin; refine wpList_append1 rfl _ _ 30 rfl w.heap.size 3 _ 1 8 Tryz.underlying30 infoN rfl (by decide) encN encN_len encN_one a _ _ _ HOWN.out rfl rfl ?c1 ?c2 ?c3 ?_)
          case c1 => omega
          case c2 => omega
          case c3 => exact HB.out.size
          · intro v' w4 hown' hg
            have HO := Lib.hid hown'
            have HB4 := Lib.hid (Below.own HB.out hg HB.out.size HOWN.out)
            clear hown' hg
            go_wp2_with fail
            go_ret
            have h := HO.out
            rw [← HP2.out] at h
            obtain ⟨p', c', hv, hrow⟩ := h.isRow encN_len (by omega)
            exact ⟨_, p', _, c', rfl, hv, hrow, HB4.out⟩
        · have HP2 : Hid (putI a l = outI a l) := by show _ = _; rw [HP.out]; unfold outI; rw [if_pos hany]
          clear hany
          go_wp2_with fail
          go_ret
          have h := HOWN.out
          rw [ht, ← HP2.out] at h
          obtain ⟨p', c', hv, hrow⟩ := h.isRow encN_len (by omega)
          exact ⟨_, p', _, c', rfl, hv, hrow, HB.out⟩
  · have HP : Hid (putI a l = l) := by show _ = _; unfold putI; rw [hi]; rfl
    have HI := Lib.hid hi
    have HR := Lib.hid hr
    clear hr
    clear hi
    go_enter Tryz.func31, Tryz.ntmps31
    go_wp2_with fail
    refine (ref_Ints_of HI.out HR.out).mono ?_
    rintro e w1 ⟨rfl, rfl⟩
    go_wp2_with fail
    go_ret
    exact ⟨_, p, n, cap, rfl, rfl, by rw [HP.out]; exact HR.out, Below.refl _ _⟩

/-- are two rows of numbers the same? -/
def eqN (l m : List Int) : Bool := decide (l = m)
theorem ref_EqualInts_any {p : Option Addr} {n cap : Nat} {l : List Int} {q : Option Addr} {m mc : Nat} {l' : List Int} {w : World} (hr : IsRow encN 1 w p n cap l) (hr' : IsRow encN 1 w q m mc l') :
    Calls Tryz.prog 14 #[.slice p n cap, .slice q m mc] w fun e w' => e = .returned (.bool (eqN l l')) ∧ ∃ j, w' = w.drewN j := by
  have hmx := hr.max
  have HR := Lib.hid hr
  have HR' := Lib.hid hr'
  clear hr hr'
  by_cases hnm : n = m
  · subst hnm
    go_enter Tryz.func14, Tryz.ntmps14
    go_wp2_with fail
    go_loopw [5, 13] (fun _ i wr => ∃ k : Nat, k ≤ n ∧ i = .int .i64 k ∧ l.take k = l'.take k ∧ ∃ j, wr = w.drewN j) (fun _ i _ => n - (intOf i).toNat)
    case atStart => exact ⟨0, by omega, rfl, by simp, 0, rfl⟩
    case round =>
      obtain ⟨k, hk, rfl, hno, j, rfl⟩ := hrel
      have HNO := Lib.hid hno
      clear hno
      by_cases hlt : k < n
      · obtain ⟨x, hx⟩ := get_of_lt (l := l) (j := k) (by rw [HR.out.len]; exact hlt)
        obtain ⟨y, hy⟩ := get_of_lt (l := l') (j := k) (by rw [HR'.out.len]; exact hlt)
        obtain ⟨b, o, rfl, c0⟩ := HR.out.row.num hx
        obtain ⟨b', o', rfl, d0⟩ := HR'.out.row.num hy
        have HE := Lib.hid hx
        have HE' := Lib.hid hy
        clear hx hy
        by_cases hq : x = y
        · have hb : (x != y) = false := by simp [hq]
          have HQ := Lib.hid hq
          clear hq
          go_wp2_with fail
          go_quiet (fail)
          go_wp2_with fail
          go_roundw
          case rel => exact ⟨k + 1, by omega, by go_num, by rw [take_succ_get HE.out, take_succ_get HE'.out, HNO.out, HQ.out], _, rfl⟩
          case measure => simp [intOf]; omega
        · have hb : (x != y) = true := by simpa using hq
          have hne : Hid (eqN l l' = false) := by
            show eqN l l' = false
            unfold eqN
            rw [decide_eq_false_iff_not]
            intro e
            have h1 := HE.out
            rw [e, HE'.out] at h1
            cases h1
            exact hq rfl
          clear hq
          go_wp2_with fail
          go_quiet (fail)
          go_wp2_with fail
          go_ret
          exact ⟨ret_bool hne.out.symm, _, World.drewN_drewN _ _ _⟩
      · have hkn : k = n := by omega
        subst hkn
        go_wp2_with fail
        go_ret
        exact ⟨ret_bool (by unfold eqN; have h := HNO.out; rw [take_full (by rw [HR.out.len]; omega), take_full (by rw [HR'.out.len]; omega)] at h; simp [h]), _, rfl⟩
  · have hne : Hid (eqN l l' = false) := by
      show eqN l l' = false
      unfold eqN
      rw [decide_eq_false_iff_not]
      intro e
      have h1 := HR.out.len
      have h2 := HR'.out.len
      rw [e] at h1
      omega
    have hb : ((n : Int) != (m : Int)) = true := by rw [bne_iff_ne]; omega
    clear hnm
    go_enter Tryz.func14, Tryz.ntmps14
    go_wp2_with fail
    go_ret
    exact ⟨ret_bool hne.out.symm, 0, rfl⟩
theorem bytes_beq (a b : ByteArray) : (a.toList == b.toList) = decide (a = b) := by
  by_cases h : a = b
  · subst h; simp
  · rw [decide_eq_false h, beq_eq_false_iff_ne]
    exact fun e => h (toList_inj e)
/-- are two rows of strings the same? -/
def eqS (l m : List ByteArray) : Bool := l.length == m.length && (l.zip m).all (fun x => decide (x.1 = x.2))
theorem eqS_iff (l m : List ByteArray) : eqS l m = true ↔ l = m := by
  unfold eqS
  constructor
  · intro h
    simp only [Bool.and_eq_true, beq_iff_eq, List.all_eq_true] at h
    apply List.ext_getElem h.1
    intro i h1 h2
    have := h.2 (l[i], m[i]) (by rw [List.mem_iff_getElem]; exact ⟨i, by simp; omega, by simp⟩)
    simpa using this
  · rintro rfl
    simp only [beq_self_eq_true, Bool.true_and, List.all_eq_true]
    intro x hx
    rw [List.mem_iff_getElem] at hx
    obtain ⟨i, hi, rfl⟩ := hx
    simp
theorem ref_SameS_any {p : Option Addr} {n cap : Nat} {l : List ByteArray} {q : Option Addr} {m mc : Nat} {l' : List ByteArray} {w : World} (hr : IsRow encS 1 w p n cap l) (hr' : IsRow encS 1 w q m mc l') :
    Calls Tryz.prog 17 #[.slice p n cap, .slice q m mc] w fun e w' => e = .returned (.bool (eqS l l')) ∧ ∃ j, w' = w.drewN j := by
  have hmx := hr.max
  have HR := Lib.hid hr
  have HR' := Lib.hid hr'
  clear hr hr'
  by_cases hnm : n = m
  · subst hnm
    go_enter Tryz.func17, Tryz.ntmps17
    go_wp2_with fail
    go_loopw [5, 13] (fun _ i wr => ∃ k : Nat, k ≤ n ∧ i = .int .i64 k ∧ l.take k = l'.take k ∧ ∃ j, wr = w.drewN j) (fun _ i _ => n - (intOf i).toNat)
    case atStart => exact ⟨0, by omega, rfl, by simp, 0, rfl⟩
    case round =>
      obtain ⟨k, hk, rfl, hno, j, rfl⟩ := hrel
      have HNO := Lib.hid hno
      clear hno
      by_cases hlt : k < n
      · obtain ⟨x, hx⟩ := get_of_lt (l := l) (j := k) (by rw [HR.out.len]; exact hlt)
        obtain ⟨y, hy⟩ := get_of_lt (l := l') (j := k) (by rw [HR'.out.len]; exact hlt)
        obtain ⟨b, o, rfl, c0⟩ := HR.out.row.str hx
        obtain ⟨b', o', rfl, d0⟩ := HR'.out.row.str hy
        have HE := Lib.hid hx
        have HE' := Lib.hid hy
        clear hx hy
        by_cases hq : x = y
        · have hb : (x.toList == y.toList) = true := by rw [bytes_beq]; simpa using hq
          have hb' : (x.toList != y.toList) = false := by simp [bne, hb]
          have HQ := Lib.hid hq
          clear hq
          go_wp2_with fail
          go_quiet (fail)
          go_wp2_with fail
          go_roundw
          case rel => exact ⟨k + 1, by omega, by go_num, by rw [take_succ_get HE.out, take_succ_get HE'.out, HNO.out, HQ.out], _, rfl⟩
          case measure => simp [intOf]; omega
        · have hb : (x.toList == y.toList) = false := by rw [bytes_beq]; simpa using hq
          have hb' : (x.toList != y.toList) = true := by simp [bne, hb]
          have hne : Hid (eqS l l' = false) := by
            show eqS l l' = false
            rw [Bool.eq_false_iff, ne_eq, eqS_iff]
            intro e
            have h1 := HE.out
            rw [e, HE'.out] at h1
            cases h1
            exact hq rfl
          clear hq
          go_wp2_with fail
          go_quiet (fail)
          go_wp2_with fail
          go_ret
          exact ⟨ret_bool hne.out.symm, _, World.drewN_drewN _ _ _⟩
      · have hkn : k = n := by omega
        subst hkn
        go_wp2_with fail
        go_ret
        exact ⟨ret_bool (by have h := HNO.out; rw [take_full (by rw [HR.out.len]; omega), take_full (by rw [HR'.out.len]; omega)] at h; rw [(eqS_iff l l').2 h]), _, rfl⟩
  · have hne : Hid (eqS l l' = false) := by
      show eqS l l' = false
      rw [Bool.eq_false_iff, ne_eq, eqS_iff]
      intro e
      have h1 := HR.out.len
      have h2 := HR'.out.len
      rw [e] at h1
      omega
    have hb : ((n : Int) != (m : Int)) = true := by rw [bne_iff_ne]; omega
    clear hnm
    go_enter Tryz.func17, Tryz.ntmps17
    go_wp2_with fail
    go_ret
    exact ⟨ret_bool hne.out.symm, 0, rfl⟩
theorem ref_InS_any {p : Option Addr} {n cap : Nat} {l : List ByteArray} {w : World} (hr : IsRow encS 1 w p n cap l) (s : ByteArray) :
    Calls Tryz.prog 26 #[.slice p n cap, .string s] w fun e w' => e = .returned (.bool (l.any (fun y => decide (y = s)))) ∧ w = w' := by
  have hmx := hr.max
  have HR := Lib.hid hr
  clear hr
  go_enter Tryz.func26, Tryz.ntmps26
  go_wp2_with fail
  go_loop [5, 8] (fun _ i => ∃ k : Nat, k ≤ n ∧ i = .int .i64 k ∧ (l.take k).any (fun y => decide (y = s)) = false) (fun _ i => n - (intOf i).toNat)
  case atStart => exact ⟨0, by omega, rfl, by simp⟩
  case round =>
    obtain ⟨k, hk, rfl, hno⟩ := hrel
    have HNO := Lib.hid hno
    clear hno
    by_cases hlt : k < n
    · obtain ⟨y, hy⟩ := get_of_lt (l := l) (j := k) (by rw [HR.out.len]; exact hlt)
      have HE := Lib.hid hy
      obtain ⟨b, o, rfl, d0⟩ := HR.out.row.str hy
      clear hy
      by_cases hq : y = s
      · have hb : (y.toList == s.toList) = true := by rw [bytes_beq]; simpa using hq
        have HQ := Lib.hid hq
        clear hq
        go_wp2_with fail
        go_ret
        exact ⟨ret_bool (by rw [any_get HE.out]; simpa using HQ.out), rfl⟩
      · have hb : (y.toList == s.toList) = false := by rw [bytes_beq]; simpa using hq
        have HQ := Lib.hid hq
        clear hq
        go_wp2_with fail
        go_round
        case rel => exact ⟨k + 1, by omega, by go_num, by rw [any_take_get HE.out, HNO.out]; simpa using HQ.out⟩
        case measure => simp [intOf]; omega
    · go_wp2_with fail
      go_ret
      have h := HNO.out
      rw [take_full (by rw [HR.out.len]; omega)] at h
      exact ⟨ret_bool h.symm, rfl⟩
end Go.Proofs.YtekhblomdlehhaaGreatDoor
