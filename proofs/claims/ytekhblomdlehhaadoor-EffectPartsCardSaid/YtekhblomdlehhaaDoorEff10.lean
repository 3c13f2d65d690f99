/- enclaveref11.Turn, Swap. -/
import Derived.Test.YtekhblomdlehhaaDoorEff9
set_option linter.unusedVariables false
set_option maxRecDepth 100000
set_option linter.unusedSimpArgs false
namespace Go.Proofs.YtekhblomdlehhaaDoor
open Go.RowKit Go.Sort Go.Lib

/-- a region, turned -/
def turnI (r : Int) : List Int → List Int → Int
  | [], _ => r
  | f :: fs, t => if f = r then (t[0]?).getD r else turnI r fs (t.drop 1)
theorem turnI_hit (r : Int) : ∀ (f t : List Int) (k : Nat), (f.take k).any (· == r) = false → f[k]? = some r → turnI r f t = (t[k]?).getD r
  | [], _, k, _, h => by simp at h
  | x :: f, t, 0, _, h => by simp at h; subst h; simp [turnI]
  | x :: f, t, k + 1, hno, h => by
    simp only [List.take_succ_cons, List.any_cons, Bool.or_eq_false_iff] at hno
    have hx : ¬ x = r := by simpa using hno.1
    unfold turnI
    rw [if_neg hx, turnI_hit r f (t.drop 1) k hno.2 (by simpa using h)]
    simp [Nat.add_comm]
theorem turnI_none (r : Int) : ∀ (f t : List Int), f.any (· == r) = false → turnI r f t = r
  | [], _, _ => rfl
  | x :: f, t, hno => by
    simp only [List.any_cons, Bool.or_eq_false_iff] at hno
    have hx : ¬ x = r := by simpa using hno.1
    unfold turnI
    rw [if_neg hx, turnI_none r f _ hno.2]
theorem turnI_self (r : Int) : ∀ f : List Int, turnI r f f = r
  | [] => rfl
  | x :: f => by
    unfold turnI
    by_cases h : x = r
    · rw [if_pos h]; simp [h]
    · rw [if_neg h]; exact turnI_self r f

theorem ret_i64 {a b : Int} (h : a = b) : Ending.returned (.int .i64 a) = .returned (.int .i64 b) := by rw [h]

theorem ref_Turn_any (x : Int) (p : Option Addr) (n cap : Nat) (l : List Int) (q : Option Addr) (m mc : Nat) (t : List Int) (w : World) (hn : l.length = n) (hm : n ≤ 9223372036854775807) (hr : RowE encN 1 w p l)
    (hn' : t.length = m) (hm' : m ≤ 9223372036854775807) (hr' : RowE encN 1 w q t) :
    Calls Tryd.prog 53 #[.int .i64 x, .slice p n cap, .slice q m mc] w fun e w' => e = .returned (.int .i64 (turnI x l t)) ∧ w = w' := by
  have HR := Lib.hid hr
  have HN := Lib.hid hn
  have HR' := Lib.hid hr'
  have HN' := Lib.hid hn'
  clear hr hn hr' hn'
  go_enter Tryd.func53, Tryd.ntmps53
  go_wp2_with fail
  go_loop [7, 10] (fun _ i => ∃ k : Nat, k ≤ n ∧ i = .int .i64 k ∧ (l.take k).any (· == x) = false) (fun _ i => n - (intOf i).toNat)
  case atStart => exact ⟨0, by omega, rfl, by simp⟩
  case round =>
    obtain ⟨k, hk, rfl, hno⟩ := hrel
    have HNO := Lib.hid hno
    clear hno
    by_cases hlt : k < n
    · obtain ⟨y, hy⟩ := get_of_lt (l := l) (j := k) (by rw [HN.out]; exact hlt)
      have HE := Lib.hid hy
      obtain ⟨b, o, rfl, d0⟩ := HR.out.num hy
      clear hy
      cases hq : (y == x)
      · go_wp2_with fail
        go_round
        case rel => exact ⟨k + 1, by omega, by go_num, by rw [any_take_get HE.out, HNO.out, hq]; rfl⟩
        case measure => simp [intOf]; omega
      · have hyx : y = x := by simpa using hq
        have HH := Lib.hid (turnI_hit x l t k HNO.out (by rw [HE.out, hyx]))
        by_cases hkm : k < m
        · obtain ⟨z, hz⟩ := get_of_lt (l := t) (j := k) (by rw [HN'.out]; exact hkm)
          obtain ⟨b', o', rfl, e0⟩ := HR'.out.num hz
          have HZ := Lib.hid hz
          clear hz hyx
          go_wp2_with fail
          go_ret
          exact ⟨ret_i64 (by rw [HH.out, HZ.out]; rfl), rfl⟩
        · have HZ : Hid (t[k]? = none) := List.getElem?_eq_none (by rw [HN'.out]; omega)
          clear hyx
          go_wp2_with fail
          go_ret
          exact ⟨ret_i64 (by rw [HH.out, HZ.out]; rfl), rfl⟩
    · go_wp2_with fail
      go_ret
      have h := HNO.out
      rw [take_full (by rw [HN.out]; omega)] at h
      exact ⟨ret_i64 (turnI_none x l t h).symm, rfl⟩

/-- an atom with its region turned -/
def swA (f t : List Int) (a : Atom) : Atom := if a.kind = 3 then a else { a with rho := turnI a.rho f t }

set_option maxHeartbeats 1000000 in
theorem ref_Swap_any (p : Option Addr) (n cap : Nat) (l : List Atom) (p1 : Option Addr) (n1 c1 : Nat) (f : List Int) (p2 : Option Addr) (n2 c2 : Nat) (t : List Int) (w : World) (hn : l.length = n) (hm : n ≤ 1000000) (hr : RowA w p l)
    (hn1 : f.length = n1) (hm1 : n1 ≤ 1000000) (hr1 : RowE encN 1 w p1 f) (hn2 : t.length = n2) (hm2 : n2 ≤ 1000000) (hr2 : RowE encN 1 w p2 t) :
    Calls Tryd.prog 24 #[.slice p n cap, .slice p1 n1 c1, .slice p2 n2 c2] w fun e w' => ∃ v, e = .returned v ∧ Sl encA 3 w' v (refOf ((l.filter atomB).map (swA f t))) ∧ Below w.heap.size w w' := by
  have HR := Lib.hid hr
  have HN := Lib.hid hn
  have HR1 := Lib.hid hr1
  have HN1 := Lib.hid hn1
  have HR2 := Lib.hid hr2
  have HN2 := Lib.hid hn2
  clear hr hn hr1 hn1 hr2 hn2
  go_enter Tryd.func24, Tryd.ntmps24
  go_wp2_with fail
  go_loopw [7, 8, 13] (fun u _ i wr => ∃ (k : Nat) (q : Option Addr) (m mc : Nat), k ≤ n ∧ i = .int .i64 k ∧ u = .slice q m mc ∧ (refOf (((l.take k).filter atomB).map (swA f t))).length = m ∧ m ≤ mc ∧ RowA wr q (refOf (((l.take k).filter atomB).map (swA f t))) ∧ Below w.heap.size w wr) (fun _ _ i _ => n - (intOf i).toNat)
  case atStart => exact ⟨0, _, _, _, by omega, rfl, rfl, rfl, by omega, .inl rfl, (Below.refl _ _).alloc (Nat.le_refl _) _⟩
  case round =>
    obtain ⟨k, q, m, mc, hk, rfl, rfl, hlen, hmc, hrow, hb⟩ := hrel
    have HLEN := Lib.hid hlen
    have HROW := Lib.hid hrow
    have HB := Lib.hid hb
    have hmk : m ≤ k := by
      have := refOf_length (((l.take k).filter atomB).map (swA f t))
      have h2 := List.length_filter_le atomB (l.take k)
      rw [hlen, List.length_map] at this
      rw [List.length_take] at h2
      omega
    clear hlen hrow hb
    by_cases hlt : k < n
    · obtain ⟨x, hx⟩ := get_of_lt (l := l) (j := k) (by rw [HN.out]; exact hlt)
      have HE := Lib.hid hx
      obtain ⟨b, o, rfl, hbl, d0, d1, d2⟩ := RowA.atom (HR.out.below HB.out) hx
      have HBL := Lib.hid hbl
      have HEL : Hid (∀ W, Below wr.heap.size wr W → W.cell? ⟨b, o + k * 3, none⟩ = some (.int .u8 x.kind) ∧ W.cell? ⟨b, o + k * 3 + 1, none⟩ = some (.int .i64 x.rho) ∧ W.cell? ⟨b, o + k * 3 + 2, none⟩ = some (.string x.exn)) :=
        fun W h => ⟨by rw [h.cell hbl]; exact d0, by rw [h.cell hbl]; exact d1, by rw [h.cell hbl]; exact d2⟩
      clear hx hbl
      cases ha : atomB x
      · have HA := Lib.hid ha
        clear ha
        go_wp2_with fail
        refine (ref_Atom_is HA.out _).mono ?_
        rintro e w1 ⟨rfl, hb⟩
        have HB1 : Hid (Below wr.heap.size wr w1) := ((Below.refl _ wr).alloc (Nat.le_refl _) _).trans (hb.mono (by simp))
        clear hb d0 d1 d2
        obtain ⟨d0, d1, d2⟩ := HEL.out w1 HB1.out
        go_wp2_with fail
        refine (ref_Atom_is HA.out _).mono ?_
        rintro e w2 ⟨rfl, hb⟩
        have HB2 : Hid (Below w.heap.size w w2) := (HB.out.trans (HB1.out.mono HB.out.size)).trans (hb.mono (by have := HB.out.size; have := HB1.out.size; omega))
        have HB3 : Hid (Below wr.heap.size wr w2) := HB1.out.trans (hb.mono HB1.out.size)
        clear hb d0 d1 d2
        go_wp2_with fail
        go_roundw
        case rel =>
          have e1 : (l.take (k + 1)).filter atomB = (l.take k).filter atomB := by rw [take_succ_get HE.out, List.filter_append]; simp [HA.out]
          exact ⟨k + 1, q, m, mc, by omega, by go_num, rfl, by rw [e1]; exact HLEN.out, hmc, by rw [e1]; exact HROW.out.below HB3.out, HB2.out⟩
        case measure => simp [intOf]; omega
      · obtain ⟨kd, rr, ss⟩ := x
        simp only at d0 d1 d2 HEL
        have HA := Lib.hid ha
        clear ha
        by_cases hk3 : kd = 3
        · subst hk3
          go_wp2_with fail
          refine (ref_Atom_is HA.out _).mono ?_
          rintro e w1 ⟨rfl, hb⟩
          have v0 : w1.cell? ⟨wr.heap.size, 0, none⟩ = some (.int .u8 3) := by rw [hb.cell (by simp), cell_new]; rfl
          have v1 : w1.cell? ⟨wr.heap.size, 1, none⟩ = some (.int .i64 rr) := by rw [hb.cell (by simp), cell_new]; rfl
          have v2 : w1.cell? ⟨wr.heap.size, 2, none⟩ = some (.string ss) := by rw [hb.cell (by simp), cell_new]; rfl
          have HB1 : Hid (Below wr.heap.size wr w1) := ((Below.refl _ wr).alloc (Nat.le_refl _) _).trans (hb.mono (by simp))
          have hs1 : wr.heap.size < w1.heap.size := by have := hb.size; simp at this; omega
          have HK3 : Hid ((3 : Int) = 3) := rfl
          clear hb d0 d1 d2
          obtain ⟨d0, d1, d2⟩ := HEL.out w1 HB1.out
          go_wp2_with fail
          refine (ref_Atom_is HA.out _).mono ?_
          rintro e w3 ⟨rfl, hb⟩
          have u0 : w3.cell? ⟨wr.heap.size, 0, none⟩ = some (.int .u8 3) := by rw [hb.cell (by simpa using hs1)]; exact v0
          have u1 : w3.cell? ⟨wr.heap.size, 1, none⟩ = some (.int .i64 rr) := by rw [hb.cell (by simpa using hs1)]; exact v1
          have u2 : w3.cell? ⟨wr.heap.size, 2, none⟩ = some (.string ss) := by rw [hb.cell (by simpa using hs1)]; exact v2
          have HBZ : Hid (Below wr.heap.size wr w3) := HB1.out.trans (hb.mono HB1.out.size)
          clear hb d0 d1 d2 v0 v1 v2
          have HB4 : Hid (Below w.heap.size w w3) := HB.out.trans (HBZ.out.mono HB.out.size)
          go_wp2_with fail
          refine (ref_put_any q m mc (refOf (((l.take k).filter atomB).map (swA f t))) (⟨3, rr, ss⟩ : Atom) w3 HLEN.out hmc (by omega) (HROW.out.below HBZ.out)).mono ?_
          rintro e w4 ⟨v, rfl, ⟨q', m', mc', rfl, hl', hc', hr'⟩, hb⟩
          have HB5 := Lib.hid (HB4.out.trans (hb.mono HB4.out.size))
          have HL' := Lib.hid hl'
          have HR' := Lib.hid hr'
          clear hb hl' hr' u0 u1 u2
          go_wp2_with fail
          go_roundw
          case rel =>
            have e1 : ((l.take (k + 1)).filter atomB).map (swA f t) = ((l.take k).filter atomB).map (swA f t) ++ [(⟨3, rr, ss⟩ : Atom)] := by
              rw [take_succ_get HE.out, List.filter_append, List.map_append]; simp [HA.out, swA, HK3.out]
            exact ⟨k + 1, q', m', mc', by omega, by go_num, rfl, by rw [e1, refOf_snoc]; exact HL'.out, hc', by rw [e1, refOf_snoc]; exact HR'.out, HB5.out⟩
          case measure => simp [intOf]; omega
        · have HK3 := Lib.hid hk3
          have hkd : decide (kd = 3) = false := by simp [hk3]
          go_wp2_with fail
          refine (ref_Atom_is HA.out _).mono ?_
          rintro e w1 ⟨rfl, hb⟩
          have v0 : w1.cell? ⟨wr.heap.size, 0, none⟩ = some (.int .u8 kd) := by rw [hb.cell (by simp), cell_new]; rfl
          have v1 : w1.cell? ⟨wr.heap.size, 1, none⟩ = some (.int .i64 rr) := by rw [hb.cell (by simp), cell_new]; rfl
          have v2 : w1.cell? ⟨wr.heap.size, 2, none⟩ = some (.string ss) := by rw [hb.cell (by simp), cell_new]; rfl
          have f1 : w1.frozen? ⟨wr.heap.size, 1, none⟩ = false := by
            
            have hh : (wr.alloc (.cells #[.int .u8 kd, .int .i64 rr, .string ss] 34)).heap[wr.heap.size]? = some (.cells #[.int .u8 kd, .int .i64 rr, .string ss] 34) := by
              show (wr.heap.push _)[wr.heap.size]? = _
              simp
            rw [World.frozen?_of_block (hb.block wr.heap.size (by simp))]
            simp only [World.frozen?, hh]
            rfl
          have HB1 : Hid (Below wr.heap.size wr w1) := ((Below.refl _ wr).alloc (Nat.le_refl _) _).trans (hb.mono (by simp))
          have hs1 : wr.heap.size < w1.heap.size := by have := hb.size; simp at this; omega
          clear hb d0 d1 d2
          go_wp2_with fail
          refine (ref_Turn_any rr p1 n1 c1 f p2 n2 c2 t w1 HN1.out (by omega) (HR1.out.below (HB.out.trans (HB1.out.mono HB.out.size))) HN2.out (by omega) (HR2.out.below (HB.out.trans (HB1.out.mono HB.out.size)))).mono ?_
          rintro e w2 ⟨rfl, rfl⟩
          have HBS : Hid (Below wr.heap.size wr (w1.setCell ⟨wr.heap.size, 1, none⟩ (.int .i64 (turnI rr f t)))) := OwnE.drop_base (enc := encA) (k := 3) (grown_setCell1 _ _ _ _) (Nat.le_refl _) HB1.out HB1.out.size
          obtain ⟨d0, d1, d2⟩ := HEL.out _ HBS.out
          have x0 : (w1.setCell ⟨wr.heap.size, 1, none⟩ (.int .i64 (turnI rr f t))).cell? ⟨wr.heap.size, 0, none⟩ = some (.int .u8 kd) := by rw [World.cell?_setCell_other _ _ _ _ (by simp)]; exact v0
          have x1 : (w1.setCell ⟨wr.heap.size, 1, none⟩ (.int .i64 (turnI rr f t))).cell? ⟨wr.heap.size, 1, none⟩ = some (.int .i64 (turnI rr f t)) := World.cell?_setCell_same _ _ _ v1
          have x2 : (w1.setCell ⟨wr.heap.size, 1, none⟩ (.int .i64 (turnI rr f t))).cell? ⟨wr.heap.size, 2, none⟩ = some (.string ss) := by rw [World.cell?_setCell_other _ _ _ _ (by simp)]; exact v2
          have hs2 : wr.heap.size < (w1.setCell ⟨wr.heap.size, 1, none⟩ (.int .i64 (turnI rr f t))).heap.size := by simpa [World.setCell] using hs1
          go_wp2_with fail
          refine (ref_Atom_is HA.out _).mono ?_
          rintro e w3 ⟨rfl, hb⟩
          have u0 : w3.cell? ⟨wr.heap.size, 0, none⟩ = some (.int .u8 kd) := by rw [hb.cell hs2]; exact x0
          have u1 : w3.cell? ⟨wr.heap.size, 1, none⟩ = some (.int .i64 (turnI rr f t)) := by rw [hb.cell hs2]; exact x1
          have u2 : w3.cell? ⟨wr.heap.size, 2, none⟩ = some (.string ss) := by rw [hb.cell hs2]; exact x2
          have HBZ : Hid (Below wr.heap.size wr w3) := HBS.out.trans (hb.mono HBS.out.size)
          clear hb d0 d1 d2 v0 v1 v2 x0 x1 x2
          have HB4 : Hid (Below w.heap.size w w3) := HB.out.trans (HBZ.out.mono HB.out.size)
          go_wp2_with fail
          refine (ref_put_any q m mc (refOf (((l.take k).filter atomB).map (swA f t))) (⟨kd, turnI rr f t, ss⟩ : Atom) w3 HLEN.out hmc (by omega) (HROW.out.below HBZ.out)).mono ?_
          rintro e w4 ⟨v, rfl, ⟨q', m', mc', rfl, hl', hc', hr'⟩, hb⟩
          have HB5 := Lib.hid (HB4.out.trans (hb.mono HB4.out.size))
          have HL' := Lib.hid hl'
          have HR' := Lib.hid hr'
          clear hb hl' hr' u0 u1 u2
          go_wp2_with fail
          go_roundw
          case rel =>
            have e1 : ((l.take (k + 1)).filter atomB).map (swA f t) = ((l.take k).filter atomB).map (swA f t) ++ [(⟨kd, turnI rr f t, ss⟩ : Atom)] := by
              rw [take_succ_get HE.out, List.filter_append, List.map_append]; simp [HA.out, swA, HK3.out]
            exact ⟨k + 1, q', m', mc', by omega, by go_num, rfl, by rw [e1, refOf_snoc]; exact HL'.out, hc', by rw [e1, refOf_snoc]; exact HR'.out, HB5.out⟩
          case measure => simp [intOf]; omega
    · have hkn : k = n := by omega
      subst hkn
      go_wp2_with fail
      go_ret
      have h1 := HLEN.out
      have h2 := HROW.out
      rw [take_full (by rw [HN.out]; omega)] at h1 h2
      exact ⟨_, rfl, ⟨q, m, mc, rfl, h1, hmc, h2⟩, HB.out⟩
end Go.Proofs.YtekhblomdlehhaaDoor
