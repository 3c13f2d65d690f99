/- What CheckOuter leans on besides, part 1: Eff3, Eff6, Sets, Eff21, Eff22. -/
import Derived.Test.YtkdjnegfnhldpaaGreatDoorH02
import Derived.Laws.StructEq
import Derived.Test.YtkdjnegfnhldpaaGreatDoorH03
import Derived.Test.YtkdjnegfnhldpaaGreatDoorH06
import Derived.Test.YtkdjnegfnhldpaaGreatDoorH07
set_option linter.unusedVariables false
set_option maxRecDepth 100000
set_option linter.unusedSimpArgs false
namespace Go.Proofs.YtkdjnegfnhldpaaGreatDoor
open Go.Lib (hid)
section
open Go.RowKit
set_option maxHeartbeats 400000 in
theorem ref_Less_any (a b : Atom) (w : World) : Calls Tryz.prog 42 #[.agg #[.int .u8 a.kind, .int .i64 a.rho, .string a.exn], .agg #[.int .u8 b.kind, .int .i64 b.rho, .string b.exn]] w fun e w' =>
    e = .returned (.bool (Atom.lt a b)) ∧ Below w.heap.size w w' := by
  by_cases hk : a.kind = b.kind
  · have hkb : (a.kind != b.kind) = false := by rw [hk]; simp
    by_cases hr : a.rho = b.rho
    · have hrb : (a.rho != b.rho) = false := by rw [hr]; simp
      have hh : Hid (Atom.lt a b = Op.bytesLess a.exn.toList b.exn.toList) := by show Atom.lt a b = _; simp [Atom.lt, hk, hr]
      clear hk hr
      go_enter Tryz.func42, Tryz.ntmps42
      go_wp2_with fail
      go_ret
      exact ⟨ret_bool hh.out.symm, ((Below.refl _ _).alloc (Nat.le_refl _) _).alloc (by simp) _⟩
    · have hrb : (a.rho != b.rho) = true := by simpa using hr
      have hh : Hid (Atom.lt a b = decide (a.rho < b.rho)) := by show Atom.lt a b = _; simp [Atom.lt, hk, hr]
      clear hk hr
      go_enter Tryz.func42, Tryz.ntmps42
      go_wp2_with fail
      go_ret
      exact ⟨ret_bool hh.out.symm, ((Below.refl _ _).alloc (Nat.le_refl _) _).alloc (by simp) _⟩
  · have hkb : (a.kind != b.kind) = true := by simpa using hk
    have hh : Hid (Atom.lt a b = decide (a.kind < b.kind)) := by show Atom.lt a b = _; simp [Atom.lt, hk]
    clear hk
    go_enter Tryz.func42, Tryz.ntmps42
    go_wp2_with fail
    go_ret
    exact ⟨ret_bool hh.out.symm, ((Below.refl _ _).alloc (Nat.le_refl _) _).alloc (by simp) _⟩
end
section
open Go.RowKit
theorem ref_Atom_is {a : Atom} {r : Bool} (h : atomB a = r) (w : World) :
    Calls Tryz.prog 23 #[.agg #[.int .u8 a.kind, .int .i64 a.rho, .string a.exn]] w fun e w' => e = .returned (.bool r) ∧ Below w.heap.size w w' := by
  subst h; exact ref_Atom_any a w
theorem ref_Less_is {a b : Atom} {r : Bool} (h : Atom.lt a b = r) (w : World) : Calls Tryz.prog 42 #[.agg #[.int .u8 a.kind, .int .i64 a.rho, .string a.exn], .agg #[.int .u8 b.kind, .int .i64 b.rho, .string b.exn]] w fun e w' =>
    e = .returned (.bool r) ∧ Below w.heap.size w w' := by
  subst h; exact ref_Less_any a b w
set_option maxHeartbeats 1000000 in
theorem ref_May_any (p : Option Addr) (n cap : Nat) (l : List Atom) (w : World) (hn : l.length = n) (hm : n ≤ 9223372036854775807) (hr : RowA w p l) :
    Calls Tryz.prog 18 #[.slice p n cap] w fun e w' => (∃ r, e = .returned (.bool r) ∧ (r = true ↔ MayTo l n)) ∧ Below w.heap.size w w' := by
  have HR := hid hr
  have HN := hid hn
  clear hr hn
  go_enter Tryz.func18, Tryz.ntmps18
  go_wp2_with fail
  go_loopw [3, 6] (fun _ i wr => ∃ k : Nat, k ≤ n ∧ i = .int .i64 k ∧ MayTo l k ∧ Below w.heap.size w wr) (fun _ i _ => n - (intOf i).toNat)
  case atStart => exact ⟨0, by omega, rfl, ⟨by simp, fun j _ _ h => by omega⟩, Below.refl _ _⟩
  case round =>
    obtain ⟨k, hk, rfl, hno, hb⟩ := hrel
    have HNO := hid hno
    have HB := hid hb
    clear hno hb
    by_cases hlt : k < n
    · obtain ⟨x, hx⟩ := get_of_lt (l := l) (j := k) (by rw [HN.out]; exact hlt)
      have HE := hid hx
      obtain ⟨b, o, rfl, hbl, d0, d1, d2⟩ := RowA.atom (HR.out.below HB.out) hx
      have HBL := hid hbl
      clear hx hbl
      have hc0 := fun g => gw_cell d0 g
      have hc1 := fun g => gw_cell d1 g
      have hc2 := fun g => gw_cell d2 g
      cases ha : atomB x
      · have HA := hid ha
        clear ha
        have hW := gw_below wr
        go_wp2_with fail
        refine wp_region_gw (by kernel_rfl) (by kernel_rfl) ?_
        repeat ((with_reducible refine wpQuiet_step (fun K hK => ?_)); go_simp; refine hK _ ?_; clear hK K)
        refine wpQuiet_step (fun K hK => ?_); go_simp; refine ⟨.bool false, fun _ => calls_gw (ref_Atom_is HA.out _), hK _ ?_⟩; clear hK K
        repeat ((with_reducible refine wpQuiet_step (fun K hK => ?_)); go_simp; refine hK _ ?_; clear hK K)
        refine wpQuiet_nil ?_
        rintro w3 ⟨g, rfl⟩
        have HB3 := hid (HB.out.trans ((hW g).mono HB.out.size))
        clear hW
        go_wp2_with fail
        go_ret
        exact ⟨⟨false, rfl, by
          constructor
          · intro h; cases h
          · intro h
            have h1 := h.1
            rw [take_full (by rw [HN.out]; omega), all_get HE.out HA.out] at h1
            cases h1⟩, HB3.out⟩
      · have HA := hid ha
        clear ha
        have hW := gw_below wr
        by_cases hk0 : k = 0
        · have hd : decide ((0 : Int) < (k : Int)) = false := by simp; omega
          have hd' : decide (0 < k) = false := by simp; omega
          have HK0 := hid hk0
          clear hk0
          go_wp2_with fail
          refine wp_region_gw (by kernel_rfl) (by kernel_rfl) ?_
          repeat ((with_reducible refine wpQuiet_step (fun K hK => ?_)); go_simp; refine hK _ ?_; clear hK K)
          refine wpQuiet_step (fun K hK => ?_); go_simp; refine ⟨.bool true, fun _ => calls_gw (ref_Atom_is HA.out _), hK _ ?_⟩; clear hK K
          repeat ((with_reducible refine wpQuiet_step (fun K hK => ?_)); go_simp; refine hK _ ?_; clear hK K)
          refine wpQuiet_nil ?_
          rintro w3 ⟨g, rfl⟩
          have HB3 := hid (HB.out.trans ((hW g).mono HB.out.size))
          clear hW
          go_wp2_with fail
          go_roundw
          case rel => exact ⟨k + 1, by omega, by go_num, ⟨by rw [all_take_get HE.out, HNO.out.1, HA.out]; rfl, fun j _ _ h => by have := HK0.out; omega⟩, HB3.out⟩
          case measure => simp [intOf]; omega
        · obtain ⟨y, hy⟩ := get_of_lt (l := l) (j := k - 1) (by rw [HN.out]; omega)
          have HY := hid hy
          obtain ⟨b', o', hbo, _, e0, e1, e2⟩ := RowA.atom (HR.out.below HB.out) hy
          cases hbo
          have he0 := fun g => gw_cell e0 g
          have he1 := fun g => gw_cell e1 g
          have he2 := fun g => gw_cell e2 g
          have hk1 : Hid (0 < k) := show 0 < k by omega
          have hd : decide ((0 : Int) < (k : Int)) = true := by simp; omega
          have hd' : decide (0 < k) = true := by simp; omega
          have hkp : 0 < k := hk1.out
          have a1 : IntKind.i64.wrap ((k : Int) - 1) = (k : Int) - 1 := IntWalk.i64_in _ (by omega)
          have a2 : (0 : Int) ≤ (k : Int) - 1 := by omega
          have a3 : ((k : Int) - 1).toNat = k - 1 := by omega
          have a4 : (k : Int) - 1 < (n : Int) := by omega
          have a5 : (1 : Int) ≤ (k : Int) := by omega
          clear hy hk0
          cases hl : Atom.lt y x
          · have HL := hid hl
            clear hl
            go_wp2_with fail
            refine wp_region_gw (by kernel_rfl) (by kernel_rfl) ?_
            repeat ((with_reducible refine wpQuiet_step (fun K hK => ?_)); go_simp; refine hK _ ?_; clear hK K)
            refine wpQuiet_step (fun K hK => ?_); go_simp; refine ⟨.bool true, fun _ => calls_gw (ref_Atom_is HA.out _), hK _ ?_⟩; clear hK K
            repeat ((with_reducible refine wpQuiet_step (fun K hK => ?_)); go_simp; refine hK _ ?_; clear hK K)
            refine wpQuiet_step (fun K hK => ?_); go_simp; refine ⟨.bool false, fun _ => calls_gw (ref_Less_is HL.out _), hK _ ?_⟩; clear hK K
            repeat ((with_reducible refine wpQuiet_step (fun K hK => ?_)); go_simp; refine hK _ ?_; clear hK K)
            refine wpQuiet_nil ?_
            rintro w3 ⟨g, rfl⟩
            have HB3 := hid (HB.out.trans ((hW g).mono HB.out.size))
            clear hW
            go_wp2_with fail
            go_ret
            exact ⟨⟨false, rfl, by
              constructor
              · intro h; cases h
              · intro h
                have h1 := h.2 (k - 1) y x (by have := hk1.out; omega) HY.out (by rw [show k - 1 + 1 = k from by have := hk1.out; omega]; exact HE.out)
                rw [HL.out] at h1
                cases h1⟩, HB3.out⟩
          · have HL := hid hl
            clear hl
            go_wp2_with fail
            refine wp_region_gw (by kernel_rfl) (by kernel_rfl) ?_
            repeat ((with_reducible refine wpQuiet_step (fun K hK => ?_)); go_simp; refine hK _ ?_; clear hK K)
            refine wpQuiet_step (fun K hK => ?_); go_simp; refine ⟨.bool true, fun _ => calls_gw (ref_Atom_is HA.out _), hK _ ?_⟩; clear hK K
            repeat ((with_reducible refine wpQuiet_step (fun K hK => ?_)); go_simp; refine hK _ ?_; clear hK K)
            refine wpQuiet_step (fun K hK => ?_); go_simp; refine ⟨.bool true, fun _ => calls_gw (ref_Less_is HL.out _), hK _ ?_⟩; clear hK K
            repeat ((with_reducible refine wpQuiet_step (fun K hK => ?_)); go_simp; refine hK _ ?_; clear hK K)
            refine wpQuiet_nil ?_
            rintro w3 ⟨g, rfl⟩
            have HB3 := hid (HB.out.trans ((hW g).mono HB.out.size))
            clear hW
            go_wp2_with fail
            go_roundw
            case rel => exact ⟨k + 1, by omega, by go_num, ⟨by rw [all_take_get HE.out, HNO.out.1, HA.out]; rfl, fun i u v hi hu hv => by
              have hk1 := hk1.out
              rcases (by omega : i = k - 1 ∨ i + 1 < k) with rfl | hlt'
              · rw [HY.out] at hu; cases hu; rw [show k - 1 + 1 = k from by omega, HE.out] at hv; cases hv; exact HL.out
              · exact HNO.out.2 i u v hlt' hu hv⟩, HB3.out⟩
            case measure => simp [intOf]; omega
    · go_wp2_with fail
      go_ret
      obtain rfl : k = n := by omega
      exact ⟨⟨true, rfl, by simp [HNO.out]⟩, HB.out⟩
end
section
open Go.RowKit
theorem putPosI_hit (a : Int) : ∀ (l : List Int) (x : Int), l.any (ltI a) = true → putPosI a (l ++ [x]) = putPosI a l ++ [x]
  | [], x, h => by simp at h
  | b :: l, x, h => by
    simp only [List.cons_append, putPosI]
    by_cases hb : ltI a b = true
    · simp [hb]
    · rw [if_neg hb, if_neg hb, putPosI_hit a l x (by simpa [hb] using h)]; rfl
theorem putPosI_first (a : Int) : ∀ (l : List Int) (x : Int), l.any (ltI a) = false → ltI a x = true → putPosI a (l ++ [x]) = l ++ [a, x]
  | [], x, _, hx => by simp [putPosI, hx]
  | b :: l, x, h, hx => by
    simp only [List.any_cons, Bool.or_eq_false_iff] at h
    simp only [List.cons_append, putPosI]
    rw [if_neg (by simp [h.1]), putPosI_first a l x h.2 hx]
theorem putPosI_none (a : Int) : ∀ (l : List Int), l.any (ltI a) = false → putPosI a l = l ++ [a]
  | [], _ => rfl
  | b :: l, h => by
    simp only [List.any_cons, Bool.or_eq_false_iff] at h
    simp only [putPosI, List.cons_append]
    rw [if_neg (by simp [h.1]), putPosI_none a l h.2]
def outI (a : Int) (l : List Int) : List Int := if l.any (ltI a) then putPosI a l else l
theorem outI_done (a : Int) (l : List Int) (x : Int) (h : l.any (ltI a) = true) : outI a (l ++ [x]) = outI a l ++ [x] := by
  unfold outI
  rw [if_pos h, if_pos (by rw [List.any_append, h]; rfl), putPosI_hit a l x h]
theorem outI_first (a : Int) (l : List Int) (x : Int) (h : l.any (ltI a) = false) (hx : ltI a x = true) : outI a (l ++ [x]) = (outI a l ++ [a]) ++ [x] := by
  have e1 : (l ++ [x]).any (ltI a) = true := by rw [List.any_append]; simp [hx]
  unfold outI
  rw [if_pos e1, if_neg (by rw [h]; exact Bool.false_ne_true), putPosI_first a l x h hx]
  simp
theorem outI_not (a : Int) (l : List Int) (x : Int) (h : l.any (ltI a) = false) (hx : ltI a x = false) : outI a (l ++ [x]) = outI a l ++ [x] := by
  have e1 : (l ++ [x]).any (ltI a) = false := by rw [List.any_append, h]; simp [hx]
  unfold outI
  rw [if_neg (by rw [e1]; exact Bool.false_ne_true), if_neg (by rw [h]; exact Bool.false_ne_true)]
set_option maxHeartbeats 1000000 in
theorem ref_PutInt_any {p : Option Addr} {n cap : Nat} {l : List Int} {w : World} (hr : IsRow encN 1 w p n cap l) (hm : n ≤ 10000000) (a : Int) :
    Calls Tryz.prog 41 #[.slice p n cap, .int .i64 a] w fun e w' => ∃ v p' m c, e = .returned v ∧ v = .slice p' m c ∧ IsRow encN 1 w' p' m c (putI a l) ∧ Below w.heap.size w w' := by
  cases hi : inN l a
  · have HP : Hid (putI a l = putPosI a l) := by show _ = _; unfold putI; rw [hi]; rfl
    have HI := hid hi
    have HR := hid hr
    clear hr
    clear hi
    go_enter Tryz.func41, Tryz.ntmps41
    go_wp2_with fail
    refine (ref_Ints_of HI.out HR.out).mono ?_
    rintro e w1 ⟨rfl, rfl⟩
    have HOWN0 := hid (OwnE.lit encN w w.heap.size 3 1 (Nat.le_refl _))
    go_wp2_with fail
    go_loopw [5, 6, 7, 15] (fun u d _ i wr => ∃ k m : Nat, k ≤ n ∧ m ≤ 2 * k ∧ i = .int .i64 k ∧ d = .bool ((l.take k).any (ltI a)) ∧ OwnE encN 1 wr w.heap.size 3 u m (outI a (l.take k)) ∧ Below w.heap.size w wr) (fun _ _ _ i _ => n - (intOf i).toNat)
    case atStart => exact ⟨0, 0, by omega, by omega, rfl, by simp, HOWN0.out, (Below.refl _ _).alloc (Nat.le_refl _) _⟩
    case round =>
      obtain ⟨k, m, hk, hmk, rfl, rfl, hown, hb⟩ := hrel
      have HOWN := hid hown
      have HB := hid hb
      clear hown hb
      by_cases hlt : k < n
      · obtain ⟨x, hx⟩ := get_of_lt (l := l) (j := k) (by rw [HR.out.len]; exact hlt)
        obtain ⟨b, o, rfl, d0⟩ := (HR.out.below HB.out).row.num hx
        have HE := hid hx
        clear hx
        cases hany : (l.take k).any (ltI a)
        · have HANY := hid hany
          clear hany
          by_cases hax : a < x
          · have HLA : Hid (ltI a x = true) := by show _ = _; unfold ltI; simpa using hax
            go_wp2_with (at_builtin; refine wpList_append1 rfl _ _ 24 rfl w.heap.size 3 _ 1 8 Tryz.underlying24 infoN rfl (by decide) encN encN_len encN_one a _ _ _ HOWN.out rfl rfl ?c1 ?c2 ?c3 ?_)
            case c1 => omega
            case c2 => omega
            case c3 => exact HB.out.size
            · intro v' w4 hown' hg
              have HO := hid hown'
              have HB4 := hid (Below.own HB.out hg HB.out.size HOWN.out)
              have e0 : w4.cell? ⟨b, o + k, none⟩ = some (.int .i64 x) := by
                obtain ⟨b', o', hbo, d1⟩ := (HR.out.below HB4.out).row.num HE.out
                cases hbo; exact d1
              clear hown' hg d0
              go_wp2_with (at_builtin; refine wpList_append1 rfl _ _ 24 rfl w.heap.size 3 _ 1 8 Tryz.underlying24 infoN rfl (by decide) encN encN_len encN_one x _ _ _ HO.out rfl rfl ?c1 ?c2 ?c3 ?_)
              case c1 => omega
              case c2 => omega
              case c3 => exact HB4.out.size
              · intro v'' w5 hown' hg
                have HO5 := hid hown'
                have HB5 := hid (Below.own HB4.out hg HB4.out.size HO.out)
                clear hown' hg e0
                go_wp2_with fail
                go_roundw
                case rel => exact ⟨k + 1, m + 2, by omega, by omega, by go_num, by rw [any_take_get HE.out, HANY.out, HLA.out]; rfl, by rw [take_succ_get HE.out, outI_first a _ _ HANY.out HLA.out, List.append_assoc]; exact HO5.out, HB5.out⟩
                case measure => simp [intOf]; omega
          · have HLA : Hid (ltI a x = false) := by show _ = _; unfold ltI; simpa using hax
            go_wp2_with (at_builtin; refine wpList_append1 rfl _ _ 24 rfl w.heap.size 3 _ 1 8 Tryz.underlying24 infoN rfl (by decide) encN encN_len encN_one x _ _ _ HOWN.out rfl rfl ?c1 ?c2 ?c3 ?_)
            case c1 => omega
            case c2 => omega
            case c3 => exact HB.out.size
            · intro v' w4 hown' hg
              have HO := hid hown'
              have HB4 := hid (Below.own HB.out hg HB.out.size HOWN.out)
              clear hown' hg d0
              go_wp2_with fail
              go_roundw
              case rel => exact ⟨k + 1, m + 1, by omega, by omega, by go_num, by rw [any_take_get HE.out, HANY.out, HLA.out]; rfl, by rw [take_succ_get HE.out, outI_not a _ _ HANY.out HLA.out]; exact HO.out, HB4.out⟩
              case measure => simp [intOf]; omega
        · have HANY := hid hany
          clear hany
          go_wp2_with (at_builtin; refine wpList_append1 rfl _ _ 24 rfl w.heap.size 3 _ 1 8 Tryz.underlying24 infoN rfl (by decide) encN encN_len encN_one x _ _ _ HOWN.out rfl rfl ?c1 ?c2 ?c3 ?_)
          case c1 => omega
          case c2 => omega
          case c3 => exact HB.out.size
          · intro v' w4 hown' hg
            have HO := hid hown'
            have HB4 := hid (Below.own HB.out hg HB.out.size HOWN.out)
            clear hown' hg d0
            go_wp2_with fail
            go_roundw
            case rel => exact ⟨k + 1, m + 1, by omega, by omega, by go_num, by rw [any_take_get HE.out, HANY.out]; rfl, by rw [take_succ_get HE.out, outI_done a _ _ HANY.out]; exact HO.out, HB4.out⟩
            case measure => simp [intOf]; omega
      · have hkn : k = n := by omega
        subst hkn
        have ht : l.take k = l := take_full (by rw [HR.out.len]; omega)
        rw [ht]
        cases hany : l.any (ltI a)
        · have HP2 : Hid (putI a l = outI a l ++ [a]) := by
            show _ = _
            rw [HP.out]; unfold outI; rw [if_neg (by rw [hany]; exact Bool.false_ne_true), putPosI_none a l hany]
          clear hany
          go_wp2_with (at_builtin; refine wpList_append1 rfl _ _ 24 rfl w.heap.size 3 _ 1 8 Tryz.underlying24 infoN rfl (by decide) encN encN_len encN_one a _ _ _ HOWN.out rfl rfl ?c1 ?c2 ?c3 ?_)
          case c1 => omega
          case c2 => omega
          case c3 => exact HB.out.size
          · intro v' w4 hown' hg
            have HO := hid hown'
            have HB4 := hid (Below.own HB.out hg HB.out.size HOWN.out)
            clear hown' hg
            go_wp2_with fail
            go_ret
            have h := HO.out
            rw [← HP2.out] at h
            obtain ⟨p', c', hv, hrow⟩ := h.isRow encN_len (by omega)
            exact ⟨_, p', _, c', rfl, hv, hrow, HB4.out⟩
        · have HP2 : Hid (putI a l = outI a l) := by show _ = _; rw [HP.out]; unfold outI; rw [if_pos hany]
          clear hany
          go_wp2_with fail
          go_ret
          have h := HOWN.out
          rw [ht, ← HP2.out] at h
          obtain ⟨p', c', hv, hrow⟩ := h.isRow encN_len (by omega)
          exact ⟨_, p', _, c', rfl, hv, hrow, HB.out⟩
  · have HP : Hid (putI a l = l) := by show _ = _; unfold putI; rw [hi]; rfl
    have HI := hid hi
    have HR := hid hr
    clear hr
    clear hi
    go_enter Tryz.func41, Tryz.ntmps41
    go_wp2_with fail
    refine (ref_Ints_of HI.out HR.out).mono ?_
    rintro e w1 ⟨rfl, rfl⟩
    go_wp2_with fail
    go_ret
    exact ⟨_, p, n, cap, rfl, rfl, by rw [HP.out]; exact HR.out, Below.refl _ _⟩
end
section
open Go.RowKit Go.Sort Go.Lib
theorem isRow_lit {α : Type} (enc : α → List Value) (k : Nat) (w : World) (t : TypeId) : IsRow enc k (w.alloc (.cells #[] t)) (some ⟨w.heap.size, 0, none⟩) 0 0 [] := ⟨rfl, by omega, by omega, (fun h => by cases h), .inl rfl⟩
end
section
open Go.RowKit Go.Sort Go.Lib
def rhosF (l : List Atom) : List Int := (l.filter hasR).foldl (fun e a => putI a.rho e) []
theorem rhosF_snoc (l : List Atom) (x : Atom) : rhosF (l ++ [x]) = if hasR x then putI x.rho (rhosF l) else rhosF l := by
  unfold rhosF
  rw [List.filter_append, List.foldl_append]
  cases h : hasR x <;> simp [h]
theorem rhosF_eq (l : List Atom) : rhosF l = rhosOf l := by
  have e : rhosF l = ((l.filter hasR).map (·.rho)).foldl (fun e a => putI a e) [] := by unfold rhosF; rw [List.foldl_map]
  obtain ⟨h1, h2⟩ := foldI ((l.filter hasR).map (·.rho)) [] (by simp [Rising])
  rw [e]
  exact eq_sortI h1 (fun x => by rw [h2]; simp)
set_option maxHeartbeats 1000000 in
theorem ref_Rhos_any {p : Option Addr} {n cap : Nat} {l : List Atom} {w : World} (hr : IsRow encA 3 w p n cap l) (hm : n ≤ 1000000) :
    Calls Tryz.prog 16 #[.slice p n cap] w fun e w' => IsOut encN 1 w' e (rhosOf l) ∧ Below w.heap.size w w' := by
  have HR := hid hr
  clear hr
  go_enter Tryz.func16, Tryz.ntmps16
  go_wp2_with fail
  go_loopw [3, 4, 8] (fun u _ i wr => ∃ (k : Nat) (q : Option Addr) (m mc : Nat), k ≤ n ∧ i = .int .i64 k ∧ u = .slice q m mc ∧ m ≤ k ∧ IsRow encN 1 wr q m mc (rhosF (l.take k)) ∧ Below w.heap.size w wr) (fun _ _ i _ => n - (intOf i).toNat)
  case atStart => exact ⟨0, _, _, _, by omega, rfl, rfl, by omega, isRow_lit _ _ _ _, (Below.refl _ _).alloc (Nat.le_refl _) _⟩
  case round =>
    obtain ⟨k, q, m, mc, hk, rfl, rfl, hmk, hrow, hb⟩ := hrel
    have HROW := hid hrow
    have HB := hid hb
    clear hrow hb
    by_cases hlt : k < n
    · obtain ⟨x, hx⟩ := get_of_lt (l := l) (j := k) (by rw [HR.out.len]; exact hlt)
      have HE := hid hx
      obtain ⟨b, o, rfl, hbl, d0, d1, d2⟩ := RowA.atom (HR.out.below HB.out).row hx
      have HEL : Hid (∀ W, Below wr.heap.size wr W → W.cell? ⟨b, o + k * 3, none⟩ = some (.int .u8 x.kind) ∧ W.cell? ⟨b, o + k * 3 + 1, none⟩ = some (.int .i64 x.rho)) := fun W h => ⟨by rw [h.cell hbl]; exact d0, by rw [h.cell hbl]; exact d1⟩
      clear hx hbl
      cases ha : atomB x
      · have HQ : Hid (hasR x = false) := by show _ = _; simp [hasR, ha]
        have HA := hid ha
        clear ha
        go_wp2_with fail
        refine (ref_Atom_is HA.out _).mono ?_
        rintro e w1 ⟨rfl, hb⟩
        have HB1 := hid (HB.out.trans (hb.mono HB.out.size))
        have HBW := hid hb
        clear hb d0 d1 d2
        go_wp2_with fail
        go_roundw
        case rel => exact ⟨k + 1, q, m, mc, by omega, by go_num, rfl, by omega, by rw [take_succ_get HE.out, rhosF_snoc, HQ.out]; exact HROW.out.below HBW.out, HB1.out⟩
        case measure => simp [intOf]; omega
      · have HA := hid ha
        by_cases h3 : x.kind = 3
        · have h3' : (x.kind != 3) = false := by simp [h3]
          have HQ : Hid (hasR x = false) := by show _ = _; simp [hasR, h3]
          clear ha h3
          go_wp2_with fail
          refine (ref_Atom_is HA.out _).mono ?_
          rintro e w1 ⟨rfl, hb⟩
          have HB1 := hid (HB.out.trans (hb.mono HB.out.size))
          have HBW := hid hb
          clear d0 d1 d2
          obtain ⟨d0, d1⟩ := HEL.out w1 hb
          clear hb
          go_wp2_with fail
          go_roundw
          case rel => exact ⟨k + 1, q, m, mc, by omega, by go_num, rfl, by omega, by rw [take_succ_get HE.out, rhosF_snoc, HQ.out]; exact HROW.out.below HBW.out, HB1.out⟩
          case measure => simp [intOf]; omega
        · have h3' : (x.kind != 3) = true := by simpa using h3
          have HQ : Hid (hasR x = true) := by show _ = _; simp [hasR, h3, ha]
          clear ha h3
          go_wp2_with fail
          refine (ref_Atom_is HA.out _).mono ?_
          rintro e w1 ⟨rfl, hb⟩
          have HB1 := hid (HB.out.trans (hb.mono HB.out.size))
          have HR1 := hid (HROW.out.below hb)
          clear d0 d1 d2
          obtain ⟨d0, d1⟩ := HEL.out w1 hb
          clear hb
          go_wp2_with fail
          refine (ref_PutInt_any HR1.out (by omega) x.rho).mono ?_
          rintro e w2 ⟨v, q', m', mc', rfl, rfl, hr', hb⟩
          have HB2 := hid (HB1.out.trans (hb.mono HB1.out.size))
          have hm' : m' ≤ k + 1 := by have h1 := putI_length x.rho (rhosF (l.take k)); have h2 := hr'.len; have h3 := HROW.out.len; omega
          have HR' := hid hr'
          clear hb d0 d1 hr'
          go_wp2_with fail
          go_roundw
          case rel => exact ⟨k + 1, q', m', mc', by omega, by go_num, rfl, hm', by rw [take_succ_get HE.out, rhosF_snoc, HQ.out]; exact HR'.out, HB2.out⟩
          case measure => simp [intOf]; omega
    · have hkn : k = n := by omega
      subst hkn
      go_wp2_with fail
      go_ret
      have h2 := HROW.out
      rw [take_full (by rw [HR.out.len]; omega), rhosF_eq] at h2
      exact ⟨IsOut.mk h2, HB.out⟩
end
end Go.Proofs.YtkdjnegfnhldpaaGreatDoor
