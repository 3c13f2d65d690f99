/- enclaveref11.put, Of, Union. -/
import Derived.Test.YtekhblomdlehhaaDoorEff3
import Derived.Test.YtekhblomdlehhaaDoorOwn
set_option linter.unusedVariables false
set_option maxRecDepth 100000
set_option linter.unusedSimpArgs false
namespace Go.Proofs.YtekhblomdlehhaaDoor
open Go.RowKit

theorem encA_one (y : Atom) : ∀ u ∈ encA y, u.oneCell' = true := by
  intro u hu
  simp only [encA, List.mem_cons, List.not_mem_nil, or_false] at hu
  rcases hu with rfl | rfl | rfl <;> rfl
theorem infoA : (Tryd.prog.info? 34).map (fun i => (i.zero, i.size, i.bytes)) = some (some (.agg #[.int .u8 0, .int .i64 0, .string .empty]), 3, 32) := by kernel_rfl

/-- put ahead of the first greater one -/
def putPos (a : Atom) : List Atom → List Atom
  | [] => [a]
  | b :: l => if Atom.lt a b then a :: b :: l else b :: putPos a l
def putA (a : Atom) (e : List Atom) : List Atom := if atomB a && !inA e a then putPos a e else e

theorem putPos_hit (a : Atom) : ∀ (l : List Atom) (x : Atom), l.any (Atom.lt a) = true → putPos a (l ++ [x]) = putPos a l ++ [x]
  | [], x, h => by simp at h
  | b :: l, x, h => by
    simp only [List.cons_append, putPos]
    by_cases hb : Atom.lt a b = true
    · simp [hb]
    · rw [if_neg hb, if_neg hb, putPos_hit a l x (by simpa [hb] using h)]; rfl
theorem putPos_first (a : Atom) : ∀ (l : List Atom) (x : Atom), l.any (Atom.lt a) = false → Atom.lt a x = true → putPos a (l ++ [x]) = l ++ [a, x]
  | [], x, _, hx => by simp [putPos, hx]
  | b :: l, x, h, hx => by
    simp only [List.any_cons, Bool.or_eq_false_iff] at h
    simp only [List.cons_append, putPos]
    rw [if_neg (by simp [h.1]), putPos_first a l x h.2 hx]
theorem putPos_none (a : Atom) : ∀ (l : List Atom), l.any (Atom.lt a) = false → putPos a l = l ++ [a]
  | [], _ => rfl
  | b :: l, h => by
    simp only [List.any_cons, Bool.or_eq_false_iff] at h
    simp only [putPos, List.cons_append]
    rw [if_neg (by simp [h.1]), putPos_none a l h.2]
theorem putPos_length (a : Atom) : ∀ l : List Atom, (putPos a l).length = l.length + 1
  | [] => rfl
  | b :: l => by
    simp only [putPos]
    split
    · rfl
    · simp [putPos_length a l]

/-- what has been put out behind k of them -/
def outA (a : Atom) (l : List Atom) : List Atom := if l.any (Atom.lt a) then putPos a l else l
theorem outA_len (a : Atom) (l : List Atom) : (outA a l).length ≤ l.length + 1 := by
  unfold outA; split
  · rw [putPos_length]; omega
  · omega
theorem outA_done (a : Atom) (l : List Atom) (x : Atom) (h : l.any (Atom.lt a) = true) : outA a (l ++ [x]) = outA a l ++ [x] := by
  unfold outA
  rw [if_pos h, if_pos (by rw [List.any_append, h]; rfl), putPos_hit a l x h]
theorem outA_first (a : Atom) (l : List Atom) (x : Atom) (h : l.any (Atom.lt a) = false) (hx : Atom.lt a x = true) : outA a (l ++ [x]) = (outA a l ++ [a]) ++ [x] := by
  have e1 : (l ++ [x]).any (Atom.lt a) = true := by rw [List.any_append]; simp [hx]
  unfold outA
  rw [if_pos e1, if_neg (by rw [h]; exact Bool.false_ne_true), putPos_first a l x h hx]
  simp
theorem outA_not (a : Atom) (l : List Atom) (x : Atom) (h : l.any (Atom.lt a) = false) (hx : Atom.lt a x = false) : outA a (l ++ [x]) = outA a l ++ [x] := by
  have e1 : (l ++ [x]).any (Atom.lt a) = false := by rw [List.any_append, h]; simp [hx]
  unfold outA
  rw [if_neg (by rw [e1]; exact Bool.false_ne_true), if_neg (by rw [h]; exact Bool.false_ne_true)]

set_option maxHeartbeats 1000000 in
theorem ref_put_main (p : Option Addr) (n cap : Nat) (l : List Atom) (a : Atom) (w : World) (hn : l.length = n) (hm : n ≤ 1000000) (hr : RowA w p l) (ha : atomB a = true) (hi : inA l a = false) :
    Calls Tryd.prog 48 #[.slice p n cap, .agg #[.int .u8 a.kind, .int .i64 a.rho, .string a.exn]] w fun e w' =>
      ∃ v, e = .returned v ∧ OwnE encA 3 w' w.heap.size 34 v (n + 1) (putPos a l) ∧ Below w.heap.size w w' := by
  have HR := Lib.hid hr
  have HN := Lib.hid hn
  clear hr hn
  go_enter Tryd.func48, Tryd.ntmps48
  go_wp2_with fail
  refine (ref_Atom_any a _).mono ?_
  rintro e w1 ⟨rfl, hb⟩
  have H1 : Hid (Below w.heap.size w w1) := ((Below.refl _ w).alloc (Nat.le_refl _) _).trans (hb.mono (by simp))
  have c0 : w1.cell? ⟨w.heap.size, 0, none⟩ = some (.int .u8 a.kind) := by rw [hb.cell (by simp), cell_new]; rfl
  have c1 : w1.cell? ⟨w.heap.size, 1, none⟩ = some (.int .i64 a.rho) := by rw [hb.cell (by simp), cell_new]; rfl
  have c2 : w1.cell? ⟨w.heap.size, 2, none⟩ = some (.string a.exn) := by rw [hb.cell (by simp), cell_new]; rfl
  have hs : w.heap.size < w1.heap.size := by have := hb.size; simp at this; omega
  rw [ha]
  clear hb
  go_wp2_with fail
  refine (ref_In_any p n cap l a w1 HN.out (by omega) (HR.out.below H1.out)).mono ?_
  rintro e w2 ⟨rfl, hb⟩
  have H2 := Lib.hid (H1.out.trans (hb.mono H1.out.size))
  have hbox : Hid (∀ wr, Below w1.heap.size w1 wr → wr.cell? ⟨w.heap.size, 0, none⟩ = some (.int .u8 a.kind) ∧ wr.cell? ⟨w.heap.size, 1, none⟩ = some (.int .i64 a.rho) ∧ wr.cell? ⟨w.heap.size, 2, none⟩ = some (.string a.exn)) :=
    fun wr hb => ⟨by rw [hb.cell (by simpa using hs)]; exact c0, by rw [hb.cell (by simpa using hs)]; exact c1, by rw [hb.cell (by simpa using hs)]; exact c2⟩
  have H12 := Lib.hid hb
  rw [hi]
  clear hb c0 c1 c2 H1
  go_wp2_with fail
  have hown0 := OwnE.lit encA w2 w2.heap.size 34 3 (Nat.le_refl _)
  have HOWN0 := Lib.hid hown0
  clear hown0
  go_loopw [5, 6, 7, 20] (fun u d _ i wr => ∃ k m : Nat, k ≤ n ∧ m ≤ 2 * k ∧ i = .int .i64 k ∧ d = .bool ((l.take k).any (Atom.lt a)) ∧ OwnE encA 3 wr w2.heap.size 34 u m (outA a (l.take k)) ∧ Below w2.heap.size w2 wr) (fun _ _ _ i _ => n - (intOf i).toNat)
  case atStart => exact ⟨0, 0, by omega, by omega, rfl, by simp, HOWN0.out, (Below.refl _ _).alloc (Nat.le_refl _) _⟩
  case round =>
    obtain ⟨k, m, hk, hmk, rfl, rfl, hown, hb⟩ := hrel
    have HOWN := Lib.hid hown
    have HB := Lib.hid hb
    clear hown hb
    by_cases hlt : k < n
    · obtain ⟨x, hx⟩ := get_of_lt (l := l) (j := k) (by rw [HN.out]; exact hlt)
      have HE := Lib.hid hx
      obtain ⟨b, o, rfl, hbl, d0, d1, d2⟩ := RowA.atom (HR.out.below H2.out) hx
      have HEL : Hid (∀ W, Below w2.heap.size w2 W → W.cell? ⟨b, o + k * 3, none⟩ = some (.int .u8 x.kind) ∧ W.cell? ⟨b, o + k * 3 + 1, none⟩ = some (.int .i64 x.rho) ∧ W.cell? ⟨b, o + k * 3 + 2, none⟩ = some (.string x.exn)) :=
        fun W h => ⟨by rw [h.cell hbl]; exact d0, by rw [h.cell hbl]; exact d1, by rw [h.cell hbl]; exact d2⟩
      clear hx hbl d0 d1 d2
      cases hany : (l.take k).any (Atom.lt a)
      · have HANY := Lib.hid hany
        clear hany
        obtain ⟨e0, e1, e2⟩ := HEL.out wr HB.out
        obtain ⟨f0, f1, f2⟩ := hbox.out wr (H12.out.trans (HB.out.mono H12.out.size))
        go_wp2_with fail
        refine wp_region_still_tail 8 (by kernel_rfl) (by kernel_rfl) ?_
        change wpStill _ _ (World.drew _) _ _ _
        simp only [List.take_succ_cons, List.take_zero, List.drop_succ_cons, List.drop_zero]
        repeat still_step
        refine wpStill_nil ?_
        change wpList _ _ _ _ _ (World.drew _)
        go_wp2_with fail
        refine (ref_Less_any a x _).mono ?_
        rintro e w3 ⟨rfl, hb⟩
        have HB3 : Hid (Below w2.heap.size w2 w3) := HB.out.drew.trans (hb.mono HB.out.size)
        have HOWN3 := Lib.hid (OwnE.below HOWN.out.drew hb)
        clear hb e0 e1 e2 f0 f1 f2
        obtain ⟨e0, e1, e2⟩ := HEL.out w3 HB3.out
        obtain ⟨f0, f1, f2⟩ := hbox.out w3 (H12.out.trans (HB3.out.mono H12.out.size))
        cases hla : Atom.lt a x
        · have HLA := Lib.hid hla
          clear hla
          go_wp2_with (at_builtin; refine wpList_append1 rfl _ _ 30 rfl w2.heap.size 34 _ 3 32 Tryd.underlying30 infoA rfl (by decide) encA encA_len encA_one x _ _ _ HOWN3.out rfl rfl ?c1 ?c2 ?c3 ?_)
          case c1 => omega
          case c2 => omega
          case c3 => exact HB3.out.size
          · intro v' w4 hown' hg
            have HO := Lib.hid hown'
            have HB4 := Lib.hid (Below.own HB3.out hg HB3.out.size HOWN3.out)
            clear hown' hg e0 e1 e2 f0 f1 f2
            go_wp2_with fail
            go_roundw
            case rel => exact ⟨k + 1, m + 1, by omega, by omega, by go_num, by rw [any_take_get HE.out, HANY.out, HLA.out]; rfl, by rw [take_succ_get HE.out, outA_not a _ _ HANY.out HLA.out]; exact HO.out, HB4.out⟩
            case measure => simp [intOf]; omega
        · have HLA := Lib.hid hla
          clear hla
          go_wp2_with (at_builtin; refine wpList_append1 rfl _ _ 30 rfl w2.heap.size 34 _ 3 32 Tryd.underlying30 infoA rfl (by decide) encA encA_len encA_one a _ _ _ HOWN3.out rfl rfl ?c1 ?c2 ?c3 ?_)
          case c1 => omega
          case c2 => omega
          case c3 => exact HB3.out.size
          · intro v' w4 hown' hg
            have HO := Lib.hid hown'
            have HB4 := Lib.hid (Below.own HB3.out hg HB3.out.size HOWN3.out)
            clear hown' hg e0 e1 e2 f0 f1 f2
            obtain ⟨e0, e1, e2⟩ := HEL.out w4 HB4.out
            go_wp2_with (at_builtin; refine wpList_append1 rfl _ _ 30 rfl w2.heap.size 34 _ 3 32 Tryd.underlying30 infoA rfl (by decide) encA encA_len encA_one x _ _ _ HO.out rfl rfl ?c1 ?c2 ?c3 ?_)
            case c1 => omega
            case c2 => omega
            case c3 => exact HB4.out.size
            · intro v'' w5 hown' hg
              have HO5 := Lib.hid hown'
              have HB5 := Lib.hid (Below.own HB4.out hg HB4.out.size HO.out)
              clear hown' hg e0 e1 e2
              go_wp2_with fail
              go_roundw
              case rel => exact ⟨k + 1, m + 2, by omega, by omega, by go_num, by rw [any_take_get HE.out, HANY.out, HLA.out]; rfl, by rw [take_succ_get HE.out, outA_first a _ _ HANY.out HLA.out, List.append_assoc]; exact HO5.out, HB5.out⟩
              case measure => simp [intOf]; omega
      · have HANY := Lib.hid hany
        clear hany
        obtain ⟨e0, e1, e2⟩ := HEL.out wr HB.out
        obtain ⟨f0, f1, f2⟩ := hbox.out wr (H12.out.trans (HB.out.mono H12.out.size))
        go_wp2_with fail
        go_quiet (fail)
        have HB3 : Hid (Below w2.heap.size w2 (wr.drewN nq)) := below_drewN HB.out nq
        have HOWN3 : Hid (OwnE encA 3 (wr.drewN nq) w2.heap.size 34 u5 m (outA a (l.take k))) := HOWN.out.drewN nq
        go_wp2_with (at_builtin; refine wpList_append1 rfl _ _ 30 rfl w2.heap.size 34 _ 3 32 Tryd.underlying30 infoA rfl (by decide) encA encA_len encA_one x _ _ _ HOWN3.out rfl rfl ?c1 ?c2 ?c3 ?_)
        case c1 => omega
        case c2 => omega
        case c3 => exact HB3.out.size
        · intro v' w4 hown' hg
          have HO := Lib.hid hown'
          have HB4 := Lib.hid (Below.own HB3.out hg HB3.out.size HOWN3.out)
          clear hown' hg e0 e1 e2 f0 f1 f2
          go_wp2_with fail
          go_roundw
          case rel => exact ⟨k + 1, m + 1, by omega, by omega, by go_num, by rw [any_take_get HE.out, HANY.out]; rfl, by rw [take_succ_get HE.out, outA_done a _ _ HANY.out]; exact HO.out, HB4.out⟩
          case measure => simp [intOf]; omega
    · have hkn : k = n := by omega
      subst hkn
      have ht : l.take k = l := take_full (by rw [HN.out]; omega)
      rw [ht]
      cases hany : l.any (Atom.lt a)
      · have HP : Hid (putPos a l = outA a l ++ [a]) := by
          show putPos a l = outA a l ++ [a]
          unfold outA; rw [if_neg (by rw [hany]; exact Bool.false_ne_true), putPos_none a l hany]
        have hl : Hid (m = k) := by
          show m = k
          have := HOWN.out.len encA_len (by omega)
          rw [ht] at this
          unfold outA at this
          rw [if_neg (by rw [hany]; exact Bool.false_ne_true)] at this
          rw [← this]; exact HN.out
        obtain ⟨f0, f1, f2⟩ := hbox.out wr (H12.out.trans (HB.out.mono H12.out.size))
        clear hany ht
        go_wp2_with (at_builtin; refine wpList_append1 rfl _ _ 30 rfl w2.heap.size 34 _ 3 32 Tryd.underlying30 infoA rfl (by decide) encA encA_len encA_one a _ _ _ HOWN.out rfl rfl ?c1 ?c2 ?c3 ?_)
        case c1 => omega
        case c2 => omega
        case c3 => exact HB.out.size
        · intro v' w4 hown' hg
          have HO := Lib.hid hown'
          have HB4 := Lib.hid (Below.own HB.out hg HB.out.size HOWN.out)
          clear hown' hg f0 f1 f2
          go_wp2_with fail
          go_ret
          refine ⟨_, rfl, ?_, H2.out.trans (HB4.out.mono H2.out.size)⟩
          have h := HO.out
          rw [take_full (by rw [HN.out]; omega), hl.out] at h
          rw [HP.out]
          exact h.lower H2.out.size
      · have HP : Hid (putPos a l = outA a l) := by show putPos a l = outA a l; unfold outA; rw [if_pos hany]
        have hl : Hid (m = k + 1) := by
          show m = k + 1
          have := HOWN.out.len encA_len (by omega)
          rw [ht] at this
          unfold outA at this
          rw [if_pos hany, putPos_length] at this
          rw [← this, HN.out]
        clear hany ht
        go_wp2_with fail
        go_ret
        refine ⟨_, rfl, ?_, H2.out.trans (HB.out.mono H2.out.size)⟩
        have h := HOWN.out
        rw [take_full (by rw [HN.out]; omega), hl.out] at h
        rw [HP.out]
        exact h.lower H2.out.size
end Go.Proofs.YtekhblomdlehhaaDoor
