/- Part 9 of the texts: Eff8, Eff9. -/
import Derived.Test.YtdlbjngpohkglaaGreatDoorG08
section
set_option linter.unusedVariables false
set_option maxRecDepth 100000
set_option linter.unusedSimpArgs false
namespace Go.Proofs.YtdlbjngpohkglaaGreatDoor
open Go.RowKit

theorem eff_atom_is {a : Atom} {r : Bool} (h : atomB a = r) (w : World) :
    Calls Tryz.prog 91 #[.agg #[.int .u8 a.kind, .int .i64 a.rho, .string a.exn]] w fun e w' => e = .returned (.bool r) ∧ Below w.heap.size w w' := by
  subst h; exact atom_any a w
theorem below_grow (W : World) (q : Nat) (os' : Array Obj) : Below W.heap.size W (Go.Sort.grow (W.drewN q) os') :=
  ⟨rfl, rfl, rfl, by simp [Go.Sort.grow], fun k hk => by rw [Go.Sort.heap_grow_old _ _ (by simpa using hk)]; rfl⟩
theorem compare_is {a b : Atom} {r : Int} (h : cmpA a b = r) (w : World) : Calls Tryz.prog 92 #[.agg #[.int .u8 a.kind, .int .i64 a.rho, .string a.exn], .agg #[.int .u8 b.kind, .int .i64 b.rho, .string b.exn]] w fun e w' =>
    e = .returned (.int .i64 r) ∧ Below w.heap.size w w' := by
  subst h
  refine (compare_any a b w).mono ?_
  rintro e w' ⟨he, q, os', rfl⟩
  exact ⟨he, below_grow w q os'⟩

set_option maxHeartbeats 1000000 in
theorem effect_May_any (p : Option Addr) (n cap : Nat) (l : List Atom) (w : World) (hn : l.length = n) (hm : n ≤ 9223372036854775807) (hr : RowA w p l) :
    Calls Tryz.prog 73 #[.slice p n cap] w fun e w' => (∃ r, e = .returned (.bool r) ∧ (r = true ↔ MayTo l n)) ∧ Below w.heap.size w w' := by
  have HR := Lib.hid hr
  have HN := Lib.hid hn
  clear hr hn
  go_enter Tryz.func73, Tryz.ntmps73
  go_wp2_with fail
  go_loopw [7] (fun i wr => ∃ k : Nat, k ≤ n ∧ i = .int .i64 k ∧ MayTo l k ∧ Below w.heap.size w wr) (fun i _ => n - (intOf i).toNat)
  case atStart => exact ⟨0, by omega, rfl, ⟨by simp, fun j _ _ h => by omega⟩, Below.refl _ _⟩
  case round =>
    obtain ⟨k, hk, rfl, hno, hb⟩ := hrel
    have HNO := Lib.hid hno
    have HB := Lib.hid hb
    clear hno hb
    by_cases hlt : k < n
    · obtain ⟨x, hx⟩ := get_of_lt (l := l) (j := k) (by rw [HN.out]; exact hlt)
      have HE := Lib.hid hx
      obtain ⟨b, o, rfl, hbl, d0, d1, d2⟩ := RowA.atom (HR.out.below HB.out) hx
      have HBL := Lib.hid hbl
      clear hx hbl
      have v0 := fun g => gw_cell (a := ⟨wr.heap.size, 0, none⟩) (v := .int .u8 x.kind) (w := wr.alloc (.cells #[.int .u8 x.kind, .int .i64 x.rho, .string x.exn] 78)) (by rw [cell_new]; rfl) g
      have v1 := fun g => gw_cell (a := ⟨wr.heap.size, 1, none⟩) (v := .int .i64 x.rho) (w := wr.alloc (.cells #[.int .u8 x.kind, .int .i64 x.rho, .string x.exn] 78)) (by rw [cell_new]; rfl) g
      have v2 := fun g => gw_cell (a := ⟨wr.heap.size, 2, none⟩) (v := .string x.exn) (w := wr.alloc (.cells #[.int .u8 x.kind, .int .i64 x.rho, .string x.exn] 78)) (by rw [cell_new]; rfl) g
      cases ha : atomB x
      · have HA := Lib.hid ha
        clear ha
        have hW := gw_below (wr.alloc (.cells #[.int .u8 x.kind, .int .i64 x.rho, .string x.exn] 78))
        go_wp2_with fail
        refine wp_region_gw (by kernel_rfl) (by kernel_rfl) ?_
        repeat ((with_reducible refine wpQuiet_step (fun K hK => ?_)); go_simp; refine hK _ ?_; clear hK K)
        refine wpQuiet_step (fun K hK => ?_); go_simp; refine ⟨.bool false, fun _ => calls_gw (eff_atom_is HA.out _), hK _ ?_⟩; clear hK K
        repeat ((with_reducible refine wpQuiet_step (fun K hK => ?_)); go_simp; refine hK _ ?_; clear hK K)
        refine wpQuiet_nil ?_
        rintro w3 ⟨g, rfl⟩
        have HB3 := Lib.hid ((HB.out.alloc HB.out.size _).trans ((hW g).mono (by have := HB.out.size; simp; omega)))
        clear hW
        go_wp2_with fail
        go_ret
        exact ⟨⟨false, rfl, by
          constructor
          · intro h; cases h
          · intro h
            have h1 := h.1
            rw [take_full (by rw [HN.out]; omega), all_get HE.out HA.out] at h1
            cases h1⟩, HB3.out⟩
      · have HA := Lib.hid ha
        clear ha
        have hW := gw_below (wr.alloc (.cells #[.int .u8 x.kind, .int .i64 x.rho, .string x.exn] 78))
        by_cases hk0 : k = 0
        · have hd : decide ((0 : Int) < (k : Int)) = false := by simp; omega
          have hd' : decide (0 < k) = false := by simp; omega
          have HK0 := Lib.hid hk0
          clear hk0
          go_wp2_with fail
          refine wp_region_gw (by kernel_rfl) (by kernel_rfl) ?_
          repeat ((with_reducible refine wpQuiet_step (fun K hK => ?_)); go_simp; refine hK _ ?_; clear hK K)
          refine wpQuiet_step (fun K hK => ?_); go_simp; refine ⟨.bool true, fun _ => calls_gw (eff_atom_is HA.out _), hK _ ?_⟩; clear hK K
          repeat ((with_reducible refine wpQuiet_step (fun K hK => ?_)); go_simp; refine hK _ ?_; clear hK K)
          refine wpQuiet_nil ?_
          rintro w3 ⟨g, rfl⟩
          have HB3 := Lib.hid ((HB.out.alloc HB.out.size _).trans ((hW g).mono (by have := HB.out.size; simp; omega)))
          clear hW
          go_wp2_with fail
          go_roundw
          case rel => exact ⟨k + 1, by omega, by go_num, ⟨by rw [all_take_get HE.out, HNO.out.1, HA.out]; rfl, fun j _ _ h => by have := HK0.out; omega⟩, HB3.out⟩
          case measure => simp [intOf]; omega
        · obtain ⟨y, hy⟩ := get_of_lt (l := l) (j := k - 1) (by rw [HN.out]; omega)
          have HY := Lib.hid hy
          obtain ⟨b', o', hbo, _, e0, e1, e2⟩ := RowA.atom ((HR.out.below HB.out).alloc (.cells #[.int .u8 x.kind, .int .i64 x.rho, .string x.exn] 78)) hy
          cases hbo
          have he0 := fun g => gw_cell e0 g
          have he1 := fun g => gw_cell e1 g
          have he2 := fun g => gw_cell e2 g
          have hk1 : Hid (0 < k) := show 0 < k by omega
          have hd : decide ((0 : Int) < (k : Int)) = true := by simp; omega
          have hd' : decide (0 < k) = true := by simp; omega
          have hkp : 0 < k := hk1.out
          have a1 : IntKind.i64.wrap ((k : Int) - 1) = (k : Int) - 1 := IntWalk.i64_in _ (by omega)
          have a2 : (0 : Int) ≤ (k : Int) - 1 := by omega
          have a3 : ((k : Int) - 1).toNat = k - 1 := by omega
          have a4 : (k : Int) - 1 < (n : Int) := by omega
          have a5 : (1 : Int) ≤ (k : Int) := by omega
          clear hy hk0
          have hcl := cmpA_lt y x
          generalize hcc : cmpA y x = c at hcl
          have HCC := Lib.hid hcc
          clear hcc
          cases hl : Atom.lt y x
          · have HL := Lib.hid hl
            rw [hl] at hcl
            have hc5 : decide ((0 : Int) ≤ c) = true := by simp at hcl ⊢; omega
            clear hl hcl
            go_wp2_with fail
            refine wp_region_gw (by kernel_rfl) (by kernel_rfl) ?_
            repeat ((with_reducible refine wpQuiet_step (fun K hK => ?_)); go_simp; refine hK _ ?_; clear hK K)
            refine wpQuiet_step (fun K hK => ?_); go_simp; refine ⟨.bool true, fun _ => calls_gw (eff_atom_is HA.out _), hK _ ?_⟩; clear hK K
            repeat ((with_reducible refine wpQuiet_step (fun K hK => ?_)); go_simp; refine hK _ ?_; clear hK K)
            refine wpQuiet_step (fun K hK => ?_); go_simp; refine ⟨.int .i64 c, fun _ => calls_gw (compare_is HCC.out _), hK _ ?_⟩; clear hK K
            repeat ((with_reducible refine wpQuiet_step (fun K hK => ?_)); go_simp; refine hK _ ?_; clear hK K)
            refine wpQuiet_nil ?_
            rintro w3 ⟨g, rfl⟩
            have HB3 := Lib.hid ((HB.out.alloc HB.out.size _).trans ((hW g).mono (by have := HB.out.size; simp; omega)))
            clear hW
            go_wp2_with fail
            go_ret
            exact ⟨⟨false, rfl, by
              constructor
              · intro h; cases h
              · intro h
                have h1 := h.2 (k - 1) y x (by have := hk1.out; omega) HY.out (by rw [show k - 1 + 1 = k from by have := hk1.out; omega]; exact HE.out)
                rw [HL.out] at h1
                cases h1⟩, HB3.out⟩
          · have HL := Lib.hid hl
            rw [hl] at hcl
            have hc5 : decide ((0 : Int) ≤ c) = false := by simp at hcl ⊢; omega
            clear hl hcl
            go_wp2_with fail
            refine wp_region_gw (by kernel_rfl) (by kernel_rfl) ?_
            repeat ((with_reducible refine wpQuiet_step (fun K hK => ?_)); go_simp; refine hK _ ?_; clear hK K)
            refine wpQuiet_step (fun K hK => ?_); go_simp; refine ⟨.bool true, fun _ => calls_gw (eff_atom_is HA.out _), hK _ ?_⟩; clear hK K
            repeat ((with_reducible refine wpQuiet_step (fun K hK => ?_)); go_simp; refine hK _ ?_; clear hK K)
            refine wpQuiet_step (fun K hK => ?_); go_simp; refine ⟨.int .i64 c, fun _ => calls_gw (compare_is HCC.out _), hK _ ?_⟩; clear hK K
            repeat ((with_reducible refine wpQuiet_step (fun K hK => ?_)); go_simp; refine hK _ ?_; clear hK K)
            refine wpQuiet_nil ?_
            rintro w3 ⟨g, rfl⟩
            have HB3 := Lib.hid ((HB.out.alloc HB.out.size _).trans ((hW g).mono (by have := HB.out.size; simp; omega)))
            clear hW
            go_wp2_with fail
            go_roundw
            case rel => exact ⟨k + 1, by omega, by go_num, ⟨by rw [all_take_get HE.out, HNO.out.1, HA.out]; rfl, fun i u v hi hu hv => by
              have hk1 := hk1.out
              rcases (by omega : i = k - 1 ∨ i + 1 < k) with rfl | hlt'
              · rw [HY.out] at hu; cases hu; rw [show k - 1 + 1 = k from by omega, HE.out] at hv; cases hv; exact HL.out
              · exact HNO.out.2 i u v hlt' hu hv⟩, HB3.out⟩
            case measure => simp [intOf]; omega
    · go_wp2_with fail
      go_ret
      obtain rfl : k = n := by omega
      exact ⟨⟨true, rfl, by simp [HNO.out]⟩, HB.out⟩
end Go.Proofs.YtdlbjngpohkglaaGreatDoor
end
section
set_option linter.unusedVariables false
set_option maxRecDepth 100000
set_option linter.unusedSimpArgs false
namespace Go.Proofs.YtdlbjngpohkglaaGreatDoor
open Go.RowKit Go.Sort Go.Lib

/-- a number's text -/
def decB (r : Int) : ByteArray := ⟨(Lib.itoa r).toArray⟩
/-- words.Digits answers so at r, in worlds behind w -/
def DigOK (w : World) (r : Int) : Prop := ∀ W, Below w.heap.size w W → Calls Tryz.prog 58 #[.int .i64 r] W fun e w' => e = .returned (.string (decB r)) ∧ Below W.heap.size W w'

theorem digits_small (i : Nat) (hi : i < 100) (h : (⟨(Lib.decDigits i).toArray⟩ : ByteArray) = decB i) (w : World) : DigOK w i := by
  intro W _
  have H := Lib.hid h
  clear h
  go_enter Tryz.func58, Tryz.ntmps58
  go_wp2_with fail
  refine (Tryz.strconv_FormatInt_10_small i hi _).mono ?_
  rintro e w' ⟨rfl, rfl⟩
  go_wp2_with fail
  go_ret
  exact ⟨by rw [← H.out]; rfl, Below.refl _ _⟩

theorem infoS : (Tryz.prog.info? 9).map (fun i => (i.zero, i.size, i.bytes)) = some (some (.string .empty), 1, 16) := by kernel_rfl
theorem encS_one (y : ByteArray) : ∀ u ∈ encS y, u.oneCell' = true := by
  intro u hu
  simp [encS] at hu
  subst hu; rfl

theorem ret_str {a b : ByteArray} (h : a = b) : Ending.returned (.string a) = Ending.returned (.string b) := by rw [h]
def bGet : ByteArray := ⟨#[103, 101, 116]⟩
def bPut : ByteArray := ⟨#[112, 117, 116]⟩
def bExn : ByteArray := ⟨#[101, 120, 110]⟩
def bSp : ByteArray := ⟨#[32]⟩
/-- an atom's text -/
def textOne (a : Atom) : ByteArray :=
  if a.kind = 1 then bGet ++ bSp ++ decB a.rho else if a.kind = 2 then bPut ++ bSp ++ decB a.rho else bExn ++ bSp ++ a.exn

theorem atomB_kind {a : Atom} (h : atomB a = true) : a.kind = 1 ∨ a.kind = 2 ∨ a.kind = 3 := by
  unfold atomB at h
  by_cases h1 : a.kind = 1 ∨ a.kind = 2
  · rcases h1 with h1 | h1
    · exact .inl h1
    · exact .inr (.inl h1)
  · rw [if_neg h1] at h
    by_cases h3 : a.kind = 3
    · exact .inr (.inr h3)
    · rw [if_neg h3] at h; cases h

/-- an effect's text -/
def textA (S : List Atom) : ByteArray := if S = [] then ⟨#[110, 111, 110, 101]⟩ else ⟨(Lib.join ((S.map textOne).map (·.data.toList)) [32, 44, 32]).toArray⟩

theorem join_len (M : Nat) (sep : List UInt8) : ∀ xs : List (List UInt8), (∀ x ∈ xs, x.length ≤ M) → (Lib.join xs sep).length ≤ xs.length * (M + sep.length)
  | [], _ => by simp [Lib.join]
  | x :: xs, h => by
    have h2 := h x (List.mem_cons_self ..)
    rw [Lib.join_cons, List.length_append, List.length_cons, Nat.add_mul]
    have h1 : ∀ ys : List (List UInt8), (∀ y ∈ ys, y.length ≤ M) → (Lib.joinTail sep ys).length ≤ ys.length * (M + sep.length) := by
      intro ys
      induction ys with
      | nil => intro _; simp [Lib.joinTail]
      | cons y ys ih =>
        intro h
        have i1 := ih (fun z hz => h z (List.mem_cons_of_mem _ hz))
        have i2 := h y (List.mem_cons_self ..)
        have e : (Lib.joinTail sep (y :: ys)).length = sep.length + y.length + (Lib.joinTail sep ys).length := by simp [Lib.joinTail, Nat.add_assoc]
        rw [e, List.length_cons, Nat.add_mul]; omega
    have := h1 xs (fun y hy => h y (List.mem_cons_of_mem _ hy))
    omega

set_option maxHeartbeats 1000000 in
theorem effect_Text_any (p : Option Addr) (n cap : Nat) (l : List Atom) (w : World) (hn : l.length = n) (hm : n ≤ 1000000) (hr : RowA w p l)
    (hdig : ∀ a ∈ l, atomB a = true → a.kind ≠ 3 → DigOK w a.rho) (hlen : ∀ a ∈ l, atomB a = true → (textOne a).size ≤ 1000000) :
    Calls Tryz.prog 124 #[.slice p n cap] w fun e w' => e = .returned (.string (textA (sortA (l.filter atomB)))) ∧ Below w.heap.size w w' := by
  have HR := Lib.hid hr
  have HN := Lib.hid hn
  have HDIG := Lib.hid hdig
  have HLEN := Lib.hid hlen
  clear hr hn hdig hlen
  go_enter Tryz.func124, Tryz.ntmps124
  go_wp2_with fail
  refine (effect_Of_any p n cap l _ HN.out hm HR.out).mono ?_
  rintro e w1 ⟨v, m, rfl, hmn, hown, hb⟩
  obtain ⟨q, mc, rfl, hSl, hmc, hrow, _⟩ := hown.row encA_len (by omega)
  have HROW := Lib.hid hrow
  have HSL := Lib.hid hSl
  have HB1 := Lib.hid hb
  generalize hS : sortA (l.filter atomB) = S at HROW HSL ⊢
  have HAT : Hid (∀ x ∈ S, x ∈ l ∧ atomB x = true) := fun x hx => by rw [← hS, mem_sortA, List.mem_filter] at hx; exact hx
  have HS := Lib.hid hS
  clear hown hb hrow hSl hS
  go_wp2_with fail
  go_loopw [3, 11] (fun u i wr => ∃ k : Nat, k ≤ m ∧ i = .int .i64 k ∧ OwnE encS 1 wr w1.heap.size 9 u k ((S.take k).map textOne) ∧ Below w1.heap.size w1 wr) (fun _ i _ => m - (intOf i).toNat)
  case atStart => exact ⟨0, by omega, rfl, OwnE.nil _ _ _ _ _, Below.refl _ _⟩
  case round =>
    obtain ⟨k, hk, rfl, hown, hb⟩ := hrel
    have HOWN := Lib.hid hown
    have HB := Lib.hid hb
    clear hown hb
    by_cases hlt : k < m
    · obtain ⟨x, hx⟩ := get_of_lt (l := S) (j := k) (by rw [HSL.out]; exact hlt)
      have HE := Lib.hid hx
      obtain ⟨b, o, rfl, hbl, d0, d1, d2⟩ := RowA.atom (HROW.out.below HB.out) hx
      obtain ⟨hxl, hxa⟩ := HAT.out x (List.mem_of_getElem? hx)
      clear hx hbl
      have hxd := HDIG.out x hxl hxa
      have hxs := HLEN.out x hxl hxa
      have HK := Lib.hid (atomB_kind hxa)
      obtain ⟨kd, rr, ss⟩ := x
      simp only at d0 d1 d2 hxd
      rcases HK.out with hk1 | hk1 | hk1
      · simp only at hk1
        subst hk1
        have hsz : 4 + (decB rr).size ≤ 1000000 := by
          have e : (bGet ++ bSp ++ decB rr).size = 4 + (decB rr).size := by rw [ByteArray.size_append, ByteArray.size_append]; rfl
          rw [← e]; exact hxs
        have hsz' : 4 + (decB rr).size ≤ 9223372036854775807 := by omega
        clear hxs
        have HXD := Lib.hid (hxd (by decide))
        clear hxd hxa hxl
        have hB := HB1.out.trans (HB.out.mono HB1.out.size)
        have HBW := Lib.hid hB
        go_wp2_with fail
        refine (HXD.out _ ((hB.alloc hB.size _).alloc (by have := hB.size; simp; omega) _)).mono ?_
        rintro e w2 ⟨rfl, hb⟩
        have HB2 : Hid (Below w1.heap.size w1 w2) := ((HB.out.alloc HB.out.size _).alloc (by have := HB.out.size; simp; omega) _).trans (hb.mono (by have := HB.out.size; simp; omega))
        have HO2 : Hid (OwnE encS 1 w2 w1.heap.size 9 _ k _) := ((HOWN.out.below (((Below.refl _ wr).alloc (Nat.le_refl _) _).alloc (by simp) _)).below hb)
        clear hb d0 d1 d2
        go_wp2_with (at_builtin; refine wpList_append1 rfl _ _ 44 rfl w1.heap.size 9 _ 1 16 Tryz.underlying44 infoS rfl (by decide) encS encS_len encS_one (bGet ++ bSp ++ decB rr) _ _ _ HO2.out rfl rfl ?c1 ?c2 ?c3 ?_)
        case c1 => omega
        case c2 => omega
        case c3 => first | exact HB2.out.size | (have := HB2.out.size; simp at this ⊢; omega)
        · intro v' w4 hown' hg
          have HO := Lib.hid hown'
          have HB4 := Lib.hid (Below.own HB2.out hg HB2.out.size HO2.out)
          clear hown' hg
          go_wp2_with fail
          go_roundw
          case rel => exact ⟨k + 1, by omega, by go_num, by rw [take_succ_get HE.out, List.map_append, List.map_take]; exact HO.out, HB4.out⟩
          case measure => simp [intOf]; omega
      · simp only at hk1
        subst hk1
        have hsz : 4 + (decB rr).size ≤ 1000000 := by
          have e : (bPut ++ bSp ++ decB rr).size = 4 + (decB rr).size := by rw [ByteArray.size_append, ByteArray.size_append]; rfl
          rw [← e]; exact hxs
        have hsz' : 4 + (decB rr).size ≤ 9223372036854775807 := by omega
        clear hxs
        have HXD := Lib.hid (hxd (by decide))
        clear hxd hxa hxl
        have hB := HB1.out.trans (HB.out.mono HB1.out.size)
        have HBW := Lib.hid hB
        go_wp2_with fail
        refine (HXD.out _ ((hB.alloc hB.size _).alloc (by have := hB.size; simp; omega) _)).mono ?_
        rintro e w2 ⟨rfl, hb⟩
        have HB2 : Hid (Below w1.heap.size w1 w2) := ((HB.out.alloc HB.out.size _).alloc (by have := HB.out.size; simp; omega) _).trans (hb.mono (by have := HB.out.size; simp; omega))
        have HO2 : Hid (OwnE encS 1 w2 w1.heap.size 9 _ k _) := ((HOWN.out.below (((Below.refl _ wr).alloc (Nat.le_refl _) _).alloc (by simp) _)).below hb)
        clear hb d0 d1 d2
        go_wp2_with (at_builtin; refine wpList_append1 rfl _ _ 44 rfl w1.heap.size 9 _ 1 16 Tryz.underlying44 infoS rfl (by decide) encS encS_len encS_one (bPut ++ bSp ++ decB rr) _ _ _ HO2.out rfl rfl ?c1 ?c2 ?c3 ?_)
        case c1 => omega
        case c2 => omega
        case c3 => first | exact HB2.out.size | (have := HB2.out.size; simp at this ⊢; omega)
        · intro v' w4 hown' hg
          have HO := Lib.hid hown'
          have HB4 := Lib.hid (Below.own HB2.out hg HB2.out.size HO2.out)
          clear hown' hg
          go_wp2_with fail
          go_roundw
          case rel => exact ⟨k + 1, by omega, by go_num, by rw [take_succ_get HE.out, List.map_append, List.map_take]; exact HO.out, HB4.out⟩
          case measure => simp [intOf]; omega
      · simp only at hk1
        subst hk1
        have hsz : 4 + (ss).size ≤ 1000000 := by
          have e : (bExn ++ bSp ++ ss).size = 4 + (ss).size := by rw [ByteArray.size_append, ByteArray.size_append]; rfl
          rw [← e]; exact hxs
        have hsz' : 4 + (ss).size ≤ 9223372036854775807 := by omega
        clear hxs
        clear hxd hxa hxl
        have HO2 := Lib.hid (HOWN.out.below (((Below.refl _ wr).alloc (Nat.le_refl _) (.cells #[.int .u8 3, .int .i64 rr, .string ss] 78)).alloc (by simp) (.cells #[.string ⟨#[103, 101, 116]⟩, .string ⟨#[112, 117, 116]⟩, .string ⟨#[101, 120, 110]⟩] 9)))
        have HB2 := Lib.hid ((HB.out.alloc HB.out.size (.cells #[.int .u8 3, .int .i64 rr, .string ss] 78)).alloc (by have := HB.out.size; simp; omega) (.cells #[.string ⟨#[103, 101, 116]⟩, .string ⟨#[112, 117, 116]⟩, .string ⟨#[101, 120, 110]⟩] 9))
        go_wp2_with (at_builtin; refine wpList_append1 rfl _ _ 44 rfl w1.heap.size 9 _ 1 16 Tryz.underlying44 infoS rfl (by decide) encS encS_len encS_one (bExn ++ bSp ++ ss) _ _ _ HO2.out rfl (by refine Eq.trans (b := Value.slice (some ⟨wr.heap.size + 1 + 1, 0, none⟩) 1 1) rfl ?_; simp) ?c1 ?c2 ?c3 ?_)
        case c1 => omega
        case c2 => omega
        case c3 => first | exact HB2.out.size | (have := HB2.out.size; simp at this ⊢; omega)
        · intro v' w4 hown' hg
          have HO := Lib.hid hown'
          have HB4 := Lib.hid (Below.own HB2.out hg HB2.out.size HO2.out)
          clear hown' hg
          go_wp2_with fail
          go_roundw
          case rel => exact ⟨k + 1, by omega, by go_num, by rw [take_succ_get HE.out, List.map_append, List.map_take]; exact HO.out, HB4.out⟩
          case measure => simp [intOf]; omega
    · obtain rfl : k = m := by omega
      have hown := HOWN.out
      rw [take_full (by rw [HSL.out]; exact Nat.le_refl _)] at hown
      by_cases hk0 : k = 0
      · subst hk0
        have hnil : Hid (S = []) := show S = [] from List.length_eq_zero_iff.1 HSL.out
        rcases hown.split encS_len (by omega) with ⟨rfl, _, _⟩ | ⟨g, cp, rfl, _, _⟩
        all_goals
          clear hown
          go_wp2_with fail
          go_ret
          exact ⟨by rw [HS.out, hnil.out]; rfl, HB1.out.trans (HB.out.mono HB1.out.size)⟩
      · obtain ⟨q, cp, rfl, hl, hcp, hrow, _⟩ := hown.row encS_len (by omega)
        have hne : Hid (S ≠ []) := fun h => by have := HSL.out; rw [h] at this; simp at this; omega
        obtain ⟨bk, o, rfl, hbk, hcells⟩ := hrow.at (by rw [hl]; omega)
        have HL := Lib.hid hl
        have HC := Lib.hid hcells
        clear hl hcells hrow hown
        go_wp2_with fail
        have hc := Tryz.strings_Join bk o cp (S.map textOne) ⟨#[32, 44, 32]⟩ wr (fun j x hx => by simpa [encS] using HC.out j x hx 0 _ rfl) hbk (by have := HL.out; omega) (by have := HL.out; omega) (by
          refine Nat.le_trans (join_len 1000000 _ _ ?_) ?_
          · intro y hy
            simp only [List.mem_map] at hy
            obtain ⟨z, ⟨a, ha, rfl⟩, rfl⟩ := hy
            have := HLEN.out a (HAT.out a ha).1 (HAT.out a ha).2
            show (textOne a).data.toList.length ≤ _
            rw [Array.length_toList]; exact this
          · have h1 := HL.out
            rw [List.length_map, h1]
            refine Nat.le_trans (Nat.mul_le_mul_right _ (show k ≤ 1000000 by omega)) ?_
            decide)
        rw [HL.out] at hc
        refine hc.mono ?_
        rintro e w3 ⟨rfl, hb⟩
        have HB3 := Lib.hid (HB.out.trans (hb.mono HB.out.size))
        clear hb hc
        go_wp2_with fail
        go_ret
        exact ⟨ret_str (by rw [HS.out]; unfold textA; rw [if_neg hne.out]; simp), HB1.out.trans (HB3.out.mono HB1.out.size)⟩
end Go.Proofs.YtdlbjngpohkglaaGreatDoor
end
