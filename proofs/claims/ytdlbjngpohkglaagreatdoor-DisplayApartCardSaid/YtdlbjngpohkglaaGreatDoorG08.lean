/- Part 8 of the texts: Eff9, Eff10, Eff11, Eff17, Facts. -/
import Derived.Test.YtdlbjngpohkglaaGreatDoorG07
section
set_option linter.unusedVariables false
set_option maxRecDepth 100000
set_option linter.unusedSimpArgs false
namespace Go.Proofs.YtdlbjngpohkglaaGreatDoor
open Go.RowKit Go.Sort Go.Lib

/-- a number's text -/
def decB (r : Int) : ByteArray := ⟨(Lib.itoa r).toArray⟩
/-- words.Digits answers so at r, in worlds behind w -/
def DigOK (w : World) (r : Int) : Prop := ∀ W, Below w.heap.size w W → Calls Tryz.prog 58 #[.int .i64 r] W fun e w' => e = .returned (.string (decB r)) ∧ Below W.heap.size W w'

theorem digits_small (i : Nat) (hi : i < 100) (h : (⟨(Lib.decDigits i).toArray⟩ : ByteArray) = decB i) (w : World) : DigOK w i := by
  intro W _
  have H := Lib.hid h
  clear h
  go_enter Tryz.func58, Tryz.ntmps58
  go_wp2_with fail
  refine (Tryz.strconv_FormatInt_10_small i hi _).mono ?_
  rintro e w' ⟨rfl, rfl⟩
  go_wp2_with fail
  go_ret
  exact ⟨by rw [← H.out]; rfl, Below.refl _ _⟩

theorem infoS : (Tryz.prog.info? 9).map (fun i => (i.zero, i.size, i.bytes)) = some (some (.string .empty), 1, 16) := by kernel_rfl
theorem encS_one (y : ByteArray) : ∀ u ∈ encS y, u.oneCell' = true := by
  intro u hu
  simp [encS] at hu
  subst hu; rfl

theorem ret_str {a b : ByteArray} (h : a = b) : Ending.returned (.string a) = Ending.returned (.string b) := by rw [h]
def bGet : ByteArray := ⟨#[103, 101, 116]⟩
def bPut : ByteArray := ⟨#[112, 117, 116]⟩
def bExn : ByteArray := ⟨#[101, 120, 110]⟩
def bSp : ByteArray := ⟨#[32]⟩
/-- an atom's text -/
def textOne (a : Atom) : ByteArray :=
  if a.kind = 1 then bGet ++ bSp ++ decB a.rho else if a.kind = 2 then bPut ++ bSp ++ decB a.rho else bExn ++ bSp ++ a.exn

theorem atomB_kind {a : Atom} (h : atomB a = true) : a.kind = 1 ∨ a.kind = 2 ∨ a.kind = 3 := by
  unfold atomB at h
  by_cases h1 : a.kind = 1 ∨ a.kind = 2
  · rcases h1 with h1 | h1
    · exact .inl h1
    · exact .inr (.inl h1)
  · rw [if_neg h1] at h
    by_cases h3 : a.kind = 3
    · exact .inr (.inr h3)
    · rw [if_neg h3] at h; cases h

/-- an effect's text -/
def textA (S : List Atom) : ByteArray := if S = [] then ⟨#[110, 111, 110, 101]⟩ else ⟨(Lib.join ((S.map textOne).map (·.data.toList)) [32, 44, 32]).toArray⟩

theorem join_len (M : Nat) (sep : List UInt8) : ∀ xs : List (List UInt8), (∀ x ∈ xs, x.length ≤ M) → (Lib.join xs sep).length ≤ xs.length * (M + sep.length)
  | [], _ => by simp [Lib.join]
  | x :: xs, h => by
    have h2 := h x (List.mem_cons_self ..)
    rw [Lib.join_cons, List.length_append, List.length_cons, Nat.add_mul]
    have h1 : ∀ ys : List (List UInt8), (∀ y ∈ ys, y.length ≤ M) → (Lib.joinTail sep ys).length ≤ ys.length * (M + sep.length) := by
      intro ys
      induction ys with
      | nil => intro _; simp [Lib.joinTail]
      | cons y ys ih =>
        intro h
        have i1 := ih (fun z hz => h z (List.mem_cons_of_mem _ hz))
        have i2 := h y (List.mem_cons_self ..)
        have e : (Lib.joinTail sep (y :: ys)).length = sep.length + y.length + (Lib.joinTail sep ys).length := by simp [Lib.joinTail, Nat.add_assoc]
        rw [e, List.length_cons, Nat.add_mul]; omega
    have := h1 xs (fun y hy => h y (List.mem_cons_of_mem _ hy))
    omega

set_option maxHeartbeats 1000000 in
theorem effect_Text_any (p : Option Addr) (n cap : Nat) (l : List Atom) (w : World) (hn : l.length = n) (hm : n ≤ 1000000) (hr : RowA w p l)
    (hdig : ∀ a ∈ l, atomB a = true → a.kind ≠ 3 → DigOK w a.rho) (hlen : ∀ a ∈ l, atomB a = true → (textOne a).size ≤ 1000000) :
    Calls Tryz.prog 124 #[.slice p n cap] w fun e w' => e = .returned (.string (textA (sortA (l.filter atomB)))) ∧ Below w.heap.size w w' := by
  have HR := Lib.hid hr
  have HN := Lib.hid hn
  have HDIG := Lib.hid hdig
  have HLEN := Lib.hid hlen
  clear hr hn hdig hlen
  go_enter Tryz.func124, Tryz.ntmps124
  go_wp2_with fail
  refine (effect_Of_any p n cap l _ HN.out hm HR.out).mono ?_
  rintro e w1 ⟨v, m, rfl, hmn, hown, hb⟩
  obtain ⟨q, mc, rfl, hSl, hmc, hrow, _⟩ := hown.row encA_len (by omega)
  have HROW := Lib.hid hrow
  have HSL := Lib.hid hSl
  have HB1 := Lib.hid hb
  generalize hS : sortA (l.filter atomB) = S at HROW HSL ⊢
  have HAT : Hid (∀ x ∈ S, x ∈ l ∧ atomB x = true) := fun x hx => by rw [← hS, mem_sortA, List.mem_filter] at hx; exact hx
  have HS := Lib.hid hS
  clear hown hb hrow hSl hS
  go_wp2_with fail
  go_loopw [3, 11] (fun u i wr => ∃ k : Nat, k ≤ m ∧ i = .int .i64 k ∧ OwnE encS 1 wr w1.heap.size 9 u k ((S.take k).map textOne) ∧ Below w1.heap.size w1 wr) (fun _ i _ => m - (intOf i).toNat)
  case atStart => exact ⟨0, by omega, rfl, OwnE.nil _ _ _ _ _, Below.refl _ _⟩
  case round =>
    obtain ⟨k, hk, rfl, hown, hb⟩ := hrel
    have HOWN := Lib.hid hown
    have HB := Lib.hid hb
    clear hown hb
    by_cases hlt : k < m
    · obtain ⟨x, hx⟩ := get_of_lt (l := S) (j := k) (by rw [HSL.out]; exact hlt)
      have HE := Lib.hid hx
      obtain ⟨b, o, rfl, hbl, d0, d1, d2⟩ := RowA.atom (HROW.out.below HB.out) hx
      obtain ⟨hxl, hxa⟩ := HAT.out x (List.mem_of_getElem? hx)
      clear hx hbl
      have hxd := HDIG.out x hxl hxa
      have hxs := HLEN.out x hxl hxa
      have HK := Lib.hid (atomB_kind hxa)
      obtain ⟨kd, rr, ss⟩ := x
      simp only at d0 d1 d2 hxd
      rcases HK.out with hk1 | hk1 | hk1
      · simp only at hk1
        subst hk1
        have hsz : 4 + (decB rr).size ≤ 1000000 := by
          have e : (bGet ++ bSp ++ decB rr).size = 4 + (decB rr).size := by rw [ByteArray.size_append, ByteArray.size_append]; rfl
          rw [← e]; exact hxs
        have hsz' : 4 + (decB rr).size ≤ 9223372036854775807 := by omega
        clear hxs
        have HXD := Lib.hid (hxd (by decide))
        clear hxd hxa hxl
        have hB := HB1.out.trans (HB.out.mono HB1.out.size)
        have HBW := Lib.hid hB
        go_wp2_with fail
        refine (HXD.out _ ((hB.alloc hB.size _).alloc (by have := hB.size; simp; omega) _)).mono ?_
        rintro e w2 ⟨rfl, hb⟩
        have HB2 : Hid (Below w1.heap.size w1 w2) := ((HB.out.alloc HB.out.size _).alloc (by have := HB.out.size; simp; omega) _).trans (hb.mono (by have := HB.out.size; simp; omega))
        have HO2 : Hid (OwnE encS 1 w2 w1.heap.size 9 _ k _) := ((HOWN.out.below (((Below.refl _ wr).alloc (Nat.le_refl _) _).alloc (by simp) _)).below hb)
        clear hb d0 d1 d2
        go_wp2_with (at_builtin; refine wpList_append1 rfl _ _ 44 rfl w1.heap.size 9 _ 1 16 Tryz.underlying44 infoS rfl (by decide) encS encS_len encS_one (bGet ++ bSp ++ decB rr) _ _ _ HO2.out rfl rfl ?c1 ?c2 ?c3 ?_)
        case c1 => omega
        case c2 => omega
        case c3 => first | exact HB2.out.size | (have := HB2.out.size; simp at this ⊢; omega)
        · intro v' w4 hown' hg
          have HO := Lib.hid hown'
          have HB4 := Lib.hid (Below.own HB2.out hg HB2.out.size HO2.out)
          clear hown' hg
          go_wp2_with fail
          go_roundw
          case rel => exact ⟨k + 1, by omega, by go_num, by rw [take_succ_get HE.out, List.map_append, List.map_take]; exact HO.out, HB4.out⟩
          case measure => simp [intOf]; omega
      · simp only at hk1
        subst hk1
        have hsz : 4 + (decB rr).size ≤ 1000000 := by
          have e : (bPut ++ bSp ++ decB rr).size = 4 + (decB rr).size := by rw [ByteArray.size_append, ByteArray.size_append]; rfl
          rw [← e]; exact hxs
        have hsz' : 4 + (decB rr).size ≤ 9223372036854775807 := by omega
        clear hxs
        have HXD := Lib.hid (hxd (by decide))
        clear hxd hxa hxl
        have hB := HB1.out.trans (HB.out.mono HB1.out.size)
        have HBW := Lib.hid hB
        go_wp2_with fail
        refine (HXD.out _ ((hB.alloc hB.size _).alloc (by have := hB.size; simp; omega) _)).mono ?_
        rintro e w2 ⟨rfl, hb⟩
        have HB2 : Hid (Below w1.heap.size w1 w2) := ((HB.out.alloc HB.out.size _).alloc (by have := HB.out.size; simp; omega) _).trans (hb.mono (by have := HB.out.size; simp; omega))
        have HO2 : Hid (OwnE encS 1 w2 w1.heap.size 9 _ k _) := ((HOWN.out.below (((Below.refl _ wr).alloc (Nat.le_refl _) _).alloc (by simp) _)).below hb)
        clear hb d0 d1 d2
        go_wp2_with (at_builtin; refine wpList_append1 rfl _ _ 44 rfl w1.heap.size 9 _ 1 16 Tryz.underlying44 infoS rfl (by decide) encS encS_len encS_one (bPut ++ bSp ++ decB rr) _ _ _ HO2.out rfl rfl ?c1 ?c2 ?c3 ?_)
        case c1 => omega
        case c2 => omega
        case c3 => first | exact HB2.out.size | (have := HB2.out.size; simp at this ⊢; omega)
        · intro v' w4 hown' hg
          have HO := Lib.hid hown'
          have HB4 := Lib.hid (Below.own HB2.out hg HB2.out.size HO2.out)
          clear hown' hg
          go_wp2_with fail
          go_roundw
          case rel => exact ⟨k + 1, by omega, by go_num, by rw [take_succ_get HE.out, List.map_append, List.map_take]; exact HO.out, HB4.out⟩
          case measure => simp [intOf]; omega
      · simp only at hk1
        subst hk1
        have hsz : 4 + (ss).size ≤ 1000000 := by
          have e : (bExn ++ bSp ++ ss).size = 4 + (ss).size := by rw [ByteArray.size_append, ByteArray.size_append]; rfl
          rw [← e]; exact hxs
        have hsz' : 4 + (ss).size ≤ 9223372036854775807 := by omega
        clear hxs
        clear hxd hxa hxl
        have HO2 := Lib.hid (HOWN.out.below (((Below.refl _ wr).alloc (Nat.le_refl _) (.cells #[.int .u8 3, .int .i64 rr, .string ss] 78)).alloc (by simp) (.cells #[.string ⟨#[103, 101, 116]⟩, .string ⟨#[112, 117, 116]⟩, .string ⟨#[101, 120, 110]⟩] 9)))
        have HB2 := Lib.hid ((HB.out.alloc HB.out.size (.cells #[.int .u8 3, .int .i64 rr, .string ss] 78)).alloc (by have := HB.out.size; simp; omega) (.cells #[.string ⟨#[103, 101, 116]⟩, .string ⟨#[112, 117, 116]⟩, .string ⟨#[101, 120, 110]⟩] 9))
        go_wp2_with (at_builtin; refine wpList_append1 rfl _ _ 44 rfl w1.heap.size 9 _ 1 16 Tryz.underlying44 infoS rfl (by decide) encS encS_len encS_one (bExn ++ bSp ++ ss) _ _ _ HO2.out rfl (by refine Eq.trans (b := Value.slice (some ⟨wr.heap.size + 1 + 1, 0, none⟩) 1 1) rfl ?_; simp) ?c1 ?c2 ?c3 ?_)
        case c1 => omega
        case c2 => omega
        case c3 => first | exact HB2.out.size | (have := HB2.out.size; simp at this ⊢; omega)
        · intro v' w4 hown' hg
          have HO := Lib.hid hown'
          have HB4 := Lib.hid (Below.own HB2.out hg HB2.out.size HO2.out)
          clear hown' hg
          go_wp2_with fail
          go_roundw
          case rel => exact ⟨k + 1, by omega, by go_num, by rw [take_succ_get HE.out, List.map_append, List.map_take]; exact HO.out, HB4.out⟩
          case measure => simp [intOf]; omega
    · obtain rfl : k = m := by omega
      have hown := HOWN.out
      rw [take_full (by rw [HSL.out]; exact Nat.le_refl _)] at hown
      by_cases hk0 : k = 0
      · subst hk0
        have hnil : Hid (S = []) := show S = [] from List.length_eq_zero_iff.1 HSL.out
        rcases hown.split encS_len (by omega) with ⟨rfl, _, _⟩ | ⟨g, cp, rfl, _, _⟩
        all_goals
          clear hown
          go_wp2_with fail
          go_ret
          exact ⟨by rw [HS.out, hnil.out]; rfl, HB1.out.trans (HB.out.mono HB1.out.size)⟩
      · obtain ⟨q, cp, rfl, hl, hcp, hrow, _⟩ := hown.row encS_len (by omega)
        have hne : Hid (S ≠ []) := fun h => by have := HSL.out; rw [h] at this; simp at this; omega
        obtain ⟨bk, o, rfl, hbk, hcells⟩ := hrow.at (by rw [hl]; omega)
        have HL := Lib.hid hl
        have HC := Lib.hid hcells
        clear hl hcells hrow hown
        go_wp2_with fail
        have hc := Tryz.strings_Join bk o cp (S.map textOne) ⟨#[32, 44, 32]⟩ wr (fun j x hx => by simpa [encS] using HC.out j x hx 0 _ rfl) hbk (by have := HL.out; omega) (by have := HL.out; omega) (by
          refine Nat.le_trans (join_len 1000000 _ _ ?_) ?_
          · intro y hy
            simp only [List.mem_map] at hy
            obtain ⟨z, ⟨a, ha, rfl⟩, rfl⟩ := hy
            have := HLEN.out a (HAT.out a ha).1 (HAT.out a ha).2
            show (textOne a).data.toList.length ≤ _
            rw [Array.length_toList]; exact this
          · have h1 := HL.out
            rw [List.length_map, h1]
            refine Nat.le_trans (Nat.mul_le_mul_right _ (show k ≤ 1000000 by omega)) ?_
            decide)
        rw [HL.out] at hc
        refine hc.mono ?_
        rintro e w3 ⟨rfl, hb⟩
        have HB3 := Lib.hid (HB.out.trans (hb.mono HB.out.size))
        clear hb hc
        go_wp2_with fail
        go_ret
        exact ⟨ret_str (by rw [HS.out]; unfold textA; rw [if_neg hne.out]; simp), HB1.out.trans (HB3.out.mono HB1.out.size)⟩
end Go.Proofs.YtdlbjngpohkglaaGreatDoor
end
section
set_option linter.unusedVariables false
set_option maxRecDepth 100000
set_option linter.unusedSimpArgs false
namespace Go.Proofs.YtdlbjngpohkglaaGreatDoor
open Go.RowKit Go.Sort Go.Lib

/-- a region, turned -/
def turnI (r : Int) : List Int → List Int → Int
  | [], _ => r
  | f :: fs, t => if f = r then (t[0]?).getD r else turnI r fs (t.drop 1)
theorem turnI_hit (r : Int) : ∀ (f t : List Int) (k : Nat), (f.take k).any (· == r) = false → f[k]? = some r → turnI r f t = (t[k]?).getD r
  | [], _, k, _, h => by simp at h
  | x :: f, t, 0, _, h => by simp at h; subst h; simp [turnI]
  | x :: f, t, k + 1, hno, h => by
    simp only [List.take_succ_cons, List.any_cons, Bool.or_eq_false_iff] at hno
    have hx : ¬ x = r := by simpa using hno.1
    unfold turnI
    rw [if_neg hx, turnI_hit r f (t.drop 1) k hno.2 (by simpa using h)]
    simp [Nat.add_comm]
theorem turnI_none (r : Int) : ∀ (f t : List Int), f.any (· == r) = false → turnI r f t = r
  | [], _, _ => rfl
  | x :: f, t, hno => by
    simp only [List.any_cons, Bool.or_eq_false_iff] at hno
    have hx : ¬ x = r := by simpa using hno.1
    unfold turnI
    rw [if_neg hx, turnI_none r f _ hno.2]
theorem turnI_self (r : Int) : ∀ f : List Int, turnI r f f = r
  | [] => rfl
  | x :: f => by
    unfold turnI
    by_cases h : x = r
    · rw [if_pos h]; simp [h]
    · rw [if_neg h]; exact turnI_self r f

theorem ret_i64 {a b : Int} (h : a = b) : Ending.returned (.int .i64 a) = .returned (.int .i64 b) := by rw [h]

/-- an atom with its region turned -/
def swA (f t : List Int) (a : Atom) : Atom := if a.kind = 3 then a else { a with rho := turnI a.rho f t }

end Go.Proofs.YtdlbjngpohkglaaGreatDoor
end
section
set_option linter.unusedVariables false
set_option maxRecDepth 100000
set_option linter.unusedSimpArgs false
namespace Go.Proofs.YtdlbjngpohkglaaGreatDoor
open Go.RowKit Go.Sort Go.Lib

theorem getD_of_get {l : List Int} {j : Nat} {x : Int} (h : l[j]? = some x) : l.getD j 0 = x := by simp [List.getD, h]

theorem idxFrom_turn (x : Int) : ∀ (f t : List Int) (i : Nat), (Lib.idxFrom f x i = -1 ∧ turnI x f t = x) ∨ ∃ k : Nat, k < f.length ∧ Lib.idxFrom f x i = ((i + k : Nat) : Int) ∧ turnI x f t = (t[k]?).getD x
  | [], _, _ => .inl ⟨rfl, rfl⟩
  | y :: f, t, i => by
    unfold Lib.idxFrom turnI
    by_cases h : y = x
    · rw [if_pos h, if_pos h]
      exact .inr ⟨0, by simp, rfl, rfl⟩
    · rw [if_neg h, if_neg h]
      rcases idxFrom_turn x f (t.drop 1) (i + 1) with h1 | ⟨k, hk, h1, h2⟩
      · exact .inl h1
      · refine .inr ⟨k + 1, by simpa using hk, by rw [h1]; congr 1; omega, ?_⟩
        rw [h2]; simp [Nat.add_comm]
/-- what Index tells of Turn -/
theorem idx_turn (x : Int) (f t : List Int) : (Lib.idxOf f x = -1 ∧ turnI x f t = x) ∨ ∃ k : Nat, k < f.length ∧ Lib.idxOf f x = k ∧ turnI x f t = (t[k]?).getD x := by
  have := idxFrom_turn x f t 0
  simpa [Lib.idxOf] using this

/-- the turned region stands in its place -/
theorem swA_of {f t : List Int} {kd rr z : Int} {ss : ByteArray} (h3 : kd ≠ 3) (h : turnI rr f t = z) : swA f t ⟨kd, rr, ss⟩ = ⟨kd, z, ss⟩ := by
  subst h; unfold swA; rw [if_neg h3]
theorem swA_same {f t : List Int} {kd rr : Int} {ss : ByteArray} (h : kd = 3 ∨ turnI rr f t = rr) : swA f t ⟨kd, rr, ss⟩ = ⟨kd, rr, ss⟩ := by
  unfold swA
  by_cases h3 : kd = 3
  · rw [if_pos h3]
  · rw [if_neg h3, h.resolve_left h3]

/-- the effect of turned atoms -/
def swL (f t : List Int) (l : List Atom) : List Atom := sortA (((sortA (l.filter atomB)).map (swA f t)).filter atomB)

end Go.Proofs.YtdlbjngpohkglaaGreatDoor
end
section
set_option linter.unusedVariables false
set_option maxRecDepth 100000
set_option linter.unusedSimpArgs false
namespace Go.Proofs.YtdlbjngpohkglaaGreatDoor
open Go.RowKit Go.Sort Go.Lib

/-- does a row have a string? -/
def inS (l : List ByteArray) (x : ByteArray) : Bool := l.any (fun y => decide (y = x))
theorem inS_mem (l : List ByteArray) (x : ByteArray) : inS l x = true ↔ x ∈ l := by
  unfold inS
  rw [List.any_eq_true]
  constructor
  · rintro ⟨y, hy, h⟩
    have : y = x := by simpa using h
    subst this; exact hy
  · intro h
    exact ⟨x, h, by simp⟩
theorem inN_mem (l : List Int) (x : Int) : inN l x = true ↔ x ∈ l := by
  unfold inN
  rw [List.any_eq_true]
  constructor
  · rintro ⟨y, hy, h⟩
    have : y = x := by simpa using h
    subst this; exact hy
  · intro h
    exact ⟨x, h, by simp⟩
theorem s_contains_any {p : Option Addr} {n cap : Nat} {l : List ByteArray} {w : World} (h : IsRow encS 1 w p n cap l) (x : ByteArray) :
    Calls Tryz.prog 28 #[.slice p n cap, .string x] w fun e w' => e = .returned (.bool (inS l x)) ∧ w = w' := by
  have e1 : inS l x = Lib.containsS l x := by rw [Bool.eq_iff_iff, Lib.containsS_iff, inS_mem]
  by_cases h0 : n = 0
  · subst h0
    have : l = [] := List.length_eq_zero_iff.1 h.len
    subst this
    exact (Tryz.slices_Contains_string_empty p cap x w).mono fun _ _ ⟨he, hw⟩ => ⟨he, hw.symm⟩
  · obtain ⟨b, o, rfl, _, hc⟩ := h.row.at (by rw [h.len]; omega)
    have := Tryz.slices_Contains_string b o n cap l x w (by rw [h.len]; omega) h.max (fun j hj => by
      have := hc j (l[j]) (List.getElem?_eq_getElem hj) 0 _ rfl
      simpa [List.getD, hj] using this)
    rw [List.take_of_length_le (by rw [h.len]; omega), ← e1] at this
    exact this.mono fun _ _ ⟨he, hw⟩ => ⟨he, hw.symm⟩

theorem PredB.trans {fid : FuncId} {caps : Array Value} {B : Nat} {w w' : World} {l : List Atom} {q : Atom → Bool} (h : PredB fid caps B w l q) (hb : Below B w w') : PredB fid caps B w' l q :=
  fun x hx W hW => h x hx W (hb.trans hW)

/-- does an atom go, without these regions? -/
def goesR (rhos : List Int) (x : Atom) : Bool := decide (x.kind ≠ 3) && inN rhos x.rho
/-- an effect without some regions -/
def withoutL (l : List Atom) (rhos : List Int) : List Atom := (sortA (l.filter atomB)).filter (fun x => !goesR rhos x)
/-- does an atom go, without these exceptions? -/
def goesX (exns : List ByteArray) (x : Atom) : Bool := decide (x.kind = 3) && inS exns x.exn
/-- an effect without some exceptions -/
def handledL (l : List Atom) (exns : List ByteArray) : List Atom := (sortA (l.filter atomB)).filter (fun x => !goesX exns x)
/-- the exceptions of an effect -/
def exnsL (S : List Atom) : List ByteArray := (S.filter (fun x => decide (x.kind = 3))).map (·.exn)
end Go.Proofs.YtdlbjngpohkglaaGreatDoor
end
section
set_option linter.unusedVariables false
set_option maxRecDepth 100000
set_option linter.unusedSimpArgs false
namespace Go.Proofs.YtdlbjngpohkglaaGreatDoor
open Go.RowKit Go.Sort Go.Lib

theorem withinB_iff (a b : List Atom) : withinB a b = true ↔ ∀ x ∈ a, atomB x = true → x ∈ b := by
  unfold withinB
  rw [List.all_eq_true]
  constructor
  · intro h x hx ha
    have := h x hx
    rw [ha] at this
    exact (inA_iff b x).1 (by simpa using this)
  · intro h x hx
    cases ha : atomB x
    · rfl
    · simp [(inA_iff b x).2 (h x hx ha)]
theorem withinB_refl (a : List Atom) : withinB a a = true := (withinB_iff a a).2 (fun x hx _ => hx)
theorem greatB_len {l : List Atom} (h : greatB l = false) : l.length ≤ 100 := by
  unfold greatB at h
  simp only [Bool.or_eq_false_iff, decide_eq_false_iff_not] at h
  have := h.1; omega
/-- a row of two slices, just laid -/
theorem two_rows {w : World} {p q : Option Addr} {n m nc mc : Nat} (l l' : List Atom) (t : TypeId) : RowE encSl 1 (w.alloc (.cells #[.slice p n nc, .slice q m mc] t)) (some ⟨w.heap.size, 0, none⟩) [⟨p, n, nc, l⟩, ⟨q, m, mc, l'⟩] :=
  RowE.newAt encSl_len w _ _ rfl _ _ _ rfl

theorem two_ok {w : World} {p q : Option Addr} {n m nc mc : Nat} {l l' : List Atom} (h : IsRow encA 3 w p n nc l) (h' : IsRow encA 3 w q m mc l') : ∀ r ∈ [(⟨p, n, nc, l⟩ : SlE Atom), ⟨q, m, mc, l'⟩], r.Ok encA 3 w := by
  intro r hr
  simp only [List.mem_cons, List.not_mem_nil, or_false] at hr
  rcases hr with rfl | rfl
  · exact ⟨h.len, h.le, h.nil, h.row⟩
  · exact ⟨h'.len, h'.le, h'.nil, h'.row⟩

theorem ref_Great_is {p : Option Addr} {n cap : Nat} {l : List Atom} {w : World} {r : Bool} (h : greatB l = r) (hl : IsRow encA 3 w p n cap l) :
    Calls Tryz.prog 33 #[.slice p n cap] w fun e w' => e = .returned (.bool r) ∧ w = w' := by
  subst h; exact ref_Great_any p n cap l w hl.len hl.max hl.row

theorem mem_withoutL (l : List Atom) (rhos : List Int) (x : Atom) : x ∈ withoutL l rhos ↔ x ∈ l ∧ atomB x = true ∧ goesR rhos x = false := by
  unfold withoutL
  rw [List.mem_filter, mem_sortA, List.mem_filter]
  simp [and_assoc]
theorem mem_handledL (l : List Atom) (exns : List ByteArray) (x : Atom) : x ∈ handledL l exns ↔ x ∈ l ∧ atomB x = true ∧ goesX exns x = false := by
  unfold handledL
  rw [List.mem_filter, mem_sortA, List.mem_filter]
  simp [and_assoc]
theorem mem_exnsL (S : List Atom) (s : ByteArray) : s ∈ exnsL S ↔ ∃ x ∈ S, x.kind = 3 ∧ x.exn = s := by
  unfold exnsL
  rw [List.mem_map]
  constructor
  · rintro ⟨x, hx, rfl⟩
    rw [List.mem_filter] at hx
    exact ⟨x, hx.1, by simpa using hx.2, rfl⟩
  · rintro ⟨x, hx, h3, rfl⟩
    exact ⟨x, by rw [List.mem_filter]; exact ⟨hx, by simpa using h3⟩, rfl⟩
/-- the effect of a row -/
abbrev effL (l : List Atom) : List Atom := sortA (l.filter atomB)
/-- without the exceptions that it has, an effect has none -/
theorem mem_handled_own (l : List Atom) (x : Atom) : x ∈ handledL l (exnsL (effL l)) ↔ x ∈ l ∧ atomB x = true ∧ x.kind ≠ 3 := by
  rw [mem_handledL]
  constructor
  · rintro ⟨h1, h2, h3⟩
    refine ⟨h1, h2, fun h => ?_⟩
    unfold goesX at h3
    rw [decide_eq_true h, Bool.true_and] at h3
    have : x.exn ∈ exnsL (effL l) := (mem_exnsL _ _).2 ⟨x, by rw [mem_sortA, List.mem_filter]; exact ⟨h1, h2⟩, h, rfl⟩
    rw [(inS_mem _ _).2 this] at h3; cases h3
  · rintro ⟨h1, h2, h3⟩
    exact ⟨h1, h2, by simp [goesX, h3]⟩
def goneL (l : List Atom) (rhos : List Int) : List Atom := l.filter (goesR rhos)

theorem parts_union (l : List Atom) (rhos : List Int) : effL (withoutL l rhos ++ goneL l rhos) = effL l := by
  refine sortA_congr (fun x => ?_)
  simp only [List.mem_filter, List.mem_append, mem_withoutL, goneL]
  constructor
  · rintro ⟨h | h, h'⟩
    · exact ⟨h.1, h'⟩
    · exact ⟨h.1, h'⟩
  · rintro ⟨h, h'⟩
    cases hg : goesR rhos x
    · exact ⟨.inl ⟨h, h', rfl⟩, h'⟩
    · exact ⟨.inr ⟨h, rfl⟩, h'⟩
theorem parts_within (l : List Atom) (rhos : List Int) : withinB (withoutL l rhos) l = true :=
  (withinB_iff _ _).2 (fun x hx _ => ((mem_withoutL l rhos x).1 hx).1)
theorem parts_same (l : List Atom) (rhos : List Int) : (withinB (handledL (withoutL l rhos) (exnsL (effL (withoutL l rhos)))) (withoutL (handledL l (exnsL (effL l))) rhos) && withinB (withoutL (handledL l (exnsL (effL l))) rhos) (handledL (withoutL l rhos) (exnsL (effL (withoutL l rhos))))) = true := by
  have h : ∀ x, x ∈ handledL (withoutL l rhos) (exnsL (effL (withoutL l rhos))) ↔ x ∈ withoutL (handledL l (exnsL (effL l))) rhos := by
    intro x
    rw [mem_handled_own, mem_withoutL, mem_withoutL, mem_handled_own]
    constructor
    · rintro ⟨⟨h1, h2, h3⟩, h4, h5⟩; exact ⟨⟨h1, h2, h5⟩, h4, h3⟩
    · rintro ⟨⟨h1, h2, h5⟩, h4, h3⟩; exact ⟨⟨h1, h2, h3⟩, h4, h5⟩
  rw [Bool.and_eq_true]
  exact ⟨(withinB_iff _ _).2 (fun x hx _ => (h x).1 hx), (withinB_iff _ _).2 (fun x hx _ => (h x).2 hx)⟩

theorem one_row {w : World} {p : Option Addr} {n nc : Nat} (l : List Atom) (t : TypeId) : RowE encSl 1 (w.alloc (.cells #[.slice p n nc] t)) (some ⟨w.heap.size, 0, none⟩) [⟨p, n, nc, l⟩] :=
  RowE.newAt encSl_len w _ _ rfl _ _ _ rfl
theorem one_ok {w : World} {p : Option Addr} {n nc : Nat} {l : List Atom} (h : IsRow encA 3 w p n nc l) : ∀ r ∈ [(⟨p, n, nc, l⟩ : SlE Atom)], r.Ok encA 3 w := by
  intro r hr
  simp only [List.mem_cons, List.not_mem_nil, or_false] at hr
  subst hr
  exact ⟨h.len, h.le, h.nil, h.row⟩
theorem ref_Ints_is {p : Option Addr} {n cap : Nat} {l : List Int} {x : Int} {w : World} {r : Bool} (hq : inN l x = r) (h : IsRow encN 1 w p n cap l) :
    Calls Tryz.prog 37 #[.slice p n cap, .int .i64 x] w fun e w' => e = .returned (.bool r) ∧ w = w' := by
  subst hq; exact ref_Ints_any p n cap l x w h.len h.max h.row

end Go.Proofs.YtdlbjngpohkglaaGreatDoor
end
