/- Part 35 of the texts: Ui. -/
import Derived.Test.YtdlbjngpohkglaaGreatDoorG34
section
set_option linter.unusedVariables false
set_option maxRecDepth 100000
set_option linter.unusedSimpArgs false
namespace Go.Proofs.YtdlbjngpohkglaaGreatDoor
open Go.RowKit

theorem ba_empty {s : ByteArray} (h : s.size = 0) : s = ByteArray.empty := by
  apply ba_ext
  exact List.eq_nil_of_length_eq_zero h
theorem kh_eq {a b : AH} (ga : AOk a) (gb : AOk b) (hk : a.kind = b.kind) (h9 : a.kind = 9 → a.op = b.op) (h1 : a.kind = 1 → a.n = b.n) (hname : (a.kind = 2 ∨ a.kind = 12 ∨ a.kind = 13 ∨ a.kind = 18) → a.name = b.name) (harg : (a.kind = 11 ∨ a.kind = 13 ∨ a.kind = 16) → a.arg = b.arg) (hexn : (a.kind = 15 ∨ a.kind = 16) → a.exn = b.exn)
    (hrho : inB [3, 6, 11, 13, 17, 18] a.kind = true → a.rho = b.rho) (hrhos : (a.kind = 13 ∨ a.kind = 18) → a.rhos = b.rhos) (heff : inB [11, 13, 18] a.kind = true → a.eff = b.eff) (hty : inB [11, 13, 15] a.kind = true → a.ty.er = b.ty.er) (hres : a.kind = 13 → a.res.er = b.res.er) : a.kh.put = b.kh.put := by
  have e1 : a.op = b.op := by
    by_cases h : a.kind = 9
    · exact h9 h
    · rw [ga.ok.op0 h, gb.ok.op0 (by omega)]
  have e2 : a.n = b.n := by
    by_cases h : a.kind = 1
    · exact h1 h
    · rw [ga.ok.n0 h, gb.ok.n0 (by omega)]
  have e3 : a.name = b.name := by
    by_cases h : a.kind = 2 ∨ a.kind = 12 ∨ a.kind = 13 ∨ a.kind = 18
    · exact hname h
    · rw [ba_empty (ga.ok.name0 h), ba_empty (gb.ok.name0 (by omega))]
  have e4 : a.arg = b.arg := by
    by_cases h : a.kind = 11 ∨ a.kind = 13 ∨ a.kind = 16
    · exact harg h
    · rw [ba_empty (ga.ok.arg0 h), ba_empty (gb.ok.arg0 (by omega))]
  have e5 : a.exn = b.exn := by
    by_cases h : a.kind = 15 ∨ a.kind = 16
    · exact hexn h
    · rw [ba_empty (ga.ok.exn0 h), ba_empty (gb.ok.exn0 (by omega))]
  have e6 : a.rho = b.rho := by
    cases h : inB [3, 6, 11, 13, 17, 18] a.kind
    · rw [ga.ok.rho0 h, gb.ok.rho0 (by rw [← hk]; exact h)]
    · exact hrho h
  have e7 : a.rhos = b.rhos := by
    by_cases h : a.kind = 13 ∨ a.kind = 18
    · exact hrhos h
    · rw [List.eq_nil_of_length_eq_zero (l := a.rhos) (by rw [ga.hr]; exact ga.ok.rhos0 (by omega) (by omega)), List.eq_nil_of_length_eq_zero (l := b.rhos) (by rw [gb.hr]; exact gb.ok.rhos0 (by omega) (by omega))]
  have e8 : a.eff = b.eff := by
    cases h : inB [11, 13, 18] a.kind
    · rw [List.eq_nil_of_length_eq_zero (l := a.eff) (by rw [ga.he]; exact ga.ok.eff0 h), List.eq_nil_of_length_eq_zero (l := b.eff) (by rw [gb.he]; exact gb.ok.eff0 (by rw [← hk]; exact h))]
    · exact heff h
  have e9 : a.ty.er = b.ty.er := by
    cases h : inB [11, 13, 15] a.kind
    · rw [ga.ht (ga.ok.ty0 h), gb.ht (gb.ok.ty0 (by rw [← hk]; exact h))]
    · exact hty h
  have e10 : a.res.er = b.res.er := by
    by_cases h : a.kind = 13
    · exact hres h
    · rw [ga.hs (ga.ok.res0 h), gb.hs (gb.ok.res0 (by omega))]
  unfold KH.put AH.kh
  simp only [hk, e1, e2, e3, e4, e5, e6, e7, e8, e9, e10]
theorem good_one {a : AH} {l : List PA} (g : Good (.node a l)) (h : kidsI (if a.kind = 17 then 4 else if a.kind = 18 then 1 else a.kind) = 1) : ∃ x, l = [x] ∧ Good x := by
  rw [Good_node] at g
  obtain ⟨x, rfl⟩ := List.length_eq_one_iff.1 (show l.length = 1 by have := g.1.ok.kids; have := g.2.1; omega)
  exact ⟨x, rfl, g.2.2 x (by simp)⟩
theorem good_two {a : AH} {l : List PA} (g : Good (.node a l)) (h : kidsI (if a.kind = 17 then 4 else if a.kind = 18 then 1 else a.kind) = 2) : ∃ x y, l = [x, y] ∧ Good x ∧ Good y := by
  rw [Good_node] at g
  have h2 : l.length = 2 := by have := g.1.ok.kids; have := g.2.1; omega
  match l, h2, g with
  | [x, y], _, g => exact ⟨x, y, rfl, g.2.2 x (by simp), g.2.2 y (by simp)⟩
theorem good_three {a : AH} {l : List PA} (g : Good (.node a l)) (h : kidsI (if a.kind = 17 then 4 else if a.kind = 18 then 1 else a.kind) = 3) : ∃ x y z, l = [x, y, z] ∧ Good x ∧ Good y ∧ Good z := by
  rw [Good_node] at g
  have h2 : l.length = 3 := by have := g.1.ok.kids; have := g.2.1; omega
  match l, h2, g with
  | [x, y, z], _, g => exact ⟨x, y, z, rfl, g.2.2 x (by simp), g.2.2 y (by simp), g.2.2 z (by simp)⟩
theorem good_nil {a : AH} {l : List PA} (g : Good (.node a l)) (h : kidsI (if a.kind = 17 then 4 else if a.kind = 18 then 1 else a.kind) = 0) : l = [] := by
  rw [Good_node] at g
  exact List.eq_nil_of_length_eq_zero (by have := g.1.ok.kids; have := g.2.1; omega)
/-- is the first byte a digit? -/
def digW (s : ByteArray) : Bool := match s.data.toList with | c :: _ => decide (48 ≤ c) && decide (c ≤ 57) | [] => false
theorem digW_dec {x : Int} (h : 0 ≤ x) : digW (decB x) = true := by
  obtain ⟨n, rfl⟩ : ∃ n : Nat, x = n := ⟨x.toNat, by omega⟩
  unfold digW
  rw [decB_nat]
  have h1 := dec_bytes n
  cases hd : Lib.decDigits n with
  | nil => exact absurd hd (dec_ne n)
  | cons c l =>
    rw [hd] at h1
    have := h1 c (by simp)
    simp [this.1, this.2]
theorem dig_ne {s c : ByteArray} (h : digW s = true) (hc : digW c = false) : s ≠ c := by rintro rfl; rw [h] at hc; cases hc
theorem name_ne {s c : ByteArray} (h : nameB s = true) (hc : nameB c = false) : s ≠ c := by rintro rfl; rw [h] at hc; cases hc
theorem name_dig {s : ByteArray} (h : nameB s = true) : digW s = false := by
  unfold nameB shapedB at h
  simp only [Bool.and_eq_true, beq_iff_eq] at h
  obtain ⟨⟨⟨_, h1⟩, _⟩, _⟩ := h
  unfold digW
  unfold bytesI at h1
  cases hd : s.data.toList with
  | nil => rfl
  | cons c l =>
    rw [hd] at h1
    simp only [List.map_cons, List.headD_cons] at h1
    unfold cls at h1
    simp only [Bool.and_eq_false_imp, decide_eq_true_eq, decide_eq_false_iff_not]
    intro h2 h3
    have h2' : 48 ≤ c.toNat := h2
    have h3' : c.toNat ≤ 57 := h3
    rw [if_neg (by omega), if_pos (by omega)] at h1
    omega
/-- the kind that a word tells -/
def kwK (w : ByteArray) : Int := if w = bFst then 4 else if w = bSnd then 5 else if w = bRef then 6 else if w = bBang then 7 else if w = bFn then 11 else if w = bLet then 12 else if w = bLetrec then 13 else if w = bIf then 14 else if w = bRaise then 15 else if w = bTry then 16 else 0
theorem kwK_dig {w : ByteArray} (h : digW w = true) : kwK w = 0 := by
  unfold kwK
  rw [if_neg (dig_ne h (by decide)), if_neg (dig_ne h (by decide)), if_neg (dig_ne h (by decide)), if_neg (dig_ne h (by decide)), if_neg (dig_ne h (by decide)), if_neg (dig_ne h (by decide)), if_neg (dig_ne h (by decide)), if_neg (dig_ne h (by decide)), if_neg (dig_ne h (by decide)), if_neg (dig_ne h (by decide))]
theorem kwK_name {w : ByteArray} (h : nameB w = true) : kwK w = 0 := by
  unfold kwK
  rw [if_neg (name_ne h (by decide +kernel)), if_neg (name_ne h (by decide +kernel)), if_neg (name_ne h (by decide +kernel)), if_neg (name_ne h (by decide +kernel)), if_neg (name_ne h (by decide +kernel)), if_neg (name_ne h (by decide +kernel)), if_neg (name_ne h (by decide +kernel)), if_neg (name_ne h (by decide +kernel)), if_neg (name_ne h (by decide +kernel)), if_neg (name_ne h (by decide +kernel))]
def clsI (w1 w2 w3 : ByteArray) : Int := if kwK w1 ≠ 0 then kwK w1 else if w1 = bRegion ∧ digW w2 = true ∧ w3 = bIn then 17 else if w1 ≠ bO ∧ w2 = bSq then 18 else 0
/-- the kind that words tell; 0: another one with two kids -/
def clsW (l : List ByteArray) : Int := if l.getD 0 .empty = bO then clsI (l.getD 1 .empty) (l.getD 2 .empty) (l.getD 3 .empty) else if digW (l.getD 0 .empty) = true then 1 else 2
theorem firstW {x : PA} (g : Good x) : (∃ f, W x = [f] ∧ digW f = true) ∨ (∃ f, W x = [f] ∧ nameB f = true) ∨ (∃ r, W x = bO :: r) := by
  obtain ⟨a, l⟩ := x
  rw [Good_node] at g
  by_cases h1 : a.kind = 1
  · exact .inl ⟨_, w_1 a l h1 g.1.ok.n, digW_dec g.1.ok.n⟩
  by_cases h2 : a.kind = 2
  · exact .inr (.inl ⟨_, w_2 a l h2 (g.1.ok.name (.inl h2)), g.1.ok.name (.inl h2)⟩)
  refine .inr (.inr ⟨wordsP (innerP a (l.map piecesT) ++ [⟨#[41]⟩]), ?_⟩)
  unfold W
  rw [piecesT_node]
  unfold nodeP
  rw [if_neg h1, if_neg h2, wordsP_app, wordsP_cons, s_O]
  rfl
theorem clsM {x : PA} (g : Good x) {S : List ByteArray} (h1 : S.getD 0 .empty ≠ bSq) (h2 : ¬ (digW (S.getD 0 .empty) = true ∧ S.getD 1 .empty = bIn)) : clsW (bO :: (W x ++ S)) = 0 := by
  unfold clsW
  rw [if_pos (by rfl)]
  rcases firstW g with ⟨f, e, hf⟩ | ⟨f, e, hf⟩ | ⟨r, e⟩
  · rw [e]
    show clsI f (S.getD 0 .empty) (S.getD 1 .empty) = 0
    unfold clsI
    rw [if_neg (by rw [kwK_dig hf]; simp), if_neg (fun h => dig_ne hf (by decide) h.1), if_neg (fun h => h1 h.2)]
  · rw [e]
    show clsI f (S.getD 0 .empty) (S.getD 1 .empty) = 0
    unfold clsI
    rw [if_neg (by rw [kwK_name hf]; simp), if_neg (fun h => h2 h.2), if_neg (fun h => h1 h.2)]
  · rw [e]
    unfold clsI
    have e1 : (bO :: (bO :: r ++ S)).getD 1 .empty = bO := rfl
    rw [e1, if_neg (by decide), if_neg (fun h => absurd h.1 (by decide)), if_neg (fun h => h.1 rfl)]
abbrev isM (k : Int) : Prop := k = 3 ∨ k = 8 ∨ k = 9 ∨ k = 10
/-- what stands behind the first kid -/
def mS (a : AH) (y : PA) : List ByteArray := if a.kind = 3 then bCm :: (W y ++ [bAt, decB a.rho, bC]) else if a.kind = 8 then bSet :: (W y ++ [bC]) else if a.kind = 9 then signB a.op :: (W y ++ [bC]) else W y ++ [bC]
theorem mW {a : AH} {l : List PA} (g : Good (.node a l)) (h : isM a.kind) : ∃ x y, l = [x, y] ∧ Good x ∧ Good y ∧ W (.node a l) = bO :: (W x ++ mS a y) := by
  have hk : kidsI (if a.kind = 17 then 4 else if a.kind = 18 then 1 else a.kind) = 2 := by
    rcases h with h | h | h | h <;> rw [h] <;> rfl
  obtain ⟨x, y, rfl, gx, gy⟩ := good_two g hk
  refine ⟨x, y, rfl, gx, gy, ?_⟩
  rw [Good_node] at g
  unfold mS
  rcases h with h | h | h | h
  · rw [if_pos h, w_3 a x y h g.1.ok.rho]
  · rw [if_neg (by omega), if_pos h, w_8 a x y h]
  · rw [if_neg (by omega), if_neg (by omega), if_pos h, w_9 a x y h]
  · rw [if_neg (by omega), if_neg (by omega), if_neg (by omega), w_10 a x y h]
theorem mS_sq {a : AH} {y : PA} (g : Good y) (r : List ByteArray) : (mS a y ++ r).getD 0 .empty ≠ bSq ∧ ¬ (digW ((mS a y ++ r).getD 0 .empty) = true ∧ (mS a y ++ r).getD 1 .empty = bIn) := by
  have sg : signB a.op ≠ bSq ∧ digW (signB a.op) = false := by unfold signB; split; decide; split; decide; split; decide; split <;> decide
  unfold mS
  split
  · exact ⟨(by decide : bCm ≠ bSq), fun h => absurd h.1 (by decide : ¬ digW bCm = true)⟩
  split
  · exact ⟨(by decide : bSet ≠ bSq), fun h => absurd h.1 (by decide : ¬ digW bSet = true)⟩
  split
  · exact ⟨sg.1, fun h => absurd h.1 (by rw [show (signB a.op :: (W y ++ [bC]) ++ r).getD 0 .empty = signB a.op from rfl, sg.2]; simp)⟩
  rcases firstW g with ⟨f, e, hf⟩ | ⟨f, e, hf⟩ | ⟨q, e⟩
  · rw [e]
    exact ⟨dig_ne hf (by decide), fun h => absurd h.2 (by decide : ¬ bC = bIn)⟩
  · rw [e]
    exact ⟨name_ne hf (by decide +kernel), fun h => by have h1 : digW f = true := h.1; rw [name_dig hf] at h1; cases h1⟩
  · rw [e]
    exact ⟨(by decide : bO ≠ bSq), fun h => absurd h.1 (by decide : ¬ digW bO = true)⟩
/-- the kind that the word behind the first kid tells -/
def mK (l : List ByteArray) : Int := if l.getD 0 .empty = bCm then 3 else if l.getD 0 .empty = bSet then 8 else if l.getD 0 .empty = signB 1 ∨ l.getD 0 .empty = signB 2 ∨ l.getD 0 .empty = signB 3 ∨ l.getD 0 .empty = signB 4 ∨ l.getD 0 .empty = signB 5 then 9 else 10
theorem mK_of {a : AH} {y : PA} (g : Good y) (h : isM a.kind) (ho : a.kind = 9 → 1 ≤ a.op ∧ a.op ≤ 5) (r : List ByteArray) : mK (mS a y ++ r) = a.kind := by
  unfold mS
  rcases h with h | h | h | h
  · rw [if_pos h, h]; rfl
  · rw [if_neg (by omega), if_pos h, h]; rfl
  · rw [if_neg (by omega), if_neg (by omega), if_pos h, h]
    obtain ⟨h1, h2⟩ := ho h
    rcases (by omega : a.op = 1 ∨ a.op = 2 ∨ a.op = 3 ∨ a.op = 4 ∨ a.op = 5) with e | e | e | e | e <;> rw [e] <;> rfl
  · rw [if_neg (by omega), if_neg (by omega), if_neg (by omega), h]
    unfold mK
    have q : ∀ f, (digW f = true ∨ nameB f = true ∨ f = bO) → f ≠ bCm ∧ f ≠ bSet ∧ ¬ (f = signB 1 ∨ f = signB 2 ∨ f = signB 3 ∨ f = signB 4 ∨ f = signB 5) := by
      intro f hf
      have one : ∀ c, digW c = false → nameB c = false → c ≠ bO → f ≠ c := by
        intro c h1 h2 h3
        rcases hf with hf | hf | rfl
        · exact dig_ne hf h1
        · exact name_ne hf h2
        · exact h3.symm
      refine ⟨one _ (by decide) (by decide +kernel) (by decide), one _ (by decide) (by decide +kernel) (by decide), ?_⟩
      rintro (e | e | e | e | e)
      · exact one _ (by decide) (by decide +kernel) (by decide) e
      · exact one _ (by decide) (by decide +kernel) (by decide) e
      · exact one _ (by decide) (by decide +kernel) (by decide) e
      · exact one _ (by decide) (by decide +kernel) (by decide) e
      · exact one _ (by decide) (by decide +kernel) (by decide) e
    have h0 : ∃ f, (W y ++ [bC] ++ r).getD 0 .empty = f ∧ (digW f = true ∨ nameB f = true ∨ f = bO) := by
      rcases firstW g with ⟨f, e, hf⟩ | ⟨f, e, hf⟩ | ⟨q, e⟩
      · rw [e]; exact ⟨f, rfl, .inl hf⟩
      · rw [e]; exact ⟨f, rfl, .inr (.inl hf)⟩
      · rw [e]; exact ⟨bO, rfl, .inr (.inr rfl)⟩
    obtain ⟨f, hf, hq⟩ := h0
    rw [hf]
    obtain ⟨q1, q2, q3⟩ := q f hq
    rw [if_neg q1, if_neg q2, if_neg q3]
/-- the kind, or 0 -/
def cK (k : Int) : Int := if isM k then 0 else k
theorem cls_of {a : AH} {l : List PA} (g : Good (.node a l)) (r : List ByteArray) : clsW (W (.node a l) ++ r) = cK a.kind := by
  have g0 := (Good_node a l).1 g
  by_cases hm : isM a.kind
  · obtain ⟨x, y, rfl, gx, gy, hw⟩ := mW g hm
    rw [hw, List.cons_append, List.append_assoc]
    unfold cK
    rw [if_pos hm]
    obtain ⟨h1, h2⟩ := mS_sq (a := a) gy r
    exact clsM gx h1 h2
  unfold cK
  rw [if_neg hm]
  have k1 := g0.1.ok.k1
  have k18 := g0.1.ok.k18
  rcases (by omega : a.kind = 1 ∨ a.kind = 2 ∨ a.kind = 4 ∨ a.kind = 5 ∨ a.kind = 6 ∨ a.kind = 7 ∨ a.kind = 11 ∨ a.kind = 12 ∨ a.kind = 13 ∨ a.kind = 14 ∨ a.kind = 15 ∨ a.kind = 16 ∨ a.kind = 17 ∨ a.kind = 18) with h | h | h | h | h | h | h | h | h | h | h | h | h | h
  · rw [w_1 a l h g0.1.ok.n, h]
    have hd := digW_dec g0.1.ok.n
    show (if decB a.n = bO then _ else if digW (decB a.n) = true then (1 : Int) else 2) = 1
    rw [if_neg (dig_ne hd (by decide)), if_pos hd]
  · have hn := g0.1.ok.name (.inl h)
    rw [w_2 a l h hn, h]
    show (if a.name = bO then _ else if digW a.name = true then (1 : Int) else 2) = 2
    rw [if_neg (name_ne hn (by decide +kernel)), if_neg (by rw [name_dig hn]; simp)]
  · obtain ⟨x, rfl, gx⟩ := good_one g (by rw [h]; rfl)
    rw [w_4 a x h, h]; rfl
  · obtain ⟨x, rfl, gx⟩ := good_one g (by rw [h]; rfl)
    rw [w_5 a x h, h]; rfl
  · obtain ⟨x, rfl, gx⟩ := good_one g (by rw [h]; rfl)
    rw [w_6 a x h g0.1.ok.rho, h]; rfl
  · obtain ⟨x, rfl, gx⟩ := good_one g (by rw [h]; rfl)
    rw [w_7 a x h, h]; rfl
  · obtain ⟨x, rfl, gx⟩ := good_one g (by rw [h]; rfl)
    rw [w_11 a x h g0.1.ok.rho (g0.1.ok.arg (.inl h)) g0.1.ok.eff, h]; rfl
  · obtain ⟨x, y, rfl, gx, gy⟩ := good_two g (by rw [h]; rfl)
    rw [w_12 a x y h (g0.1.ok.name (.inr (.inl h))), h]; rfl
  · obtain ⟨x, y, rfl, gx, gy⟩ := good_two g (by rw [h]; rfl)
    rw [w_13 a x y h g0.1.ok.rho (g0.1.ok.name (.inr (.inr (.inl h)))) (g0.1.ok.arg (.inr (.inl h))) g0.1.ok.eff g0.1.ok.rhos, h]; rfl
  · obtain ⟨x, y, z, rfl, gx, gy, gz⟩ := good_three g (by rw [h]; rfl)
    rw [w_14 a x y z h, h]; rfl
  · obtain ⟨x, rfl, gx⟩ := good_one g (by rw [h]; rfl)
    rw [w_15 a x h (g0.1.ok.exn (.inl h)), h]; rfl
  · obtain ⟨x, y, rfl, gx, gy⟩ := good_two g (by rw [h]; rfl)
    rw [w_16 a x y h (g0.1.ok.exn (.inr h)) (g0.1.ok.arg (.inr (.inr h))), h]; rfl
  · obtain ⟨x, rfl, gx⟩ := good_one g (by rw [h]; rfl)
    rw [w_17 a x h g0.1.ok.rho, h]
    show clsW (bO :: bRegion :: decB a.rho :: bIn :: _) = 17
    unfold clsW
    rw [if_pos (by rfl)]
    show clsI bRegion (decB a.rho) bIn = 17
    unfold clsI
    rw [if_neg (by decide), if_pos ⟨rfl, digW_dec g0.1.ok.rho, rfl⟩]
  · have hn := g0.1.ok.name (.inr (.inr (.inr h)))
    rw [w_18 a l h g0.1.ok.rho hn g0.1.ok.eff g0.1.ok.rhos, h]
    show clsW (bO :: a.name :: bSq :: _) = 18
    unfold clsW
    rw [if_pos (by rfl)]
    show clsI a.name bSq _ = 18
    unfold clsI
    rw [if_neg (by rw [kwK_name hn]; simp), if_neg (fun q => absurd q.2.1 (by decide)), if_pos ⟨name_ne hn (by decide +kernel), rfl⟩]
theorem sign_inj {x y : Int} (hx : 1 ≤ x ∧ x ≤ 5) (hy : 1 ≤ y ∧ y ≤ 5) (h : signB x = signB y) : x = y := by
  obtain ⟨x1, x2⟩ := hx
  obtain ⟨y1, y2⟩ := hy
  rcases (by omega : x = 1 ∨ x = 2 ∨ x = 3 ∨ x = 4 ∨ x = 5) with rfl | rfl | rfl | rfl | rfl <;> rcases (by omega : y = 1 ∨ y = 2 ∨ y = 3 ∨ y = 4 ∨ y = 5) with rfl | rfl | rfl | rfl | rfl <;> first | rfl | (exfalso; revert h; decide)
theorem rhos_inj : ∀ (l m : List Int) (r r' : List ByteArray), (∀ x ∈ l, 0 ≤ x) → (∀ x ∈ m, 0 ≤ x) → l.map decB ++ bSqC :: r = m.map decB ++ bSqC :: r' → l = m ∧ r = r'
  | [], [], r, r', _, _, h => by simp at h; exact ⟨rfl, h⟩
  | [], y :: m, r, r', _, hm, h => by
    simp at h
    exact absurd h.1.symm (dig_ne (digW_dec (hm y (by simp))) (by decide))
  | x :: l, [], r, r', hl, _, h => by
    simp at h
    exact absurd h.1 (dig_ne (digW_dec (hl x (by simp))) (by decide))
  | x :: l, y :: m, r, r', hl, hm, h => by
    rw [List.map_cons, List.map_cons, List.cons_append, List.cons_append] at h
    obtain ⟨h1, h2⟩ := List.cons.inj h
    obtain ⟨h3, h4⟩ := rhos_inj l m r r' (fun z hz => hl z (List.mem_cons_of_mem _ hz)) (fun z hz => hm z (List.mem_cons_of_mem _ hz)) h2
    rw [h3, decB_inj (hl x (by simp)) (hm y (by simp)) h1]
    exact ⟨rfl, h4⟩
set_option maxHeartbeats 2000000 in
theorem W_inj (x : PA) : ∀ (y : PA) (r r' : List ByteArray), Good x → Good y → W x ++ r = W y ++ r' → keyT x = keyT y ∧ r = r' := by
  refine Rose.ind (P := fun (x : PA) => ∀ (y : PA) (r r' : List ByteArray), Good x → Good y → W x ++ r = W y ++ r' → keyT x = keyT y ∧ r = r') (fun a l ih y r r' g f hh => ?_) x
  obtain ⟨b, m⟩ := y
  have g0 := (Good_node a l).1 g
  have f0 := (Good_node b m).1 f
  have hc : cK a.kind = cK b.kind := by rw [← cls_of g r, hh, cls_of f r']
  have k1 := g0.1.ok.k1
  have k18 := g0.1.ok.k18
  have j1 := f0.1.ok.k1
  by_cases hm : isM a.kind
  · have hmb : isM b.kind := by
      by_cases hmb : isM b.kind
      · exact hmb
      · unfold cK at hc
        rw [if_pos hm, if_neg hmb] at hc
        omega
    obtain ⟨x, y, rfl, gx, gy, hw⟩ := mW g hm
    obtain ⟨x', y', rfl, fx, fy, hw'⟩ := mW f hmb
    rw [hw, hw', List.cons_append, List.cons_append, List.append_assoc, List.append_assoc] at hh
    obtain ⟨ex, h2⟩ := ih x (by simp) x' _ _ gx fx (List.cons.inj hh).2
    clear hh
    have hkk : a.kind = b.kind := by rw [← mK_of gy hm g0.1.ok.op r, h2, mK_of fy hmb f0.1.ok.op r']
    rw [keyT_node, keyT_node]
    simp only [List.map_cons, List.map_nil]
    unfold mS at h2
    rcases hm with h | h | h | h
    · have h' : b.kind = 3 := by omega
      rw [if_pos h, if_pos h', List.cons_append, List.cons_append, List.append_assoc, List.append_assoc] at h2
      obtain ⟨ey, h3⟩ := ih y (by simp) y' _ _ gy fy (List.cons.inj h2).2
      simp only [List.cons_append, List.nil_append, List.cons.injEq, true_and] at h3
      have e1 : a.rho = b.rho := decB_inj g0.1.ok.rho f0.1.ok.rho h3.1
      have ek : a.kh.put = b.kh.put := by
        refine kh_eq g0.1 f0.1 hkk ?_ ?_ ?_ ?_ ?_ ?_ ?_ ?_ ?_ ?_ <;> (intro hq; first | assumption | (exfalso; rw [h] at hq; revert hq; decide))
      rw [ek, ex, ey]
      exact ⟨rfl, h3.2⟩
    · have h' : b.kind = 8 := by omega
      rw [if_neg (by omega), if_pos h, if_neg (by omega), if_pos h', List.cons_append, List.cons_append, List.append_assoc, List.append_assoc] at h2
      obtain ⟨ey, h3⟩ := ih y (by simp) y' _ _ gy fy (List.cons.inj h2).2
      simp only [List.cons_append, List.nil_append, List.cons.injEq, true_and] at h3
      have ek : a.kh.put = b.kh.put := by
        refine kh_eq g0.1 f0.1 hkk ?_ ?_ ?_ ?_ ?_ ?_ ?_ ?_ ?_ ?_ <;> (intro hq; first | assumption | (exfalso; rw [h] at hq; revert hq; decide))
      rw [ek, ex, ey]
      exact ⟨rfl, h3⟩
    · have h' : b.kind = 9 := by omega
      rw [if_neg (by omega), if_neg (by omega), if_pos h, if_neg (by omega), if_neg (by omega), if_pos h', List.cons_append, List.cons_append, List.append_assoc, List.append_assoc] at h2
      obtain ⟨hs, h2⟩ := List.cons.inj h2
      have e1 : a.op = b.op := sign_inj (g0.1.ok.op h) (f0.1.ok.op h') hs
      obtain ⟨ey, h3⟩ := ih y (by simp) y' _ _ gy fy h2
      simp only [List.cons_append, List.nil_append, List.cons.injEq, true_and] at h3
      have ek : a.kh.put = b.kh.put := by
        refine kh_eq g0.1 f0.1 hkk ?_ ?_ ?_ ?_ ?_ ?_ ?_ ?_ ?_ ?_ <;> (intro hq; first | assumption | (exfalso; rw [h] at hq; revert hq; decide))
      rw [ek, ex, ey]
      exact ⟨rfl, h3⟩
    · have h' : b.kind = 10 := by omega
      rw [if_neg (by omega), if_neg (by omega), if_neg (by omega), if_neg (by omega), if_neg (by omega), if_neg (by omega), List.append_assoc, List.append_assoc] at h2
      obtain ⟨ey, h3⟩ := ih y (by simp) y' _ _ gy fy h2
      simp only [List.cons_append, List.nil_append, List.cons.injEq, true_and] at h3
      have ek : a.kh.put = b.kh.put := by
        refine kh_eq g0.1 f0.1 hkk ?_ ?_ ?_ ?_ ?_ ?_ ?_ ?_ ?_ ?_ <;> (intro hq; first | assumption | (exfalso; rw [h] at hq; revert hq; decide))
      rw [ek, ex, ey]
      exact ⟨rfl, h3⟩
  have hkk : a.kind = b.kind := by
    unfold cK at hc
    rw [if_neg hm] at hc
    split at hc <;> omega
  rw [keyT_node, keyT_node]
  rcases (by omega : a.kind = 1 ∨ a.kind = 2 ∨ a.kind = 4 ∨ a.kind = 5 ∨ a.kind = 6 ∨ a.kind = 7 ∨ a.kind = 11 ∨ a.kind = 12 ∨ a.kind = 13 ∨ a.kind = 14 ∨ a.kind = 15 ∨ a.kind = 16 ∨ a.kind = 17 ∨ a.kind = 18) with h | h | h | h | h | h | h | h | h | h | h | h | h | h
  · have h' : b.kind = 1 := by omega
    obtain rfl := good_nil g (by rw [h]; rfl)
    obtain rfl := good_nil f (by rw [h']; rfl)
    rw [w_1 a _ h g0.1.ok.n, w_1 b _ h' f0.1.ok.n] at hh
    simp only [List.cons_append, List.nil_append, List.cons.injEq] at hh
    have e1 : a.n = b.n := decB_inj g0.1.ok.n f0.1.ok.n hh.1
    have ek : a.kh.put = b.kh.put := by
      refine kh_eq g0.1 f0.1 hkk ?_ ?_ ?_ ?_ ?_ ?_ ?_ ?_ ?_ ?_ <;> (intro hq; first | assumption | (exfalso; rw [h] at hq; revert hq; decide))
    rw [ek]
    exact ⟨rfl, hh.2⟩
  · have h' : b.kind = 2 := by omega
    obtain rfl := good_nil g (by rw [h]; rfl)
    obtain rfl := good_nil f (by rw [h']; rfl)
    rw [w_2 a _ h (g0.1.ok.name (.inl h)), w_2 b _ h' (f0.1.ok.name (.inl h'))] at hh
    simp only [List.cons_append, List.nil_append, List.cons.injEq] at hh
    have e1 := hh.1
    have ek : a.kh.put = b.kh.put := by
      refine kh_eq g0.1 f0.1 hkk ?_ ?_ ?_ ?_ ?_ ?_ ?_ ?_ ?_ ?_ <;> (intro hq; first | assumption | (exfalso; rw [h] at hq; revert hq; decide))
    rw [ek]
    exact ⟨rfl, hh.2⟩
  · have h' : b.kind = 4 := by omega
    obtain ⟨x, rfl, gx⟩ := good_one g (by rw [h]; rfl)
    obtain ⟨x', rfl, fx⟩ := good_one f (by rw [h']; rfl)
    rw [w_4 a x h, w_4 b x' h'] at hh
    simp only [List.cons_append, List.append_assoc, List.nil_append, List.cons.injEq, true_and] at hh
    obtain ⟨ex, h3⟩ := ih x (by simp) x' _ _ gx fx hh
    simp only [List.cons.injEq, true_and] at h3
    have ek : a.kh.put = b.kh.put := by
      refine kh_eq g0.1 f0.1 hkk ?_ ?_ ?_ ?_ ?_ ?_ ?_ ?_ ?_ ?_ <;> (intro hq; first | assumption | (exfalso; rw [h] at hq; revert hq; decide))
    simp only [List.map_cons, List.map_nil]
    rw [ek, ex]
    exact ⟨rfl, h3⟩
  · have h' : b.kind = 5 := by omega
    obtain ⟨x, rfl, gx⟩ := good_one g (by rw [h]; rfl)
    obtain ⟨x', rfl, fx⟩ := good_one f (by rw [h']; rfl)
    rw [w_5 a x h, w_5 b x' h'] at hh
    simp only [List.cons_append, List.append_assoc, List.nil_append, List.cons.injEq, true_and] at hh
    obtain ⟨ex, h3⟩ := ih x (by simp) x' _ _ gx fx hh
    simp only [List.cons.injEq, true_and] at h3
    have ek : a.kh.put = b.kh.put := by
      refine kh_eq g0.1 f0.1 hkk ?_ ?_ ?_ ?_ ?_ ?_ ?_ ?_ ?_ ?_ <;> (intro hq; first | assumption | (exfalso; rw [h] at hq; revert hq; decide))
    simp only [List.map_cons, List.map_nil]
    rw [ek, ex]
    exact ⟨rfl, h3⟩
  · have h' : b.kind = 6 := by omega
    obtain ⟨x, rfl, gx⟩ := good_one g (by rw [h]; rfl)
    obtain ⟨x', rfl, fx⟩ := good_one f (by rw [h']; rfl)
    rw [w_6 a x h g0.1.ok.rho, w_6 b x' h' f0.1.ok.rho] at hh
    simp only [List.cons_append, List.append_assoc, List.nil_append, List.cons.injEq, true_and] at hh
    obtain ⟨ex, h3⟩ := ih x (by simp) x' _ _ gx fx hh
    simp only [List.cons.injEq, true_and] at h3
    have e1 : a.rho = b.rho := decB_inj g0.1.ok.rho f0.1.ok.rho h3.1
    have ek : a.kh.put = b.kh.put := by
      refine kh_eq g0.1 f0.1 hkk ?_ ?_ ?_ ?_ ?_ ?_ ?_ ?_ ?_ ?_ <;> (intro hq; first | assumption | (exfalso; rw [h] at hq; revert hq; decide))
    simp only [List.map_cons, List.map_nil]
    rw [ek, ex]
    exact ⟨rfl, h3.2⟩
  · have h' : b.kind = 7 := by omega
    obtain ⟨x, rfl, gx⟩ := good_one g (by rw [h]; rfl)
    obtain ⟨x', rfl, fx⟩ := good_one f (by rw [h']; rfl)
    rw [w_7 a x h, w_7 b x' h'] at hh
    simp only [List.cons_append, List.append_assoc, List.nil_append, List.cons.injEq, true_and] at hh
    obtain ⟨ex, h3⟩ := ih x (by simp) x' _ _ gx fx hh
    simp only [List.cons.injEq, true_and] at h3
    have ek : a.kh.put = b.kh.put := by
      refine kh_eq g0.1 f0.1 hkk ?_ ?_ ?_ ?_ ?_ ?_ ?_ ?_ ?_ ?_ <;> (intro hq; first | assumption | (exfalso; rw [h] at hq; revert hq; decide))
    simp only [List.map_cons, List.map_nil]
    rw [ek, ex]
    exact ⟨rfl, h3⟩
  · have h' : b.kind = 11 := by omega
    obtain ⟨x, rfl, gx⟩ := good_one g (by rw [h]; rfl)
    obtain ⟨x', rfl, fx⟩ := good_one f (by rw [h']; rfl)
    rw [w_11 a x h g0.1.ok.rho (g0.1.ok.arg (.inl h)) g0.1.ok.eff, w_11 b x' h' f0.1.ok.rho (f0.1.ok.arg (.inl h')) f0.1.ok.eff] at hh
    simp only [List.cons_append, List.append_assoc, List.nil_append, List.cons.injEq, true_and] at hh
    obtain ⟨e1, hh⟩ := hh
    obtain ⟨e2, h3⟩ := wT_inj _ _ _ _ (g0.1.ok.ty (by rw [h]; rfl)) (f0.1.ok.ty (by rw [h']; rfl)) hh
    simp only [List.cons.injEq, true_and] at h3
    obtain ⟨e3, _, h4⟩ := wE_inj _ _ _ _ _ _ (mayB_all g0.1.ok.eff) (mayB_all f0.1.ok.eff) (by decide) (by decide) h3
    obtain ⟨ex, h5⟩ := ih x (by simp) x' _ _ gx fx h4
    simp only [List.cons.injEq, true_and] at h5
    have e4 : a.rho = b.rho := decB_inj g0.1.ok.rho f0.1.ok.rho h5.1
    have ek : a.kh.put = b.kh.put := by
      refine kh_eq g0.1 f0.1 hkk ?_ ?_ ?_ ?_ ?_ ?_ ?_ ?_ ?_ ?_ <;> (intro hq; first | assumption | (exfalso; rw [h] at hq; revert hq; decide))
    simp only [List.map_cons, List.map_nil]
    rw [ek, ex]
    exact ⟨rfl, h5.2⟩
  · have h' : b.kind = 12 := by omega
    obtain ⟨x, y, rfl, gx, gy⟩ := good_two g (by rw [h]; rfl)
    obtain ⟨x', y', rfl, fx, fy⟩ := good_two f (by rw [h']; rfl)
    rw [w_12 a x y h (g0.1.ok.name (.inr (.inl h))), w_12 b x' y' h' (f0.1.ok.name (.inr (.inl h')))] at hh
    simp only [List.cons_append, List.append_assoc, List.nil_append, List.cons.injEq, true_and] at hh
    obtain ⟨e1, hh⟩ := hh
    obtain ⟨ex, h3⟩ := ih x (by simp) x' _ _ gx fx hh
    simp only [List.cons.injEq, true_and] at h3
    obtain ⟨ey, h4⟩ := ih y (by simp) y' _ _ gy fy h3
    simp only [List.cons.injEq, true_and] at h4
    have ek : a.kh.put = b.kh.put := by
      refine kh_eq g0.1 f0.1 hkk ?_ ?_ ?_ ?_ ?_ ?_ ?_ ?_ ?_ ?_ <;> (intro hq; first | assumption | (exfalso; rw [h] at hq; revert hq; decide))
    simp only [List.map_cons, List.map_nil]
    rw [ek, ex, ey]
    exact ⟨rfl, h4⟩
  · have h' : b.kind = 13 := by omega
    obtain ⟨x, y, rfl, gx, gy⟩ := good_two g (by rw [h]; rfl)
    obtain ⟨x', y', rfl, fx, fy⟩ := good_two f (by rw [h']; rfl)
    rw [w_13 a x y h g0.1.ok.rho (g0.1.ok.name (.inr (.inr (.inl h)))) (g0.1.ok.arg (.inr (.inl h))) g0.1.ok.eff g0.1.ok.rhos, w_13 b x' y' h' f0.1.ok.rho (f0.1.ok.name (.inr (.inr (.inl h')))) (f0.1.ok.arg (.inr (.inl h'))) f0.1.ok.eff f0.1.ok.rhos] at hh
    simp only [List.cons_append, List.append_assoc, List.nil_append, List.cons.injEq, true_and] at hh
    obtain ⟨e1, hh⟩ := hh
    obtain ⟨e2, h2⟩ := rhos_inj _ _ _ _ g0.1.ok.rhos f0.1.ok.rhos hh
    simp only [List.cons.injEq, true_and] at h2
    obtain ⟨e3, h2⟩ := h2
    obtain ⟨e4, h3⟩ := wT_inj _ _ _ _ (g0.1.ok.ty (by rw [h]; rfl)) (f0.1.ok.ty (by rw [h']; rfl)) h2
    simp only [List.cons.injEq, true_and] at h3
    obtain ⟨e5, h4⟩ := wT_inj _ _ _ _ (g0.1.ok.res h) (f0.1.ok.res h') h3
    simp only [List.cons.injEq, true_and] at h4
    obtain ⟨e6, _, h5⟩ := wE_inj _ _ _ _ _ _ (mayB_all g0.1.ok.eff) (mayB_all f0.1.ok.eff) (by decide) (by decide) h4
    obtain ⟨ex, h6⟩ := ih x (by simp) x' _ _ gx fx h5
    simp only [List.cons.injEq, true_and] at h6
    obtain ⟨h6, h7⟩ := h6
    have e7 : a.rho = b.rho := decB_inj g0.1.ok.rho f0.1.ok.rho h6
    obtain ⟨ey, h8⟩ := ih y (by simp) y' _ _ gy fy h7
    simp only [List.cons.injEq, true_and] at h8
    have ek : a.kh.put = b.kh.put := by
      refine kh_eq g0.1 f0.1 hkk ?_ ?_ ?_ ?_ ?_ ?_ ?_ ?_ ?_ ?_ <;> (intro hq; first | assumption | (exfalso; rw [h] at hq; revert hq; decide))
    simp only [List.map_cons, List.map_nil]
    rw [ek, ex, ey]
    exact ⟨rfl, h8⟩
  · have h' : b.kind = 14 := by omega
    obtain ⟨x, y, z, rfl, gx, gy, gz⟩ := good_three g (by rw [h]; rfl)
    obtain ⟨x', y', z', rfl, fx, fy, fz⟩ := good_three f (by rw [h']; rfl)
    rw [w_14 a x y z h, w_14 b x' y' z' h'] at hh
    simp only [List.cons_append, List.append_assoc, List.nil_append, List.cons.injEq, true_and] at hh
    obtain ⟨ex, h3⟩ := ih x (by simp) x' _ _ gx fx hh
    simp only [List.cons.injEq, true_and] at h3
    obtain ⟨ey, h4⟩ := ih y (by simp) y' _ _ gy fy h3
    simp only [List.cons.injEq, true_and] at h4
    obtain ⟨ez, h5⟩ := ih z (by simp) z' _ _ gz fz h4
    simp only [List.cons.injEq, true_and] at h5
    have ek : a.kh.put = b.kh.put := by
      refine kh_eq g0.1 f0.1 hkk ?_ ?_ ?_ ?_ ?_ ?_ ?_ ?_ ?_ ?_ <;> (intro hq; first | assumption | (exfalso; rw [h] at hq; revert hq; decide))
    simp only [List.map_cons, List.map_nil]
    rw [ek, ex, ey, ez]
    exact ⟨rfl, h5⟩
  · have h' : b.kind = 15 := by omega
    obtain ⟨x, rfl, gx⟩ := good_one g (by rw [h]; rfl)
    obtain ⟨x', rfl, fx⟩ := good_one f (by rw [h']; rfl)
    rw [w_15 a x h (g0.1.ok.exn (.inl h)), w_15 b x' h' (f0.1.ok.exn (.inl h'))] at hh
    simp only [List.cons_append, List.append_assoc, List.nil_append, List.cons.injEq, true_and] at hh
    obtain ⟨e1, hh⟩ := hh
    obtain ⟨ex, h3⟩ := ih x (by simp) x' _ _ gx fx hh
    simp only [List.cons.injEq, true_and] at h3
    obtain ⟨e2, h4⟩ := wT_inj _ _ _ _ (g0.1.ok.ty (by rw [h]; rfl)) (f0.1.ok.ty (by rw [h']; rfl)) h3
    simp only [List.cons.injEq, true_and] at h4
    have ek : a.kh.put = b.kh.put := by
      refine kh_eq g0.1 f0.1 hkk ?_ ?_ ?_ ?_ ?_ ?_ ?_ ?_ ?_ ?_ <;> (intro hq; first | assumption | (exfalso; rw [h] at hq; revert hq; decide))
    simp only [List.map_cons, List.map_nil]
    rw [ek, ex]
    exact ⟨rfl, h4⟩
  · have h' : b.kind = 16 := by omega
    obtain ⟨x, y, rfl, gx, gy⟩ := good_two g (by rw [h]; rfl)
    obtain ⟨x', y', rfl, fx, fy⟩ := good_two f (by rw [h']; rfl)
    rw [w_16 a x y h (g0.1.ok.exn (.inr h)) (g0.1.ok.arg (.inr (.inr h))), w_16 b x' y' h' (f0.1.ok.exn (.inr h')) (f0.1.ok.arg (.inr (.inr h')))] at hh
    simp only [List.cons_append, List.append_assoc, List.nil_append, List.cons.injEq, true_and] at hh
    obtain ⟨ex, h3⟩ := ih x (by simp) x' _ _ gx fx hh
    simp only [List.cons.injEq, true_and] at h3
    obtain ⟨e1, e2, h3⟩ := h3
    obtain ⟨ey, h4⟩ := ih y (by simp) y' _ _ gy fy h3
    simp only [List.cons.injEq, true_and] at h4
    have ek : a.kh.put = b.kh.put := by
      refine kh_eq g0.1 f0.1 hkk ?_ ?_ ?_ ?_ ?_ ?_ ?_ ?_ ?_ ?_ <;> (intro hq; first | assumption | (exfalso; rw [h] at hq; revert hq; decide))
    simp only [List.map_cons, List.map_nil]
    rw [ek, ex, ey]
    exact ⟨rfl, h4⟩
  · have h' : b.kind = 17 := by omega
    obtain ⟨x, rfl, gx⟩ := good_one g (by rw [h]; rfl)
    obtain ⟨x', rfl, fx⟩ := good_one f (by rw [h']; rfl)
    rw [w_17 a x h g0.1.ok.rho, w_17 b x' h' f0.1.ok.rho] at hh
    simp only [List.cons_append, List.append_assoc, List.nil_append, List.cons.injEq, true_and] at hh
    obtain ⟨h2, hh⟩ := hh
    have e1 : a.rho = b.rho := decB_inj g0.1.ok.rho f0.1.ok.rho h2
    obtain ⟨ex, h3⟩ := ih x (by simp) x' _ _ gx fx hh
    simp only [List.cons.injEq, true_and] at h3
    have ek : a.kh.put = b.kh.put := by
      refine kh_eq g0.1 f0.1 hkk ?_ ?_ ?_ ?_ ?_ ?_ ?_ ?_ ?_ ?_ <;> (intro hq; first | assumption | (exfalso; rw [h] at hq; revert hq; decide))
    simp only [List.map_cons, List.map_nil]
    rw [ek, ex]
    exact ⟨rfl, h3⟩
  · have h' : b.kind = 18 := by omega
    obtain rfl := good_nil g (by rw [h]; rfl)
    obtain rfl := good_nil f (by rw [h']; rfl)
    rw [w_18 a _ h g0.1.ok.rho (g0.1.ok.name (.inr (.inr (.inr h)))) g0.1.ok.eff g0.1.ok.rhos, w_18 b _ h' f0.1.ok.rho (f0.1.ok.name (.inr (.inr (.inr h')))) f0.1.ok.eff f0.1.ok.rhos] at hh
    simp only [List.cons_append, List.append_assoc, List.nil_append, List.cons.injEq, true_and] at hh
    obtain ⟨e1, hh⟩ := hh
    obtain ⟨e2, h2⟩ := rhos_inj _ _ _ _ g0.1.ok.rhos f0.1.ok.rhos hh
    simp only [List.cons.injEq, true_and] at h2
    obtain ⟨e6, _, h5⟩ := wE_inj _ _ _ _ _ _ (mayB_all g0.1.ok.eff) (mayB_all f0.1.ok.eff) (by decide) (by decide) h2
    simp only [List.cons.injEq, true_and] at h5
    have e7 : a.rho = b.rho := decB_inj g0.1.ok.rho f0.1.ok.rho h5.1
    have ek : a.kh.put = b.kh.put := by
      refine kh_eq g0.1 f0.1 hkk ?_ ?_ ?_ ?_ ?_ ?_ ?_ ?_ ?_ ?_ <;> (intro hq; first | assumption | (exfalso; rw [h] at hq; revert hq; decide))
    rw [ek]
    exact ⟨rfl, h5.2⟩
end Go.Proofs.YtdlbjngpohkglaaGreatDoor
end
