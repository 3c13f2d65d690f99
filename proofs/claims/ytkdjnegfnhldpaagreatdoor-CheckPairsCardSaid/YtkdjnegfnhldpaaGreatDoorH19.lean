/- Part 19: Cp1, Cp2, Cp3. -/
import Derived.Test.YtkdjnegfnhldpaaGreatDoorH18
set_option linter.unusedVariables false
set_option maxRecDepth 100000
set_option linter.unusedSimpArgs false
namespace Go.Proofs.YtkdjnegfnhldpaaGreatDoor
section
open Go.RowKit
theorem mustP_ok {b : Bool} {a : LAH} {no : Int} {r : ChkR} {x : TE} : mustP b a no r = .ok x ↔ b = true ∧ r = .ok x := by
  unfold mustP errP
  cases b <;> simp
theorem sizeP_ok {a : LAH} {r : ChkR} {x : TE} : sizeP a r = .ok x ↔ r = .ok x ∧ x.1.size ≤ 500 := by
  unfold sizeP
  cases r with
  | error e => simp
  | ok y =>
    simp only [mustP_ok, decide_eq_true_eq, Except.ok.injEq]
    constructor
    · rintro ⟨h, rfl⟩; exact ⟨rfl, h⟩
    · rintro ⟨rfl, h⟩; exact ⟨h, rfl⟩
theorem chkL_ok {env : List Bnd} {rhos : List Int} {a : LAH} : ∀ (l : List AT) (i : Nat) (acc ks : List TE), chkL env rhos a i acc l = .ok ks →
    ∃ rs, ks = acc ++ rs ∧ rs.length = l.length ∧ ∀ j t, l[j]? = some t → ∃ r, rs[j]? = some r ∧ chk (innerE env a (i + j) (acc ++ rs.take j)) (innerR rhos a (i + j)) t = .ok r
  | [], i, acc, ks, h => by
    rw [chkL_nil] at h; cases h; exact ⟨[], by simp, rfl, fun j t h => by simp at h⟩
  | t :: l, i, acc, ks, h => by
    rw [chkL_cons] at h
    cases hr : chk (innerE env a i acc) (innerR rhos a i) t with
    | error e => rw [hr] at h; cases h
    | ok r =>
      rw [hr] at h
      obtain ⟨rs, rfl, hl, hj⟩ := chkL_ok l (i + 1) (acc ++ [r]) ks h
      refine ⟨r :: rs, by simp, by simp [hl], fun j u hu => ?_⟩
      cases j with
      | zero => simp at hu; subst hu; exact ⟨r, rfl, by simpa using hr⟩
      | succ j =>
        obtain ⟨r', h1, h2⟩ := hj j u (by simpa using hu)
        refine ⟨r', by simpa using h1, ?_⟩
        have e1 : i + (j + 1) = i + 1 + j := by omega
        rw [e1]
        simpa using h2
theorem chkL_of {env : List Bnd} {rhos : List Int} {a : LAH} : ∀ (l : List AT) (i : Nat) (acc rs : List TE), rs.length = l.length →
    (∀ j t, l[j]? = some t → ∃ r, rs[j]? = some r ∧ chk (innerE env a (i + j) (acc ++ rs.take j)) (innerR rhos a (i + j)) t = .ok r) → chkL env rhos a i acc l = .ok (acc ++ rs)
  | [], i, acc, rs, hl, _ => by
    have : rs = [] := List.length_eq_zero_iff.1 (by simpa using hl)
    subst this
    rw [chkL_nil, List.append_nil]
  | t :: l, i, acc, [], hl, _ => by simp at hl
  | t :: l, i, acc, r :: rs, hl, h => by
    rw [chkL_cons]
    obtain ⟨r', h1, h2⟩ := h 0 t rfl
    simp at h1
    subst h1
    simp only [Nat.add_zero, List.take_zero, List.append_nil] at h2
    rw [h2]
    have := chkL_of l (i + 1) (acc ++ [r]) rs (by simpa using hl) (fun j u hu => by
      obtain ⟨r', h1, h2⟩ := h (j + 1) u (by simpa using hu)
      refine ⟨r', by simpa using h1, ?_⟩
      have e1 : i + (j + 1) = i + 1 + j := by omega
      rw [e1] at h2
      simpa using h2)
    simpa using this
theorem found_ok {env : List Bnd} {rhos : List Int} {a : LAH} {l : List AT} {x : TE} : foundP env rhos a l = .ok x ↔ regionsB a rhos = true ∧
    ((a.kind = 2 ∧ varP env a = .ok x) ∨ (a.kind = 18 ∧ instP env a = .ok x) ∨ (a.kind ≠ 2 ∧ a.kind ≠ 18 ∧ ∃ ks, chkL env rhos a 0 [] l = .ok ks ∧ ruleP a ks = .ok x)) := by
  unfold foundP
  rw [mustP_ok]
  refine and_congr_right (fun _ => ?_)
  by_cases h2 : a.kind = 2
  · simp [h2]
  · by_cases h18 : a.kind = 18
    · simp [h18]
    · rw [if_neg h2, if_neg h18]
      simp only [h2, h18, false_and, false_or, not_false_eq_true, true_and, ne_eq]
      cases h : chkL env rhos a 0 [] l with
      | error e => simp
      | ok ks => simp
theorem chk_ok {env : List Bnd} {rhos : List Int} {a : LAH} {l : List AT} {x : TE} : chk env rhos (.node a l) = .ok x ↔ foundP env rhos a l = .ok x ∧ x.1.size ≤ 500 := by
  rw [chk_node, sizeP_ok]
theorem scopedB_iff (rhos l : List Int) : scopedB rhos l = true ↔ ∀ z ∈ l, z ∈ rhos := by
  unfold scopedB
  rw [List.all_eq_true]
  exact forall_congr' (fun z => forall_congr' (fun _ => inN_mem' rhos z))
theorem regionsB_iff (a : LAH) (rhos : List Int) : regionsB a rhos = true ↔ (a.kind = 17 ∨ a.rho ∈ rhos) ∧ (a.kind = 18 → ∀ z ∈ a.rhos, z ∈ rhos) ∧
    (∀ z ∈ rhosOf a.eff, z ∈ rhos ∨ a.kind = 13 ∧ z ∈ a.rhos) ∧ (∀ z, z ∈ gathT a.ty ∨ z ∈ gathT a.res → z ∈ rhos ∨ a.kind = 13 ∧ z ∈ a.rhos) := by
  unfold regionsB
  simp only [Bool.and_eq_true, Bool.or_eq_true, decide_eq_true_eq, Bool.not_eq_true', decide_eq_false_iff_not, scopedB_iff, inN_mem']
  have e : ∀ z, (z ∈ (if a.kind = 13 then rhos ++ a.rhos else rhos)) ↔ (z ∈ rhos ∨ a.kind = 13 ∧ z ∈ a.rhos) := fun z => by
    split <;> rename_i h <;> simp [h]
  simp only [e, mem_sortI, List.mem_append]
  constructor
  · rintro ⟨⟨h1, h2⟩, h3, h4⟩
    exact ⟨h1, fun hk => h2.resolve_left (fun h => h hk), h3, h4⟩
  · rintro ⟨h1, h2, h3, h4⟩
    refine ⟨⟨h1, ?_⟩, h3, h4⟩
    by_cases hk : a.kind = 18
    · exact .inr (h2 hk)
    · exact .inl hk
inductive RuleOk (a : LAH) (l : List TE) : TE → Prop where
  | pair (h : a.kind = 3) : RuleOk a l (tyP 2 a.rho [] [(l.getD 0 dTE).1, (l.getD 1 dTE).1], allE l [aPut a.rho])
  | proj (h : a.kind = 4 ∨ a.kind = 5) (ht : isK 2 (l.getD 0 dTE) = true) : RuleOk a l ((l.getD 0 dTE).1.kids.getD (a.kind - 4).toNat tZero, allE l [aGet (l.getD 0 dTE).1.head.rho])
  | ref (h : a.kind = 6) : RuleOk a l (tyP 3 a.rho [] [(l.getD 0 dTE).1], allE l [aPut a.rho])
  | get (h : a.kind = 7) (ht : isK 3 (l.getD 0 dTE) = true) : RuleOk a l ((l.getD 0 dTE).1.kids.getD 0 tZero, allE l [aGet (l.getD 0 dTE).1.head.rho])
  | set (h : a.kind = 8) (ht : isK 3 (l.getD 0 dTE) = true) (hs : sameR ((l.getD 0 dTE).1.kids.getD 0 tZero) (l.getD 1 dTE).1 = true) : RuleOk a l (tInt, allE l [aPut (l.getD 0 dTE).1.head.rho])
  | app (h : a.kind = 10) (ht : isK 4 (l.getD 0 dTE) = true) (hs : sameR ((l.getD 0 dTE).1.kids.getD 0 tZero) (l.getD 1 dTE).1 = true) :
      RuleOk a l ((l.getD 0 dTE).1.kids.getD 1 tZero, effL (allE l [aGet (l.getD 0 dTE).1.head.rho] ++ (l.getD 0 dTE).1.head.eff))
  | op (h : a.kind = 9) (ht : l.all (isK 1) = true) : RuleOk a l (tInt, allE l [])
  | ite (h : a.kind = 14) (ht : isK 1 (l.getD 0 dTE) = true) (hs : sameR (l.getD 1 dTE).1 (l.getD 2 dTE).1 = true) : RuleOk a l ((l.getD 1 dTE).1, allE l [])
  | raise (h : a.kind = 15) (ht : l.all (isK 1) = true) : RuleOk a l (a.ty, allE l [aExn a.exn])
  | num (h : a.kind = 1) : RuleOk a l (tInt, allE l [])
  | fn (h : a.kind = 11) (hw : withinB (l.getD 0 dTE).2 a.eff = true) : RuleOk a l (tyP 4 a.rho a.eff [a.ty, (l.getD 0 dTE).1], effL [aPut a.rho])
  | letrec (h : a.kind = 13) (hs : sameR (l.getD 0 dTE).1 a.res = true) (hw : withinB (l.getD 0 dTE).2 a.eff = true) : RuleOk a l ((l.getD 1 dTE).1, allE (l.drop 1) [aPut a.rho])
  | handle (h : a.kind = 16) (hs : sameR (l.getD 0 dTE).1 (l.getD 1 dTE).1 = true) : RuleOk a l ((l.getD 0 dTE).1, effL (handledL (l.getD 0 dTE).2 [a.exn] ++ (l.getD 1 dTE).2))
  | region (h : a.kind = 17) (hn : inN (sortI (gathT (l.getD 0 dTE).1)) a.rho = false) : RuleOk a l ((l.getD 0 dTE).1, withoutL (l.getD 0 dTE).2 [a.rho])
  | other (h : a.kind ∉ [(1 : Int), 3, 4, 5, 6, 7, 8, 9, 10, 11, 13, 14, 15, 16, 17]) : RuleOk a l ((l.getD 1 dTE).1, allE l [])
theorem ruleP_ok {a : LAH} {l : List TE} {x : TE} : ruleP a l = .ok x ↔ RuleOk a l x := by
  constructor
  · intro h
    unfold ruleP bindsP at h
    dsimp only at h
    by_cases k : a.kind = 3
    · rw [if_pos k] at h; cases h; exact .pair k
    rw [if_neg k] at h
    have k3 := k
    clear k
    by_cases k : a.kind = 4 ∨ a.kind = 5
    · rw [if_pos k] at h; rw [mustP_ok] at h; obtain ⟨h1, h2⟩ := h; cases h2; exact .proj k h1
    rw [if_neg k] at h
    have k45 := k
    clear k
    by_cases k : a.kind = 6
    · rw [if_pos k] at h; cases h; exact .ref k
    rw [if_neg k] at h
    have k6 := k
    clear k
    by_cases k : a.kind = 7
    · rw [if_pos k] at h; rw [mustP_ok] at h; obtain ⟨h1, h2⟩ := h; cases h2; exact .get k h1
    rw [if_neg k] at h
    have k7 := k
    clear k
    by_cases k : a.kind = 8
    · rw [if_pos k] at h; rw [mustP_ok, Bool.and_eq_true] at h; obtain ⟨⟨h1, h3⟩, h2⟩ := h; cases h2; exact .set k h1 h3
    rw [if_neg k] at h
    have k8 := k
    clear k
    by_cases k : a.kind = 10
    · rw [if_pos k] at h; rw [mustP_ok, Bool.and_eq_true] at h; obtain ⟨⟨h1, h3⟩, h2⟩ := h; cases h2; exact .app k h1 h3
    rw [if_neg k] at h
    have k10 := k
    clear k
    by_cases k : a.kind = 9
    · rw [if_pos k] at h; rw [mustP_ok] at h; obtain ⟨h1, h2⟩ := h; cases h2; exact .op k h1
    rw [if_neg k] at h
    have k9 := k
    clear k
    by_cases k : a.kind = 14
    · rw [if_pos k] at h; rw [mustP_ok, Bool.and_eq_true] at h; obtain ⟨⟨h1, h3⟩, h2⟩ := h; cases h2; exact .ite k h1 h3
    rw [if_neg k] at h
    have k14 := k
    clear k
    by_cases k : a.kind = 15
    · rw [if_pos k] at h; rw [mustP_ok] at h; obtain ⟨h1, h2⟩ := h; cases h2; exact .raise k h1
    rw [if_neg k] at h
    have k15 := k
    clear k
    by_cases k : a.kind = 1
    · rw [if_pos k] at h; cases h; exact .num k
    rw [if_neg k] at h
    have k1 := k
    clear k
    by_cases k : a.kind = 11
    · rw [if_pos k] at h; rw [mustP_ok] at h; obtain ⟨h1, h2⟩ := h; cases h2; exact .fn k h1
    rw [if_neg k] at h
    have k11 := k
    clear k
    by_cases k : a.kind = 13
    · rw [if_pos k] at h; rw [mustP_ok, mustP_ok] at h; obtain ⟨h1, h3, h2⟩ := h; cases h2; exact .letrec k h1 h3
    rw [if_neg k] at h
    have k13 := k
    clear k
    by_cases k : a.kind = 16
    · rw [if_pos k] at h; rw [mustP_ok] at h; obtain ⟨h1, h2⟩ := h; cases h2; exact .handle k h1
    rw [if_neg k] at h
    have k16 := k
    clear k
    by_cases k : a.kind = 17
    · rw [if_pos k] at h; rw [mustP_ok] at h; obtain ⟨h1, h2⟩ := h; cases h2; exact .region k (by simpa using h1)
    rw [if_neg k] at h
    have k17 := k
    clear k
    cases h
    refine .other ?_
    simp only [List.mem_cons, List.not_mem_nil, or_false, not_or]
    refine ⟨?_, ?_, ?_, ?_, ?_, ?_, ?_, ?_, ?_, ?_, ?_, ?_, ?_, ?_, ?_⟩ <;> first | assumption | omega
  · intro h
    unfold ruleP bindsP
    cases h with
    | proj k ht =>
      have h3 : a.kind ≠ 3 := by omega
      rw [if_neg h3, if_pos k, mustP_ok]
      exact ⟨ht, rfl⟩
    | other k =>
      simp only [List.mem_cons, List.not_mem_nil, or_false, not_or] at k
      obtain ⟨k1, k3, k4, k5, k6, k7, k8, k9, k10, k11, k13, k14, k15, k16, k17⟩ := k
      simp [k1, k3, k4, k5, k6, k7, k8, k9, k10, k11, k13, k14, k15, k16, k17]
    | _ => simp_all [mustP_ok]
theorem mem_effL (l : List Atom) (x : Atom) : x ∈ effL l ↔ x ∈ l ∧ atomB x = true := by
  rw [mem_sortA, List.mem_filter]
structure RIn (rhos : List Int) (x : TE) : Prop where
  ty : ∀ z ∈ gathT x.1, z ∈ rhos
  eff : ∀ z ∈ rhosOf x.2, z ∈ rhos
theorem gath_tZero : gathT tZero = [0] := rfl
theorem RIn.zero {rhos : List Int} (h0 : (0 : Int) ∈ rhos) : RIn rhos dTE := ⟨fun z hz => by
  have : z = 0 := by simpa [dTE, gath_tZero] using hz
  subst this; exact h0, fun z hz => by simp [dTE, rhosOf, sortI, sortR] at hz⟩
theorem mem_swL {f t : List Int} {l : List Atom} {x : Atom} (h : x ∈ swL f t l) : ∃ y ∈ l, atomB y = true ∧ x = swA f t y ∧ atomB x = true := by
  unfold swL at h
  rw [mem_sortA, List.mem_filter, List.mem_map] at h
  obtain ⟨⟨y, hy, rfl⟩, h2⟩ := h
  rw [mem_sortA, List.mem_filter] at hy
  exact ⟨y, hy.1, hy.2, rfl, h2⟩
structure BIn (rhos : List Int) (b : Bnd) : Prop where
  ty : ∀ z ∈ gathT b.ty, z ∈ rhos
  fn : ∀ f, b.fn = some f → f.rho ∈ rhos ∧ (∀ z ∈ rhosOf f.eff, z ∈ rhos ∨ z ∈ f.rhos) ∧ ∀ z, z ∈ gathT f.ty ∨ z ∈ gathT f.res → z ∈ rhos ∨ z ∈ f.rhos
theorem BIn.mono {rhos rhos' : List Int} {b : Bnd} (h : BIn rhos b) (hr : ∀ z ∈ rhos, z ∈ rhos') : BIn rhos' b :=
  ⟨fun z hz => hr z (h.ty z hz), fun f hf => ⟨hr _ (h.fn f hf).1, fun z hz => ((h.fn f hf).2.1 z hz).imp (hr z) id, fun z hz => ((h.fn f hf).2.2 z hz).imp (hr z) id⟩⟩
theorem findP_mem {env : List Bnd} {x : ByteArray} {b : Bnd} (h : findP env x = some b) : b ∈ env ∧ b.name = x := by
  unfold findP at h
  exact ⟨List.mem_reverse.1 (List.mem_of_find?_eq_some h), by simpa using List.find?_some h⟩
end
section
open Go.RowKit
theorem mayB_of : ∀ {l : List Atom}, Rising Atom.lt l → (∀ x ∈ l, atomB x = true) → mayB l = true
  | [], _, _ => rfl
  | [a], _, h => h a (by simp)
  | a :: b :: l, hr, h => by
    have hr' := List.pairwise_cons.1 hr
    simp only [mayB, Bool.and_eq_true]
    exact ⟨⟨h a (by simp), hr'.1 b (by simp)⟩, mayB_of hr'.2 (fun x hx => h x (by simp [hx]))⟩
theorem mayB_atoms : ∀ {l : List Atom}, mayB l = true → Rising Atom.lt l ∧ ∀ x ∈ l, atomB x = true
  | [], _ => ⟨List.Pairwise.nil, by simp⟩
  | [a], h => ⟨List.pairwise_singleton _ _, by intro x hx; rw [List.mem_singleton] at hx; subst hx; exact h⟩
  | a :: b :: l, h => by
    simp only [mayB, Bool.and_eq_true] at h
    obtain ⟨⟨h1, h2⟩, h3⟩ := h
    obtain ⟨h4, h5⟩ := mayB_atoms h3
    refine ⟨List.pairwise_cons.2 ⟨fun x hx => ?_, h4⟩, fun x hx => ?_⟩
    · rcases List.mem_cons.1 hx with rfl | hx
      · exact h2
      · exact Atom.lt_trans h2 ((List.pairwise_cons.1 h4).1 x hx)
    · rcases List.mem_cons.1 hx with rfl | hx
      · exact h1
      · exact h5 x hx
theorem effL_can {l : List Atom} (h : mayB l = true) : effL l = l := by
  obtain ⟨h1, h2⟩ := mayB_atoms h
  exact (eq_sortA h1 (fun a => by rw [List.mem_filter]; exact ⟨fun hx => ⟨hx, h2 a hx⟩, And.left⟩)).symm
theorem mayB_effL (l : List Atom) : mayB (effL l) = true := mayB_of (rising_sortA _) (fun x hx => ((mem_effL _ _).1 hx).2)
theorem effL_nil : effL [] = [] := rfl
theorem effL_idem (l : List Atom) : effL (effL l) = effL l := effL_can (mayB_effL l)
theorem effL_congr {l m : List Atom} (h : ∀ x, atomB x = true → (x ∈ l ↔ x ∈ m)) : effL l = effL m := sortA_congr (fun x => by
  rw [List.mem_filter, List.mem_filter]
  exact and_congr_left (fun hx => h x hx))
theorem mayB_filter {l : List Atom} (q : Atom → Bool) (h : mayB l = true) : mayB (l.filter q) = true := by
  obtain ⟨h1, h2⟩ := mayB_atoms h
  exact mayB_of (List.Pairwise.filter _ h1) (fun x hx => h2 x (List.mem_filter.1 hx).1)
theorem effL_len0 (l : List Atom) : (effL l).length ≤ l.length := Nat.le_trans (sortR_length _ _) (List.length_filter_le _ _)
theorem withoutL_length (l : List Atom) (r : List Int) : (withoutL l r).length ≤ l.length := Nat.le_trans (List.length_filter_le _ _) (effL_len0 l)
theorem handledL_length (l : List Atom) (r : List ByteArray) : (handledL l r).length ≤ l.length := Nat.le_trans (List.length_filter_le _ _) (effL_len0 l)
structure GoodN (a : LAH) (n : Nat) : Prop where
  k1 : 1 ≤ a.kind
  k18 : a.kind ≤ 18
  kids : kidsI (if a.kind = 17 then 4 else if a.kind = 18 then 1 else a.kind) = n
  rho : 0 ≤ a.rho
  rhos : ∀ r ∈ a.rhos, 0 ≤ r
  eff : mayB a.eff = true
  gr : greatB a.eff = false
  ty : inB [11, 13, 15] a.kind = true → mayT a.ty = true
  res : a.kind = 13 → mayT a.res = true
  tys : SmallT a.ty 100
  ress : SmallT a.res 100
  exn : a.exn.size ≤ 100
  at0 : 0 ≤ a.at_
inductive GoodT : AT → Prop where
  | node (a : LAH) (l : List AT) (h : GoodN a l.length) (hl : ∀ t ∈ l, GoodT t) : GoodT (.node a l)
theorem GoodT.head {a : LAH} {l : List AT} (h : GoodT (.node a l)) : GoodN a l.length := by cases h; assumption
theorem GoodT.kid {a : LAH} {l : List AT} (h : GoodT (.node a l)) : ∀ t ∈ l, GoodT t := by cases h; assumption
structure GoodE (B : Nat) (x : TE) : Prop where
  may : mayT x.1 = true
  effs : effsOK x.1 = true
  can : mayB x.2 = true
  exn : ∀ a ∈ x.2, a.exn.size ≤ 100
  len : x.2.length ≤ B
theorem GoodE.mono {B B' : Nat} {x : TE} (h : GoodE B x) (hb : B ≤ B') : GoodE B' x := ⟨h.may, h.effs, h.can, h.exn, Nat.le_trans h.len hb⟩
structure GoodB (b : Bnd) : Prop where
  may : b.fn = none → mayT b.ty = true
  effs : effsOK b.ty = true
  fn : ∀ f, b.fn = some f → ∃ n, GoodN f n ∧ mayT f.ty = true ∧ mayT f.res = true
theorem greatB_iff (l : List Atom) : greatB l = false ↔ l.length ≤ 100 ∧ ∀ a ∈ l, a.exn.size ≤ 100 := by
  unfold greatB
  simp only [Bool.or_eq_false_iff, decide_eq_false_iff_not, Nat.not_lt, List.any_eq_false, decide_eq_true_eq]
theorem greatB_effL {l : List Atom} (h : greatB l = false) : greatB (effL l) = false := by
  rw [greatB_iff] at h ⊢
  exact ⟨Nat.le_trans (effL_len0 l) h.1, fun a ha => h.2 a ((mem_effL _ _).1 ha).1⟩
theorem greatB_swL {l : List Atom} (f t : List Int) (h : greatB l = false) : greatB (swL f t l) = false := by
  rw [greatB_iff] at h ⊢
  refine ⟨?_, fun a ha => ?_⟩
  · unfold swL
    refine Nat.le_trans (sortR_length _ _) (Nat.le_trans (List.length_filter_le _ _) ?_)
    rw [List.length_map]
    exact Nat.le_trans (effL_len0 l) h.1
  · obtain ⟨y, hy, _, rfl, _⟩ := mem_swL ha
    have := h.2 y hy
    unfold swA
    split <;> exact this
theorem mayB_swL (f t : List Int) (l : List Atom) : mayB (swL f t l) = true := mayB_effL _
theorem turnI_nonneg {r : Int} {f t : List Int} (hr : 0 ≤ r) (ht : ∀ z ∈ t, 0 ≤ z) : 0 ≤ turnI r f t := by
  rcases turnI_in r f t with h | h
  · rw [h]; exact hr
  · exact ht _ h
theorem nodeB_swH {a : LH} {n : Nat} {f t : List Int} (ht : ∀ z ∈ t, 0 ≤ z) (h : nodeB a n = true) : nodeB (swH f t a) n = true := by
  unfold nodeB swH at *
  by_cases h1 : a.kind = 1
  · simpa [h1] using h
  · have hnil : swL f t [] = [] := rfl
    simp only [h1, if_false] at h ⊢
    by_cases h2 : a.kind = 2
    · simp only [h2, if_true, Bool.and_eq_true, decide_eq_true_eq] at h ⊢
      exact ⟨⟨turnI_nonneg h.1.1 ht, by rw [h.1.2, hnil]⟩, h.2⟩
    · by_cases h3 : a.kind = 3
      · simp [h3] at h ⊢
        exact ⟨⟨turnI_nonneg h.1.1 ht, by rw [h.1.2, hnil]⟩, h.2⟩
      · by_cases h4 : a.kind = 4
        · simp [h4] at h ⊢
          exact ⟨⟨turnI_nonneg h.1.1 ht, mayB_swL f t _⟩, h.2⟩
        · simp [h2, h3, h4] at h
theorem mayT_swap {f t : List Int} (ht : ∀ z ∈ t, 0 ≤ z) (x : RT) : mayT x = true → mayT (swapT f t x) = true := by
  refine Rose.ind (P := fun (x : RT) => mayT x = true → mayT (swapT f t x) = true) (fun a l ih h => ?_) x
  rw [mayT_node, Bool.and_eq_true, List.all_eq_true] at h
  unfold swapT at ih ⊢
  rw [Rose.map_node, mayT_node, Bool.and_eq_true, List.length_map, List.all_map, List.all_eq_true]
  exact ⟨nodeB_swH ht h.1, fun u hu => ih u hu (h.2 u hu)⟩
theorem effsOK_swap (f t : List Int) (x : RT) : effsOK x = true → effsOK (swapT f t x) = true := by
  refine Rose.ind (P := fun (x : RT) => effsOK x = true → effsOK (swapT f t x) = true) (fun a l ih h => ?_) x
  rw [effsOK_node, Bool.and_eq_true, List.all_eq_true] at h
  unfold swapT at ih ⊢
  rw [Rose.map_node, effsOK_node, Bool.and_eq_true, List.all_map, List.all_eq_true]
  refine ⟨?_, fun u hu => ih u hu (h.2 u hu)⟩
  have h1 := h.1
  simp only [Bool.not_eq_true'] at h1 ⊢
  unfold swH
  split
  · exact h1
  · exact greatB_swL f t h1
theorem size_swap (f t : List Int) (x : RT) : (swapT f t x).size = x.size := Rose.size_map _ x
theorem mayT_kid {x : RT} {k : Int} {i : Nat} (h : mayT x = true) (hk : x.head.kind = k) (hi : (k = 2 ∨ k = 4) ∧ i < 2 ∨ k = 3 ∧ i < 1) : i < x.kids.length ∧ mayT (x.kids.getD i tZero) = true := by
  cases x with
  | node a l =>
    simp only [Rose.head, Rose.kids] at hk ⊢
    rw [mayT_node, Bool.and_eq_true, List.all_eq_true] at h
    obtain ⟨h1, h2⟩ := h
    have hlt : i < l.length := by
      unfold nodeB at h1
      rcases hi with ⟨rfl | rfl, hi⟩ | ⟨rfl, hi⟩
      · simp [hk] at h1; omega
      · simp [hk] at h1; omega
      · simp [hk] at h1; omega
    refine ⟨hlt, ?_⟩
    rw [List.getD_eq_getElem?_getD, List.getElem?_eq_getElem hlt]
    exact h2 _ (List.getElem_mem hlt)
theorem effsOK_kid {x : RT} {i : Nat} (h : effsOK x = true) : effsOK (x.kids.getD i tZero) = true := by
  cases x with
  | node a l =>
    rw [effsOK_node, Bool.and_eq_true, List.all_eq_true] at h
    simp only [Rose.kids]
    rw [List.getD_eq_getElem?_getD]
    cases hx : l[i]? with
    | none => rfl
    | some y => exact h.2 y (List.mem_of_getElem? hx)
theorem effsOK_head {x : RT} (h : effsOK x = true) : greatB x.head.eff = false := by
  cases x with
  | node a l =>
    rw [effsOK_node, Bool.and_eq_true] at h
    show greatB a.eff = false
    simpa using h.1
def sumE (l : List TE) : Nat := (l.map (fun y => y.2.length)).sum
theorem sumE_flat (l : List TE) : (l.flatMap (·.2)).length = sumE l := by
  unfold sumE; rw [List.length_flatMap]
theorem allE_length (l : List TE) (more : List Atom) : (allE l more).length ≤ more.length + sumE l := by
  unfold allE
  refine Nat.le_trans (effL_len0 _) ?_
  rw [List.length_append, sumE_flat]
  exact Nat.le_refl _
theorem sumE_get {l : List TE} (j : Nat) : (l.getD j dTE).2.length ≤ sumE l := by
  rw [List.getD_eq_getElem?_getD]
  cases h : l[j]? with
  | none => simp [dTE]
  | some y =>
    unfold sumE
    exact le_sum_of_mem (List.mem_map_of_mem (f := fun y : TE => y.2.length) (List.mem_of_getElem? h))
theorem sumE_drop (l : List TE) (k : Nat) : sumE (l.drop k) ≤ sumE l := by
  have h : sumE l = sumE (l.take k) + sumE (l.drop k) := by
    unfold sumE
    rw [← List.sum_append, ← List.map_append, List.take_append_drop]
  omega
theorem sumE_two (l : List TE) : (l.getD 0 dTE).2.length + (l.getD 1 dTE).2.length ≤ sumE l := by
  match l with
  | [] => simp [dTE, sumE]
  | [x] => simp [dTE, sumE]
  | x :: y :: l => simp [sumE] <;> omega
theorem allE_mem {l : List TE} {more : List Atom} {x : Atom} (h : x ∈ allE l more) : (x ∈ more ∨ ∃ y ∈ l, x ∈ y.2) ∧ atomB x = true := by
  unfold allE at h
  rw [mem_effL, List.mem_append, List.mem_flatMap] at h
  exact h
theorem mayT_ty2 {k rho : Int} {eff : List Atom} {x y : RT} (hk : k = 2 ∧ eff = [] ∨ k = 4) (hr : 0 ≤ rho) (hx : mayT x = true) (hy : mayT y = true) : mayT (tyP k rho eff [x, y]) = true := by
  unfold tyP
  rw [mayT_node, Bool.and_eq_true]
  refine ⟨?_, by simp [hx, hy]⟩
  rcases hk with ⟨rfl, rfl⟩ | rfl
  · simp [nodeB, hr, effL_nil]
  · simp [nodeB, hr]; exact mayB_effL eff
theorem effsOK_ty {k rho : Int} {eff : List Atom} {l : List RT} (he : greatB eff = false) (hl : ∀ x ∈ l, effsOK x = true) : effsOK (tyP k rho eff l) = true := by
  unfold tyP
  rw [effsOK_node, Bool.and_eq_true, List.all_eq_true]
  exact ⟨by rw [greatB_effL he]; rfl, hl⟩
theorem GoodN.two {a : LAH} {n : Nat} (h : GoodN a n) (hk : a.kind = 3 ∨ a.kind = 8 ∨ a.kind = 9 ∨ a.kind = 10 ∨ a.kind = 12 ∨ a.kind = 13 ∨ a.kind = 16) : n = 2 := by
  have := h.kids
  rcases hk with e | e | e | e | e | e | e <;> simp [e, kidsI] at this <;> omega
theorem GoodN.one {a : LAH} {n : Nat} (h : GoodN a n) (hk : a.kind = 4 ∨ a.kind = 5 ∨ a.kind = 6 ∨ a.kind = 7 ∨ a.kind = 11 ∨ a.kind = 15 ∨ a.kind = 17) : n = 1 := by
  have := h.kids
  rcases hk with e | e | e | e | e | e | e <;> simp [e, kidsI] at this <;> omega
theorem GoodN.three {a : LAH} {n : Nat} (h : GoodN a n) (hk : a.kind = 14) : n = 3 := by
  have := h.kids
  simp [hk, kidsI] at this; omega
theorem rule_good {a : LAH} {l : List TE} {x : TE} (ha : GoodN a l.length) (hl : ∀ y ∈ l, ∃ B, GoodE B y) (h2 : a.kind ≠ 2) (h18 : a.kind ≠ 18) (h : RuleOk a l x) : GoodE (sumE l + 102) x := by
  have hg : ∀ j, j < l.length → ∃ B, GoodE B (l.getD j dTE) := fun j hj => by
    rw [List.getD_eq_getElem?_getD, List.getElem?_eq_getElem hj]
    exact hl _ (List.getElem_mem hj)
  have hex : ∀ more : List Atom, (∀ x ∈ more, x.exn.size ≤ 100) → ∀ m : List TE, (∀ y ∈ m, ∃ B, GoodE B y) → ∀ x ∈ allE m more, x.exn.size ≤ 100 := fun more hm m hmm x hx => by
    rcases (allE_mem hx).1 with h | ⟨y, hy, h⟩
    · exact hm x h
    · obtain ⟨B, hB⟩ := hmm y hy
      exact hB.exn x h
  have hlen : ∀ more : List Atom, more.length ≤ 1 → ∀ m : List TE, sumE m ≤ sumE l → (allE m more).length ≤ sumE l + 102 := fun more hm m h => by
    have := allE_length m more
    omega
  have hput : ∀ (f : Int → Atom), (f = aPut ∨ f = aGet) → ∀ r, ∀ x ∈ [f r], x.exn.size ≤ 100 := fun f hf r x hx => by
    rw [List.mem_singleton] at hx; subst hx
    rcases hf with rfl | rfl <;> exact Nat.zero_le _
  have hnil : ∀ x ∈ ([] : List Atom), x.exn.size ≤ 100 := fun x hx => by cases hx
  cases h with
  | pair k =>
    have hn := ha.two (by omega)
    obtain ⟨B0, g0⟩ := hg 0 (by omega)
    obtain ⟨B1, g1⟩ := hg 1 (by omega)
    exact ⟨mayT_ty2 (.inl ⟨rfl, rfl⟩) ha.rho g0.may g1.may, effsOK_ty rfl (by intro x hx; simp only [List.mem_cons, List.not_mem_nil, or_false] at hx; rcases hx with rfl | rfl; exact g0.effs; exact g1.effs),
      mayB_effL _, hex _ (hput _ (.inl rfl) _) l hl, hlen _ (by simp) _ (Nat.le_refl _)⟩
  | proj k ht =>
    have hn := ha.one (by omega)
    obtain ⟨B0, g0⟩ := hg 0 (by omega)
    have hk : (l.getD 0 dTE).1.head.kind = 2 := by simpa [isK] using ht
    exact ⟨(mayT_kid g0.may hk (.inl ⟨.inl rfl, by omega⟩)).2, effsOK_kid g0.effs, mayB_effL _, hex _ (hput _ (.inr rfl) _) l hl, hlen _ (by simp) _ (Nat.le_refl _)⟩
  | ref k =>
    have hn := ha.one (by omega)
    obtain ⟨B0, g0⟩ := hg 0 (by omega)
    refine ⟨?_, effsOK_ty rfl (by intro x hx; rw [List.mem_singleton] at hx; subst hx; exact g0.effs), mayB_effL _, hex _ (hput _ (.inl rfl) _) l hl, hlen _ (by simp) _ (Nat.le_refl _)⟩
    unfold tyP
    rw [mayT_node, Bool.and_eq_true]
    exact ⟨by simp [nodeB, ha.rho, effL_nil], by simpa using g0.may⟩
  | get k ht =>
    have hn := ha.one (by omega)
    obtain ⟨B0, g0⟩ := hg 0 (by omega)
    have hk : (l.getD 0 dTE).1.head.kind = 3 := by simpa [isK] using ht
    exact ⟨(mayT_kid g0.may hk (.inr ⟨rfl, by omega⟩)).2, effsOK_kid g0.effs, mayB_effL _, hex _ (hput _ (.inr rfl) _) l hl, hlen _ (by simp) _ (Nat.le_refl _)⟩
  | set k ht hs => exact ⟨rfl, rfl, mayB_effL _, hex _ (hput _ (.inl rfl) _) l hl, hlen _ (by simp) _ (Nat.le_refl _)⟩
  | app k ht hs =>
    have hn := ha.two (by omega)
    obtain ⟨B0, g0⟩ := hg 0 (by omega)
    have hk : (l.getD 0 dTE).1.head.kind = 4 := by simpa [isK] using ht
    have hgr := (greatB_iff _).1 (effsOK_head g0.effs)
    refine ⟨(mayT_kid g0.may hk (.inl ⟨.inr rfl, by omega⟩)).2, effsOK_kid g0.effs, mayB_effL _, fun x hx => ?_, ?_⟩
    · rcases List.mem_append.1 ((mem_effL _ _).1 hx).1 with hx | hx
      · exact hex _ (hput _ (.inr rfl) _) l hl x hx
      · exact hgr.2 x hx
    · refine Nat.le_trans (effL_len0 _) ?_
      rw [List.length_append]
      have := allE_length l [aGet (l.getD 0 dTE).1.head.rho]
      have := hgr.1
      simp only [List.length_cons, List.length_nil] at *
      omega
  | op k ht => exact ⟨rfl, rfl, mayB_effL _, hex _ hnil l hl, hlen _ (by simp) _ (Nat.le_refl _)⟩
  | ite k ht hs =>
    have hn := ha.three (by omega)
    obtain ⟨B1, g1⟩ := hg 1 (by omega)
    exact ⟨g1.may, g1.effs, mayB_effL _, hex _ hnil l hl, hlen _ (by simp) _ (Nat.le_refl _)⟩
  | raise k ht =>
    exact ⟨ha.ty (by simp [k, inB]), ha.tys.effs, mayB_effL _, hex _ (fun x hx => by rw [List.mem_singleton] at hx; subst hx; exact ha.exn) l hl, hlen _ (by simp) _ (Nat.le_refl _)⟩
  | num k => exact ⟨rfl, rfl, mayB_effL _, hex _ hnil l hl, hlen _ (by simp) _ (Nat.le_refl _)⟩
  | fn k hw =>
    have hn := ha.one (by omega)
    obtain ⟨B0, g0⟩ := hg 0 (by omega)
    refine ⟨mayT_ty2 (.inr rfl) ha.rho (ha.ty (by simp [k, inB])) g0.may, effsOK_ty ha.gr (by intro x hx; simp only [List.mem_cons, List.not_mem_nil, or_false] at hx; rcases hx with rfl | rfl; exact ha.tys.effs; exact g0.effs), mayB_effL _, fun x hx => ?_, ?_⟩
    · exact hput _ (.inl rfl) _ x ((mem_effL _ _).1 hx).1
    · refine Nat.le_trans (effL_len0 _) ?_
      simp only [List.length_cons, List.length_nil]
      omega
  | letrec k hs hw =>
    have hn := ha.two (by omega)
    obtain ⟨B1, g1⟩ := hg 1 (by omega)
    exact ⟨g1.may, g1.effs, mayB_effL _, hex _ (hput _ (.inl rfl) _) _ (fun y hy => hl y (List.mem_of_mem_drop hy)), hlen _ (by simp) _ (sumE_drop l 1)⟩
  | handle k hs =>
    have hn := ha.two (by omega)
    obtain ⟨B0, g0⟩ := hg 0 (by omega)
    obtain ⟨B1, g1⟩ := hg 1 (by omega)
    refine ⟨g0.may, g0.effs, mayB_effL _, fun x hx => ?_, ?_⟩
    · rcases List.mem_append.1 ((mem_effL _ _).1 hx).1 with hx | hx
      · exact g0.exn x ((mem_handledL _ _ _).1 hx).1
      · exact g1.exn x hx
    · refine Nat.le_trans (effL_len0 _) ?_
      rw [List.length_append]
      have := handledL_length (l.getD 0 dTE).2 [a.exn]
      have := sumE_two l
      omega
  | region k hni =>
    have hn := ha.one (by omega)
    obtain ⟨B0, g0⟩ := hg 0 (by omega)
    refine ⟨g0.may, g0.effs, mayB_filter _ (mayB_effL _), fun x hx => g0.exn x ((mem_withoutL _ _ _).1 hx).1, ?_⟩
    show (withoutL (l.getD 0 dTE).2 [a.rho]).length ≤ _
    have := withoutL_length (l.getD 0 dTE).2 [a.rho]
    have := sumE_get (l := l) 0
    omega
  | other k =>
    simp only [List.mem_cons, List.not_mem_nil, or_false, not_or] at k
    have hk12 : a.kind = 12 := by have := ha.k1; have := ha.k18; omega
    have hn := ha.two (by omega)
    obtain ⟨B1, g1⟩ := hg 1 (by omega)
    exact ⟨g1.may, g1.effs, mayB_effL _, hex _ hnil l hl, hlen _ (by simp) _ (Nat.le_refl _)⟩
theorem env_good {env : List Bnd} {a : LAH} {n i : Nat} {acc : List TE} (ha : GoodN a n) (he : ∀ b ∈ env, GoodB b) (hacc : a.kind = 12 → i = 1 → mayT (acc.getD 0 dTE).1 = true ∧ effsOK (acc.getD 0 dTE).1 = true) : ∀ b ∈ innerE env a i acc, GoodB b := by
  have hrec : a.kind = 13 → GoodB ⟨a.name, tZero, some a⟩ := fun k => ⟨fun h => (nomatch h), rfl, fun f hf => by
    cases hf
    exact ⟨n, ha, ha.ty (by simp [k, inB]), ha.res k⟩⟩
  have harg : inB [11, 13, 15] a.kind = true → GoodB ⟨a.arg, a.ty, none⟩ := fun k => ⟨fun _ => ha.ty k, ha.tys.effs, fun f hf => by cases hf⟩
  intro b hb
  unfold innerE at hb
  split at hb
  · rename_i k
    rcases List.mem_append.1 hb with hb | hb
    · exact he b hb
    · rw [List.mem_singleton] at hb; subst hb
      exact harg (by simp [k, inB])
  split at hb
  · rename_i k
    rcases List.mem_append.1 hb with hb | hb
    · exact he b hb
    · rw [List.mem_singleton] at hb; subst hb
      exact ⟨fun _ => (hacc k.1 k.2).1, (hacc k.1 k.2).2, fun f hf => by cases hf⟩
  split at hb
  · rename_i k
    rcases List.mem_append.1 hb with hb | hb
    · exact he b hb
    · simp only [List.mem_cons, List.not_mem_nil, or_false] at hb
      rcases hb with rfl | rfl
      · exact hrec k.1
      · exact harg (by simp [k.1, inB])
  split at hb
  · rename_i k
    rcases List.mem_append.1 hb with hb | hb
    · exact he b hb
    · rw [List.mem_singleton] at hb; subst hb
      exact hrec k
  split at hb
  · rcases List.mem_append.1 hb with hb | hb
    · exact he b hb
    · rw [List.mem_singleton] at hb; subst hb
      exact ⟨fun _ => rfl, rfl, fun f hf => by cases hf⟩
  · exact he b hb
theorem sumE_le {l : List AT} {rs : List TE} (hl : rs.length = l.length) (h : ∀ (j : Nat) (t : AT) (r : TE), l[j]? = some t → rs[j]? = some r → r.2.length ≤ 102 * t.size) : sumE rs ≤ 102 * (l.map Rose.size).sum := by
  induction l generalizing rs with
  | nil => have : rs = [] := List.length_eq_zero_iff.1 (by simpa using hl)
           subst this; simp [sumE]
  | cons t l ih =>
    cases rs with
    | nil => simp at hl
    | cons r rs =>
      have h0 := h 0 t r rfl rfl
      have h1 := ih (rs := rs) (by simpa using hl) (fun j u q hu hq => h (j + 1) u q (by simpa using hu) (by simpa using hq))
      simp only [sumE, List.map_cons, List.sum_cons] at h1 ⊢
      rw [Nat.mul_add]
      omega
theorem chk_good (t : AT) : ∀ env rhos x, GoodT t → (∀ b ∈ env, GoodB b) → chk env rhos t = .ok x → GoodE (102 * t.size) x := by
  refine Rose.ind (P := fun (t : AT) => ∀ env rhos x, GoodT t → (∀ b ∈ env, GoodB b) → chk env rhos t = .ok x → GoodE (102 * t.size) x) (fun a l ih env rhos x hT he h => ?_) t
  have ha := hT.head
  have hkids := hT.kid
  rw [chk_ok, found_ok] at h
  obtain ⟨⟨hr, h⟩, _⟩ := h
  have hsz : Rose.size (Rose.node a l) = 1 + (l.map Rose.size).sum := Rose.size_node a l
  rcases h with ⟨k, h⟩ | ⟨k, h⟩ | ⟨k2, k18, ks, hks, h⟩
  · unfold varP errP at h
    cases hf : findP env a.name with
    | none => rw [hf] at h; cases h
    | some b =>
      rw [hf] at h
      simp only [mustP_ok] at h
      obtain ⟨hn, h⟩ := h
      cases h
      have hb := he b (findP_mem hf).1
      exact ⟨hb.may (by simpa using hn), hb.effs, rfl, fun x hx => (nomatch hx), Nat.zero_le _⟩
  · unfold instP errP at h
    cases hf : findP env a.name with
    | none => rw [hf] at h; cases h
    | some b =>
      rw [hf] at h
      simp only at h
      cases hb : b.fn with
      | none => rw [hb] at h; cases h
      | some f =>
        rw [hb] at h
        simp only [mustP_ok, decide_eq_true_eq] at h
        obtain ⟨hlen, _, h⟩ := h
        cases h
        obtain ⟨n, hfn, hft, hfr⟩ := (he b (findP_mem hf).1).fn f hb
        refine ⟨mayT_ty2 (.inr rfl) ha.rho (mayT_swap ha.rhos _ hft) (mayT_swap ha.rhos _ hfr), effsOK_ty ha.gr (fun x hx => ?_), mayB_effL _, fun x hx => ?_, ?_⟩
        · simp only [List.mem_cons, List.not_mem_nil, or_false] at hx
          rcases hx with rfl | rfl
          · exact effsOK_swap _ _ _ hfn.tys.effs
          · exact effsOK_swap _ _ _ hfn.ress.effs
        · have := ((mem_effL _ _).1 hx).1
          simp only [List.mem_cons, List.not_mem_nil, or_false] at this
          rcases this with rfl | rfl <;> exact Nat.zero_le _
        · refine Nat.le_trans (effL_len0 _) ?_
          simp only [List.length_cons, List.length_nil]
          omega
  · rw [ruleP_ok] at h
    obtain ⟨rs, hrs, hl, hj⟩ := chkL_ok _ _ _ _ hks
    rw [List.nil_append] at hrs
    rw [hrs] at h
    simp only [List.nil_append, Nat.zero_add] at hj
    have hkid : ∀ (j : Nat) (t : AT) (y : TE), l[j]? = some t → rs[j]? = some y → GoodE (102 * t.size) y := by
      intro j
      induction j using Nat.strongRecOn with
      | _ j ihj =>
        intro t y ht hy
        obtain ⟨r, e1, e2⟩ := hj j t ht
        rw [e1] at hy; cases hy
        refine ih t (List.mem_of_getElem? ht) _ _ _ (hkids t (List.mem_of_getElem? ht)) (env_good ha he (fun k h1 => ?_)) e2
        subst h1
        have hlt := get_lt ht
        have h00 : (rs.take 1)[0]? = rs[0]? := by rw [List.getElem?_take]; simp
        have hr0 : rs[0]? = some (rs[0]'(by omega)) := List.getElem?_eq_getElem _
        have hg := ihj 0 (by omega) _ _ (List.getElem?_eq_getElem (show 0 < l.length by omega)) hr0
        rw [List.getD_eq_getElem?_getD, h00, hr0]
        exact ⟨hg.may, hg.effs⟩
    have hall : ∀ y ∈ rs, ∃ B, GoodE B y := fun y hy => by
      obtain ⟨j, hj'⟩ := List.getElem?_of_mem hy
      have hlt : j < l.length := by rw [← hl]; exact get_lt hj'
      exact ⟨_, hkid j _ y (List.getElem?_eq_getElem hlt) hj'⟩
    have hs := sumE_le hl (fun j t r ht hr => (hkid j t r ht hr).len)
    refine (rule_good (by rw [hl]; exact ha) hall k2 k18 h).mono ?_
    rw [hsz, Nat.mul_add]
    omega
end
section
open Go.RowKit
def clashP (met : List Int) : List Int → Bool
  | [] => false
  | r :: l => inN met r || clashP (met ++ [r]) l
def apartG : List LAH → List Int → Option Int
  | [], _ => none
  | a :: l, met => if clashP met (bindsR a) then some a.at_ else apartG l (met ++ bindsR a)
def apartP (t : AT) : Option Int := apartG (Rose.nodes t) []
def checkA (t : AT) : ChkR :=
  match apartP t with
  | some at_ => .error (at_, 6)
  | none => chk [] [0] t
theorem clashP_false : ∀ (l met : List Int), clashP met l = false ↔ l.Nodup ∧ ∀ z ∈ l, z ∉ met
  | [], met => by simp [clashP]
  | r :: l, met => by
    simp only [clashP, Bool.or_eq_false_iff, clashP_false l (met ++ [r]), List.nodup_cons, List.mem_cons, List.mem_append, List.mem_singleton, List.not_mem_nil, or_false]
    have hin : inN met r = false ↔ r ∉ met := by
      rw [← Bool.not_eq_true, inN_mem']
    rw [hin]
    constructor
    · rintro ⟨h1, h2, h3⟩
      refine ⟨⟨fun h => h3 r h (.inr rfl), h2⟩, ?_⟩
      rintro z (rfl | hz)
      · exact h1
      · exact fun h => h3 z hz (.inl h)
    · rintro ⟨⟨h1, h2⟩, h3⟩
      refine ⟨h3 r (.inl rfl), h2, fun z hz => ?_⟩
      rintro (h | rfl)
      · exact h3 z (.inr hz) h
      · exact h1 hz
def bindsG (l : List LAH) : List Int := l.flatMap bindsR
theorem apartG_none : ∀ (l : List LAH) (met : List Int), apartG l met = none ↔ (bindsG l).Nodup ∧ ∀ z ∈ bindsG l, z ∉ met
  | [], met => by simp [apartG, bindsG]
  | a :: l, met => by
    unfold apartG
    have e : bindsG (a :: l) = bindsR a ++ bindsG l := by simp [bindsG]
    rw [e, List.nodup_append]
    cases h : clashP met (bindsR a) with
    | true =>
      simp only [if_true, reduceCtorEq, false_iff, not_and]
      rintro ⟨h1, _, _⟩ h2
      have := (clashP_false (bindsR a) met).2 ⟨h1, fun z hz => h2 z (List.mem_append.2 (.inl hz))⟩
      rw [h] at this; cases this
    | false =>
      rw [clashP_false] at h
      simp only [Bool.false_eq_true, if_false, apartG_none l (met ++ bindsR a), List.mem_append]
      constructor
      · rintro ⟨h1, h2⟩
        refine ⟨⟨h.1, h1, fun x hx y hy e => ?_⟩, ?_⟩
        · subst e; exact h2 x hy (.inr hx)
        · rintro z (hz | hz)
          · exact h.2 z hz
          · exact fun hm => h2 z hz (.inl hm)
      · rintro ⟨⟨_, h1, h2⟩, h3⟩
        refine ⟨h1, fun z hz => ?_⟩
        rintro (hm | hm)
        · exact h3 z (.inr hz) hm
        · exact h2 z hm z hz rfl
def bindsT (t : AT) : List Int := bindsG (Rose.nodes t)
theorem apartP_none (t : AT) : apartP t = none ↔ (bindsT t).Nodup := by
  unfold apartP bindsT
  rw [apartG_none]
  simp
theorem checkA_ok {t : AT} {x : TE} : checkA t = .ok x ↔ apartP t = none ∧ chk [] [0] t = .ok x := by
  unfold checkA
  cases h : apartP t with
  | some z => simp
  | none => simp
def plainN (k : Int) (name : ByteArray) : LAH := ⟨k, 0, 0, 0, name, ⟨#[]⟩, ⟨#[]⟩, 0, [], [], tZero, tZero⟩
theorem plainN_regions {k : Int} {name : ByteArray} {rhos : List Int} (h0 : (0 : Int) ∈ rhos) : regionsB (plainN k name) rhos = true := by
  rw [regionsB_iff]
  refine ⟨.inr h0, fun _ z hz => by simp [plainN] at hz, fun z hz => by simp [plainN, rhosOf, sortR] at hz, fun z hz => .inl ?_⟩
  have : z = 0 := by simpa [plainN, gath_tZero] using hz
  subst this; exact h0
def pairA (s t : AT) : AT := .node (plainN 3 ⟨#[]⟩) [s, t]
theorem pairs_binds (s t : AT) : bindsT (pairA s t) = bindsT s ++ bindsT t := by
  unfold bindsT pairA
  rw [Rose.nodes_node]
  simp [bindsG, plainN, bindsR]
theorem pairs_plain {s t : AT} {x y : TE} (hx : checkA s = .ok x) (hy : checkA t = .ok y) (hd : ∀ z ∈ bindsT s, z ∉ bindsT t) (hsz : x.1.size + y.1.size < 500) :
    checkA (pairA s t) = .ok (tyP 2 0 [] [x.1, y.1], effL ([aPut 0] ++ (x.2 ++ y.2))) := by
  obtain ⟨a1, c1⟩ := checkA_ok.1 hx
  obtain ⟨a2, c2⟩ := checkA_ok.1 hy
  rw [checkA_ok, apartP_none, pairs_binds, List.nodup_append]
  refine ⟨⟨(apartP_none _).1 a1, (apartP_none _).1 a2, fun z hz w hw e => hd z hz (e ▸ hw)⟩, ?_⟩
  unfold pairA
  rw [chk_ok, found_ok]
  refine ⟨⟨plainN_regions (by simp), .inr (.inr ⟨by show (3 : Int) ≠ 2; decide, by show (3 : Int) ≠ 18; decide, [x, y], ?_, ?_⟩)⟩, ?_⟩
  · have := chkL_of (env := []) (rhos := [0]) (a := plainN 3 ⟨#[]⟩) [s, t] 0 [] [x, y] rfl (fun j u hu => by
      match j with
      | 0 => simp at hu; subst hu; exact ⟨x, rfl, c1⟩
      | 1 => simp at hu; subst hu; exact ⟨y, rfl, c2⟩
      | j + 2 => simp at hu)
    exact this
  · rw [ruleP_ok]
    have h : RuleOk (plainN 3 ⟨#[]⟩) [x, y] (tyP 2 0 [] [x.1, y.1], allE [x, y] [aPut 0]) := .pair rfl
    have e : allE [x, y] [aPut 0] = effL ([aPut 0] ++ (x.2 ++ y.2)) := by simp [allE]
    rw [e] at h
    exact h
  · show (tyP 2 0 [] [x.1, y.1]).size ≤ 500
    unfold tyP
    rw [Rose.size_node]
    simp only [List.map_cons, List.map_nil, List.sum_cons, List.sum_nil]
    omega
theorem swL_nil {l : List Atom} (h : mayB l = true) : swL [] [] l = l := by
  have e : ∀ m : List Atom, m.map (swA [] []) = m := fun m => by
    have : swA [] [] = id := by funext a; unfold swA; split <;> rfl
    rw [this, List.map_id]
  show effL ((effL l).map (swA [] [])) = l
  rw [e, effL_idem, effL_can h]
theorem swapT_nil (x : RT) : mayT x = true → swapT [] [] x = x := by
  refine Rose.ind (P := fun (x : RT) => mayT x = true → swapT [] [] x = x) (fun a l ih h => ?_) x
  rw [mayT_node, Bool.and_eq_true, List.all_eq_true] at h
  unfold swapT at ih ⊢
  rw [Rose.map_node]
  have e1 : swH [] [] a = a := by
    unfold swH
    split
    · rfl
    · rename_i hk
      have he : mayB a.eff = true := by
        have h1 := h.1
        unfold nodeB at h1
        rw [if_neg hk] at h1
        split at h1
        · simp only [Bool.and_eq_true, decide_eq_true_eq] at h1; rw [h1.1.2]; rfl
        · split at h1
          · simp only [Bool.and_eq_true, decide_eq_true_eq] at h1; rw [h1.1.2]; rfl
          · split at h1
            · simp only [Bool.and_eq_true, decide_eq_true_eq] at h1; exact h1.1.2
            · cases h1
      rw [swL_nil he]
      rfl
  have e2 : l.map (Rose.map (swH [] [])) = l := by
    have : l.map (Rose.map (swH [] [])) = l.map id := List.map_congr_left (fun y hy => ih y hy (h.2 y hy))
    rw [this, List.map_id]
  rw [e1, e2]
end
end Go.Proofs.YtkdjnegfnhldpaaGreatDoor
