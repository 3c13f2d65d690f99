/- Part 17 of the texts: Cp1. -/
import Derived.Test.YtkdjnegfnhldpaaGreatDoorH16
set_option linter.unusedVariables false
set_option maxRecDepth 100000
set_option linter.unusedSimpArgs false
namespace Go.Proofs.YtkdjnegfnhldpaaGreatDoor
section
open Go.RowKit
theorem mustP_ok {b : Bool} {a : LAH} {no : Int} {r : ChkR} {x : TE} : mustP b a no r = .ok x ↔ b = true ∧ r = .ok x := by
  unfold mustP errP
  cases b <;> simp
theorem sizeP_ok {a : LAH} {r : ChkR} {x : TE} : sizeP a r = .ok x ↔ r = .ok x ∧ x.1.size ≤ 500 := by
  unfold sizeP
  cases r with
  | error e => simp
  | ok y =>
    simp only [mustP_ok, decide_eq_true_eq, Except.ok.injEq]
    constructor
    · rintro ⟨h, rfl⟩; exact ⟨rfl, h⟩
    · rintro ⟨rfl, h⟩; exact ⟨h, rfl⟩
theorem chkL_ok {env : List Bnd} {rhos : List Int} {a : LAH} : ∀ (l : List AT) (i : Nat) (acc ks : List TE), chkL env rhos a i acc l = .ok ks →
    ∃ rs, ks = acc ++ rs ∧ rs.length = l.length ∧ ∀ j t, l[j]? = some t → ∃ r, rs[j]? = some r ∧ chk (innerE env a (i + j) (acc ++ rs.take j)) (innerR rhos a (i + j)) t = .ok r
  | [], i, acc, ks, h => by
    rw [chkL_nil] at h; cases h; exact ⟨[], by simp, rfl, fun j t h => by simp at h⟩
  | t :: l, i, acc, ks, h => by
    rw [chkL_cons] at h
    cases hr : chk (innerE env a i acc) (innerR rhos a i) t with
    | error e => rw [hr] at h; cases h
    | ok r =>
      rw [hr] at h
      obtain ⟨rs, rfl, hl, hj⟩ := chkL_ok l (i + 1) (acc ++ [r]) ks h
      refine ⟨r :: rs, by simp, by simp [hl], fun j u hu => ?_⟩
      cases j with
      | zero => simp at hu; subst hu; exact ⟨r, rfl, by simpa using hr⟩
      | succ j =>
        obtain ⟨r', h1, h2⟩ := hj j u (by simpa using hu)
        refine ⟨r', by simpa using h1, ?_⟩
        have e1 : i + (j + 1) = i + 1 + j := by omega
        rw [e1]
        simpa using h2
theorem found_ok {env : List Bnd} {rhos : List Int} {a : LAH} {l : List AT} {x : TE} : foundP env rhos a l = .ok x ↔ regionsB a rhos = true ∧
    ((a.kind = 2 ∧ varP env a = .ok x) ∨ (a.kind = 18 ∧ instP env a = .ok x) ∨ (a.kind ≠ 2 ∧ a.kind ≠ 18 ∧ ∃ ks, chkL env rhos a 0 [] l = .ok ks ∧ ruleP a ks = .ok x)) := by
  unfold foundP
  rw [mustP_ok]
  refine and_congr_right (fun _ => ?_)
  by_cases h2 : a.kind = 2
  · simp [h2]
  · by_cases h18 : a.kind = 18
    · simp [h18]
    · rw [if_neg h2, if_neg h18]
      simp only [h2, h18, false_and, false_or, not_false_eq_true, true_and, ne_eq]
      cases h : chkL env rhos a 0 [] l with
      | error e => simp
      | ok ks => simp
theorem chk_ok {env : List Bnd} {rhos : List Int} {a : LAH} {l : List AT} {x : TE} : chk env rhos (.node a l) = .ok x ↔ foundP env rhos a l = .ok x ∧ x.1.size ≤ 500 := by
  rw [chk_node, sizeP_ok]
theorem scopedB_iff (rhos l : List Int) : scopedB rhos l = true ↔ ∀ z ∈ l, z ∈ rhos := by
  unfold scopedB
  rw [List.all_eq_true]
  exact forall_congr' (fun z => forall_congr' (fun _ => inN_mem' rhos z))
theorem regionsB_iff (a : LAH) (rhos : List Int) : regionsB a rhos = true ↔ (a.kind = 17 ∨ a.rho ∈ rhos) ∧ (a.kind = 18 → ∀ z ∈ a.rhos, z ∈ rhos) ∧
    (∀ z ∈ rhosOf a.eff, z ∈ rhos ∨ a.kind = 13 ∧ z ∈ a.rhos) ∧ (∀ z, z ∈ gathT a.ty ∨ z ∈ gathT a.res → z ∈ rhos ∨ a.kind = 13 ∧ z ∈ a.rhos) := by
  unfold regionsB
  simp only [Bool.and_eq_true, Bool.or_eq_true, decide_eq_true_eq, Bool.not_eq_true', decide_eq_false_iff_not, scopedB_iff, inN_mem']
  have e : ∀ z, (z ∈ (if a.kind = 13 then rhos ++ a.rhos else rhos)) ↔ (z ∈ rhos ∨ a.kind = 13 ∧ z ∈ a.rhos) := fun z => by
    split <;> rename_i h <;> simp [h]
  simp only [e, mem_sortI, List.mem_append]
  constructor
  · rintro ⟨⟨h1, h2⟩, h3, h4⟩
    exact ⟨h1, fun hk => h2.resolve_left (fun h => h hk), h3, h4⟩
  · rintro ⟨h1, h2, h3, h4⟩
    refine ⟨⟨h1, ?_⟩, h3, h4⟩
    by_cases hk : a.kind = 18
    · exact .inr (h2 hk)
    · exact .inl hk
theorem innerR_mem (rhos : List Int) (a : LAH) (i : Nat) (z : Int) : z ∈ innerR rhos a i ↔ z ∈ rhos ∨ (a.kind = 13 ∧ i = 0 ∧ z ∈ a.rhos) ∨ (a.kind = 17 ∧ z = a.rho) := by
  unfold innerR
  split
  · rename_i h; rw [List.mem_append]; simp [h.1, h.2]
  · rename_i h
    split
    · rename_i h'; rw [List.mem_append]; simp [h']
    · rename_i h'
      constructor
      · exact .inl
      · rintro (hz | ⟨h1, h2, _⟩ | ⟨h1, _⟩)
        · exact hz
        · exact absurd ⟨h1, h2⟩ h
        · exact absurd h1 h'
inductive RuleOk (a : LAH) (l : List TE) : TE → Prop where
  | pair (h : a.kind = 3) : RuleOk a l (tyP 2 a.rho [] [(l.getD 0 dTE).1, (l.getD 1 dTE).1], allE l [aPut a.rho])
  | proj (h : a.kind = 4 ∨ a.kind = 5) (ht : isK 2 (l.getD 0 dTE) = true) : RuleOk a l ((l.getD 0 dTE).1.kids.getD (a.kind - 4).toNat tZero, allE l [aGet (l.getD 0 dTE).1.head.rho])
  | ref (h : a.kind = 6) : RuleOk a l (tyP 3 a.rho [] [(l.getD 0 dTE).1], allE l [aPut a.rho])
  | get (h : a.kind = 7) (ht : isK 3 (l.getD 0 dTE) = true) : RuleOk a l ((l.getD 0 dTE).1.kids.getD 0 tZero, allE l [aGet (l.getD 0 dTE).1.head.rho])
  | set (h : a.kind = 8) (ht : isK 3 (l.getD 0 dTE) = true) (hs : sameR ((l.getD 0 dTE).1.kids.getD 0 tZero) (l.getD 1 dTE).1 = true) : RuleOk a l (tInt, allE l [aPut (l.getD 0 dTE).1.head.rho])
  | app (h : a.kind = 10) (ht : isK 4 (l.getD 0 dTE) = true) (hs : sameR ((l.getD 0 dTE).1.kids.getD 0 tZero) (l.getD 1 dTE).1 = true) :
      RuleOk a l ((l.getD 0 dTE).1.kids.getD 1 tZero, effL (allE l [aGet (l.getD 0 dTE).1.head.rho] ++ (l.getD 0 dTE).1.head.eff))
  | op (h : a.kind = 9) (ht : l.all (isK 1) = true) : RuleOk a l (tInt, allE l [])
  | ite (h : a.kind = 14) (ht : isK 1 (l.getD 0 dTE) = true) (hs : sameR (l.getD 1 dTE).1 (l.getD 2 dTE).1 = true) : RuleOk a l ((l.getD 1 dTE).1, allE l [])
  | raise (h : a.kind = 15) (ht : l.all (isK 1) = true) : RuleOk a l (a.ty, allE l [aExn a.exn])
  | num (h : a.kind = 1) : RuleOk a l (tInt, allE l [])
  | fn (h : a.kind = 11) (hw : withinB (l.getD 0 dTE).2 a.eff = true) : RuleOk a l (tyP 4 a.rho a.eff [a.ty, (l.getD 0 dTE).1], effL [aPut a.rho])
  | letrec (h : a.kind = 13) (hs : sameR (l.getD 0 dTE).1 a.res = true) (hw : withinB (l.getD 0 dTE).2 a.eff = true) : RuleOk a l ((l.getD 1 dTE).1, allE (l.drop 1) [aPut a.rho])
  | handle (h : a.kind = 16) (hs : sameR (l.getD 0 dTE).1 (l.getD 1 dTE).1 = true) : RuleOk a l ((l.getD 0 dTE).1, effL (handledL (l.getD 0 dTE).2 [a.exn] ++ (l.getD 1 dTE).2))
  | region (h : a.kind = 17) (hn : inN (sortI (gathT (l.getD 0 dTE).1)) a.rho = false) : RuleOk a l ((l.getD 0 dTE).1, withoutL (l.getD 0 dTE).2 [a.rho])
  | other (h : a.kind ∉ [(1 : Int), 3, 4, 5, 6, 7, 8, 9, 10, 11, 13, 14, 15, 16, 17]) : RuleOk a l ((l.getD 1 dTE).1, allE l [])
theorem ruleP_ok {a : LAH} {l : List TE} {x : TE} : ruleP a l = .ok x ↔ RuleOk a l x := by
  constructor
  · intro h
    unfold ruleP bindsP at h
    dsimp only at h
    by_cases k : a.kind = 3
    · rw [if_pos k] at h; cases h; exact .pair k
    rw [if_neg k] at h
    have k3 := k
    clear k
    by_cases k : a.kind = 4 ∨ a.kind = 5
    · rw [if_pos k] at h; rw [mustP_ok] at h; obtain ⟨h1, h2⟩ := h; cases h2; exact .proj k h1
    rw [if_neg k] at h
    have k45 := k
    clear k
    by_cases k : a.kind = 6
    · rw [if_pos k] at h; cases h; exact .ref k
    rw [if_neg k] at h
    have k6 := k
    clear k
    by_cases k : a.kind = 7
    · rw [if_pos k] at h; rw [mustP_ok] at h; obtain ⟨h1, h2⟩ := h; cases h2; exact .get k h1
    rw [if_neg k] at h
    have k7 := k
    clear k
    by_cases k : a.kind = 8
    · rw [if_pos k] at h; rw [mustP_ok, Bool.and_eq_true] at h; obtain ⟨⟨h1, h3⟩, h2⟩ := h; cases h2; exact .set k h1 h3
    rw [if_neg k] at h
    have k8 := k
    clear k
    by_cases k : a.kind = 10
    · rw [if_pos k] at h; rw [mustP_ok, Bool.and_eq_true] at h; obtain ⟨⟨h1, h3⟩, h2⟩ := h; cases h2; exact .app k h1 h3
    rw [if_neg k] at h
    have k10 := k
    clear k
    by_cases k : a.kind = 9
    · rw [if_pos k] at h; rw [mustP_ok] at h; obtain ⟨h1, h2⟩ := h; cases h2; exact .op k h1
    rw [if_neg k] at h
    have k9 := k
    clear k
    by_cases k : a.kind = 14
    · rw [if_pos k] at h; rw [mustP_ok, Bool.and_eq_true] at h; obtain ⟨⟨h1, h3⟩, h2⟩ := h; cases h2; exact .ite k h1 h3
    rw [if_neg k] at h
    have k14 := k
    clear k
    by_cases k : a.kind = 15
    · rw [if_pos k] at h; rw [mustP_ok] at h; obtain ⟨h1, h2⟩ := h; cases h2; exact .raise k h1
    rw [if_neg k] at h
    have k15 := k
    clear k
    by_cases k : a.kind = 1
    · rw [if_pos k] at h; cases h; exact .num k
    rw [if_neg k] at h
    have k1 := k
    clear k
    by_cases k : a.kind = 11
    · rw [if_pos k] at h; rw [mustP_ok] at h; obtain ⟨h1, h2⟩ := h; cases h2; exact .fn k h1
    rw [if_neg k] at h
    have k11 := k
    clear k
    by_cases k : a.kind = 13
    · rw [if_pos k] at h; rw [mustP_ok, mustP_ok] at h; obtain ⟨h1, h3, h2⟩ := h; cases h2; exact .letrec k h1 h3
    rw [if_neg k] at h
    have k13 := k
    clear k
    by_cases k : a.kind = 16
    · rw [if_pos k] at h; rw [mustP_ok] at h; obtain ⟨h1, h2⟩ := h; cases h2; exact .handle k h1
    rw [if_neg k] at h
    have k16 := k
    clear k
    by_cases k : a.kind = 17
    · rw [if_pos k] at h; rw [mustP_ok] at h; obtain ⟨h1, h2⟩ := h; cases h2; exact .region k (by simpa using h1)
    rw [if_neg k] at h
    have k17 := k
    clear k
    cases h
    refine .other ?_
    simp only [List.mem_cons, List.not_mem_nil, or_false, not_or]
    refine ⟨?_, ?_, ?_, ?_, ?_, ?_, ?_, ?_, ?_, ?_, ?_, ?_, ?_, ?_, ?_⟩ <;> first | assumption | omega
  · intro h
    unfold ruleP bindsP
    cases h with
    | proj k ht =>
      have h3 : a.kind ≠ 3 := by omega
      rw [if_neg h3, if_pos k, mustP_ok]
      exact ⟨ht, rfl⟩
    | other k =>
      simp only [List.mem_cons, List.not_mem_nil, or_false, not_or] at k
      obtain ⟨k1, k3, k4, k5, k6, k7, k8, k9, k10, k11, k13, k14, k15, k16, k17⟩ := k
      simp [k1, k3, k4, k5, k6, k7, k8, k9, k10, k11, k13, k14, k15, k16, k17]
    | _ => simp_all [mustP_ok]
theorem mem_effL (l : List Atom) (x : Atom) : x ∈ effL l ↔ x ∈ l ∧ atomB x = true := by
  rw [mem_sortA, List.mem_filter]
theorem rhosOf_effL' (l : List Atom) : rhosOf (effL l) = rhosOf l := rhosOf_congr (fun x hx => by rw [mem_effL]; simp [hx])
theorem rhosOf_app {l m : List Atom} {z : Int} (h : z ∈ rhosOf (l ++ m)) : z ∈ rhosOf l ∨ z ∈ rhosOf m := by
  rw [mem_rhosOf] at h
  obtain ⟨x, hx, h⟩ := h
  rcases List.mem_append.1 hx with hx | hx
  · exact .inl ((mem_rhosOf _ _).2 ⟨x, hx, h⟩)
  · exact .inr ((mem_rhosOf _ _).2 ⟨x, hx, h⟩)
theorem rhosOf_allE {l : List TE} {more : List Atom} {z : Int} (h : z ∈ rhosOf (allE l more)) : z ∈ rhosOf more ∨ ∃ y ∈ l, z ∈ rhosOf y.2 := by
  unfold allE at h
  rw [rhosOf_effL'] at h
  rcases rhosOf_app h with h | h
  · exact .inl h
  · rw [mem_rhosOf] at h
    obtain ⟨x, hx, h⟩ := h
    obtain ⟨y, hy, hx⟩ := List.mem_flatMap.1 hx
    exact .inr ⟨y, hy, (mem_rhosOf _ _).2 ⟨x, hx, h⟩⟩
theorem rhosOf_one {x : Atom} {z : Int} (h : z ∈ rhosOf [x]) : x.kind ≠ 3 ∧ z = x.rho := by
  rw [mem_rhosOf] at h
  obtain ⟨y, hy, _, h3, rfl⟩ := h
  rw [List.mem_singleton] at hy; subst hy
  exact ⟨h3, rfl⟩
structure RIn (rhos : List Int) (x : TE) : Prop where
  ty : ∀ z ∈ gathT x.1, z ∈ rhos
  eff : ∀ z ∈ rhosOf x.2, z ∈ rhos
theorem gath_tZero : gathT tZero = [0] := rfl
theorem gath_tInt : gathT tInt = [] := rfl
theorem RIn.zero {rhos : List Int} (h0 : (0 : Int) ∈ rhos) : RIn rhos dTE := ⟨fun z hz => by
  have : z = 0 := by simpa [dTE, gath_tZero] using hz
  subst this; exact h0, fun z hz => by simp [dTE, rhosOf, sortI, sortR] at hz⟩
theorem gath_kid {x : RT} {i : Nat} {rhos : List Int} (h0 : (0 : Int) ∈ rhos) (h : ∀ z ∈ gathT x, z ∈ rhos) : ∀ z ∈ gathT (x.kids.getD i tZero), z ∈ rhos := by
  intro z hz
  cases x with
  | node a l =>
    simp only [Rose.kids] at hz
    rcases Nat.lt_or_ge i l.length with hi | hi
    · refine h z ?_
      rw [gathT_node, List.mem_append, List.mem_flatMap]
      refine .inr ⟨l[i], List.getElem_mem hi, ?_⟩
      rw [List.getD_eq_getElem?_getD, List.getElem?_eq_getElem hi] at hz
      exact hz
    · rw [List.getD_eq_getElem?_getD, List.getElem?_eq_none hi] at hz
      have : z = 0 := by simpa [gath_tZero] using hz
      subst this; exact h0
theorem gath_head {x : RT} {rhos : List Int} (h : ∀ z ∈ gathT x, z ∈ rhos) (hk : x.head.kind ≠ 1) : x.head.rho ∈ rhos ∧ ∀ z ∈ rhosOf x.head.eff, z ∈ rhos := by
  cases x with
  | node a l =>
    simp only [Rose.head] at hk ⊢
    have e : gathT (Rose.node a l) = (a.rho :: rhosOf a.eff) ++ l.flatMap gathT := by rw [gathT_node, ownR, if_neg hk]
    rw [e] at h
    exact ⟨h _ (by simp), fun z hz => h z (by simp [hz])⟩
theorem gath_ty {k rho : Int} {eff : List Atom} {l : List RT} {rhos : List Int} (h1 : rho ∈ rhos) (h2 : ∀ z ∈ rhosOf eff, z ∈ rhos) (h3 : ∀ t ∈ l, ∀ z ∈ gathT t, z ∈ rhos) : ∀ z ∈ gathT (tyP k rho eff l), z ∈ rhos := by
  intro z hz
  unfold tyP at hz
  rw [gathT_node, List.mem_append, List.mem_flatMap] at hz
  rcases hz with hz | ⟨t, ht, hz⟩
  · unfold ownR at hz
    split at hz
    · cases hz
    · rcases List.mem_cons.1 hz with rfl | hz
      · exact h1
      · rw [rhosOf_effL'] at hz; exact h2 z hz
  · exact h3 t ht z hz
theorem turnI_mem (r : Int) : ∀ (f t : List Int), f.length = t.length → (r ∉ f ∧ turnI r f t = r) ∨ (r ∈ f ∧ turnI r f t ∈ t)
  | [], [], _ => .inl ⟨by simp, rfl⟩
  | [], _ :: _, h => by simp at h
  | _ :: _, [], h => by simp at h
  | x :: f, y :: t, h => by
    unfold turnI
    by_cases hx : x = r
    · subst hx; exact .inr ⟨by simp, by simp⟩
    · rcases turnI_mem r f t (by simpa using h) with ⟨h1, h2⟩ | ⟨h1, h2⟩
      · refine .inl ⟨by simp [h1, Ne.symm hx], ?_⟩
        simp [hx, h2]
      · refine .inr ⟨by simp [h1], ?_⟩
        simp [hx]
        exact .inr h2
theorem mem_swL {f t : List Int} {l : List Atom} {x : Atom} (h : x ∈ swL f t l) : ∃ y ∈ l, atomB y = true ∧ x = swA f t y ∧ atomB x = true := by
  unfold swL at h
  rw [mem_sortA, List.mem_filter, List.mem_map] at h
  obtain ⟨⟨y, hy, rfl⟩, h2⟩ := h
  rw [mem_sortA, List.mem_filter] at hy
  exact ⟨y, hy.1, hy.2, rfl, h2⟩
theorem rhos_swL {f t : List Int} (hl : f.length = t.length) {l : List Atom} {z : Int} (h : z ∈ rhosOf (swL f t l)) : ∃ y ∈ rhosOf l, z = turnI y f t := by
  rw [mem_rhosOf] at h
  obtain ⟨x, hx, h1, h2, rfl⟩ := h
  obtain ⟨y, hy, hy1, rfl, h3⟩ := mem_swL hx
  unfold swA at h2 ⊢
  split
  · rename_i h; rw [if_pos h] at h2; exact absurd h h2
  · rename_i h; exact ⟨y.rho, (mem_rhosOf _ _).2 ⟨y, hy, hy1, h, rfl⟩, rfl⟩
theorem gath_swap {f t : List Int} (hl : f.length = t.length) (x : RT) : ∀ z ∈ gathT (swapT f t x), ∃ y ∈ gathT x, z = turnI y f t := by
  refine Rose.ind (P := fun (x : RT) => ∀ z ∈ gathT (swapT f t x), ∃ y ∈ gathT x, z = turnI y f t) (fun a l ih z hz => ?_) x
  unfold swapT at hz
  rw [Rose.map_node, gathT_node, List.mem_append, List.mem_flatMap] at hz
  rw [gathT_node]
  rcases hz with hz | ⟨u, hu, hz⟩
  · unfold ownR swH at hz
    by_cases hk : a.kind = 1
    · rw [if_pos hk, if_pos hk] at hz; cases hz
    · rw [if_neg hk, if_neg hk] at hz
      rcases List.mem_cons.1 hz with rfl | hz
      · exact ⟨a.rho, by simp [ownR, hk], rfl⟩
      · obtain ⟨y, hy, e⟩ := rhos_swL hl hz
        exact ⟨y, by simp [ownR, hk, hy], e⟩
  · obtain ⟨v, hv, rfl⟩ := List.mem_map.1 hu
    obtain ⟨y, hy, e⟩ := ih v hv z hz
    exact ⟨y, List.mem_append.2 (.inr (List.mem_flatMap.2 ⟨v, hv, hy⟩)), e⟩
structure BIn (rhos : List Int) (b : Bnd) : Prop where
  ty : ∀ z ∈ gathT b.ty, z ∈ rhos
  fn : ∀ f, b.fn = some f → f.rho ∈ rhos ∧ (∀ z ∈ rhosOf f.eff, z ∈ rhos ∨ z ∈ f.rhos) ∧ ∀ z, z ∈ gathT f.ty ∨ z ∈ gathT f.res → z ∈ rhos ∨ z ∈ f.rhos
theorem BIn.mono {rhos rhos' : List Int} {b : Bnd} (h : BIn rhos b) (hr : ∀ z ∈ rhos, z ∈ rhos') : BIn rhos' b :=
  ⟨fun z hz => hr z (h.ty z hz), fun f hf => ⟨hr _ (h.fn f hf).1, fun z hz => ((h.fn f hf).2.1 z hz).imp (hr z) id, fun z hz => ((h.fn f hf).2.2 z hz).imp (hr z) id⟩⟩
theorem findP_mem {env : List Bnd} {x : ByteArray} {b : Bnd} (h : findP env x = some b) : b ∈ env ∧ b.name = x := by
  unfold findP at h
  exact ⟨List.mem_reverse.1 (List.mem_of_find?_eq_some h), by simpa using List.find?_some h⟩
theorem swap_in {f t : List Int} {x : RT} {rhos : List Int} (hl : f.length = t.length) (ht : ∀ z ∈ t, z ∈ rhos) (h : ∀ z ∈ gathT x, z ∈ rhos ∨ z ∈ f) : ∀ z ∈ gathT (swapT f t x), z ∈ rhos := by
  intro z hz
  obtain ⟨y, hy, rfl⟩ := gath_swap hl x z hz
  rcases turnI_mem y f t hl with ⟨h1, h2⟩ | ⟨h1, h2⟩
  · rw [h2]; exact (h y hy).resolve_right h1
  · exact ht _ h2
theorem getD_in {l : List TE} {rhos : List Int} {a : LAH} (hk : ∀ j y, l[j]? = some y → RIn (innerR rhos a j) y) (h0 : (0 : Int) ∈ rhos) (j : Nat) : RIn (innerR rhos a j) (l.getD j dTE) := by
  rw [List.getD_eq_getElem?_getD]
  cases h : l[j]? with
  | none => exact RIn.zero ((innerR_mem _ _ _ _).2 (.inl h0))
  | some y => exact hk j y h
theorem rule_in {a : LAH} {l : List TE} {rhos : List Int} {x : TE} (h0 : (0 : Int) ∈ rhos) (hr : regionsB a rhos = true) (hk : ∀ j y, l[j]? = some y → RIn (innerR rhos a j) y) (h : RuleOk a l x) : RIn rhos x := by
  rw [regionsB_iff] at hr
  obtain ⟨r1, r2, r3, r4⟩ := hr
  have hd := getD_in hk h0
  have hsame : a.kind ≠ 13 → a.kind ≠ 17 → ∀ j, innerR rhos a j = rhos := fun h1 h2 j => by unfold innerR; simp [h1, h2]
  have hmem : a.kind ≠ 13 → a.kind ≠ 17 → ∀ y ∈ l, RIn rhos y := fun h1 h2 y hy => by
    obtain ⟨j, hj⟩ := List.getElem?_of_mem hy
    have := hk j y hj
    rwa [hsame h1 h2] at this
  have hall : a.kind ≠ 13 → a.kind ≠ 17 → ∀ more : List Atom, (∀ z ∈ rhosOf more, z ∈ rhos) → ∀ z ∈ rhosOf (allE l more), z ∈ rhos := fun h1 h2 more hm z hz => by
    rcases rhosOf_allE hz with hz | ⟨y, hy, hz⟩
    · exact hm z hz
    · exact (hmem h1 h2 y hy).eff z hz
  have hp : ∀ (f : Int → Atom), (f = aPut ∨ f = aGet) → ∀ r, r ∈ rhos → ∀ z ∈ rhosOf [f r], z ∈ rhos := fun f hf r hr z hz => by
    obtain ⟨_, rfl⟩ := rhosOf_one hz
    rcases hf with rfl | rfl <;> exact hr
  have hnil : ∀ z ∈ rhosOf ([] : List Atom), z ∈ rhos := fun z hz => by simp [rhosOf, sortI, sortR] at hz
  cases h with
  | pair k =>
    have h13 : a.kind ≠ 13 := by omega
    have h17 : a.kind ≠ 17 := by omega
    have hd' := fun j => hsame h13 h17 j ▸ hd j
    refine ⟨gath_ty (r1.resolve_left h17) hnil (fun t ht => ?_), hall h13 h17 _ (hp _ (.inl rfl) _ (r1.resolve_left h17))⟩
    simp only [List.mem_cons, List.not_mem_nil, or_false] at ht
    rcases ht with rfl | rfl
    · exact (hd' 0).ty
    · exact (hd' 1).ty
  | proj k ht =>
    have h13 : a.kind ≠ 13 := by omega
    have h17 : a.kind ≠ 17 := by omega
    have hd' := fun j => hsame h13 h17 j ▸ hd j
    have hh := gath_head (hd' 0).ty (by simp only [isK, beq_iff_eq] at ht
                                        omega)
    exact ⟨gath_kid h0 (hd' 0).ty, hall h13 h17 _ (hp _ (.inr rfl) _ hh.1)⟩
  | ref k =>
    have h13 : a.kind ≠ 13 := by omega
    have h17 : a.kind ≠ 17 := by omega
    have hd' := fun j => hsame h13 h17 j ▸ hd j
    refine ⟨gath_ty (r1.resolve_left h17) hnil (fun t ht => ?_), hall h13 h17 _ (hp _ (.inl rfl) _ (r1.resolve_left h17))⟩
    rw [List.mem_singleton] at ht; subst ht
    exact (hd' 0).ty
  | get k ht =>
    have h13 : a.kind ≠ 13 := by omega
    have h17 : a.kind ≠ 17 := by omega
    have hd' := fun j => hsame h13 h17 j ▸ hd j
    have hh := gath_head (hd' 0).ty (by simp only [isK, beq_iff_eq] at ht
                                        omega)
    exact ⟨gath_kid h0 (hd' 0).ty, hall h13 h17 _ (hp _ (.inr rfl) _ hh.1)⟩
  | set k ht hs =>
    have h13 : a.kind ≠ 13 := by omega
    have h17 : a.kind ≠ 17 := by omega
    have hd' := fun j => hsame h13 h17 j ▸ hd j
    have hh := gath_head (hd' 0).ty (by simp only [isK, beq_iff_eq] at ht
                                        omega)
    exact ⟨fun z hz => by simp [gath_tInt] at hz, hall h13 h17 _ (hp _ (.inl rfl) _ hh.1)⟩
  | app k ht hs =>
    have h13 : a.kind ≠ 13 := by omega
    have h17 : a.kind ≠ 17 := by omega
    have hd' := fun j => hsame h13 h17 j ▸ hd j
    have hh := gath_head (hd' 0).ty (by simp only [isK, beq_iff_eq] at ht
                                        omega)
    refine ⟨gath_kid h0 (hd' 0).ty, fun z hz => ?_⟩
    rw [rhosOf_effL'] at hz
    rcases rhosOf_app hz with hz | hz
    · exact hall h13 h17 _ (hp _ (.inr rfl) _ hh.1) z hz
    · exact hh.2 z hz
  | op k ht => exact ⟨fun z hz => by simp [gath_tInt] at hz, hall (by omega) (by omega) _ hnil⟩
  | ite k ht hs =>
    have h13 : a.kind ≠ 13 := by omega
    have h17 : a.kind ≠ 17 := by omega
    have hd' := fun j => hsame h13 h17 j ▸ hd j
    exact ⟨(hd' 1).ty, hall h13 h17 _ hnil⟩
  | raise k ht =>
    have h13 : a.kind ≠ 13 := by omega
    have h17 : a.kind ≠ 17 := by omega
    exact ⟨fun z hz => (r4 z (.inl hz)).resolve_right (fun h => h13 h.1), hall h13 h17 _ (fun z hz => absurd rfl (rhosOf_one hz).1)⟩
  | num k => exact ⟨fun z hz => by simp [gath_tInt] at hz, hall (by omega) (by omega) _ hnil⟩
  | fn k hw =>
    have h13 : a.kind ≠ 13 := by omega
    have h17 : a.kind ≠ 17 := by omega
    have hd' := fun j => hsame h13 h17 j ▸ hd j
    refine ⟨gath_ty (r1.resolve_left h17) (fun z hz => (r3 z hz).resolve_right (fun h => h13 h.1)) (fun t ht => ?_), fun z hz => ?_⟩
    · simp only [List.mem_cons, List.not_mem_nil, or_false] at ht
      rcases ht with rfl | rfl
      · exact fun z hz => (r4 z (.inl hz)).resolve_right (fun h => h13 h.1)
      · exact (hd' 0).ty
    · rw [rhosOf_effL'] at hz
      exact hp _ (.inl rfl) _ (r1.resolve_left h17) z hz
  | letrec k hs hw =>
    have h17 : a.kind ≠ 17 := by omega
    have h1 : ∀ j, innerR rhos a (j + 1) = rhos := fun j => by unfold innerR; simp [h17]
    refine ⟨by have := (hd 1).ty; rwa [h1 0] at this, fun z hz => ?_⟩
    rcases rhosOf_allE hz with hz | ⟨y, hy, hz⟩
    · exact hp _ (.inl rfl) _ (r1.resolve_left h17) z hz
    · obtain ⟨j, hj⟩ := List.getElem?_of_mem hy
      rw [List.getElem?_drop] at hj
      have := hk (1 + j) y hj
      rw [Nat.add_comm 1 j, h1 j] at this
      exact this.eff z hz
  | handle k hs =>
    have h13 : a.kind ≠ 13 := by omega
    have h17 : a.kind ≠ 17 := by omega
    have hd' := fun j => hsame h13 h17 j ▸ hd j
    refine ⟨(hd' 0).ty, fun z hz => ?_⟩
    rw [rhosOf_effL'] at hz
    rcases rhosOf_app hz with hz | hz
    · refine (hd' 0).eff z ?_
      rw [mem_rhosOf] at hz ⊢
      obtain ⟨x, hx, h⟩ := hz
      exact ⟨x, ((mem_handledL _ _ _).1 hx).1, h⟩
    · exact (hd' 1).eff z hz
  | region k hn =>
    have hin : ∀ z, z ∈ innerR rhos a 0 → z ≠ a.rho → z ∈ rhos := fun z hz hne => by
      rw [innerR_mem] at hz
      rcases hz with hz | ⟨h1, _⟩ | ⟨_, h⟩
      · exact hz
      · omega
      · exact absurd h hne
    refine ⟨fun z hz => hin z ((hd 0).ty z hz) ?_, fun z hz => ?_⟩
    · rintro rfl
      have : inN (sortI (gathT (l.getD 0 dTE).1)) a.rho = true := by rw [inN_mem', mem_sortI]; exact hz
      rw [hn] at this; cases this
    · rw [mem_rhosOf] at hz
      obtain ⟨x, hx, h1, h2, rfl⟩ := hz
      rw [mem_withoutL] at hx
      obtain ⟨hx, _, hg⟩ := hx
      refine hin _ ((hd 0).eff _ ((mem_rhosOf _ _).2 ⟨x, hx, h1, h2, rfl⟩)) (fun e => ?_)
      simp [goesR, h2, inN, e] at hg
  | other k =>
    simp only [List.mem_cons, List.not_mem_nil, or_false, not_or] at k
    have h13 : a.kind ≠ 13 := by omega
    have h17 : a.kind ≠ 17 := by omega
    have hd' := fun j => hsame h13 h17 j ▸ hd j
    exact ⟨(hd' 1).ty, hall h13 h17 _ hnil⟩
theorem env_in {env : List Bnd} {rhos : List Int} {a : LAH} {i : Nat} {acc : List TE} (h0 : (0 : Int) ∈ rhos) (hr : regionsB a rhos = true) (he : ∀ b ∈ env, BIn rhos b) (hacc : a.kind = 12 → ∀ z ∈ gathT (acc.getD 0 dTE).1, z ∈ rhos) : ∀ b ∈ innerE env a i acc, BIn (innerR rhos a i) b := by
  rw [regionsB_iff] at hr
  obtain ⟨r1, r2, r3, r4⟩ := hr
  have hsub : ∀ z ∈ rhos, z ∈ innerR rhos a i := fun z hz => (innerR_mem _ _ _ _).2 (.inl hz)
  have hold : ∀ b ∈ env, BIn (innerR rhos a i) b := fun b hb => (he b hb).mono hsub
  have hz0 : ∀ z ∈ gathT tZero, z ∈ innerR rhos a i := fun z hz => by
    have : z = 0 := by simpa [gath_tZero] using hz
    subst this; exact hsub _ h0
  have hrec : a.kind = 13 → BIn (innerR rhos a i) ⟨a.name, tZero, some a⟩ := fun k => ⟨hz0, fun f hf => by
    cases hf
    exact ⟨hsub _ (r1.resolve_left (by omega)), fun z hz => (r3 z hz).imp (hsub z) And.right, fun z hz => (r4 z hz).imp (hsub z) And.right⟩⟩
  intro b hb
  unfold innerE at hb
  split at hb
  · rename_i k
    rcases List.mem_append.1 hb with hb | hb
    · exact hold b hb
    · rw [List.mem_singleton] at hb; subst hb
      exact ⟨fun z hz => hsub _ ((r4 z (.inl hz)).resolve_right (fun h => by omega)), fun f hf => by cases hf⟩
  split at hb
  · rename_i k
    rcases List.mem_append.1 hb with hb | hb
    · exact hold b hb
    · rw [List.mem_singleton] at hb; subst hb
      exact ⟨fun z hz => hsub _ (hacc k.1 z hz), fun f hf => by cases hf⟩
  split at hb
  · rename_i k
    rcases List.mem_append.1 hb with hb | hb
    · exact hold b hb
    · simp only [List.mem_cons, List.not_mem_nil, or_false] at hb
      rcases hb with rfl | rfl
      · exact hrec k.1
      · refine ⟨fun z hz => ?_, fun f hf => by cases hf⟩
        rw [innerR_mem]
        exact (r4 z (.inl hz)).imp id (fun h => .inl ⟨k.1, k.2, h.2⟩)
  split at hb
  · rename_i k
    rcases List.mem_append.1 hb with hb | hb
    · exact hold b hb
    · rw [List.mem_singleton] at hb; subst hb
      exact hrec k
  split at hb
  · rcases List.mem_append.1 hb with hb | hb
    · exact hold b hb
    · rw [List.mem_singleton] at hb; subst hb
      exact ⟨fun z hz => by simp [gath_tInt] at hz, fun f hf => by cases hf⟩
  · exact hold b hb
theorem chk_in (t : AT) : ∀ env rhos x, (0 : Int) ∈ rhos → (∀ b ∈ env, BIn rhos b) → chk env rhos t = .ok x → RIn rhos x := by
  refine Rose.ind (P := fun (t : AT) => ∀ env rhos x, (0 : Int) ∈ rhos → (∀ b ∈ env, BIn rhos b) → chk env rhos t = .ok x → RIn rhos x) (fun a l ih env rhos x h0 he h => ?_) t
  rw [chk_ok, found_ok] at h
  obtain ⟨⟨hr, h⟩, _⟩ := h
  rcases h with ⟨k, h⟩ | ⟨k, h⟩ | ⟨_, _, ks, hks, h⟩
  · unfold varP errP at h
    cases hf : findP env a.name with
    | none => rw [hf] at h; cases h
    | some b =>
      rw [hf] at h
      simp only [mustP_ok] at h
      obtain ⟨_, h⟩ := h
      cases h
      exact ⟨(he b (findP_mem hf).1).ty, fun z hz => by simp [rhosOf, sortI, sortR] at hz⟩
  · unfold instP errP at h
    cases hf : findP env a.name with
    | none => rw [hf] at h; cases h
    | some b =>
      rw [hf] at h
      simp only at h
      cases hb : b.fn with
      | none => rw [hb] at h; cases h
      | some f =>
        rw [hb] at h
        simp only [mustP_ok, decide_eq_true_eq] at h
        obtain ⟨hlen, _, h⟩ := h
        cases h
        obtain ⟨f1, f2, f3⟩ := (he b (findP_mem hf).1).fn f hb
        rw [regionsB_iff] at hr
        obtain ⟨r1, r2, r3, r4⟩ := hr
        have hrho := r1.resolve_left (by omega)
        refine ⟨gath_ty hrho (fun z hz => (r3 z hz).resolve_right (fun h => by omega)) (fun t ht => ?_), fun z hz => ?_⟩
        · simp only [List.mem_cons, List.not_mem_nil, or_false] at ht
          rcases ht with rfl | rfl
          · exact swap_in hlen (r2 k) (fun z hz => f3 z (.inl hz))
          · exact swap_in hlen (r2 k) (fun z hz => f3 z (.inr hz))
        · rw [rhosOf_effL', mem_rhosOf] at hz
          obtain ⟨x, hx, _, _, rfl⟩ := hz
          simp only [List.mem_cons, List.not_mem_nil, or_false] at hx
          rcases hx with rfl | rfl
          · exact f1
          · exact hrho
  · rw [ruleP_ok] at h
    obtain ⟨rs, hrs, hl, hj⟩ := chkL_ok _ _ _ _ hks
    rw [List.nil_append] at hrs
    rw [hrs] at h
    simp only [List.nil_append, Nat.zero_add] at hj
    have hin0 : ∀ j, (0 : Int) ∈ innerR rhos a j := fun j => (innerR_mem _ _ _ _).2 (.inl h0)
    have hkid : ∀ j y, rs[j]? = some y → RIn (innerR rhos a j) y := by
      intro j
      induction j using Nat.strongRecOn with
      | _ j ihj =>
        intro y hy
        have hlt : j < l.length := by rw [← hl]; exact get_lt hy
        obtain ⟨r, e1, e2⟩ := hj j _ (List.getElem?_eq_getElem hlt)
        rw [e1] at hy; cases hy
        refine ih _ (List.getElem_mem hlt) _ _ _ (hin0 j) (env_in h0 hr he (fun k z hz => ?_)) e2
        have hs : innerR rhos a 0 = rhos := by unfold innerR; simp [show a.kind ≠ 13 by omega, show a.kind ≠ 17 by omega]
        rcases Nat.eq_zero_or_pos j with rfl | hpos
        · have : z = 0 := by simpa [dTE, gath_tZero] using hz
          subst this; exact h0
        · have h00 : (rs.take j)[0]? = rs[0]? := by rw [List.getElem?_take]; simp [hpos]
          rw [List.getD_eq_getElem?_getD, h00] at hz
          cases hr0 : rs[0]? with
          | none =>
            rw [hr0] at hz
            have : z = 0 := by simpa [dTE, gath_tZero] using hz
            subst this; exact h0
          | some y0 =>
            rw [hr0] at hz
            have := (ihj 0 hpos y0 hr0).ty z hz
            rwa [hs] at this
    exact rule_in h0 hr hkid h
end
end Go.Proofs.YtkdjnegfnhldpaaGreatDoor
