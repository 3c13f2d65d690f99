/- Part 35 of the texts: My, Nf, An, Am. -/
import Derived.Test.YtdlbjngpohkglaaGreatDoorG26
import Derived.Test.YtdlbjngpohkglaaGreatDoorG34
import Derived.Test.YtdlbjngpohkglaaGreatDoorG22
import Derived.Test.YtdlbjngpohkglaaGreatDoorG24
section
set_option linter.unusedVariables false
set_option maxRecDepth 100000
set_option linter.unusedSimpArgs false
namespace Go.Proofs.YtdlbjngpohkglaaGreatDoor
open Go.RowKit

/-- aterm's word for a node -/
def nodeM (a : AH) : Bool :=
  headB a.hd a.kn && regB a (inB [3, 6, 11, 13, 17, 18] a.kind) ((a.kind == 13) || (a.kind == 18)) && (!(a.kind == 13) || onceB a.rhos) && (!(inB [11, 13, 18] a.kind) || mayB a.eff) && (inB [11, 13, 18] a.kind || !decide (0 < a.en)) &&
    (fitsT (inB [11, 13, 15] a.kind) a.ty && fitsT (a.kind == 13) a.res)
theorem rhosB_iff (k : Int) (l : List Int) : rhosB k l l.length = true ↔ (∀ r ∈ l, ¬ r < 0) ∧ (k = 13 → (∀ r ∈ l, ¬ r < 1) ∧ onceB l = true) := by
  unfold rhosB
  rw [List.all_eq_true, once_iff]
  constructor
  · intro h
    have h' : ∀ i x, l[i]? = some x → rhoB k l i x = true := by
      intro i x hx
      have hi := (List.getElem?_eq_some_iff.1 hx).1
      have := h i (List.mem_range.2 hi)
      rw [hx] at this
      exact this
    refine ⟨fun r hr => ?_, fun hk => ⟨fun r hr => ?_, fun i x hx => ?_⟩⟩
    · obtain ⟨i, hi⟩ := List.getElem?_of_mem hr
      have := h' i r hi
      unfold rhoB at this
      simp at this
      omega
    · obtain ⟨i, hi⟩ := List.getElem?_of_mem hr
      have := h' i r hi
      unfold rhoB at this
      simp [hk] at this
      omega
    · have := h' i x hx
      unfold rhoB at this
      simp only [hk, beq_self_eq_true, Bool.true_and, Bool.not_eq_true', Bool.or_eq_false_iff] at this
      exact this.2.2
  · rintro ⟨h1, h2⟩ i hi
    have hi := List.mem_range.1 hi
    rw [List.getElem?_eq_getElem hi]
    have h3 := h1 _ (List.getElem_mem hi)
    show rhoB k l i l[i] = true
    unfold rhoB
    have e1 : decide (l[i] < 0) = false := by simpa using h3
    rw [e1]
    by_cases hk : k = 13
    · obtain ⟨h4, h5⟩ := h2 hk
      have h6 := h4 _ (List.getElem_mem hi)
      have e2 : (l[i] == 0) = false := by simp; omega
      rw [e2, h5 i _ (List.getElem?_eq_getElem hi)]
      simp
    · have e2 : (k == 13) = false := by simpa using hk
      rw [e2]; rfl
theorem nodeM_eq (a : AH) (hr : a.rhos.length = a.rn) (he : a.eff.length = a.en) : nodeM a = node13 a := by
  have hmay : a.en = 0 → mayB a.eff = true := by
    intro h
    have : a.eff = [] := List.eq_nil_of_length_eq_zero (by omega)
    rw [this]
    decide
  have hrho : rhosB a.kind a.rhos a.rn = (!(a.rhos.any (fun r => decide (r < if a.kind = 13 then 1 else 0))) && (!(a.kind == 13) || onceB a.rhos)) := by
    rw [← hr, Bool.eq_iff_iff, rhosB_iff]
    by_cases hk : a.kind = 13
    · simp only [hk, if_true, forall_const, beq_self_eq_true, Bool.not_true, Bool.false_or, Bool.and_eq_true, Bool.not_eq_true', List.any_eq_false, decide_eq_true_eq]
      constructor
      · rintro ⟨_, h2, h3⟩; exact ⟨h2, h3⟩
      · rintro ⟨h2, h3⟩; exact ⟨fun r hr' h => h2 r hr' (by omega), h2, h3⟩
    · have e2 : (a.kind == 13) = false := by simpa using hk
      simp only [hk, if_false, e2, Bool.not_false, Bool.true_or, Bool.and_true, Bool.not_eq_true', List.any_eq_false, decide_eq_true_eq, false_implies, and_true]
  unfold nodeM node13 regB fitsT
  rw [hrho]
  generalize a.rhos.any (fun r => decide (r < if a.kind = 13 then 1 else 0)) = R
  generalize onceB a.rhos = O
  generalize headB a.hd a.kn = H
  generalize mayT a.ty.er = T1
  generalize mayT a.res.er = T2
  generalize plainB a.ty.head = P1
  generalize plainB a.res.head = P2
  have e13 : (a.kind != 13) = !(a.kind == 13) := rfl
  have e18 : (a.kind != 18) = !(a.kind == 18) := rfl
  have e0 : (a.rho != 0) = !(a.rho == 0) := rfl
  have e1 : decide (a.rho < 1) = (decide (a.rho < 0) || (a.rho == 0)) := by
    rw [Bool.eq_iff_iff]; simp; omega
  have em : decide (0 < a.en) = false → mayB a.eff = true := fun h => hmay (by simpa using h)
  rw [e13, e18, e0, e1]
  generalize (a.kind == 13) = K13 at *
  generalize (a.kind == 18) = K18 at *
  generalize (a.kind == 17) = K17 at *
  generalize (a.rho == 0) = Z at *
  generalize decide (a.rho < 0) = N at *
  generalize decide (0 < a.rn) = RN at *
  generalize decide (0 < a.en) = EN at *
  generalize mayB a.eff = M at *
  generalize inB [3, 6, 11, 13, 17, 18] a.kind = I1 at *
  generalize inB [11, 13, 18] a.kind = I2 at *
  generalize inB [11, 13, 15] a.kind = I3 at *
  clear hr he hmay hrho e13 e18 e0 e1
  clear a
  grind
end Go.Proofs.YtdlbjngpohkglaaGreatDoor
end
section
set_option linter.unusedVariables false
set_option maxRecDepth 100000
set_option linter.unusedSimpArgs false
namespace Go.Proofs.YtdlbjngpohkglaaGreatDoor
open Go.RowKit

/-- what a node that may be is -/
structure NodeOk (a : AH) : Prop where
  k1 : 1 ≤ a.kind
  k18 : a.kind ≤ 18
  kids : kidsI (if a.kind = 17 then 4 else if a.kind = 18 then 1 else a.kind) = a.kn
  op : a.kind = 9 → 1 ≤ a.op ∧ a.op ≤ 5
  op0 : a.kind ≠ 9 → a.op = 0
  n : 0 ≤ a.n
  n0 : a.kind ≠ 1 → a.n = 0
  name : (a.kind = 2 ∨ a.kind = 12 ∨ a.kind = 13 ∨ a.kind = 18) → nameB a.name = true
  name0 : ¬ (a.kind = 2 ∨ a.kind = 12 ∨ a.kind = 13 ∨ a.kind = 18) → a.name.size = 0
  arg : (a.kind = 11 ∨ a.kind = 13 ∨ a.kind = 16) → nameB a.arg = true
  arg0 : ¬ (a.kind = 11 ∨ a.kind = 13 ∨ a.kind = 16) → a.arg.size = 0
  exn : (a.kind = 15 ∨ a.kind = 16) → exnB a.exn = true
  exn0 : ¬ (a.kind = 15 ∨ a.kind = 16) → a.exn.size = 0
  rho : 0 ≤ a.rho
  rho0 : inB [3, 6, 11, 13, 17, 18] a.kind = false → a.rho = 0
  rhos : ∀ r ∈ a.rhos, 0 ≤ r
  rhos0 : a.kind ≠ 13 → a.kind ≠ 18 → a.rn = 0
  eff : mayB a.eff = true
  eff0 : inB [11, 13, 18] a.kind = false → a.en = 0
  ty : inB [11, 13, 15] a.kind = true → mayT a.ty.er = true
  ty0 : inB [11, 13, 15] a.kind = false → plainB a.ty.head = true
  res : a.kind = 13 → mayT a.res.er = true
  res0 : a.kind ≠ 13 → plainB a.res.head = true
theorem fitsB_true {b : Bool} {s : ByteArray} {q : Bool} (h : fitsB b s q = true) : (b = true → q = true) ∧ (b = false → s.size = 0) := by
  unfold fitsB at h
  cases b
  · simpa using h
  · simpa using h
theorem node4B_ok {k op at_ n : Int} {name arg exn : ByteArray} {m : Nat} (h : node4B ⟨k, op, at_, n, name, arg, exn⟩ m = true) :
    0 ≤ kidsI k ∧ (m : Int) = kidsI k ∧ (k = 9 → 1 ≤ op ∧ op ≤ 5) ∧ (k ≠ 9 → op = 0) ∧ 0 ≤ n ∧ (k ≠ 1 → n = 0) ∧
      ((wName k = true → nameB name = true) ∧ (wName k = false → name.size = 0)) ∧ ((wArg k = true → nameB arg = true) ∧ (wArg k = false → arg.size = 0)) ∧ ((wExn k = true → exnB exn = true) ∧ (wExn k = false → exn.size = 0)) := by
  unfold node4B at h
  simp only [Bool.and_eq_true, Bool.not_eq_true', Bool.or_eq_false_iff, decide_eq_false_iff_not, Bool.and_eq_false_imp, bne_eq_false_iff_eq] at h
  obtain ⟨⟨⟨⟨⟨h1, h2⟩, h3⟩, h4, h5⟩, ⟨h6, h7⟩, h8⟩, ⟨h9, h10⟩, h11⟩ := h
  refine ⟨by omega, h2, fun hk => ?_, fun hk => ?_, by omega, fun hk => ?_, fitsB_true h9, fitsB_true h10, fitsB_true h11⟩
  · have := h4 (by simp [hk])
    omega
  · exact h5 (by simp [hk])
  · exact h8 (by simp [hk])
theorem wName_iff (k : Int) : (wName k = true ↔ k = 2 ∨ k = 12 ∨ k = 13) ∧ (wName k = false ↔ ¬ (k = 2 ∨ k = 12 ∨ k = 13)) := by
  unfold wName
  constructor
  · simp only [Bool.or_eq_true, beq_iff_eq]; omega
  · simp only [Bool.or_eq_false_iff, beq_eq_false_iff_ne]; omega
theorem wArg_iff (k : Int) : (wArg k = true ↔ k = 11 ∨ k = 13 ∨ k = 16) ∧ (wArg k = false ↔ ¬ (k = 11 ∨ k = 13 ∨ k = 16)) := by
  unfold wArg
  constructor
  · simp only [Bool.or_eq_true, beq_iff_eq]; omega
  · simp only [Bool.or_eq_false_iff, beq_eq_false_iff_ne]; omega
theorem wExn_iff (k : Int) : (wExn k = true ↔ k = 15 ∨ k = 16) ∧ (wExn k = false ↔ ¬ (k = 15 ∨ k = 16)) := by
  unfold wExn
  constructor
  · simp only [Bool.or_eq_true, beq_iff_eq]
  · simp only [Bool.or_eq_false_iff, beq_eq_false_iff_ne]; omega
theorem kidsI_rng {k : Int} (h : 0 ≤ kidsI k) : 1 ≤ k ∧ k ≤ 16 := by
  by_cases h1 : 1 ≤ k ∧ k ≤ 16
  · exact h1
  · have : kidsI k = -1 := by unfold kidsI; rw [if_neg (by omega), if_neg (by omega), if_neg (by omega), if_neg (by omega)]
    omega
theorem kidsI_le (k : Int) : kidsI k ≤ 3 := by
  unfold kidsI
  split
  · omega
  · split
    · omega
    · split
      · omega
      · split <;> omega
theorem headB_ok (k op at_ n : Int) (name arg exn : ByteArray) (m : Nat) (h : headB ⟨k, op, at_, n, name, arg, exn⟩ m = true) :
    1 ≤ k ∧ k ≤ 18 ∧ kidsI (if k = 17 then 4 else if k = 18 then 1 else k) = m ∧ (k = 9 → 1 ≤ op ∧ op ≤ 5) ∧ (k ≠ 9 → op = 0) ∧ 0 ≤ n ∧ (k ≠ 1 → n = 0) ∧
      ((k = 2 ∨ k = 12 ∨ k = 13 ∨ k = 18) → nameB name = true) ∧ (¬ (k = 2 ∨ k = 12 ∨ k = 13 ∨ k = 18) → name.size = 0) ∧
      ((k = 11 ∨ k = 13 ∨ k = 16) → nameB arg = true) ∧ (¬ (k = 11 ∨ k = 13 ∨ k = 16) → arg.size = 0) ∧ ((k = 15 ∨ k = 16) → exnB exn = true) ∧ (¬ (k = 15 ∨ k = 16) → exn.size = 0) := by
  unfold headB at h
  split at h
  · rename_i h17
    have h17 : k = 17 := h17
    subst h17
    simp only [bareB, Bool.and_eq_true, beq_iff_eq, toList_empty, decide_eq_true_eq] at h
    obtain ⟨⟨⟨⟨⟨⟨h1, h2⟩, h3⟩, h4⟩, h5⟩, h6⟩, h7⟩ := h
    refine ⟨by omega, by omega, ?_, by omega, fun _ => h1, by omega, fun _ => h2, by omega, fun _ => h5, by omega, fun _ => h3, by omega, fun _ => h4⟩
    rw [h7]; rfl
  · rename_i h17
    have h17 : ¬ k = 17 := h17
    split at h
    · rename_i h18
      have h18 : k = 18 := h18
      subst h18
      simp only [bareB, Bool.and_eq_true, beq_iff_eq, toList_empty, decide_eq_true_eq] at h
      obtain ⟨⟨⟨⟨⟨⟨h1, h2⟩, h3⟩, h4⟩, h5⟩, h6⟩, h7⟩ := h
      refine ⟨by omega, by omega, ?_, by omega, fun _ => h1, by omega, fun _ => h2, fun _ => h5, by omega, by omega, fun _ => h3, by omega, fun _ => h4⟩
      rw [h7]; rfl
    · rename_i h18
      have h18 : ¬ k = 18 := h18
      obtain ⟨h1, h2, h3, h4, h5, h6, ⟨h7, h7'⟩, ⟨h8, h8'⟩, ⟨h9, h9'⟩⟩ := node4B_ok h
      obtain ⟨hr1, hr2⟩ := kidsI_rng h1
      have hm : (m : Int) = kidsI k := by
        have := kidsI_le k
        rw [Nat.min_def] at h2
        split at h2 <;> omega
      refine ⟨hr1, by omega, by rw [if_neg h17, if_neg h18, hm], h3, h4, h5, h6, fun hk => h7 ((wName_iff k).1.2 (by omega)), fun hk => h7' ((wName_iff k).2.2 (by omega)), fun hk => h8 ((wArg_iff k).1.2 hk), fun hk => h8' ((wArg_iff k).2.2 hk), fun hk => h9 ((wExn_iff k).1.2 hk), fun hk => h9' ((wExn_iff k).2.2 hk)⟩
theorem node_ok {a : AH} (h : node13 a = true) (hr : a.rhos.length = a.rn) : NodeOk a := by
  unfold node13 at h
  simp only [Bool.and_eq_true, Bool.not_eq_true', Bool.or_eq_false_iff, Bool.and_eq_false_imp, Bool.or_eq_true, decide_eq_false_iff_not, Bool.not_eq_false', bne_iff_ne, beq_iff_eq, bne_eq_false_iff_eq, beq_eq_false_iff_ne] at h
  obtain ⟨⟨⟨⟨⟨⟨⟨⟨h1, h2⟩, h3⟩, h4⟩, h5⟩, h6⟩, ⟨h7, h8⟩⟩, ⟨h9, h10⟩⟩, h11⟩ := h
  obtain ⟨k1, k2, k3, k4, k5, k6, k7, k8, k9, k10, k11, k12, k13⟩ := headB_ok _ _ _ _ _ _ _ _ h1
  rw [← hr, rhosB_iff] at h6
  refine ⟨k1, k2, k3, k4, k5, k6, k7, k8, k9, k10, k11, k12, k13, by omega, fun h => h4 h, fun r hr => by have := h6.1 r hr; omega, fun ha hb => by have := h5 ⟨ha, hb⟩; omega, h8, fun h => by have := h7 h; omega, h9, h10, fun h => ?_, fun h => ?_⟩
  · rcases h11 with ⟨_, h11⟩ | ⟨h11, _⟩
    · exact h11
    · exact absurd h h11
  · rcases h11 with ⟨h11, _⟩ | ⟨_, h11⟩
    · exact absurd h11 h
    · exact h11
end Go.Proofs.YtdlbjngpohkglaaGreatDoor
end
section
set_option linter.unusedVariables false
set_option maxRecDepth 100000
set_option linter.unusedSimpArgs false
namespace Go.Proofs.YtdlbjngpohkglaaGreatDoor
open Go.RowKit

/-- the boxes of aterm.node -/
structure AnS (w W : World) (g : Nat) (a : AH) (b0 b1 b2 b3 b4 : Bool) : Prop where
  box : BoxA W w.heap.size a
  f : W.heap[g]? = some (.cells #[.bool b0, .bool b1, .bool b2, .bool b3, .bool b4] 99 (0, 0))
  below : Below w.heap.size w W
theorem AnS.drop {w W W' : World} {g : Nat} {a : AH} {b0 b1 b2 b3 b4 : Bool} (h : AnS w W g a b0 b1 b2 b3 b4) (hb : Below W.heap.size W W') : AnS w W' g a b0 b1 b2 b3 b4 :=
  ⟨h.box.below hb, by rw [hb.block g (Array.getElem?_eq_some_iff.1 h.f).1]; exact h.f, h.below.trans (hb.mono h.below.size)⟩
theorem AnS.cells {w W : World} {g : Nat} {a : AH} {b0 b1 b2 b3 b4 : Bool} (h : AnS w W g a b0 b1 b2 b3 b4) :
    (W.cell? ⟨g, 0, none⟩ = some (.bool b0) ∧ W.cell? ⟨g, 1, none⟩ = some (.bool b1) ∧ W.cell? ⟨g, 2, none⟩ = some (.bool b2) ∧ W.cell? ⟨g, 3, none⟩ = some (.bool b3) ∧ W.cell? ⟨g, 4, none⟩ = some (.bool b4)) ∧
    W.cell? ⟨w.heap.size, 0, none⟩ = some (.int .u8 a.kind) ∧ W.cell? ⟨w.heap.size, 8, none⟩ = some (.slice a.rp a.rn a.rc) ∧ W.cell? ⟨w.heap.size, 9, none⟩ = some (.slice a.ep a.en a.ec) ∧
    W.cell? ⟨w.heap.size, 10, none⟩ = some (.int .u8 a.ty.head.kind) ∧ W.cell? ⟨w.heap.size, 11, none⟩ = some (.int .i64 a.ty.head.rho) ∧ W.cell? ⟨w.heap.size, 12, none⟩ = some (.slice a.ty.head.ep a.ty.head.en a.ty.head.ec) ∧ W.cell? ⟨w.heap.size, 13, none⟩ = some (.slice a.ty.head.kp a.ty.head.kn a.ty.head.kc) ∧
    W.cell? ⟨w.heap.size, 14, none⟩ = some (.int .u8 a.res.head.kind) ∧ W.cell? ⟨w.heap.size, 15, none⟩ = some (.int .i64 a.res.head.rho) ∧ W.cell? ⟨w.heap.size, 16, none⟩ = some (.slice a.res.head.ep a.res.head.en a.res.head.ec) ∧ W.cell? ⟨w.heap.size, 17, none⟩ = some (.slice a.res.head.kp a.res.head.kn a.res.head.kc) := by
  have hf := h.f
  refine ⟨⟨?_, ?_, ?_, ?_, ?_⟩, h.box.c 0 _ rfl, h.box.c 8 _ rfl, h.box.c 9 _ rfl, h.box.c 10 _ rfl, h.box.c 11 _ rfl, h.box.c 12 _ rfl, h.box.c 13 _ rfl, h.box.c 14 _ rfl, h.box.c 15 _ rfl, h.box.c 16 _ rfl, h.box.c 17 _ rfl⟩ <;> simp [World.cell?, hf]
/-- a small type's head -/
theorem smallT_head {t : PT} {w : World} {n : Nat} (hl : LR.lies w t) (hs : SmallT t.er n) (hn : n ≤ 1000000) : t.head.en ≤ 1000000 ∧ t.head.kn ≤ 1000000 := by
  have hN := nodeIn' hl
  obtain ⟨a, l⟩ := t
  rw [PT.er_node] at hs
  have h1 := hs.kids
  have h2 := greatB_len' hs.eff
  have h3 := hN.own.eff.len
  have h4 := hN.kids.len
  simp only [List.length_map] at h1
  have h5 : a.eff.length ≤ 100 := h2
  have h6 : a.eff.length = a.en := h3
  have h7 : l.length = a.kn := h4
  show a.en ≤ 1000000 ∧ a.kn ≤ 1000000
  omega
end Go.Proofs.YtdlbjngpohkglaaGreatDoor
end
section
set_option linter.unusedVariables false
set_option maxRecDepth 100000
set_option linter.unusedSimpArgs false
namespace Go.Proofs.YtdlbjngpohkglaaGreatDoor
open Go.RowKit

set_option maxHeartbeats 1000000 in
theorem aterm_Size1_any (a : AH) (b : Nat) (z : Int) (W : World) (h : IntBlk b z W) :
    Calls Tryz.prog 68 #[aggT a, .pointer (some ⟨b, 0, none⟩)] W fun e w' => e = .returned (.bool (plus1 a z).1) ∧ IntBlk b (plus1 a z).2 w' ∧ W.grownBy w' (some b) := by
  have HA := Lib.hid (h.below ((Below.refl _ _).alloc (Nat.le_refl _) (boxA a)))
  obtain ⟨q0, qf⟩ := HA.out.cells
  obtain ⟨Z, hZ⟩ : ∃ Z, IntKind.i64.wrap (z + 1) = Z := ⟨_, rfl⟩
  have HZ : Hid ((plus1 a z).2 = Z) := hZ
  clear h
  go_enter Tryz.func68, Tryz.ntmps68
  go_wp2_with fail
  go_ret
  refine ⟨rfl, ?_⟩
  rw [HZ.out]
  exact ⟨HA.out.set Z, (World.grownBy_alloc W _ _).trans (grown_setCell1 _ _ _ _)⟩
theorem fvA_Size {w0 : World} {b : Nat} (hb : w0.heap.size ≤ b) : FvA w0 (some b) 68 #[.pointer (some ⟨b, 0, none⟩)] (IntBlk b) (fun _ => True) plus1 where
  eg := fun args w => rfl
  hb := fun b' h => by injection h with h; omega
  lt := fun b' h s W hi => by injection h with h; rw [← h]; exact hi.lt
  inv := fun s W W' hi hbl => hi.below hbl
  call := fun a s W _ _ hi => aterm_Size1_any a b s W hi
set_option maxHeartbeats 1000000 in
theorem aterm_Size_any {w : World} {p : Option Addr} {n c : Nat} {l : List PA} (hr : RowTA w p n c l) {m : Nat} (hm : (nodesL l).length = m) (h3 : m ≤ 1000000) :
    Calls Tryz.prog 54 #[.slice p n c] w fun e w' => e = .returned (.int .i64 m) ∧ Below w.heap.size w w' := by
  have HE := Lib.hid (aterm_each_any (fvA_Size (w0 := w) (b := w.heap.size) (Nat.le_refl _)) l p n c hr (fun _ _ => trivial))
  have HP : Hid (stepAll plus1 (nodesL l) 0 = (true, (m : Int))) := by
    show _ = _
    rw [plus1_all (nodesL l) 0 (by omega) (by omega), hm]
    congr 1
    omega
  have HI : Hid (IntBlk w.heap.size 0 (w.alloc (.cells #[.int .i64 0] 3))) := heap_alloc_new w _
  have HB := Lib.hid ((Below.refl w.heap.size w).alloc (Nat.le_refl _) (.cells #[.int .i64 0] 3))
  have HG := Lib.hid (World.grownBy_alloc w (.cells #[.int .i64 0] 3) (some w.heap.size))
  clear hr hm
  go_enter Tryz.func54, Tryz.ntmps54
  go_wp2_with (go_at_call 55; refine (HE.out 0 _ HB.out HI.out).mono ?_; rw [HP.out]; rintro e w2 ⟨rfl, hi2, hg2⟩; obtain ⟨q0, qf⟩ := hi2.cells; have HG2 := Lib.hid (HG.out.trans hg2); clear hi2 hg2)
  go_ret
  exact ⟨rfl, held_under HG2.out (Nat.le_refl _) (fun b hb => by injection hb with hb; omega)⟩
/-- a row made of one term -/
theorem rowTA_made {w : World} {t : PA} (hl : LA.lies w t) (e : TypeId) (gs : Nat) (hgs : w.heap.size = gs) : RowTA (w.alloc (.cells #[.int .u8 t.head.kind, .int .u8 t.head.op, .int .i64 t.head.at_, .int .i64 t.head.n, .string t.head.name, .string t.head.arg, .string t.head.exn, .int .i64 t.head.rho, .slice t.head.rp t.head.rn t.head.rc, .slice t.head.ep t.head.en t.head.ec, .int .u8 t.head.ty.head.kind, .int .i64 t.head.ty.head.rho, .slice t.head.ty.head.ep t.head.ty.head.en t.head.ty.head.ec, .slice t.head.ty.head.kp t.head.ty.head.kn t.head.ty.head.kc, .int .u8 t.head.res.head.kind, .int .i64 t.head.res.head.rho, .slice t.head.res.head.ep t.head.res.head.en t.head.res.head.ec, .slice t.head.res.head.kp t.head.res.head.kn t.head.res.head.kc, .slice t.head.kp t.head.kn t.head.kc] e)) (some ⟨gs, 0, none⟩) 1 1 [t] := by
  subst hgs
  refine ⟨row_made LAlen (by omega) w e [t] 1 _ ?_ rfl (by decide), fun x hx => ?_⟩
  · simp [Laid.encT, LA, encAH]
  · have : x = t := by simpa using hx
    subst this
    exact LA.lies_below ((Below.refl _ w).alloc (Nat.le_refl _) _) x hl
/-- what each node of a term that lies is good for -/
theorem nodes_own {w : World} (t : PA) : LA.lies w t → ∀ a ∈ Rose.nodes t, AH.Own w a ∧ a.kn ≤ t.size := by
  refine Rose.ind (P := fun (t : PA) => LA.lies w t → ∀ a ∈ Rose.nodes t, AH.Own w a ∧ a.kn ≤ t.size) (fun a l ih hl x hx => ?_) t
  have hN := nodeA hl
  rw [Rose.nodes_node, List.mem_cons] at hx
  rw [Rose.size_node]
  rcases hx with rfl | hx
  · refine ⟨hN.own, ?_⟩
    have h1 := kidsA_le l
    have h2 := hN.kids.len
    omega
  · rw [List.mem_flatten] at hx
    obtain ⟨m, hm, hx⟩ := hx
    obtain ⟨y, hy, rfl⟩ := List.mem_map.1 hm
    obtain ⟨h1, h2⟩ := ih y hy (hN.each y hy) x hx
    have h3 : y.size ≤ (l.map Rose.size).sum := le_sum_of_mem (List.mem_map_of_mem hy)
    exact ⟨h1, by omega⟩
def nodeU (a : AH) (_ : Unit) : Bool × Unit := (node13 a, ())
theorem stepAll_nodeU : ∀ l : List AH, (stepAll nodeU l ()).1 = l.all node13
  | [] => rfl
  | a :: l => by
    show (if (node13 a) = true then stepAll nodeU l () else (false, ())).1 = _
    rw [List.all_cons]
    cases h : node13 a
    · rfl
    · rw [if_pos rfl, stepAll_nodeU l]; rfl
/-- may a term be? -/
def mayA (t : PA) : Bool := (Rose.nodes t).all node13
end Go.Proofs.YtdlbjngpohkglaaGreatDoor
end
