/- Part 47 of the texts: Bc, Laid. -/
import Derived.Test.YtdlbjngpohkglaaGreatDoorG43
import Derived.Test.YtdlbjngpohkglaaGreatDoorG46
import Derived.Test.YtdlbjngpohkglaaGreatDoorG40
import Derived.Lib.ItoaMem
import Derived.Test.YtdlbjngpohkglaaGreatDoorCards
import Derived.Test.YtdlbjngpohkglaaGreatDoorTie
import Derived.LaidMore
import Derived.ProofKit
import Derived.Deep.DeepHandedRow
section
set_option linter.unusedVariables false
set_option maxRecDepth 100000
set_option linter.unusedSimpArgs false
namespace Go.Proofs.YtdlbjngpohkglaaGreatDoor
open Go.RowKit

theorem countW_app (a b bw : List ByteArray) : countW (a ++ b) bw = countW a bw + countW b bw := by
  unfold countW
  rw [List.filter_append, List.length_append]
/-- no bracket among the bytes -/
def clean (s : ByteArray) : Prop := ∀ c ∈ s.data.toList, c ≠ 40 ∧ c ≠ 41
theorem cut_sub : ∀ (s : List UInt8) (y : List UInt8), y ∈ cutL s → ∀ c ∈ y, c ∈ s
  | [], y, h, c, hc => by simp [cutL] at h; subst h; cases hc
  | b :: s, y, h, c, hc => by
    have ih := cut_sub s
    have hne := cutL_ne s
    unfold cutL at h
    split at h
    · rcases List.mem_cons.1 h with rfl | h
      · cases hc
      · exact List.mem_cons_of_mem _ (ih y h c hc)
    · cases hq : cutL s with
      | nil => exact absurd hq hne
      | cons x r =>
        rw [hq] at h ih
        simp only [List.headD_cons, List.tail_cons] at h
        rcases List.mem_cons.1 h with rfl | h
        · rcases List.mem_cons.1 hc with rfl | hc
          · simp
          · exact List.mem_cons_of_mem _ (ih x (by simp) c hc)
        · exact List.mem_cons_of_mem _ (ih y (List.mem_cons_of_mem _ h) c hc)
def isBr (b : ByteArray) : Prop := b = ⟨#[40]⟩ ∨ b = ⟨#[41]⟩
theorem count_clean {s : ByteArray} (h : clean s) {b : ByteArray} (hb : isBr b) : countW (spl s) [b] = 0 := by
  unfold countW
  rw [List.length_eq_zero_iff, List.filter_eq_nil_iff]
  intro y hy hyb
  have e : b = y := by simpa using hyb
  subst e
  have h1 : b.data.toList ∈ cutL s.data.toList := by rw [← spl_data]; exact List.mem_map_of_mem (f := fun x : ByteArray => x.data.toList) hy
  have h2 := cut_sub _ _ h1
  rcases hb with rfl | rfl
  · exact (h _ (h2 40 (by simp))).1 rfl
  · exact (h _ (h2 41 (by simp))).2 rfl
theorem clean_shaped {s : ByteArray} {f : Int} (h : shapedB s f = true) : clean s := by
  unfold shapedB at h
  simp only [Bool.and_eq_true, List.all_eq_true] at h
  intro c hc
  have h1 := h.2 (c.toNat : Int) (by unfold bytesI; exact List.mem_map.2 ⟨c, hc, rfl⟩)
  constructor
  · rintro rfl
    revert h1
    decide
  · rintro rfl
    revert h1
    decide
theorem clean_name {s : ByteArray} (h : nameB s = true) : clean s := by
  unfold nameB at h
  rw [Bool.and_eq_true] at h
  exact clean_shaped h.1
theorem clean_exn {s : ByteArray} (h : exnB s = true) : clean s := clean_shaped h
theorem clean_app {a b : ByteArray} (ha : clean a) (hb : clean b) : clean (a ++ b) := by
  intro c hc
  rw [app_data, List.mem_append] at hc
  rcases hc with hc | hc
  · exact ha c hc
  · exact hb c hc
theorem joinTail_mem (sep : List UInt8) : ∀ (xs : List (List UInt8)) (c : UInt8), c ∈ Lib.joinTail sep xs → c ∈ sep ∨ ∃ x ∈ xs, c ∈ x
  | [], c, h => by simp [Lib.joinTail] at h
  | x :: xs, c, h => by
    have ih := joinTail_mem sep xs c
    have e : Lib.joinTail sep (x :: xs) = sep ++ x ++ Lib.joinTail sep xs := by simp [Lib.joinTail]
    rw [e, List.mem_append, List.mem_append] at h
    rcases h with (h | h) | h
    · exact .inl h
    · exact .inr ⟨x, by simp, h⟩
    · rcases ih h with h | ⟨y, hy, h⟩
      · exact .inl h
      · exact .inr ⟨y, List.mem_cons_of_mem _ hy, h⟩
theorem join_mem_of (sep : List UInt8) : ∀ (xs : List (List UInt8)) (c : UInt8), c ∈ Lib.join xs sep → c ∈ sep ∨ ∃ x ∈ xs, c ∈ x
  | [], c, h => by simp [Lib.join] at h
  | x :: xs, c, h => by
    rw [Lib.join_cons, List.mem_append] at h
    rcases h with h | h
    · exact .inr ⟨x, by simp, h⟩
    · rcases joinTail_mem sep xs c h with h | ⟨y, hy, h⟩
      · exact .inl h
      · exact .inr ⟨y, List.mem_cons_of_mem _ hy, h⟩
theorem clean_joinB {l : List ByteArray} (h : ∀ x ∈ l, clean x) : clean (joinB l) := by
  intro c hc
  rw [joinB_data] at hc
  rcases join_mem_of _ _ c hc with hc | ⟨x, hx, hc⟩
  · simp at hc; subst hc; decide
  · obtain ⟨y, hy, rfl⟩ := List.mem_map.1 hx
    exact h y hy c hc
theorem dec_clean (n : Nat) : ∀ c ∈ Lib.decDigits n, c ≠ 40 ∧ c ≠ 41 := by
  have hd : ∀ k : Nat, k < 10 → (UInt8.ofNat (48 + k) ≠ 40 ∧ UInt8.ofNat (48 + k) ≠ 41) := by decide
  induction n using Nat.strongRecOn with
  | _ n ih =>
    intro c hc
    rw [Lib.decDigits] at hc
    split at hc
    · rw [List.mem_singleton.1 hc]; exact hd n (by omega)
    · rw [List.mem_append] at hc
      rcases hc with hc | hc
      · exact ih (n / 10) (by omega) c hc
      · rw [List.mem_singleton.1 hc]; exact hd (n % 10) (by omega)
theorem clean_dec (z : Int) : clean (decB z) := by
  intro c hc
  have hc : c ∈ Lib.itoa z := hc
  rcases (by omega : 0 ≤ z ∨ z < 0) with h | h
  · obtain ⟨n, rfl⟩ : ∃ n : Nat, z = n := ⟨z.toNat, by omega⟩
    rw [Lib.itoa_nonneg] at hc
    exact dec_clean n c hc
  · obtain ⟨n, rfl⟩ : ∃ n : Nat, z = -(n : Int) := ⟨(-z).toNat, by omega⟩
    rw [Lib.itoa_neg n (by omega)] at hc
    rcases List.mem_cons.1 hc with rfl | hc
    · decide
    · exact dec_clean n c hc
theorem clean_lit {s : ByteArray} (h : s.data.toList.all (fun c => c != 40 && c != 41) = true) : clean s := by
  intro c hc
  have := List.all_eq_true.1 h c hc
  simpa using this
theorem clean_textOne {a : Atom} (h : atomB a = true) : clean (textOne a) := by
  unfold textOne
  have h1 := clean_dec a.rho
  split
  · exact clean_app (clean_app (clean_lit rfl) (clean_lit rfl)) h1
  · rename_i k1
    split
    · exact clean_app (clean_app (clean_lit rfl) (clean_lit rfl)) h1
    · rename_i k2
      unfold atomB at h
      rw [if_neg (by omega)] at h
      split at h
      · rw [Bool.and_eq_true] at h
        exact clean_app (clean_app (clean_lit rfl) (clean_lit rfl)) (clean_exn h.2)
      · cases h
theorem clean_textA (l : List Atom) : clean (textA (effL l)) := by
  unfold textA
  split
  · exact clean_lit rfl
  · intro c hc
    have hc : c ∈ Lib.join (((effL l).map textOne).map (·.data.toList)) [32, 44, 32] := hc
    rcases join_mem_of _ _ c hc with hc | ⟨x, hx, hc⟩
    · simp at hc
      rcases hc with rfl | rfl | rfl <;> decide
    · simp only [List.mem_map] at hx
      obtain ⟨z, ⟨a, ha, rfl⟩, rfl⟩ := hx
      unfold effL at ha
      rw [mem_sortA, List.mem_filter] at ha
      exact clean_textOne ha.2 c hc
/-- how often b stands among the words of pieces -/
def cbP (b : ByteArray) (l : List ByteArray) : Nat := countW (wordsP l) [b]
theorem cbP_nil (b : ByteArray) : cbP b [] = 0 := rfl
theorem cbP_app (b : ByteArray) (l m : List ByteArray) : cbP b (l ++ m) = cbP b l + cbP b m := by unfold cbP; rw [wordsP_app, countW_app]
theorem cbP_cons (b s : ByteArray) (l : List ByteArray) : cbP b (s :: l) = countW (spl s) [b] + cbP b l := by
  have : wordsP (s :: l) = spl s ++ wordsP l := by simp [wordsP]
  unfold cbP; rw [this, countW_app]
theorem cbP_clean {b : ByteArray} (hb : isBr b) : ∀ {l : List ByteArray}, (∀ x ∈ l, clean x) → cbP b l = 0
  | [], _ => rfl
  | s :: l, h => by
    rw [cbP_cons, count_clean (h s (by simp)) hb, cbP_clean hb (fun x hx => h x (List.mem_cons_of_mem _ hx))]
theorem spl_open : spl ⟨#[40]⟩ = [⟨#[40]⟩] := spl_of (by rfl)
theorem spl_close : spl ⟨#[41]⟩ = [⟨#[41]⟩] := spl_of (by rfl)
theorem spl_ref : spl ⟨#[40, 32, 114, 101, 102]⟩ = [⟨#[40]⟩, ⟨#[114, 101, 102]⟩] := spl_of (by rfl)
theorem count_pair {b : ByteArray} (hb : isBr b) : countW (spl ⟨#[40]⟩) [b] + countW (spl ⟨#[41]⟩) [b] = 1 := by
  rw [spl_open, spl_close]
  rcases hb with rfl | rfl <;> decide
theorem count_ref {b : ByteArray} (hb : isBr b) : countW (spl ⟨#[40, 32, 114, 101, 102]⟩) [b] = countW (spl ⟨#[40]⟩) [b] := by
  rw [spl_open, spl_ref]
  rcases hb with rfl | rfl <;> decide
theorem spl_joinB (l : List ByteArray) (h : l ≠ []) : countW (spl (joinB l)) = countW (wordsP l) := by
  have : spl (joinB l) = wordsP l := spl_joinW l h
  rw [this]
theorem cb_type {b : ByteArray} (hb : isBr b) (t : PT) : mayT t.er = true → countW (spl (textT t.er)) [b] = boxedT t := by
  refine Rose.ind (P := fun (t : PT) => mayT t.er = true → countW (spl (textT t.er)) [b] = boxedT t) (fun a l ih h => ?_) t
  rw [mayT_er, Bool.and_eq_true, List.all_eq_true] at h
  obtain ⟨h1, h2⟩ := h
  have ih' := fun x hx => ih x hx (h2 x hx)
  rw [boxedT_node, textT_er]
  have hk : a.plain.kind = a.kind := rfl
  have hr : a.plain.rho = a.rho := rfl
  have he : a.plain.eff = a.eff := rfl
  have hp := count_pair hb
  have hcd := count_clean (clean_dec a.rho) hb
  have hct := count_clean (clean_textA a.eff) hb
  have c1 := count_clean (s := ⟨#[42]⟩) (clean_lit rfl) hb
  have c2 := count_clean (s := ⟨#[64]⟩) (clean_lit rfl) hb
  have c3 := count_clean (s := ⟨#[45, 62]⟩) (clean_lit rfl) hb
  have c4 := count_clean (s := ⟨#[33]⟩) (clean_lit rfl) hb
  have c5 := count_clean (s := bInt) (clean_lit rfl) hb
  unfold nodeB at h1
  unfold nodeText partsL atL
  rw [hr, he]
  simp only [hk, hr, he] at h1 ⊢
  by_cases k1 : a.kind = 1
  · rw [if_pos k1] at h1 ⊢
    simp only [Bool.and_eq_true, decide_eq_true_eq] at h1
    have hl : l = [] := List.eq_nil_of_length_eq_zero h1.2
    subst hl
    rw [if_neg (by omega), c5]; rfl
  rw [if_neg k1] at h1 ⊢
  rw [spl_joinB _ (by simp)]
  by_cases k2 : a.kind = 2
  · rw [if_pos k2] at h1 ⊢
    simp only [Bool.and_eq_true, decide_eq_true_eq] at h1
    obtain ⟨x, y, rfl⟩ : ∃ x y, l = [x, y] := by match l, h1.2 with | [x, y], _ => exact ⟨x, y, rfl⟩
    have e0 := ih' x (by simp)
    have e1 := ih' y (by simp)
    show cbP b _ = _
    simp only [List.cons_append, List.nil_append, cbP_cons, cbP_nil, List.map_cons, List.map_nil, List.getD_cons_zero, List.getD_cons_succ, List.sum_cons, List.sum_nil]
    rw [if_pos (by omega)]
    omega
  rw [if_neg k2] at h1 ⊢
  by_cases k3 : a.kind = 3
  · rw [if_pos k3] at h1 ⊢
    simp only [Bool.and_eq_true, decide_eq_true_eq] at h1
    obtain ⟨x, rfl⟩ : ∃ x, l = [x] := by match l, h1.2 with | [x], _ => exact ⟨x, rfl⟩
    have e0 := ih' x (by simp)
    have e2 := count_ref hb
    show cbP b _ = _
    simp only [List.cons_append, List.nil_append, cbP_cons, cbP_nil, List.map_cons, List.map_nil, List.getD_cons_zero, List.sum_cons, List.sum_nil]
    rw [if_pos (by omega)]
    omega
  rw [if_neg k3] at h1 ⊢
  by_cases k4 : a.kind = 4
  · rw [if_pos k4] at h1
    simp only [Bool.and_eq_true, decide_eq_true_eq] at h1
    obtain ⟨x, y, rfl⟩ : ∃ x y, l = [x, y] := by match l, h1.2 with | [x, y], _ => exact ⟨x, y, rfl⟩
    have e0 := ih' x (by simp)
    have e1 := ih' y (by simp)
    show cbP b _ = _
    simp only [List.cons_append, List.nil_append, cbP_cons, cbP_nil, List.map_cons, List.map_nil, List.getD_cons_zero, List.getD_cons_succ, List.sum_cons, List.sum_nil]
    rw [if_pos (by omega)]
    omega
  rw [if_neg k4] at h1
  cases h1
theorem cb_kidsTo {b : ByteArray} (hb : isBr b) {bt : List ByteArray} (hbt : ∀ x ∈ bt, clean x) (ks : List (List ByteArray)) : ∀ i, cbP b (kidsTo bt ks i) = ((ks.take i).map (cbP b)).sum
  | 0 => by simp [kidsTo, cbP_nil]
  | i + 1 => by
    have ih := cb_kidsTo hb hbt ks i
    have h1 : cbP b (betw bt i) = 0 := by
      unfold betw
      split
      · rw [cbP_cons, cbP_nil, Nat.add_zero]
        refine count_clean ?_ hb
        rw [List.getD]
        cases hg : bt[i - 1]? with
        | none => exact clean_lit rfl
        | some s => exact hbt s (List.mem_of_getElem? hg)
      · rfl
    have h2 : ((ks.take (i + 1)).map (cbP b)).sum = ((ks.take i).map (cbP b)).sum + cbP b (ks.getD i []) := by
      rw [List.take_add_one, List.map_append, List.sum_append_nat]
      congr 1
      cases hk : ks[i]? with
      | none => rw [List.getD, hk]; rfl
      | some k => rw [List.getD, hk]; simp
    rw [kidsTo, cbP_app, cbP_app, h1, h2, ih]
    omega
theorem cb_kidsP {b : ByteArray} (hb : isBr b) {bt : List ByteArray} (hbt : ∀ x ∈ bt, clean x) (ks : List (List ByteArray)) : cbP b (kidsP bt ks) = (ks.map (cbP b)).sum := by
  have := cb_kidsTo hb hbt ks ks.length
  rwa [List.take_length] at this
theorem boxed_plain {w : World} {t : PT} (hl : LR.lies w t) (h : plainB t.head = true) : boxedT t = 0 := by
  obtain ⟨a, l⟩ := t
  have HN := nodeIn hl
  have h' : plainB a = true := h
  unfold plainB at h'
  simp only [Bool.and_eq_true, beq_iff_eq] at h'
  have : l.length = 0 := by rw [HN.kids.len]; omega
  have hl0 : l = [] := List.eq_nil_of_length_eq_zero this
  subst hl0
  rw [boxedT_node, if_neg (by omega)]; rfl
theorem cb_atP {b : ByteArray} (hb : isBr b) (a : AH) : cbP b (atP a) = 0 := by
  refine cbP_clean hb ?_
  unfold atP
  simp only [List.mem_cons, List.not_mem_nil, or_false, forall_eq_or_imp, forall_eq]
  exact ⟨clean_lit rfl, clean_dec _⟩
theorem cb_rhosP {b : ByteArray} (hb : isBr b) (a : AH) : cbP b (rhosP a) = 0 := by
  refine cbP_clean hb ?_
  unfold rhosP
  intro x hx
  simp only [List.mem_append, List.mem_singleton, List.mem_map] at hx
  rcases hx with rfl | ⟨r, _, rfl⟩ | rfl
  · exact clean_lit rfl
  · exact clean_dec _
  · exact clean_lit rfl
theorem cb_effP {b : ByteArray} (hb : isBr b) (a : AH) : cbP b (effP a) = 0 := by
  refine cbP_clean hb ?_
  unfold effP
  simp only [List.mem_cons, List.not_mem_nil, or_false, forall_eq_or_imp, forall_eq]
  exact ⟨clean_lit rfl, clean_textA _⟩
theorem cb_typedP {b : ByteArray} (hb : isBr b) {sign : ByteArray} (hs : clean sign) {t : PT} (ht : mayT t.er = true) : cbP b (typedP sign t) = boxedT t := by
  unfold typedP
  rw [cbP_cons, cbP_cons, cbP_nil, count_clean hs hb, cb_type hb t ht]
  omega
/-- the brackets of a node's pieces -/
theorem cb_node {b : ByteArray} (hb : isBr b) {w : World} {a : AH} {l : List PA} (hN : NodeA w a l) (hok : NodeOk a) (ks : List (List ByteArray)) (hks : ks.length = l.length) : cbP b (nodeP a ks) = nodeCnt a + (ks.map (cbP b)).sum := by
  have hlen : (ks.length : Int) = kidsI (if a.kind = 17 then 4 else if a.kind = 18 then 1 else a.kind) := by rw [hok.kids, hks, hN.kids.len]
  have hat := cb_atP hb a
  have hrh := cb_rhosP hb a
  have hef := cb_effP hb a
  have hp := count_pair hb
  have hty0 : inB [11, 13, 15] a.kind = false → boxedT a.ty = 0 := fun h => boxed_plain hN.own.ty (hok.ty0 h)
  have hres0 : a.kind ≠ 13 → boxedT a.res = 0 := fun h => boxed_plain hN.own.res (hok.res0 h)
  have h0 := cb_kidsP hb (bt := []) (by simp) ks
  have hk1 := hok.k1
  have hk18 := hok.k18
  have L : ∀ {s : ByteArray} {l : List ByteArray}, s.data.toList.all (fun c => c != 40 && c != 41) = true → cbP b (s :: l) = cbP b l := fun h => by rw [cbP_cons, count_clean (clean_lit h) hb]; omega
  have C : ∀ {s : ByteArray} {l : List ByteArray}, clean s → cbP b (s :: l) = cbP b l := fun h => by rw [cbP_cons, count_clean h hb]; omega
  unfold nodeP nodeCnt
  by_cases h1 : a.kind = 1
  · rw [if_pos h1, C (clean_dec _), cbP_nil, hty0 (by rw [h1]; rfl), hres0 (by omega), if_neg (by omega)]
    rw [h1] at hlen
    have hl0 : ks = [] := List.eq_nil_of_length_eq_zero (by have : kidsI 1 = 0 := rfl; simp at hlen; omega)
    subst hl0; rfl
  by_cases h2 : a.kind = 2
  · rw [if_neg h1, if_pos h2, C (clean_name (hok.name (.inl h2))), cbP_nil, hty0 (by rw [h2]; rfl), hres0 (by omega), if_neg (by omega)]
    rw [h2] at hlen
    have hl0 : ks = [] := List.eq_nil_of_length_eq_zero (by have : kidsI 2 = 0 := rfl; simp at hlen; omega)
    subst hl0; rfl
  rw [if_neg h1, if_neg h2, if_pos (by omega), cbP_app, cbP_app, cbP_cons, cbP_cons, cbP_nil]
  suffices hI : cbP b (innerP a ks) = boxedT a.ty + boxedT a.res + (ks.map (cbP b)).sum by omega
  unfold innerP
  by_cases h3 : a.kind = 3
  · rw [if_pos h3, cbP_app, hat, cb_kidsP hb (by simpa using clean_lit rfl), hty0 (by rw [h3]; rfl), hres0 (by omega)]; try omega
  by_cases h4 : a.kind = 4
  · rw [if_neg h3, if_pos h4, cbP_app, h0, L rfl, cbP_nil, hty0 (by rw [h4]; rfl), hres0 (by omega)]; try omega
  by_cases h5 : a.kind = 5
  · rw [if_neg h3, if_neg h4, if_pos h5, cbP_app, h0, L rfl, cbP_nil, hty0 (by rw [h5]; rfl), hres0 (by omega)]; try omega
  by_cases h7 : a.kind = 7
  · rw [if_neg h3, if_neg h4, if_neg h5, if_pos h7, cbP_app, h0, L rfl, cbP_nil, hty0 (by rw [h7]; rfl), hres0 (by omega)]; try omega
  by_cases h6 : a.kind = 6
  · rw [if_neg h3, if_neg h4, if_neg h5, if_neg h7, if_pos h6, cbP_app, cbP_app, h0, hat, L rfl, cbP_nil, hty0 (by rw [h6]; rfl), hres0 (by omega)]; try omega
  by_cases h8 : a.kind = 8
  · rw [if_neg h3, if_neg h4, if_neg h5, if_neg h7, if_neg h6, if_pos h8, cb_kidsP hb (by simpa using clean_lit rfl), hty0 (by rw [h8]; rfl), hres0 (by omega)]; try omega
  by_cases h9 : a.kind = 9
  · rw [if_neg h3, if_neg h4, if_neg h5, if_neg h7, if_neg h6, if_neg h8, if_pos h9, cb_kidsP hb (by
      have : clean (signB a.op) := by unfold signB; split; exact clean_lit rfl; split; exact clean_lit rfl; split; exact clean_lit rfl; split <;> exact clean_lit rfl
      simpa using this), hty0 (by rw [h9]; rfl), hres0 (by omega)]; try omega
  by_cases h10 : a.kind = 10
  · rw [if_neg h3, if_neg h4, if_neg h5, if_neg h7, if_neg h6, if_neg h8, if_neg h9, if_pos h10, cb_kidsP hb (by simpa using clean_lit rfl), hty0 (by rw [h10]; rfl), hres0 (by omega)]; try omega
  by_cases h14 : a.kind = 14
  · rw [if_neg h3, if_neg h4, if_neg h5, if_neg h7, if_neg h6, if_neg h8, if_neg h9, if_neg h10, if_pos h14, cbP_app, L rfl, cbP_nil, cb_kidsP hb (by
      simp only [List.mem_cons, List.not_mem_nil, or_false, forall_eq_or_imp, forall_eq]
      exact ⟨clean_lit rfl, clean_lit rfl⟩), hty0 (by rw [h14]; rfl), hres0 (by omega)]; try omega
  rw [if_neg h3, if_neg h4, if_neg h5, if_neg h7, if_neg h6, if_neg h8, if_neg h9, if_neg h10, if_neg h14]
  unfold binderP
  by_cases h11 : a.kind = 11
  · have hm := hok.ty (by rw [h11]; rfl)
    rw [if_pos h11]
    simp only [cbP_app]
    rw [L rfl, C (clean_name (hok.arg (.inl h11))), cbP_nil, cb_typedP hb (clean_lit rfl) hm, hef, L rfl, cbP_nil, h0, hat, hres0 (by omega)]; try omega
  by_cases h12 : a.kind = 12
  · rw [if_neg h11, if_pos h12, cbP_app, L rfl, C (clean_name (hok.name (by omega))), L rfl, cbP_nil, cb_kidsP hb (by simpa using clean_lit rfl), hty0 (by rw [h12]; rfl), hres0 (by omega)]; try omega
  by_cases h13 : a.kind = 13
  · have hm := hok.ty (by rw [h13]; rfl)
    have hm2 := hok.res h13
    rw [h13] at hlen
    have hl2 : ks.length = 2 := by have : kidsI 13 = 2 := rfl; simp at hlen; omega
    obtain ⟨x, y, rfl⟩ : ∃ x y, ks = [x, y] := by match ks, hl2 with | [x, y], _ => exact ⟨x, y, rfl⟩
    rw [if_neg h11, if_neg h12, if_pos h13]
    simp only [cbP_app]
    rw [L rfl, C (clean_name (hok.name (by omega))), cbP_nil, hrh, C (clean_name (hok.arg (by omega))), cbP_nil, cb_typedP hb (clean_lit rfl) hm, cb_typedP hb (clean_lit rfl) hm2, hef, L rfl, L rfl, cbP_nil, hat]
    simp only [List.getD_cons_zero, List.getD_cons_succ, List.map_cons, List.map_nil, List.sum_cons, List.sum_nil]
    omega
  by_cases h15 : a.kind = 15
  · have hm := hok.ty (by rw [h15]; rfl)
    rw [if_neg h11, if_neg h12, if_neg h13, if_pos h15]
    simp only [cbP_app]
    rw [L rfl, C (clean_exn (hok.exn (.inl h15))), cbP_nil, cb_typedP hb (clean_lit rfl) hm, h0, hres0 (by omega)]; try omega
  by_cases h16 : a.kind = 16
  · rw [if_neg h11, if_neg h12, if_neg h13, if_neg h15, if_pos h16, cbP_app, L rfl, cbP_nil, cb_kidsP hb (by
      intro x hx
      rw [List.mem_singleton.1 hx]
      refine clean_joinB ?_
      simp only [List.mem_cons, List.not_mem_nil, or_false, forall_eq_or_imp, forall_eq]
      exact ⟨clean_lit rfl, clean_exn (hok.exn (.inr h16)), clean_name (hok.arg (by omega)), clean_lit rfl⟩), hty0 (by rw [h16]; rfl), hres0 (by omega)]; try omega
  by_cases h17 : a.kind = 17
  · rw [if_neg h11, if_neg h12, if_neg h13, if_neg h15, if_neg h16, if_pos h17]
    simp only [cbP_app]
    rw [L rfl, C (clean_dec _), L rfl, cbP_nil, h0, hty0 (by rw [h17]; rfl), hres0 (by omega)]; try omega
  have h18 : a.kind = 18 := by omega
  rw [h18] at hlen
  have hl0 : ks = [] := List.eq_nil_of_length_eq_zero (by have : kidsI 1 = 0 := rfl; simp at hlen; omega)
  subst hl0
  rw [if_neg h11, if_neg h12, if_neg h13, if_neg h15, if_neg h16, if_neg h17, if_pos h18]
  simp only [cbP_app]
  rw [C (clean_name (hok.name (by omega))), cbP_nil, hrh, hef, hat, hty0 (by rw [h18]; rfl), hres0 (by omega)]; rfl
theorem sum_flat (f : AH → Nat) (g : PA → List AH) : ∀ l : List PA, (((l.map g).flatten).map f).sum = (l.map (fun x => ((g x).map f).sum)).sum
  | [] => rfl
  | x :: l => by
    simp only [List.map_cons, List.flatten_cons, List.map_append, List.sum_append_nat, List.sum_cons]
    rw [sum_flat f g l]
theorem cb_term {b : ByteArray} (hb : isBr b) {w : World} (t : PA) : LA.lies w t → mayA t = true → cbP b (piecesT t) = cntN (Rose.nodes t) := by
  refine Rose.ind (P := fun (t : PA) => LA.lies w t → mayA t = true → cbP b (piecesT t) = cntN (Rose.nodes t)) (fun a l ih hl hm => ?_) t
  have hN := nodeA hl
  rw [mayA_node, Bool.and_eq_true, List.all_eq_true] at hm
  have hok := node_ok hm.1 hN.own.rhos.len
  rw [piecesT_node, cb_node hb hN hok _ (by simp), List.map_map]
  have e : cntN (Rose.nodes (.node a l)) = nodeCnt a + (l.map (fun x => cntN (Rose.nodes x))).sum := by
    unfold cntN
    rw [Rose.nodes_node, List.map_cons, List.sum_cons, sum_flat nodeCnt Rose.nodes l]
  rw [e]
  congr 2
  refine List.map_congr_left (fun x hx => ?_)
  exact ih x hx (hN.each x hx) (hm.2 x hx)
theorem countW_two (ws : List ByteArray) {x y : ByteArray} (h : x ≠ y) : countW ws [x, y] = countW ws [x] + countW ws [y] := by
  induction ws with
  | nil => rfl
  | cons s ws ih =>
    unfold countW at ih ⊢
    by_cases h1 : x = s
    · have h2 : ¬ y = s := fun e => h (h1.trans e.symm)
      simp only [List.filter_cons, List.any_cons, List.any_nil, h1, h2, decide_true, decide_false, Bool.true_or, Bool.or_false, if_true, List.length_cons] at ih ⊢
      simp at ih ⊢
      omega
    · by_cases h2 : y = s
      · simp [List.filter_cons, h1, h2] at ih ⊢
        omega
      · simp [List.filter_cons, h1, h2] at ih ⊢
        omega
theorem displayBrackets_walk {w : World} (hv : Vr w) (ht : Tab w) (t : PA) (hl : LA.lies w t) :
    Calls Tryz.prog 7 #[aggT t.head] w fun e w' => e = .returned (.bool true) ∧ Below w.heap.size w w' := by
  have h1 : mayA t = true → ∀ b : ByteArray, (b = ⟨#[40]⟩ ∨ b = ⟨#[41]⟩) → countW (wordsT t) [b] = cntN (Rose.nodes t) := by
    intro hm b hb
    unfold wordsT
    rw [if_pos hm]
    exact cb_term hb t hl hm
  refine displayBrackets_of hv ht t hl h1 (fun hm => ?_)
  rw [countW_two _ (by decide), h1 hm _ (.inl rfl), h1 hm _ (.inr rfl)]
  omega
end Go.Proofs.YtdlbjngpohkglaaGreatDoor
end
section
set_option maxRecDepth 100000
namespace Go.Proofs.YtdlbjngpohkglaaGreatDoor
open Go.RowKit

def litV1 : DataW Unit → List Value
  | .lit (.int k z) => [.int k z]
  | _ => []
def litV2 : DataW Unit → List Value
  | .agg l => l.flatMap litV1
  | d => litV1 d
def litV3 : DataW Unit → List Value
  | .agg l => l.flatMap litV2
  | _ => []
def putV (h : Array Obj) (g : Nat) (cs : Array Value) : Array Obj := h.modify g fun
  | .cells _ t frozen => .cells cs t frozen
  | o => o
noncomputable def laidW (os : Os) : World :=
  { World.holding Tryz.prog os ⟨#[], #[], []⟩ with heap := putV (putV (putV (putV (putV (World.holding Tryz.prog os ⟨#[], #[], []⟩).heap 1 (litV3 Rows.laid_internal_strconv_uint64pow10).toArray) 2 (litV3 Rows.laid_unicode_utf8_first).toArray) 3 (litV3 Rows.laid_unicode_utf8_acceptRanges).toArray) 4 (litV3 Rows.laid_math_bits_deBruijn32tab).toArray) 5 (litV3 Rows.laid_math_bits_deBruijn64tab).toArray }
theorem laidW_met (os : Os) (args : Array Value) : laidMet Tryz.prog Rows.displayPartsRow.laid ((laidW os).forCall (fun _ _ => 0) ⟨#[], args, []⟩).memory :=
  laidMet_of_run' 8 (by kernel_rfl) (by kernel_rfl)
end Go.Proofs.YtdlbjngpohkglaaGreatDoor
end
