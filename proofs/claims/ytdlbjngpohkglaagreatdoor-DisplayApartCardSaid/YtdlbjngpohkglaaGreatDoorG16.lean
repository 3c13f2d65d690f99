/- Part 16 of the texts: Ua, AT, Pc. -/
import Derived.Test.YtdlbjngpohkglaaGreatDoorG14
import Derived.Test.YtdlbjngpohkglaaGreatDoorG15
import Derived.Test.YtdlbjngpohkglaaGreatDoorG08
import Derived.Lib.ItoaMem
import Derived.Test.YtdlbjngpohkglaaGreatDoorG11
section
set_option linter.unusedVariables false
set_option maxRecDepth 100000
set_option linter.unusedSimpArgs false
namespace Go.Proofs.YtdlbjngpohkglaaGreatDoor
open Go.RowKit

theorem app_data2 (a b : ByteArray) : (a ++ b).data.toList = a.data.toList ++ b.data.toList := by
  rw [ByteArray.data_append, Array.toList_append]
theorem spl_word {s : ByteArray} (h : 32 ∉ s.data.toList) : spl s = [s] := spl_of (by rw [cut_word _ h]; rfl)
theorem spl_app2 (a b : ByteArray) : spl (a ++ (⟨#[32]⟩ ++ b)) = spl a ++ spl b := by
  apply spl_of
  rw [List.map_append, spl_data, spl_data, app_data2, app_data2]
  exact cut_app _ _
theorem dec_bytes (n : Nat) : ∀ c ∈ Lib.decDigits n, 48 ≤ c ∧ c ≤ 57 := by
  have hd : ∀ k : Nat, k < 10 → (48 ≤ UInt8.ofNat (48 + k) ∧ UInt8.ofNat (48 + k) ≤ 57) := by decide
  induction n using Nat.strongRecOn with
  | _ n ih =>
    intro c hc
    rw [Lib.decDigits] at hc
    split at hc
    · rw [List.mem_singleton.1 hc]; exact hd n (by omega)
    · rw [List.mem_append] at hc
      rcases hc with hc | hc
      · exact ih (n / 10) (by omega) c hc
      · rw [List.mem_singleton.1 hc]; exact hd (n % 10) (by omega)
theorem dec_ne (n : Nat) : Lib.decDigits n ≠ [] := by
  rw [Lib.decDigits]
  split <;> simp
def valL (l : List UInt8) : Nat := l.foldl (fun v c => v * 10 + (c.toNat - 48)) 0
theorem valL_dec (n : Nat) : valL (Lib.decDigits n) = n := by
  have hd : ∀ k : Nat, k < 10 → (UInt8.ofNat (48 + k)).toNat - 48 = k := by decide
  induction n using Nat.strongRecOn with
  | _ n ih =>
    rw [Lib.decDigits]
    split
    · show 0 * 10 + _ = _
      rw [hd n (by omega)]; omega
    · have := ih (n / 10) (by omega)
      unfold valL at this ⊢
      rw [List.foldl_append, this]
      show n / 10 * 10 + _ = _
      rw [hd (n % 10) (by omega)]; omega
theorem decB_nat (n : Nat) : (decB (n : Int)).data.toList = Lib.decDigits n := Lib.itoa_nonneg n
theorem decB_inj {x y : Int} (hx : 0 ≤ x) (hy : 0 ≤ y) (h : decB x = decB y) : x = y := by
  obtain ⟨n, rfl⟩ : ∃ n : Nat, x = n := ⟨x.toNat, by omega⟩
  obtain ⟨m, rfl⟩ : ∃ m : Nat, y = m := ⟨y.toNat, by omega⟩
  have h1 := congrArg (fun s : ByteArray => valL s.data.toList) h
  simp only [decB_nat, valL_dec] at h1
  omega
theorem decB_word {x : Int} (hx : 0 ≤ x) : spl (decB x) = [decB x] := by
  obtain ⟨n, rfl⟩ : ∃ n : Nat, x = n := ⟨x.toNat, by omega⟩
  refine spl_word fun h => ?_
  rw [decB_nat] at h
  exact absurd (dec_bytes n 32 h).1 (by decide)
theorem shaped_word {s : ByteArray} {f : Int} (h : shapedB s f = true) : spl s = [s] := by
  unfold shapedB at h
  simp only [Bool.and_eq_true, List.all_eq_true] at h
  refine spl_word fun hc => ?_
  have h1 := h.2 (((32 : UInt8).toNat : Nat) : Int) (by unfold bytesI; exact List.mem_map.2 ⟨32, hc, rfl⟩)
  revert h1
  decide
theorem exn_word {s : ByteArray} (h : exnB s = true) : spl s = [s] := shaped_word h
theorem name_word {s : ByteArray} (h : nameB s = true) : spl s = [s] := by
  unfold nameB at h
  rw [Bool.and_eq_true] at h
  exact shaped_word h.1
/-- the words of an atom -/
def wA (a : Atom) : List ByteArray := if a.kind = 1 then [bGet, decB a.rho] else if a.kind = 2 then [bPut, decB a.rho] else [bExn, a.exn]
theorem spl_bGet : spl bGet = [bGet] := spl_of (by rfl)
theorem spl_bPut : spl bPut = [bPut] := spl_of (by rfl)
theorem spl_bExn : spl bExn = [bExn] := spl_of (by rfl)
theorem ba_assoc (a b c : ByteArray) : a ++ b ++ c = a ++ (b ++ c) := ByteArray.append_assoc
theorem wA_eq {a : Atom} (h : atomB a = true) : spl (textOne a) = wA a := by
  unfold atomB at h
  unfold textOne wA
  by_cases h1 : a.kind = 1
  · rw [if_pos (.inl h1)] at h
    simp only [Bool.and_eq_true, decide_eq_true_eq] at h
    rw [if_pos h1, if_pos h1, ba_assoc]
    exact (spl_app2 _ _).trans (by rw [spl_bGet, decB_word h.1]; rfl)
  by_cases h2 : a.kind = 2
  · rw [if_pos (.inr h2)] at h
    simp only [Bool.and_eq_true, decide_eq_true_eq] at h
    rw [if_neg h1, if_neg h1, if_pos h2, if_pos h2, ba_assoc]
    exact (spl_app2 _ _).trans (by rw [spl_bPut, decB_word h.1]; rfl)
  rw [if_neg (by omega)] at h
  split at h
  · rw [Bool.and_eq_true] at h
    rw [if_neg h1, if_neg h1, if_neg h2, if_neg h2, ba_assoc]
    exact (spl_app2 _ _).trans (by rw [spl_bExn, exn_word h.2]; rfl)
  · cases h
theorem wA_inj {a b : Atom} {r r' : List ByteArray} (ha : atomB a = true) (hb : atomB b = true) (h : wA a ++ r = wA b ++ r') : a = b ∧ r = r' := by
  have key : ∀ a : Atom, atomB a = true → (a.kind = 1 ∧ 0 ≤ a.rho ∧ a.exn = ByteArray.empty) ∨ (a.kind = 2 ∧ 0 ≤ a.rho ∧ a.exn = ByteArray.empty) ∨ (a.kind = 3 ∧ a.rho = 0) := by
    intro a ha
    unfold atomB at ha
    split at ha
    · rename_i hk
      simp only [Bool.and_eq_true, decide_eq_true_eq] at ha
      have he : a.exn = ByteArray.empty := by
        have h2 : a.exn.toList = [] := by simpa using ha.2
        rw [Lib.toList_data] at h2
        exact ba_ext h2
      rcases hk with hk | hk
      · exact .inl ⟨hk, ha.1, he⟩
      · exact .inr (.inl ⟨hk, ha.1, he⟩)
    · split at ha
      · rename_i hk
        simp only [Bool.and_eq_true, decide_eq_true_eq] at ha
        exact .inr (.inr ⟨hk, ha.1⟩)
      · cases ha
  have ngp : ¬ bGet = bPut := by decide
  have nge : ¬ bGet = bExn := by decide
  have npe : ¬ bPut = bExn := by decide
  obtain ⟨k, x, s⟩ := a
  obtain ⟨k', x', s'⟩ := b
  rcases key _ ha with ⟨rfl, h0, rfl⟩ | ⟨rfl, h0, rfl⟩ | ⟨rfl, rfl⟩ <;> rcases key _ hb with ⟨rfl, h0', rfl⟩ | ⟨rfl, h0', rfl⟩ | ⟨rfl, rfl⟩ <;>
    simp [wA, ngp, nge, npe, Ne.symm ngp, Ne.symm nge, Ne.symm npe] at h
  · obtain rfl : x = x' := decB_inj h0 h0' h.1
    exact ⟨rfl, h.2⟩
  · obtain rfl : x = x' := decB_inj h0 h0' h.1
    exact ⟨rfl, h.2⟩
  · rw [h.1, h.2]; exact ⟨rfl, rfl⟩
def bNone : ByteArray := ⟨#[110, 111, 110, 101]⟩
def bCm : ByteArray := ⟨#[44]⟩
theorem spl_bNone : spl bNone = [bNone] := spl_of (by rfl)
theorem spl_bCm : spl bCm = [bCm] := spl_of (by rfl)
/-- the words of an effect -/
def wE : List Atom → List ByteArray
  | [] => [bNone]
  | [a] => wA a
  | a :: b :: l => wA a ++ bCm :: wE (b :: l)
theorem wE_eq : ∀ l : List Atom, (∀ a ∈ l, atomB a = true) → spl (textA l) = wE l
  | [], _ => spl_bNone
  | [a], h => by
    have e : textA [a] = textOne a := by
      unfold textA
      rw [if_neg (by simp)]
      apply ba_ext
      exact Lib.join_one (textOne a).data.toList [32, 44, 32]
    rw [e]
    exact wA_eq (h a (by simp))
  | a :: b :: l, h => by
    have e : textA (a :: b :: l) = textOne a ++ (⟨#[32]⟩ ++ (bCm ++ (⟨#[32]⟩ ++ textA (b :: l)))) := by
      unfold textA
      rw [if_neg (by simp), if_neg (by simp)]
      apply ba_ext
      rw [app_data2, app_data2, app_data2, app_data2]
      show Lib.join ((textOne a).data.toList :: (textOne b).data.toList :: ((l.map textOne).map (·.data.toList))) [32, 44, 32] = _ ++ ([32] ++ ([44] ++ ([32] ++ Lib.join ((textOne b).data.toList :: ((l.map textOne).map (·.data.toList))) [32, 44, 32])))
      rw [Lib.join_cons, Lib.join_cons]
      simp [Lib.joinTail]
    rw [e, spl_app2, spl_app2, wE_eq (b :: l) (fun x hx => h x (List.mem_cons_of_mem _ hx)), wA_eq (h a (by simp)), spl_bCm]
    rfl
theorem wA_head {a : Atom} : ∃ x y, wA a = [x, y] ∧ x ≠ bNone := by
  unfold wA
  split
  · exact ⟨_, _, rfl, by decide⟩
  · split
    · exact ⟨_, _, rfl, by decide⟩
    · exact ⟨_, _, rfl, by decide⟩
theorem wE_cons (a : Atom) (l : List Atom) : ∃ x m, wE (a :: l) = x :: m ∧ x ≠ bNone := by
  obtain ⟨x, y, h, hn⟩ := wA_head (a := a)
  cases l with
  | nil => exact ⟨x, [y], h, hn⟩
  | cons b l => exact ⟨x, _, by rw [wE, h]; rfl, hn⟩
theorem wE_inj : ∀ (l m : List Atom) (s s' : ByteArray) (r r' : List ByteArray), (∀ a ∈ l, atomB a = true) → (∀ a ∈ m, atomB a = true) → s ≠ bCm → s' ≠ bCm → wE l ++ s :: r = wE m ++ s' :: r' → l = m ∧ s = s' ∧ r = r'
  | [], [], s, s', r, r', _, _, _, _, h => by
    simp [wE] at h
    exact ⟨rfl, h.1, h.2⟩
  | [], b :: m, s, s', r, r', _, _, _, _, h => by
    obtain ⟨x, k, e, hn⟩ := wE_cons b m
    rw [e] at h
    simp [wE] at h
    exact absurd h.1.symm hn
  | b :: m, [], s, s', r, r', _, _, _, _, h => by
    obtain ⟨x, k, e, hn⟩ := wE_cons b m
    rw [e] at h
    simp [wE] at h
    exact absurd h.1 hn
  | [a], [b], s, s', r, r', ha, hb, _, _, h => by
    obtain ⟨rfl, h2⟩ := wA_inj (ha a (by simp)) (hb b (by simp)) h
    simp at h2
    exact ⟨rfl, h2.1, h2.2⟩
  | [a], b :: c :: m, s, s', r, r', ha, hb, hs, _, h => by
    rw [wE, wE, List.append_assoc, List.cons_append] at h
    obtain ⟨rfl, h2⟩ := wA_inj (ha a (by simp)) (hb b (by simp)) h
    simp at h2
    exact absurd h2.1 hs
  | b :: c :: m, [a], s, s', r, r', ha, hb, _, hs, h => by
    rw [wE, wE, List.append_assoc, List.cons_append] at h
    obtain ⟨rfl, h2⟩ := wA_inj (ha b (by simp)) (hb a (by simp)) h
    simp at h2
    exact absurd h2.1.symm hs
  | a :: a2 :: l, b :: b2 :: m, s, s', r, r', ha, hb, hs, hs', h => by
    rw [wE, wE, List.append_assoc, List.cons_append, List.append_assoc, List.cons_append] at h
    obtain ⟨rfl, h2⟩ := wA_inj (ha a (by simp)) (hb b (by simp)) h
    obtain ⟨h3, h4, h5⟩ := wE_inj (a2 :: l) (b2 :: m) s s' r r' (fun x hx => ha x (List.mem_cons_of_mem _ hx)) (fun x hx => hb x (List.mem_cons_of_mem _ hx)) hs hs' (List.cons.inj h2).2
    exact ⟨by rw [h3], h4, h5⟩
/-- the words of a type -/
def wT (t : RT) : List ByteArray := spl (textT t)
theorem wordsJ (l : List ByteArray) (h : l ≠ []) : spl (joinB l) = l.flatMap spl := spl_joinW l h
theorem textT_node (a : LH) (l : List RT) : textT (.node a l) = nodeText a (l.map textT) := by
  show Rose.fold _ _ = _
  rw [Rose.fold_node]; rfl
def bO : ByteArray := ⟨#[40]⟩
def bC : ByteArray := ⟨#[41]⟩
def bStar : ByteArray := ⟨#[42]⟩
def bAt : ByteArray := ⟨#[64]⟩
def bArr : ByteArray := ⟨#[45, 62]⟩
def bBang : ByteArray := ⟨#[33]⟩
def bRef : ByteArray := ⟨#[114, 101, 102]⟩
theorem s_O : spl ⟨#[40]⟩ = [bO] := spl_of (by rfl)
theorem s_C : spl ⟨#[41]⟩ = [bC] := spl_of (by rfl)
theorem s_Star : spl ⟨#[42]⟩ = [bStar] := spl_of (by rfl)
theorem s_At : spl ⟨#[64]⟩ = [bAt] := spl_of (by rfl)
theorem s_Arr : spl ⟨#[45, 62]⟩ = [bArr] := spl_of (by rfl)
theorem s_Bang : spl ⟨#[33]⟩ = [bBang] := spl_of (by rfl)
theorem s_ORef : spl ⟨#[40, 32, 114, 101, 102]⟩ = [bO, bRef] := spl_of (by rfl)
theorem s_Int : spl bInt = [bInt] := spl_of (by rfl)
theorem wT_1 (a : LH) (l : List RT) (h : a.kind = 1) : wT (.node a l) = [bInt] := by
  unfold wT
  rw [textT_node]
  unfold nodeText
  rw [if_pos h, s_Int]
theorem wT_2 (a : LH) (x y : RT) (h : a.kind = 2) (h0 : 0 ≤ a.rho) : wT (.node a [x, y]) = bO :: (wT x ++ bStar :: (wT y ++ [bAt, decB a.rho, bC])) := by
  unfold wT
  rw [textT_node]
  unfold nodeText partsL atL
  rw [if_neg (by omega), if_pos h, wordsJ _ (by simp)]
  simp [s_O, s_C, s_Star, s_At, decB_word h0]
theorem wT_3 (a : LH) (x : RT) (h : a.kind = 3) (h0 : 0 ≤ a.rho) : wT (.node a [x]) = bO :: bRef :: (wT x ++ [bAt, decB a.rho, bC]) := by
  unfold wT
  rw [textT_node]
  unfold nodeText partsL atL
  rw [if_neg (by omega), if_neg (by omega), if_pos h, wordsJ _ (by simp)]
  simp [s_ORef, s_C, s_At, decB_word h0]
theorem wT_4 (a : LH) (x y : RT) (h : a.kind = 4) (h0 : 0 ≤ a.rho) (he : effL a.eff = a.eff) (hb : ∀ z ∈ a.eff, atomB z = true) : wT (.node a [x, y]) = bO :: (wT x ++ bArr :: (wT y ++ bBang :: (wE a.eff ++ [bAt, decB a.rho, bC]))) := by
  unfold wT
  rw [textT_node]
  unfold nodeText partsL atL
  rw [if_neg (by omega), if_neg (by omega), if_neg (by omega), wordsJ _ (by simp)]
  simp [s_O, s_C, s_Arr, s_Bang, s_At, decB_word h0, he, wE_eq _ hb]
theorem mayB_all : ∀ {l : List Atom}, mayB l = true → ∀ a ∈ l, atomB a = true
  | [], _, a, ha => by cases ha
  | [x], h, a, ha => by rw [List.mem_singleton.1 ha]; exact h
  | x :: y :: l, h, a, ha => by
    unfold mayB at h
    rw [Bool.and_eq_true, Bool.and_eq_true] at h
    rcases List.mem_cons.1 ha with rfl | ha
    · exact h.1.1
    · exact mayB_all h.2 a ha
theorem wT_head {t : RT} (h : mayT t = true) : ∃ x r, wT t = x :: r ∧ (x = bInt ∨ x = bO) := by
  obtain ⟨a, l⟩ := t
  unfold wT
  rw [textT_node]
  unfold nodeText
  by_cases h1 : a.kind = 1
  · rw [if_pos h1, s_Int]; exact ⟨_, _, rfl, .inl rfl⟩
  · rw [if_neg h1, wordsJ _ (by unfold partsL; split <;> (try split) <;> simp)]
    unfold partsL
    split
    · exact ⟨bO, _, by simp [s_O]; rfl, .inr rfl⟩
    · split
      · exact ⟨bO, _, by simp [s_ORef]; rfl, .inr rfl⟩
      · exact ⟨bO, _, by simp [s_O]; rfl, .inr rfl⟩
theorem rising_may : ∀ {l : List Atom}, mayB l = true → Rising Atom.lt l
  | [], _ => List.Pairwise.nil
  | [x], _ => List.pairwise_singleton _ _
  | x :: y :: l, h => by
    unfold mayB at h
    rw [Bool.and_eq_true, Bool.and_eq_true] at h
    have ih := rising_may h.2
    refine List.Pairwise.cons (fun z hz => ?_) ih
    rcases List.mem_cons.1 hz with rfl | hz
    · exact h.1.2
    · exact Atom.lt_trans' _ _ _ h.1.2 ((List.pairwise_cons.1 ih).1 z hz)
theorem effL_may {l : List Atom} (h : mayB l = true) : effL l = l := by
  symm
  exact eq_sortA (rising_may h) (fun a => by rw [List.mem_filter]; exact ⟨fun ha => ⟨ha, mayB_all h a ha⟩, fun ha => ha.1⟩)
theorem may_within {l m : List Atom} (hl : mayB l = true) (hm : mayB m = true) : (withinB l m && withinB m l) = true ↔ l = m := by
  rw [Bool.and_eq_true, withinB_iff, withinB_iff]
  constructor
  · rintro ⟨h1, h2⟩
    have e1 := eq_sortA (l := m) (rising_may hm) (fun a => Iff.rfl)
    have e2 := eq_sortA (l := m) (rising_may hl) (fun a => ⟨fun ha => h1 a ha (mayB_all hl a ha), fun ha => h2 a ha (mayB_all hm a ha)⟩)
    rw [e2, ← e1]
  · rintro rfl
    exact ⟨fun x hx _ => hx, fun x hx _ => hx⟩
theorem may_kinds {a : LH} {l : List RT} (h : mayT (.node a l) = true) :
    (∀ x ∈ l, mayT x = true) ∧ ((a.kind = 1 ∧ a.rho = 0 ∧ a.eff = [] ∧ l = []) ∨ (a.kind = 2 ∧ 0 ≤ a.rho ∧ a.eff = [] ∧ ∃ x y, l = [x, y]) ∨ (a.kind = 3 ∧ 0 ≤ a.rho ∧ a.eff = [] ∧ ∃ x, l = [x]) ∨ (a.kind = 4 ∧ 0 ≤ a.rho ∧ mayB a.eff = true ∧ ∃ x y, l = [x, y])) := by
  rw [mayT_node, Bool.and_eq_true, List.all_eq_true] at h
  refine ⟨h.2, ?_⟩
  have h1 := h.1
  have two : l.length = 2 → ∃ x y, l = [x, y] := fun h => by match l, h with | [x, y], _ => exact ⟨x, y, rfl⟩
  have one : l.length = 1 → ∃ x, l = [x] := List.length_eq_one_iff.1
  unfold nodeB at h1
  split at h1
  · simp only [Bool.and_eq_true, decide_eq_true_eq] at h1
    exact .inl ⟨by assumption, h1.1.1, h1.1.2, List.eq_nil_of_length_eq_zero h1.2⟩
  · split at h1
    · simp only [Bool.and_eq_true, decide_eq_true_eq] at h1
      exact .inr (.inl ⟨by assumption, h1.1.1, h1.1.2, two h1.2⟩)
    · split at h1
      · simp only [Bool.and_eq_true, decide_eq_true_eq] at h1
        exact .inr (.inr (.inl ⟨by assumption, h1.1.1, h1.1.2, one h1.2⟩))
      · split at h1
        · simp only [Bool.and_eq_true, decide_eq_true_eq] at h1
          exact .inr (.inr (.inr ⟨by assumption, h1.1.1, h1.1.2, two h1.2⟩))
        · cases h1
theorem wT_inj (t : RT) : ∀ (u : RT) (r r' : List ByteArray), mayT t = true → mayT u = true → wT t ++ r = wT u ++ r' → t = u ∧ r = r' := by
  refine Rose.ind (P := fun (t : RT) => ∀ (u : RT) (r r' : List ByteArray), mayT t = true → mayT u = true → wT t ++ r = wT u ++ r' → t = u ∧ r = r') (fun a l ih u r r' ht hu h => ?_) t
  obtain ⟨b, m⟩ := u
  obtain ⟨kt, ct⟩ := may_kinds ht
  obtain ⟨ku, cu⟩ := may_kinds hu
  obtain ⟨k, x, e⟩ := a
  obtain ⟨k', x', e'⟩ := b
  have n1 : ¬ bInt = bO := by decide
  have n2 : ¬ bRef = bInt := by decide
  have n3 : ¬ bRef = bO := by decide
  have n4 : ¬ bStar = bArr := by decide
  have ncm : bAt ≠ bCm := by decide
  rcases ct with ⟨rfl, rfl, rfl, rfl⟩ | ⟨rfl, h0, rfl, y, z, rfl⟩ | ⟨rfl, h0, rfl, y, rfl⟩ | ⟨rfl, h0, he, y, z, rfl⟩ <;> rcases cu with ⟨rfl, rfl, rfl, rfl⟩ | ⟨rfl, g0, rfl, y', z', rfl⟩ | ⟨rfl, g0, rfl, y', rfl⟩ | ⟨rfl, g0, ge, y', z', rfl⟩
  · rw [wT_1 _ _ rfl] at h
    simp at h
    exact ⟨rfl, h⟩
  · rw [wT_1 _ _ rfl, wT_2 _ _ _ rfl g0] at h
    simp [n1] at h
  · rw [wT_1 _ _ rfl, wT_3 _ _ rfl g0] at h
    simp [n1] at h
  · rw [wT_1 _ _ rfl, wT_4 _ _ _ rfl g0 (effL_may ge) (mayB_all ge)] at h
    simp [n1] at h
  · rw [wT_2 _ _ _ rfl h0, wT_1 _ _ rfl] at h
    simp [Ne.symm n1] at h
  · rw [wT_2 _ _ _ rfl h0, wT_2 _ _ _ rfl g0] at h
    simp only [List.cons_append, List.append_assoc, List.cons.injEq, true_and, List.nil_append] at h
    obtain ⟨h1, h2⟩ := ih y (by simp) y' _ _ (kt y (by simp)) (ku y' (by simp)) h
    clear h
    subst h1
    have h := h2
    clear h2
    simp only [List.cons.injEq, true_and] at h
    obtain ⟨h1, h2⟩ := ih z (by simp) z' _ _ (kt z (by simp)) (ku z' (by simp)) h
    clear h
    subst h1
    have h := h2
    clear h2
    simp only [List.cons.injEq, true_and] at h
    obtain rfl := decB_inj h0 g0 h.1
    exact ⟨rfl, h.2⟩
  · rw [wT_2 _ _ _ rfl h0, wT_3 _ _ rfl g0] at h
    obtain ⟨f, q, e, hf⟩ := wT_head (kt y (by simp))
    rw [e] at h
    simp at h
    rcases hf with rfl | rfl
    · exact absurd h.1.symm n2
    · exact absurd h.1.symm n3
  · rw [wT_2 _ _ _ rfl h0, wT_4 _ _ _ rfl g0 (effL_may ge) (mayB_all ge)] at h
    simp only [List.cons_append, List.append_assoc, List.cons.injEq, true_and, List.nil_append] at h
    obtain ⟨h1, h2⟩ := ih y (by simp) y' _ _ (kt y (by simp)) (ku y' (by simp)) h
    clear h
    subst h1
    have h := h2
    clear h2
    simp [n4] at h
  · rw [wT_3 _ _ rfl h0, wT_1 _ _ rfl] at h
    simp [Ne.symm n1] at h
  · rw [wT_3 _ _ rfl h0, wT_2 _ _ _ rfl g0] at h
    obtain ⟨f, q, e, hf⟩ := wT_head (ku y' (by simp))
    rw [e] at h
    simp at h
    rcases hf with rfl | rfl
    · exact absurd h.1 n2
    · exact absurd h.1 n3
  · rw [wT_3 _ _ rfl h0, wT_3 _ _ rfl g0] at h
    simp only [List.cons_append, List.append_assoc, List.cons.injEq, true_and, List.nil_append] at h
    obtain ⟨h1, h2⟩ := ih y (by simp) y' _ _ (kt y (by simp)) (ku y' (by simp)) h
    clear h
    subst h1
    have h := h2
    clear h2
    simp only [List.cons.injEq, true_and] at h
    obtain rfl := decB_inj h0 g0 h.1
    exact ⟨rfl, h.2⟩
  · rw [wT_3 _ _ rfl h0, wT_4 _ _ _ rfl g0 (effL_may ge) (mayB_all ge)] at h
    obtain ⟨f, q, e, hf⟩ := wT_head (ku y' (by simp))
    rw [e] at h
    simp at h
    rcases hf with rfl | rfl
    · exact absurd h.1 n2
    · exact absurd h.1 n3
  · rw [wT_4 _ _ _ rfl h0 (effL_may he) (mayB_all he), wT_1 _ _ rfl] at h
    simp [Ne.symm n1] at h
  · rw [wT_4 _ _ _ rfl h0 (effL_may he) (mayB_all he), wT_2 _ _ _ rfl g0] at h
    simp only [List.cons_append, List.append_assoc, List.cons.injEq, true_and, List.nil_append] at h
    obtain ⟨h1, h2⟩ := ih y (by simp) y' _ _ (kt y (by simp)) (ku y' (by simp)) h
    clear h
    subst h1
    have h := h2
    clear h2
    simp [Ne.symm n4] at h
  · rw [wT_4 _ _ _ rfl h0 (effL_may he) (mayB_all he), wT_3 _ _ rfl g0] at h
    obtain ⟨f, q, e, hf⟩ := wT_head (kt y (by simp))
    rw [e] at h
    simp at h
    rcases hf with rfl | rfl
    · exact absurd h.1.symm n2
    · exact absurd h.1.symm n3
  · rw [wT_4 _ _ _ rfl h0 (effL_may he) (mayB_all he), wT_4 _ _ _ rfl g0 (effL_may ge) (mayB_all ge)] at h
    simp only [List.cons_append, List.append_assoc, List.cons.injEq, true_and, List.nil_append] at h
    obtain ⟨h1, h2⟩ := ih y (by simp) y' _ _ (kt y (by simp)) (ku y' (by simp)) h
    clear h
    subst h1
    have h := h2
    clear h2
    simp only [List.cons.injEq, true_and] at h
    obtain ⟨h1, h2⟩ := ih z (by simp) z' _ _ (kt z (by simp)) (ku z' (by simp)) h
    clear h
    subst h1
    have h := h2
    clear h2
    simp only [List.cons.injEq, true_and] at h
    obtain ⟨rfl, _, h⟩ := wE_inj _ _ _ _ _ _ (mayB_all he) (mayB_all ge) ncm ncm h
    simp only [List.cons.injEq, true_and] at h
    obtain rfl := decB_inj h0 g0 h.1
    exact ⟨rfl, h.2⟩
end Go.Proofs.YtdlbjngpohkglaaGreatDoor
end
section
set_option linter.unusedVariables false
set_option maxRecDepth 100000
set_option linter.unusedSimpArgs false
namespace Go.Proofs.YtdlbjngpohkglaaGreatDoor
open Go.RowKit

/-- a number in range -/
def inI (z : Int) : Prop := -9223372036854775808 ≤ z ∧ z ≤ 9223372036854775807
/-- a node, plain -/
structure LAH where
  kind : Int
  op : Int
  at_ : Int
  n : Int
  name : ByteArray
  arg : ByteArray
  exn : ByteArray
  rho : Int
  rhos : List Int
  eff : List Atom
  ty : RT
  res : RT
/-- a node as it lies -/
structure AH where
  kind : Int
  op : Int
  at_ : Int
  n : Int
  name : ByteArray
  arg : ByteArray
  exn : ByteArray
  rho : Int
  rp : Option Addr
  rn : Nat
  rc : Nat
  rhos : List Int
  ep : Option Addr
  en : Nat
  ec : Nat
  eff : List Atom
  ty : PT
  res : PT
  kp : Option Addr
  kn : Nat
  kc : Nat
abbrev PA := Rose AH
abbrev AT := Rose LAH
def AH.plain (a : AH) : LAH := ⟨a.kind, a.op, a.at_, a.n, a.name, a.arg, a.exn, a.rho, a.rhos, a.eff, a.ty.er, a.res.er⟩
def PA.er (t : PA) : AT := Rose.map AH.plain t
theorem PA.er_node (a : AH) (l : List PA) : PA.er (.node a l) = .node a.plain (l.map PA.er) := Rose.map_node _ a l
def encAH (a : AH) : List Value := [.int .u8 a.kind, .int .u8 a.op, .int .i64 a.at_, .int .i64 a.n, .string a.name, .string a.arg, .string a.exn, .int .i64 a.rho, .slice a.rp a.rn a.rc, .slice a.ep a.en a.ec,
  .int .u8 a.ty.head.kind, .int .i64 a.ty.head.rho, .slice a.ty.head.ep a.ty.head.en a.ty.head.ec, .slice a.ty.head.kp a.ty.head.kn a.ty.head.kc,
  .int .u8 a.res.head.kind, .int .i64 a.res.head.rho, .slice a.res.head.ep a.res.head.en a.res.head.ec, .slice a.res.head.kp a.res.head.kn a.res.head.kc, .slice a.kp a.kn a.kc]
/-- what a node's own cells are good for -/
structure AH.Own (w : World) (a : AH) : Prop where
  k0 : 0 ≤ a.kind
  k1 : a.kind ≤ 255
  o0 : 0 ≤ a.op
  o1 : a.op ≤ 255
  at_ : inI a.at_
  n : inI a.n
  name : a.name.size ≤ 9223372036854775807
  arg : a.arg.size ≤ 9223372036854775807
  exn : a.exn.size ≤ 9223372036854775807
  rho : inI a.rho
  rhos : IsRow encN 1 w a.rp a.rn a.rc a.rhos
  rok : ∀ z ∈ a.rhos, inI z
  eff : IsRow encA 3 w a.ep a.en a.ec a.eff
  eok : ∀ x ∈ a.eff, okAt x
  ty : LR.lies w a.ty
  res : LR.lies w a.res
  kmax : a.kn ≤ 9223372036854775807
  kle : a.kn ≤ a.kc
  knil : a.kp = none → a.kc = 0
def LA : Laid AH where
  enc := encAH
  k := 19
  own := AH.Own
  kp := AH.kp
  kn := AH.kn
  len := fun _ => rfl
  below := fun h hb => ⟨h.k0, h.k1, h.o0, h.o1, h.at_, h.n, h.name, h.arg, h.exn, h.rho, h.rhos.below hb, h.rok, h.eff.below hb, h.eok, LR.lies_below hb _ h.ty, LR.lies_below hb _ h.res, h.kmax, h.kle, h.knil⟩
theorem LAlen : ∀ t : PA, (LA.encT t).length = 19 := fun _ => rfl
/-- a term by value -/
abbrev aggT (a : AH) : Value := .agg #[.int .u8 a.kind, .int .u8 a.op, .int .i64 a.at_, .int .i64 a.n, .string a.name, .string a.arg, .string a.exn, .int .i64 a.rho, .slice a.rp a.rn a.rc, .slice a.ep a.en a.ec,
  .int .u8 a.ty.head.kind, .int .i64 a.ty.head.rho, .slice a.ty.head.ep a.ty.head.en a.ty.head.ec, .slice a.ty.head.kp a.ty.head.kn a.ty.head.kc,
  .int .u8 a.res.head.kind, .int .i64 a.res.head.rho, .slice a.res.head.ep a.res.head.en a.res.head.ec, .slice a.res.head.kp a.res.head.kn a.res.head.kc, .slice a.kp a.kn a.kc]
abbrev boxA (a : AH) : Obj := .cells #[.int .u8 a.kind, .int .u8 a.op, .int .i64 a.at_, .int .i64 a.n, .string a.name, .string a.arg, .string a.exn, .int .i64 a.rho, .slice a.rp a.rn a.rc, .slice a.ep a.en a.ec,
  .int .u8 a.ty.head.kind, .int .i64 a.ty.head.rho, .slice a.ty.head.ep a.ty.head.en a.ty.head.ec, .slice a.ty.head.kp a.ty.head.kn a.ty.head.kc,
  .int .u8 a.res.head.kind, .int .i64 a.res.head.rho, .slice a.res.head.ep a.res.head.en a.res.head.ec, .slice a.res.head.kp a.res.head.kn a.res.head.kc, .slice a.kp a.kn a.kc] 31
/-- the cells of a term at a place -/
structure CellsA (w : World) (b o : Nat) (a : AH) : Prop where
  c : ∀ i u, (encAH a)[i]? = some u → w.cell? ⟨b, o + i, none⟩ = some u
theorem CellsA.below {w w' : World} {b o : Nat} {a : AH} (h : CellsA w b o a) (hb : Below w.heap.size w w') (hlt : b < w.heap.size) : CellsA w' b o a := ⟨fun i u hu => by rw [hb.cell hlt]; exact h.c i u hu⟩
/-- a node that lies, taken apart -/
structure NodeA (w : World) (a : AH) (l : List PA) : Prop where
  own : AH.Own w a
  kids : IsRow LA.encT 19 w a.kp a.kn a.kc l
  each : ∀ t ∈ l, LA.lies w t
theorem nodeA {w : World} {a : AH} {l : List PA} (h : LA.lies w (.node a l)) : NodeA w a l := by
  rw [Laid.lies_node] at h
  exact ⟨h.1, ⟨h.2.1, h.1.kmax, h.1.kle, h.1.knil, h.2.2.1⟩, h.2.2.2⟩
theorem NodeA.lies {w : World} {a : AH} {l : List PA} (h : NodeA w a l) : LA.lies w (.node a l) := by
  rw [Laid.lies_node]
  exact ⟨h.own, h.kids.len, h.kids.row, h.each⟩
theorem NodeA.below {w w' : World} {a : AH} {l : List PA} (h : NodeA w a l) (hb : Below w.heap.size w w') : NodeA w' a l := nodeA (LA.lies_below hb _ h.lies)
theorem NodeA.alloc {w : World} {a : AH} {l : List PA} (h : NodeA w a l) (o : Obj) : NodeA (w.alloc o) a l := h.below ((Below.refl _ _).alloc (Nat.le_refl _) _)
/-- a row of terms -/
structure RowTA (w : World) (p : Option Addr) (n cap : Nat) (l : List PA) : Prop where
  row : IsRow LA.encT 19 w p n cap l
  each : ∀ t ∈ l, LA.lies w t
theorem NodeA.rowT {w : World} {a : AH} {l : List PA} (h : NodeA w a l) : RowTA w a.kp a.kn a.kc l := ⟨h.kids, h.each⟩
theorem RowTA.below {w w' : World} {p : Option Addr} {n cap : Nat} {l : List PA} (h : RowTA w p n cap l) (hb : Below w.heap.size w w') : RowTA w' p n cap l := ⟨h.row.below hb, fun t ht => LA.lies_below hb t (h.each t ht)⟩
/-- a term of a row -/
theorem RowTA.kid {w : World} {p : Option Addr} {n cap : Nat} {l : List PA} (h : RowTA w p n cap l) {j : Nat} {t : PA} (hx : l[j]? = some t) :
    ∃ b o, p = some ⟨b, o, none⟩ ∧ b < w.heap.size ∧ CellsA w b (o + j * 19) t.head := by
  obtain ⟨b, o, hp, hb, hc⟩ := h.row.row.elem hx
  exact ⟨b, o, hp, hb, ⟨fun i u hu => hc i u hu⟩⟩
theorem RowTA.at {w : World} {p : Option Addr} {n cap : Nat} {l : List PA} (h : RowTA w p n cap l) {j : Nat} (hj : j < n) : ∃ t, l[j]? = some t := get_of_lt (by rw [h.row.len]; exact hj)
theorem RowTA.lies {w : World} {p : Option Addr} {n cap : Nat} {l : List PA} (h : RowTA w p n cap l) {j : Nat} {t : PA} (hx : l[j]? = some t) : LA.lies w t := h.each t (List.mem_of_getElem? hx)
end Go.Proofs.YtdlbjngpohkglaaGreatDoor
end
section
set_option linter.unusedVariables false
set_option maxRecDepth 100000
set_option linter.unusedSimpArgs false
namespace Go.Proofs.YtdlbjngpohkglaaGreatDoor
open Go.RowKit

def atP (a : AH) : List ByteArray := [⟨#[64]⟩, decB a.rho]
def rhosP (a : AH) : List ByteArray := [⟨#[91]⟩] ++ (a.rhos.map decB ++ [⟨#[93]⟩])
def typedP (sign : ByteArray) (t : PT) : List ByteArray := [sign, textT t.er]
def effP (a : AH) : List ByteArray := [⟨#[33]⟩, textA (effL a.eff)]
/-- the word between two kids; none, if it is empty -/
def betw (bt : List ByteArray) (i : Nat) : List ByteArray := if 0 < i ∧ (bt.getD (i - 1) ⟨#[]⟩).size ≠ 0 then [bt.getD (i - 1) ⟨#[]⟩] else []
def kidsTo (bt : List ByteArray) (ks : List (List ByteArray)) : Nat → List ByteArray
  | 0 => []
  | i + 1 => kidsTo bt ks i ++ (betw bt i ++ ks.getD i [])
/-- kids, with words between them -/
def kidsP (bt : List ByteArray) (ks : List (List ByteArray)) : List ByteArray := kidsTo bt ks ks.length
def signB (op : Int) : ByteArray := if op = 1 then ⟨#[43]⟩ else if op = 2 then ⟨#[45]⟩ else if op = 3 then ⟨#[42]⟩ else if op = 4 then ⟨#[60]⟩ else ⟨#[61]⟩
/-- what stands between the brackets of binders -/
def binderP (a : AH) (ks : List (List ByteArray)) : List ByteArray :=
  if a.kind = 11 then [⟨#[102, 110]⟩, a.arg] ++ (typedP ⟨#[58]⟩ a.ty ++ (effP a ++ ([⟨#[61, 62]⟩] ++ (kidsP [] ks ++ atP a))))
  else if a.kind = 12 then [⟨#[108, 101, 116]⟩, a.name, ⟨#[61]⟩] ++ kidsP [⟨#[105, 110]⟩] ks
  else if a.kind = 13 then [⟨#[108, 101, 116, 114, 101, 99]⟩, a.name] ++ (rhosP a ++ ([a.arg] ++ (typedP ⟨#[58]⟩ a.ty ++ (typedP ⟨#[45, 62]⟩ a.res ++ (effP a ++ ([⟨#[61]⟩] ++ (ks.getD 0 [] ++ (atP a ++ ([⟨#[105, 110]⟩] ++ ks.getD 1 [])))))))))
  else if a.kind = 15 then [⟨#[114, 97, 105, 115, 101]⟩, a.exn] ++ (kidsP [] ks ++ typedP ⟨#[58]⟩ a.ty)
  else if a.kind = 16 then [⟨#[116, 114, 121]⟩] ++ kidsP [joinB [⟨#[119, 105, 116, 104]⟩, a.exn, a.arg, ⟨#[61, 62]⟩]] ks
  else if a.kind = 17 then [⟨#[114, 101, 103, 105, 111, 110]⟩] ++ ([decB a.rho] ++ ([⟨#[105, 110]⟩] ++ kidsP [] ks))
  else if a.kind = 18 then [a.name] ++ (rhosP a ++ (effP a ++ atP a))
  else []
/-- what stands between the brackets -/
def innerP (a : AH) (ks : List (List ByteArray)) : List ByteArray :=
  if a.kind = 3 then kidsP [⟨#[44]⟩] ks ++ atP a
  else if a.kind = 4 then [⟨#[102, 115, 116]⟩] ++ kidsP [] ks
  else if a.kind = 5 then [⟨#[115, 110, 100]⟩] ++ kidsP [] ks
  else if a.kind = 7 then [⟨#[33]⟩] ++ kidsP [] ks
  else if a.kind = 6 then [⟨#[114, 101, 102]⟩] ++ (kidsP [] ks ++ atP a)
  else if a.kind = 8 then kidsP [⟨#[58, 61]⟩] ks
  else if a.kind = 9 then kidsP [signB a.op] ks
  else if a.kind = 10 then kidsP [⟨#[]⟩] ks
  else if a.kind = 14 then [⟨#[105, 102]⟩] ++ kidsP [⟨#[116, 104, 101, 110]⟩, ⟨#[101, 108, 115, 101]⟩] ks
  else binderP a ks
def nodeP (a : AH) (ks : List (List ByteArray)) : List ByteArray :=
  if a.kind = 1 then [decB a.n] else if a.kind = 2 then [a.name] else [⟨#[40]⟩] ++ (innerP a ks ++ [⟨#[41]⟩])
/-- a term's text, as pieces -/
def piecesT : PA → List ByteArray := Rose.fold nodeP
theorem piecesT_node (a : AH) (l : List PA) : piecesT (.node a l) = nodeP a (l.map piecesT) := by
  show Rose.fold _ _ = _
  rw [Rose.fold_node]; rfl
/-- words -/
def wordsP (l : List ByteArray) : List ByteArray := l.flatMap spl
theorem wordsP_app (l m : List ByteArray) : wordsP (l ++ m) = wordsP l ++ wordsP m := List.flatMap_append
/-- how long pieces are, with a blank behind each -/
def lensP (l : List ByteArray) : Nat := (l.map (fun s => s.size + 1)).sum
theorem lensP_app (l m : List ByteArray) : lensP (l ++ m) = lensP l + lensP m := by simp [lensP]
theorem lensP_cons (s : ByteArray) (l : List ByteArray) : lensP (s :: l) = s.size + 1 + lensP l := by simp [lensP]
theorem lensP_nil : lensP [] = 0 := rfl
theorem spl_len_le (s : ByteArray) : (spl s).length ≤ s.size + 1 := by
  rw [spl_length]
  have := Lib.countB_le ⟨#[32]⟩ (by decide) s.size s (Nat.le_refl _)
  omega
theorem wordsP_len (l : List ByteArray) : (wordsP l).length ≤ lensP l := by
  induction l with
  | nil => exact Nat.le_refl _
  | cons s l ih =>
    rw [lensP_cons]
    have h1 := spl_len_le s
    have h2 : wordsP (s :: l) = spl s ++ wordsP l := by simp [wordsP]
    rw [h2, List.length_append]
    omega
theorem lensP_mem {l : List ByteArray} {s : ByteArray} (h : s ∈ l) : s.size + 1 ≤ lensP l := by
  induction l with
  | nil => cases h
  | cons x l ih =>
    rw [lensP_cons]
    rcases List.mem_cons.1 h with rfl | h
    · omega
    · have := ih h; omega
theorem kidsTo_len (bt : List ByteArray) (ks : List (List ByteArray)) : ∀ i, lensP (kidsTo bt ks i) ≤ i * lensP bt + ((ks.take i).map lensP).sum
  | 0 => by simp [kidsTo, lensP]
  | i + 1 => by
    have ih := kidsTo_len bt ks i
    have h1 : lensP (betw bt i) ≤ lensP bt := by
      unfold betw
      split
      · rename_i h
        rw [lensP_cons, lensP_nil]
        cases hg : bt[i - 1]? with
        | none => rw [List.getD, hg] at h; exact absurd rfl h.2
        | some s =>
          have := lensP_mem (List.mem_of_getElem? hg)
          rw [List.getD, hg]
          exact this
      · rw [lensP_nil]; exact Nat.zero_le _
    have h2 : ((ks.take (i + 1)).map lensP).sum = ((ks.take i).map lensP).sum + lensP (ks.getD i []) := by
      rw [List.take_add_one, List.map_append, List.sum_append_nat]
      congr 1
      cases hk : ks[i]? with
      | none => rw [List.getD, hk]; rfl
      | some k => rw [List.getD, hk]; simp
    rw [kidsTo, lensP_app, lensP_app, h2, Nat.succ_mul]
    omega
theorem kidsP_len (bt : List ByteArray) (ks : List (List ByteArray)) : lensP (kidsP bt ks) ≤ ks.length * lensP bt + (ks.map lensP).sum := by
  have := kidsTo_len bt ks ks.length
  rwa [List.take_length] at this
end Go.Proofs.YtdlbjngpohkglaaGreatDoor
end
