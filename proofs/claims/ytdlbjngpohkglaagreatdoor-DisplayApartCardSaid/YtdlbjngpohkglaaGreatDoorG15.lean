/- Part 15 of the texts: Cut, Name. -/
import Derived.Lib.SplitLaws
import Derived.Lib.Join
import Derived.Test.YtdlbjngpohkglaaGreatDoorG02
import Derived.Test.YtdlbjngpohkglaaGreatDoorShelf
import Derived.Test.YtdlbjngpohkglaaGreatDoorG13
import Derived.Test.YtdlbjngpohkglaaGreatDoorG09
section
set_option linter.unusedVariables false
namespace Go.Proofs.YtdlbjngpohkglaaGreatDoor

/-- the words of a text -/
def cutL : List UInt8 → List (List UInt8)
  | [] => [[]]
  | b :: s => if b = 32 then [] :: cutL s else (b :: (cutL s).headD []) :: (cutL s).tail
theorem cutL_ne : ∀ s, cutL s ≠ []
  | [] => by simp [cutL]
  | b :: s => by unfold cutL; split <;> simp
theorem cutL_eta (s : List UInt8) : (cutL s).headD [] :: (cutL s).tail = cutL s := by
  cases h : cutL s with
  | nil => exact absurd h (cutL_ne s)
  | cons x r => rfl
theorem index32_eq (s : List UInt8) : Lib.index (32 :: s) [32] = ((0 : Nat) : Int) := by rw [Lib.index]; simp [List.isPrefixOf]
theorem index32_ne {b : UInt8} (h : b ≠ 32) (s : List UInt8) : Lib.index (b :: s) [32] = if Lib.index s [32] == -1 then -1 else Lib.index s [32] + 1 := by
  have hp : ([32] : List UInt8).isPrefixOf (b :: s) = false := by simp [List.isPrefixOf, Ne.symm h]
  rw [Lib.index, hp]; simp
/-- the kit's split is this cut -/
theorem splitK_cut : ∀ s : List UInt8, Lib.splitK [32] 0 (Lib.count s [32]) s = cutL s
  | [] => by
    have : Lib.count [] [32] = 0 := by rw [Lib.count_one]; rfl
    rw [this]; rfl
  | b :: s => by
    have ih := splitK_cut s
    by_cases h : b = 32
    · subst h
      rw [Lib.count_cons_eq, Nat.add_comm]
      rw [show Lib.splitK [32] 0 (Lib.count s [32] + 1) (32 :: s) = [] :: Lib.splitK [32] 0 (Lib.count s [32]) s by
        rw [Lib.splitK, index32_eq]; simp]
      rw [ih, cutL, if_pos rfl]
    · rw [Lib.count_cons_ne b 32 s h, cutL, if_neg h, ← ih]
      cases hk : Lib.count s [32] with
      | zero => rfl
      | succ k =>
        by_cases hm : Lib.index s [32] = -1
        · have : Lib.count s [32] = 0 := Lib.count_miss hm
          omega
        · have hge := Lib.index_ge s [32]
          obtain ⟨j, hj⟩ : ∃ j : Nat, Lib.index s [32] = j := ⟨(Lib.index s [32]).toNat, by omega⟩
          have hix' : Lib.index (b :: s) [32] = ((j + 1 : Nat) : Int) := by rw [index32_ne h, if_neg (fun e => hm (beq_iff_eq.1 e)), hj]; omega
          rw [Lib.splitK, Lib.splitK, hix', hj]
          have e1 : (((j + 1 : Nat) : Int) == -1) = false := by rw [beq_eq_false_iff_ne]; omega
          have e2 : ((j : Int) == -1) = false := by rw [beq_eq_false_iff_ne]; omega
          rw [e1, e2]
          simp
/-- a text's words, as texts -/
def spl (s : ByteArray) : List ByteArray := Lib.splitB ⟨#[32]⟩ 0 (Lib.countB s ⟨#[32]⟩) s
theorem spl_data (s : ByteArray) : (spl s).map (·.data.toList) = cutL s.data.toList := by
  unfold spl
  rw [Lib.splitB_data]
  exact splitK_cut _
theorem spl_length (s : ByteArray) : (spl s).length = Lib.countB s ⟨#[32]⟩ + 1 := Lib.splitB_all _ (by decide) _ _ _ rfl
theorem spl_ne (s : ByteArray) : spl s ≠ [] := fun h => by have := spl_length s; rw [h] at this; simp at this
theorem ba_ext {a b : ByteArray} (h : a.data.toList = b.data.toList) : a = b := ByteArray.ext (Array.toList_inj.1 h)
theorem spl_of {s : ByteArray} {l : List ByteArray} (h : cutL s.data.toList = l.map (·.data.toList)) : spl s = l := by
  have h1 := (spl_data s).trans h
  have hinj : ∀ a b : List ByteArray, a.map (·.data.toList) = b.map (·.data.toList) → a = b := by
    intro a
    induction a with
    | nil => intro b hb; cases b with | nil => rfl | cons x b => simp at hb
    | cons x a ih =>
      intro b hb
      cases b with
      | nil => simp at hb
      | cons y b =>
        simp only [List.map_cons, List.cons.injEq] at hb
        rw [ba_ext hb.1, ih b hb.2]
  exact hinj _ _ h1
theorem join32_cons2 (x y : List UInt8) (r : List (List UInt8)) : Lib.join (x :: y :: r) [32] = x ++ 32 :: Lib.join (y :: r) [32] := by
  rw [Lib.join_cons, Lib.join_cons]
  simp [Lib.joinTail]
theorem join32_app : ∀ (a b : List (List UInt8)), a ≠ [] → b ≠ [] → Lib.join (a ++ b) [32] = Lib.join a [32] ++ 32 :: Lib.join b [32]
  | [], _, h, _ => absurd rfl h
  | [x], b, _, hb => by
    cases b with
    | nil => exact absurd rfl hb
    | cons y b => rw [List.singleton_append, join32_cons2, Lib.join_one]
  | x :: y :: a, b, _, hb => by
    rw [List.cons_append, List.cons_append, join32_cons2, join32_cons2, ← List.cons_append, join32_app (y :: a) b (by simp) hb]
    simp
theorem join_cut : ∀ s, Lib.join (cutL s) [32] = s
  | [] => by simp [cutL, Lib.join_one]
  | b :: s => by
    have ih := join_cut s
    have hne := cutL_ne s
    unfold cutL
    split
    · rename_i h; subst h
      cases hc : cutL s with
      | nil => exact absurd hc hne
      | cons x r => rw [hc] at ih; rw [join32_cons2, ih]; rfl
    · cases hc : cutL s with
      | nil => exact absurd hc hne
      | cons x r =>
        rw [hc, Lib.join_cons] at ih
        rw [Lib.join_cons]
        simp only [List.headD_cons, List.tail_cons, List.cons_append]
        rw [ih]
theorem cut_app : ∀ a b, cutL (a ++ 32 :: b) = cutL a ++ cutL b
  | [], b => by simp [cutL]
  | x :: a, b => by
    rw [List.cons_append]
    have e : ∀ t, cutL (x :: t) = if x = 32 then [] :: cutL t else (x :: (cutL t).headD []) :: (cutL t).tail := fun _ => rfl
    rw [e, e, cut_app a b]
    split
    · rfl
    · cases hc : cutL a with
      | nil => exact absurd hc (cutL_ne a)
      | cons y r => rfl
theorem cut_join : ∀ l : List (List UInt8), l ≠ [] → cutL (Lib.join l [32]) = l.flatMap cutL
  | [], h => absurd rfl h
  | [x], _ => by rw [Lib.join_one]; simp
  | x :: y :: r, _ => by
    rw [join32_cons2, cut_app, cut_join (y :: r) (by simp)]
    simp
theorem cut_word : ∀ a : List UInt8, 32 ∉ a → cutL a = [a]
  | [], _ => rfl
  | b :: a, h => by
    unfold cutL
    rw [if_neg (fun e => h (by rw [e]; exact List.mem_cons_self)), cut_word a (fun e => h (List.mem_cons_of_mem _ e))]
    rfl
theorem cut_no : ∀ (a : List UInt8), ∀ x ∈ cutL a, 32 ∉ x
  | [], x, h => by simp [cutL] at h; subst h; simp
  | b :: a, x, h => by
    have ih := cut_no a
    have hne := cutL_ne a
    unfold cutL at h
    split at h
    · rcases List.mem_cons.1 h with rfl | h
      · simp
      · exact ih x h
    · rename_i hb
      cases hc : cutL a with
      | nil => exact absurd hc hne
      | cons y r =>
        rw [hc] at h ih
        simp only [List.headD_cons, List.tail_cons] at h
        rcases List.mem_cons.1 h with rfl | h
        · intro e
          rcases List.mem_cons.1 e with e | e
          · exact hb e.symm
          · exact ih y List.mem_cons_self e
        · exact ih x (List.mem_cons_of_mem _ h)
/-- texts, joined with blanks -/
def joinW (l : List ByteArray) : ByteArray := ⟨(Lib.join (l.map (·.data.toList)) [32]).toArray⟩
theorem joinW_data (l : List ByteArray) : (joinW l).data.toList = Lib.join (l.map (·.data.toList)) [32] := rfl
theorem flatMap_spl (l : List ByteArray) : (l.flatMap spl).map (·.data.toList) = (l.map (·.data.toList)).flatMap cutL := by
  induction l with
  | nil => rfl
  | cons x l ih => rw [List.flatMap_cons, List.map_append, ih, spl_data, List.map_cons, List.flatMap_cons]
theorem join_flatCut : ∀ l : List (List UInt8), Lib.join (l.flatMap cutL) [32] = Lib.join l [32]
  | [] => rfl
  | [x] => by rw [List.flatMap_cons, List.flatMap_nil, List.append_nil, join_cut, Lib.join_one]
  | x :: y :: r => by
    have ih := join_flatCut (y :: r)
    rw [List.flatMap_cons, join32_app _ _ (cutL_ne x) (by
      rw [List.flatMap_cons]; intro h; exact cutL_ne y (List.append_eq_nil_iff.1 h).1), ih, join_cut, join32_cons2]
/-- the words of pieces, joined, are the pieces, joined -/
theorem joinW_spl (l : List ByteArray) : joinW (l.flatMap spl) = joinW l := by
  apply ba_ext
  rw [joinW_data, joinW_data, flatMap_spl, join_flatCut]
/-- the words of pieces, joined, are the pieces' words -/
theorem spl_joinW (l : List ByteArray) (h : l ≠ []) : spl (joinW l) = l.flatMap spl := by
  apply spl_of
  rw [joinW_data, flatMap_spl, cut_join _ (by simpa using h)]
end Go.Proofs.YtdlbjngpohkglaaGreatDoor
end
section
set_option linter.unusedVariables false
set_option maxRecDepth 100000
set_option linter.unusedSimpArgs false
namespace Go.Proofs.YtdlbjngpohkglaaGreatDoor
open Go.RowKit

/-- the closure of words.all over a predicate -/
theorem all1_of (fid : FuncId) (q : ByteArray → Bool) (I : World → Prop) (hI : ∀ w w', I w → Below w.heap.size w w' → I w') (hent : ∀ args w, (callFunc fid args).run Tryz.prog w = .ok (.enter fid args) w) (hq : ∀ s w, I w → Calls Tryz.prog fid #[.string s] w fun e w' => e = .returned (.bool (q s)) ∧ Below w.heap.size w w') (s : ByteArray) (a : Addr) (w : World) (hw : I w) (hbox : w.cell? a = some (.func (.func fid) #[] #[])) :
    Calls Tryz.prog 165 #[.string s, .pointer (some a)] w fun e w' => e = .returned (.bool (!q s)) ∧ Below w.heap.size w w' := by
  have HQ := Lib.hid hq
  have HW := Lib.hid hw
  clear hq hw hI
  go_enter Tryz.func165, Tryz.ntmps165
  go_wp2_with fail
  refine (HQ.out s w HW.out).mono ?_
  rintro e w1 ⟨rfl, hb⟩
  have HB := Lib.hid hb
  clear hb
  go_wp2_with fail
  go_ret
  exact ⟨rfl, HB.out⟩

theorem str_indexFunc_of (fid : FuncId) (q : ByteArray → Bool) (I : World → Prop) (hI : ∀ w w', I w → Below w.heap.size w w' → I w') (hent : ∀ args w, (callFunc fid args).run Tryz.prog w = .ok (.enter fid args) w) (hq : ∀ s w, I w → Calls Tryz.prog fid #[.string s] w fun e w' => e = .returned (.bool (q s)) ∧ Below w.heap.size w w') (a : Addr) (p : Option Addr) (n cap : Nat) (l : List ByteArray) (w : World) (hw : I w) (hn : l.length = n) (hm : n ≤ 9223372036854775807) (hr : RowE encS 1 w p l)
    (hbox : w.cell? a = some (.func (.func fid) #[] #[])) :
    Calls Tryz.prog 184 #[.slice p n cap, .func (.func 165) #[] #[.pointer (some a)]] w fun e w' =>
      (∃ r : Int, e = .returned (.int .i64 r) ∧ (l.any (fun s => !q s) = decide (0 ≤ r))) ∧ Below w.heap.size w w' := by
  have HR := Lib.hid hr
  have HN := Lib.hid hn
  have HX := Lib.hid hbox
  have HA := Lib.hid (fun x W hw h => all1_of fid q I hI hent hq x a W hw h)
  have HII := Lib.hid hI
  have HW := Lib.hid hw
  clear hr hn hbox hq hent hI hw
  go_enter Tryz.func184, Tryz.ntmps184
  go_wp2_with fail
  go_loopw [5, 8] (fun _ i wr => ∃ k : Nat, k ≤ n ∧ i = .int .i64 k ∧ (l.take k).any (fun s => !q s) = false ∧ Below w.heap.size w wr) (fun _ i _ => n - (intOf i).toNat)
  case atStart => exact ⟨0, by omega, rfl, by simp, Below.refl _ _⟩
  case round =>
    obtain ⟨k, hk, rfl, hno, hb⟩ := hrel
    have HNO := Lib.hid hno
    have HB := Lib.hid hb
    clear hno hb
    by_cases hlt : k < n
    · obtain ⟨x, hx⟩ := get_of_lt (l := l) (j := k) (by rw [HN.out]; exact hlt)
      obtain ⟨b, o, rfl, hcell⟩ := (HR.out.below HB.out).str hx
      have HE := Lib.hid hx
      have hbx : wr.cell? a = some (.func (.func fid) #[] #[]) := by rw [HB.out.cell (cell_block HX.out)]; exact HX.out
      clear hx
      by_cases hq : q x = true
      · go_wp2_with fail
        refine (HA.out x wr (HII.out _ _ HW.out HB.out) hbx).mono ?_
        rintro e w1 ⟨rfl, hb⟩
        have HB1 := Lib.hid (HB.out.trans (hb.mono HB.out.size))
        clear hb hbx hcell
        go_wp2_with fail
        go_roundw
        case rel => exact ⟨k + 1, by omega, by go_num, by rw [any_take_get HE.out, HNO.out, hq]; rfl, HB1.out⟩
        case measure => simp [intOf]; omega
      · have hq' : q x = false := by simpa using hq
        clear hq
        go_wp2_with fail
        refine (HA.out x wr (HII.out _ _ HW.out HB.out) hbx).mono ?_
        rintro e w1 ⟨rfl, hb⟩
        have HB1 := Lib.hid (HB.out.trans (hb.mono HB.out.size))
        clear hb hbx hcell
        go_wp2_with fail
        go_ret
        exact ⟨⟨k, rfl, by rw [any_get HE.out (by rw [hq']; rfl)]; simp⟩, HB1.out⟩
    · go_wp2_with fail
      go_ret
      have h := HNO.out
      rw [take_full (by rw [HN.out]; omega)] at h
      exact ⟨⟨-1, rfl, by rw [h]; simp⟩, HB.out⟩

theorem str_containsFunc_of (fid : FuncId) (q : ByteArray → Bool) (I : World → Prop) (hI : ∀ w w', I w → Below w.heap.size w w' → I w') (hent : ∀ args w, (callFunc fid args).run Tryz.prog w = .ok (.enter fid args) w) (hq : ∀ s w, I w → Calls Tryz.prog fid #[.string s] w fun e w' => e = .returned (.bool (q s)) ∧ Below w.heap.size w w') (a : Addr) (p : Option Addr) (n cap : Nat) (l : List ByteArray) (w : World) (hw : I w) (hn : l.length = n) (hm : n ≤ 9223372036854775807) (hr : RowE encS 1 w p l)
    (hbox : w.cell? a = some (.func (.func fid) #[] #[])) :
    Calls Tryz.prog 164 #[.slice p n cap, .func (.func 165) #[] #[.pointer (some a)]] w fun e w' =>
      e = .returned (.bool (l.any (fun s => !q s))) ∧ Below w.heap.size w w' := by
  have hc := str_indexFunc_of fid q I hI hent hq a p n cap l w hw hn hm hr hbox
  generalize l.any (fun s => !q s) = r0 at hc ⊢
  clear hr hn hbox hq hent hI hw
  go_enter Tryz.func164, Tryz.ntmps164
  go_wp2_with fail
  refine hc.mono ?_
  rintro e w1 ⟨⟨r, rfl, hr⟩, hb⟩
  have HR := Lib.hid hr
  have HB := Lib.hid hb
  clear hr hb hc
  go_wp2_with fail
  go_ret
  exact ⟨ret_bool HR.out.symm, HB.out⟩

theorem words_all_of (fid : FuncId) (q : ByteArray → Bool) (I : World → Prop) (hI : ∀ w w', I w → Below w.heap.size w w' → I w') (hent : ∀ args w, (callFunc fid args).run Tryz.prog w = .ok (.enter fid args) w) (hq : ∀ s w, I w → Calls Tryz.prog fid #[.string s] w fun e w' => e = .returned (.bool (q s)) ∧ Below w.heap.size w w') (p : Option Addr) (n cap : Nat) (l : List ByteArray) (w : World) (hw : I w) (hn : l.length = n) (hm : n ≤ 9223372036854775807) (hr : RowE encS 1 w p l) :
    Calls Tryz.prog 133 #[.func (.func fid) #[] #[], .slice p n cap] w fun e w' => e = .returned (.bool (l.all q)) ∧ Below w.heap.size w w' := by
  have hc := fun o => str_containsFunc_of fid q I hI hent hq ⟨w.heap.size, 0, none⟩ p n cap l (w.alloc o) (hI _ _ hw ((Below.refl _ _).alloc (Nat.le_refl _) _)) hn hm (hr.alloc o)
  have he : Hid (l.all q = !l.any (fun s => !q s)) := by show l.all q = !l.any (fun s => !q s); rw [List.all_eq_not_any_not]
  have HC := Lib.hid hc
  clear hr hn hc hq hent hI hw
  go_enter Tryz.func133, Tryz.ntmps133
  go_wp2_with fail
  refine (HC.out _ (by rw [cell_new]; rfl)).mono ?_
  rintro e w1 ⟨rfl, hb⟩
  have HB : Hid (Below w.heap.size w w1) := ((Below.refl _ w).alloc (Nat.le_refl _) _).trans (hb.mono (by simp))
  clear hb
  generalize l.any (fun s => !q s) = r0 at *
  go_wp2_with fail
  go_ret
  exact ⟨ret_bool he.out.symm, HB.out⟩


/-- some variable of Go's library holds some number (a split asks for it) -/
def Vr (w : World) : Prop := ∃ m : Int, w.cell? ⟨0, 0, none⟩ = some (.int .i64 m)
theorem Vr.below {w w' : World} (h : Vr w) (hb : Below w.heap.size w w') : Vr w' := by
  obtain ⟨m, h⟩ := h
  exact ⟨m, by rw [hb.cell (cell_block h)]; exact h⟩
/-- the keywords -/
def kwL : List ByteArray := [⟨#[108, 101, 116]⟩, ⟨#[108, 101, 116, 114, 101, 99]⟩, ⟨#[105, 110]⟩, ⟨#[102, 110]⟩, ⟨#[105, 102]⟩, ⟨#[116, 104, 101, 110]⟩, ⟨#[101, 108, 115, 101]⟩, ⟨#[114, 97, 105, 115, 101]⟩, ⟨#[116, 114, 121]⟩, ⟨#[119, 105, 116, 104]⟩, ⟨#[114, 101, 102]⟩, ⟨#[102, 115, 116]⟩, ⟨#[115, 110, 100]⟩, ⟨#[101, 120, 110]⟩]
def kwB (s : ByteArray) : Bool := kwL.any (fun k => decide (k = s))
def nameB (s : ByteArray) : Bool := shapedB s 3 && !kwB s
abbrev kwText : ByteArray := ⟨#[32, 108, 101, 116, 32, 108, 101, 116, 114, 101, 99, 32, 105, 110, 32, 102, 110, 32, 105, 102, 32, 116, 104, 101, 110, 32, 101, 108, 115, 101, 32, 114, 97, 105, 115, 101, 32, 116, 114, 121, 32, 119, 105, 116, 104, 32, 114, 101, 102, 32, 102, 115, 116, 32, 115, 110, 100, 32, 101, 120, 110]⟩
theorem kw_count : Lib.countB kwText ⟨#[32]⟩ = 14 := by decide +kernel
theorem kw_split : Lib.splitB ⟨#[32]⟩ 0 14 kwText = (⟨#[]⟩ : ByteArray) :: kwL := by decide +kernel
set_option maxHeartbeats 1000000 in
theorem keywords_any {w : World} (hv : Vr w) : Calls Tryz.prog 178 #[] w fun e w' => e = .returned (.slice (some ⟨w.heap.size, 0, none⟩) 15 15) ∧ RowE encS 1 w' (some ⟨w.heap.size, 0, none⟩) ((⟨#[]⟩ : ByteArray) :: kwL) ∧ Below w.heap.size w w' := by
  obtain ⟨m, hm⟩ := hv
  have hc := Tryz.strings_Split kwText ⟨#[32]⟩ m w (by decide +kernel) hm (by decide +kernel)
  rw [kw_count, kw_split] at hc
  have HC := Lib.hid hc
  clear hc hm
  go_enter Tryz.func178, Tryz.ntmps178
  go_wp2_with fail
  refine HC.out.mono ?_
  rintro e w1 ⟨rfl, rfl⟩
  go_wp2_with fail
  go_ret
  refine ⟨rfl, ?_, (Below.refl _ _).alloc (Nat.le_refl _) _⟩
  exact RowE.newAt encS_len w _ _ rfl _ _ _ rfl

theorem idxS_from (x : ByteArray) : ∀ (l : List ByteArray) (i : Nat), (l.any (fun y => decide (y = x)) = false ∧ Lib.idxFromS l x i = -1) ∨ ∃ k : Nat, k < l.length ∧ l.any (fun y => decide (y = x)) = true ∧ Lib.idxFromS l x i = ((i + k : Nat) : Int)
  | [], i => .inl ⟨rfl, rfl⟩
  | y :: l, i => by
    unfold Lib.idxFromS
    by_cases h : y = x
    · subst h
      exact .inr ⟨0, by simp, by simp, by simp⟩
    · rw [if_neg h]
      rcases idxS_from x l (i + 1) with ⟨h1, h2⟩ | ⟨k, hk, h1, h2⟩
      · exact .inl ⟨by rw [List.any_cons, h1]; simp [h], h2⟩
      · exact .inr ⟨k + 1, by simpa using hk, by rw [List.any_cons, h1]; simp, by rw [h2]; congr 1; omega⟩
/-- what words.Keyword finds -/
theorem kw_idx {s : ByteArray} (h : s.size ≠ 0) : ∃ r : Int, Lib.idxOfS ((⟨#[]⟩ : ByteArray) :: kwL) s = r ∧ (kwB s = false ∧ r = -1 ∨ kwB s = true ∧ 1 ≤ r ∧ r ≤ 14) := by
  have h0 : ¬ ((⟨#[]⟩ : ByteArray) = s) := by rintro rfl; exact h rfl
  refine ⟨_, rfl, ?_⟩
  have e : Lib.idxOfS ((⟨#[]⟩ : ByteArray) :: kwL) s = Lib.idxFromS kwL s 1 := by
    show (if (⟨#[]⟩ : ByteArray) = s then (0 : Int) else Lib.idxFromS kwL s 1) = _
    rw [if_neg h0]
  rw [e]
  rcases idxS_from s kwL 1 with ⟨h1, h2⟩ | ⟨k, hk, h1, h2⟩
  · exact .inl ⟨h1, h2⟩
  · have : kwL.length = 14 := rfl
    exact .inr ⟨h1, by rw [h2]; omega, by rw [h2]; omega⟩
set_option maxHeartbeats 1000000 in
theorem words_Keyword_any {w : World} (hv : Vr w) (s : ByteArray) : Calls Tryz.prog 153 #[.string s] w fun e w' => (∃ r : Int, e = .returned (.int .i64 r) ∧ (s.size ≠ 0 → decide (r = 0) = !kwB s)) ∧ Below w.heap.size w w' := by
  have HV := Lib.hid hv
  clear hv
  by_cases h0 : s.size = 0
  · have hs : s = ⟨#[]⟩ := by apply ByteArray.ext; exact Array.eq_empty_of_size_eq_zero h0
    subst hs
    clear h0
    go_enter Tryz.func153, Tryz.ntmps153
    go_wp2_with fail
    go_ret
    exact ⟨⟨0, rfl, fun h => absurd rfl h⟩, Below.refl _ _⟩
  · have hne : ¬ s = ⟨#[]⟩ := by rintro rfl; exact h0 rfl
    have hb : s.toList.isEmpty = false := by
      rw [Lib.toList_data]
      cases h : s.data.toList with
      | nil => exact absurd (by show s.data.size = 0; rw [← Array.length_toList, h]; rfl) h0
      | cons x l => rfl
    clear hne
    obtain ⟨r, hr, hrr⟩ := kw_idx h0
    have HR := Lib.hid hr
    have HRR := Lib.hid hrr
    clear hr hrr h0
    go_enter Tryz.func153, Tryz.ntmps153
    go_wp2_with fail
    refine (keywords_any HV.out).mono ?_
    rintro e w1 ⟨rfl, hrow, hb⟩
    have HROW := Lib.hid hrow
    have HB := Lib.hid hb
    clear hrow hb
    go_wp2_with fail
    have hc := Tryz.slices_Index_string w.heap.size 0 15 15 ((⟨#[]⟩ : ByteArray) :: kwL) s w1 (by decide) (by decide) (fun j hj => by
      rcases HROW.out with h | ⟨b, o, he, _, hcell⟩
      · cases h
      · cases he
        have := hcell j _ (List.getElem?_eq_getElem hj) 0 _ rfl
        rw [List.getD_eq_getElem?_getD, List.getElem?_eq_getElem hj]
        simpa using this)
    rw [List.take_of_length_le (by decide), HR.out] at hc
    refine hc.mono ?_
    rintro e w2 ⟨rfl, rfl⟩
    clear hc
    rcases HRR.out with ⟨h1, h2⟩ | ⟨h1, h2, h3⟩
    · subst h2
      go_wp2_with fail
      go_ret
      exact ⟨⟨0, rfl, fun _ => by rw [h1]; rfl⟩, HB.out⟩
    · have hp : (0 : Int) < r := by omega
      go_wp2_with fail
      go_ret
      refine ⟨⟨max 0 r, rfl, fun _ => ?_⟩, HB.out⟩
      rw [h1]
      have : ¬ (max 0 r = 0) := by omega
      simp [this]
set_option maxHeartbeats 1000000 in
theorem name1_any {w : World} (hv : Vr w) (s : ByteArray) : Calls Tryz.prog 152 #[.string s] w fun e w' => e = .returned (.bool (nameB s)) ∧ Below w.heap.size w w' := by
  have HV := Lib.hid hv
  clear hv
  cases h : shapedB s 3
  · have H := Lib.hid h
    clear h
    have HN : Hid (nameB s = false) := by show _ = _; unfold nameB; rw [H.out]; rfl
    go_enter Tryz.func152, Tryz.ntmps152
    go_wp2_with fail
    refine (shaped_any s 3 _).mono ?_
    rintro e w1 ⟨rfl, hb⟩
    rw [H.out]
    have HB := Lib.hid hb
    clear hb
    go_wp2_with fail
    go_ret
    exact ⟨ret_bool HN.out.symm, HB.out⟩
  · have H := Lib.hid h
    have h0 : s.size ≠ 0 := by
      intro h0
      unfold shapedB at h
      rw [h0] at h
      simp at h
    have H0 := Lib.hid h0
    clear h h0
    go_enter Tryz.func152, Tryz.ntmps152
    go_wp2_with fail
    refine (shaped_any s 3 _).mono ?_
    rintro e w1 ⟨rfl, hb⟩
    rw [H.out]
    have HB := Lib.hid hb
    clear hb
    go_wp2_with fail
    refine (words_Keyword_any (HV.out.below HB.out) s).mono ?_
    rintro e w2 ⟨⟨r, rfl, hr⟩, hb⟩
    have HB2 := Lib.hid (HB.out.trans (hb.mono HB.out.size))
    have HR := Lib.hid (hr H0.out)
    clear hb hr
    go_wp2_with fail
    go_ret
    refine ⟨ret_bool ?_, HB2.out⟩
    unfold nameB
    rw [H.out, ← HR.out]
    show (r == 0) = _
    by_cases hr0 : r = 0 <;> simp [hr0]
theorem words_Name_any {w : World} (hv : Vr w) (p : Option Addr) (n cap : Nat) (l : List ByteArray) (hn : l.length = n) (hm : n ≤ 9223372036854775807) (hr : RowE encS 1 w p l) :
    Calls Tryz.prog 129 #[.slice p n cap] w fun e w' => e = .returned (.bool (l.all nameB)) ∧ Below w.heap.size w w' := by
  have hc := words_all_of 152 nameB Vr (fun _ _ h hb => h.below hb) (fun args w => by kernel_rfl) (fun s w h => name1_any h s) p n cap l w hv hn hm hr
  generalize l.all nameB = r0 at *
  have HC := Lib.hid hc
  clear hr hn hc hv
  go_enter Tryz.func129, Tryz.ntmps129
  go_wp2_with fail
  refine HC.out.mono ?_
  rintro e w1 ⟨rfl, hb⟩
  have HB := Lib.hid hb
  clear hb
  go_wp2_with fail
  go_ret
  exact ⟨rfl, HB.out⟩
set_option maxHeartbeats 1000000 in
theorem ref_Keyword_any (s : ByteArray) (w : World) : Calls Tryz.prog 65 #[.string s] w fun e w' => (∃ r : Int, e = .returned (.int .i64 r) ∧ decide (r = 0) = !kwB s) ∧ Below w.heap.size w w' := by
  have HR := Lib.hid (show RowE encS 1 (w.alloc (.cells #[.string ⟨#[108, 101, 116]⟩, .string ⟨#[108, 101, 116, 114, 101, 99]⟩, .string ⟨#[105, 110]⟩, .string ⟨#[102, 110]⟩, .string ⟨#[105, 102]⟩, .string ⟨#[116, 104, 101, 110]⟩, .string ⟨#[101, 108, 115, 101]⟩, .string ⟨#[114, 97, 105, 115, 101]⟩, .string ⟨#[116, 114, 121]⟩, .string ⟨#[119, 105, 116, 104]⟩, .string ⟨#[114, 101, 102]⟩, .string ⟨#[102, 115, 116]⟩, .string ⟨#[115, 110, 100]⟩, .string ⟨#[101, 120, 110]⟩] 9)) (some ⟨w.heap.size, 0, none⟩) kwL from RowE.newAt encS_len w _ _ rfl _ _ _ rfl)
  have HBX := Lib.hid ((Below.refl w.heap.size w).alloc (Nat.le_refl _) (.cells #[.string ⟨#[108, 101, 116]⟩, .string ⟨#[108, 101, 116, 114, 101, 99]⟩, .string ⟨#[105, 110]⟩, .string ⟨#[102, 110]⟩, .string ⟨#[105, 102]⟩, .string ⟨#[116, 104, 101, 110]⟩, .string ⟨#[101, 108, 115, 101]⟩, .string ⟨#[114, 97, 105, 115, 101]⟩, .string ⟨#[116, 114, 121]⟩, .string ⟨#[119, 105, 116, 104]⟩, .string ⟨#[114, 101, 102]⟩, .string ⟨#[102, 115, 116]⟩, .string ⟨#[115, 110, 100]⟩, .string ⟨#[101, 120, 110]⟩] 9))
  go_enter Tryz.func65, Tryz.ntmps65
  go_wp2_with fail
  have hc : Calls Tryz.prog 83 #[] w fun e w' => e = .returned (.slice (some ⟨w.heap.size, 0, none⟩) 14 14) ∧ w' = w.alloc (.cells #[.string ⟨#[108, 101, 116]⟩, .string ⟨#[108, 101, 116, 114, 101, 99]⟩, .string ⟨#[105, 110]⟩, .string ⟨#[102, 110]⟩, .string ⟨#[105, 102]⟩, .string ⟨#[116, 104, 101, 110]⟩, .string ⟨#[101, 108, 115, 101]⟩, .string ⟨#[114, 97, 105, 115, 101]⟩, .string ⟨#[116, 114, 121]⟩, .string ⟨#[119, 105, 116, 104]⟩, .string ⟨#[114, 101, 102]⟩, .string ⟨#[102, 115, 116]⟩, .string ⟨#[115, 110, 100]⟩, .string ⟨#[101, 120, 110]⟩] 9) := by
    clear HR HBX
    go_enter Tryz.func83, Tryz.ntmps83
    go_wp2_with fail
    go_ret
    exact ⟨rfl, rfl⟩
  refine hc.mono ?_
  rintro e w1 ⟨rfl, rfl⟩
  clear hc
  generalize w.alloc (.cells #[.string ⟨#[108, 101, 116]⟩, .string ⟨#[108, 101, 116, 114, 101, 99]⟩, .string ⟨#[105, 110]⟩, .string ⟨#[102, 110]⟩, .string ⟨#[105, 102]⟩, .string ⟨#[116, 104, 101, 110]⟩, .string ⟨#[101, 108, 115, 101]⟩, .string ⟨#[114, 97, 105, 115, 101]⟩, .string ⟨#[116, 114, 121]⟩, .string ⟨#[119, 105, 116, 104]⟩, .string ⟨#[114, 101, 102]⟩, .string ⟨#[102, 115, 116]⟩, .string ⟨#[115, 110, 100]⟩, .string ⟨#[101, 120, 110]⟩] 9) = W at *
  go_wp2_with fail
  go_loopw [8] (fun i wr => ∃ k : Nat, k ≤ 14 ∧ i = .int .i64 k ∧ (kwL.take k).any (fun y => decide (y = s)) = false ∧ wr = W) (fun i _ => 14 - (intOf i).toNat)
  case atStart => exact ⟨0, by omega, rfl, rfl, rfl⟩
  case round =>
    obtain ⟨k, hk, rfl, hno, rfl⟩ := hrel
    have HNO := Lib.hid hno
    clear hno
    by_cases hlt : k < 14
    · obtain ⟨x, hx⟩ := get_of_lt (l := kwL) (j := k) hlt
      obtain ⟨b, o, hbo, hcell⟩ := HR.out.str hx
      cases hbo
      rw [Nat.zero_add] at hcell
      have HE := Lib.hid hx
      clear hx
      by_cases hq : x = s
      · have hb : (x.toList == s.toList) = true := by rw [bytes_beq]; simpa using hq
        have HQ := Lib.hid hq
        clear hq
        go_wp2_with fail
        go_ret
        refine ⟨⟨_, rfl, ?_⟩, HBX.out⟩
        have h1 : kwB s = true := any_get HE.out (by simpa using HQ.out)
        rw [h1]
        simp; omega
      · have hb : (x.toList == s.toList) = false := by rw [bytes_beq]; simpa using hq
        have HQ := Lib.hid hq
        clear hq
        go_wp2_with fail
        go_roundw
        case rel => exact ⟨k + 1, by omega, by go_num, by rw [any_take_get HE.out, HNO.out]; simp [HQ.out], by first | rfl | trivial⟩
        case measure => simp [intOf]; omega
    · have hkn : k = 14 := by omega
      subst hkn
      have h := HNO.out
      rw [take_full (by decide)] at h
      have H := Lib.hid h
      clear h
      go_wp2_with fail
      go_ret
      exact ⟨⟨0, rfl, by show decide _ = !kwB s; unfold kwB; rw [H.out]; rfl⟩, HBX.out⟩
set_option maxHeartbeats 1000000 in
theorem ref_Name_any (s : ByteArray) (w : World) : Calls Tryz.prog 51 #[.string s] w fun e w' => e = .returned (.bool (nameB s)) ∧ Below w.heap.size w w' := by
  cases h : shapedB s 3
  · have H := Lib.hid h
    clear h
    have HN : Hid (nameB s = false) := by show _ = _; unfold nameB; rw [H.out]; rfl
    go_enter Tryz.func51, Tryz.ntmps51
    go_wp2_with fail
    refine (ref_shape_any s 3 _).mono ?_
    rintro e w1 ⟨rfl, hb⟩
    rw [H.out]
    have HB := Lib.hid hb
    clear hb
    go_wp2_with fail
    go_ret
    exact ⟨ret_bool HN.out.symm, HB.out⟩
  · have H := Lib.hid h
    clear h
    go_enter Tryz.func51, Tryz.ntmps51
    go_wp2_with fail
    refine (ref_shape_any s 3 _).mono ?_
    rintro e w1 ⟨rfl, hb⟩
    rw [H.out]
    have HB := Lib.hid hb
    clear hb
    go_wp2_with fail
    refine (ref_Keyword_any s _).mono ?_
    rintro e w2 ⟨⟨r, rfl, hr⟩, hb⟩
    have HB2 := Lib.hid (HB.out.trans (hb.mono HB.out.size))
    have HR := Lib.hid hr
    clear hb hr
    go_wp2_with fail
    go_ret
    refine ⟨ret_bool ?_, HB2.out⟩
    unfold nameB
    rw [H.out, ← HR.out]
    show (r == 0) = _
    by_cases hr0 : r = 0 <;> simp [hr0]
end Go.Proofs.YtdlbjngpohkglaaGreatDoor
end
