/- Part 19 of the texts: AT, Cut, Pc. -/
import Derived.Test.YtdlbjngpohkglaaGreatDoorG15
import Derived.Lib.SplitLaws
import Derived.Lib.Join
import Derived.Test.YtdlbjngpohkglaaGreatDoorG18
section
set_option linter.unusedVariables false
set_option maxRecDepth 100000
set_option linter.unusedSimpArgs false
namespace Go.Proofs.YtdlbjngpohkglaaGreatDoor
open Go.RowKit

/-- a number in range -/
def inI (z : Int) : Prop := -9223372036854775808 ≤ z ∧ z ≤ 9223372036854775807
/-- a node, plain -/
structure LAH where
  kind : Int
  op : Int
  at_ : Int
  n : Int
  name : ByteArray
  arg : ByteArray
  exn : ByteArray
  rho : Int
  rhos : List Int
  eff : List Atom
  ty : RT
  res : RT
/-- a node as it lies -/
structure AH where
  kind : Int
  op : Int
  at_ : Int
  n : Int
  name : ByteArray
  arg : ByteArray
  exn : ByteArray
  rho : Int
  rp : Option Addr
  rn : Nat
  rc : Nat
  rhos : List Int
  ep : Option Addr
  en : Nat
  ec : Nat
  eff : List Atom
  ty : PT
  res : PT
  kp : Option Addr
  kn : Nat
  kc : Nat
abbrev PA := Rose AH
abbrev AT := Rose LAH
def AH.plain (a : AH) : LAH := ⟨a.kind, a.op, a.at_, a.n, a.name, a.arg, a.exn, a.rho, a.rhos, a.eff, a.ty.er, a.res.er⟩
def PA.er (t : PA) : AT := Rose.map AH.plain t
theorem PA.er_node (a : AH) (l : List PA) : PA.er (.node a l) = .node a.plain (l.map PA.er) := Rose.map_node _ a l
def encAH (a : AH) : List Value := [.int .u8 a.kind, .int .u8 a.op, .int .i64 a.at_, .int .i64 a.n, .string a.name, .string a.arg, .string a.exn, .int .i64 a.rho, .slice a.rp a.rn a.rc, .slice a.ep a.en a.ec,
  .int .u8 a.ty.head.kind, .int .i64 a.ty.head.rho, .slice a.ty.head.ep a.ty.head.en a.ty.head.ec, .slice a.ty.head.kp a.ty.head.kn a.ty.head.kc,
  .int .u8 a.res.head.kind, .int .i64 a.res.head.rho, .slice a.res.head.ep a.res.head.en a.res.head.ec, .slice a.res.head.kp a.res.head.kn a.res.head.kc, .slice a.kp a.kn a.kc]
/-- what a node's own cells are good for -/
structure AH.Own (w : World) (a : AH) : Prop where
  k0 : 0 ≤ a.kind
  k1 : a.kind ≤ 255
  o0 : 0 ≤ a.op
  o1 : a.op ≤ 255
  at_ : inI a.at_
  n : inI a.n
  name : a.name.size ≤ 9223372036854775807
  arg : a.arg.size ≤ 9223372036854775807
  exn : a.exn.size ≤ 9223372036854775807
  rho : inI a.rho
  rhos : IsRow encN 1 w a.rp a.rn a.rc a.rhos
  rok : ∀ z ∈ a.rhos, inI z
  eff : IsRow encA 3 w a.ep a.en a.ec a.eff
  eok : ∀ x ∈ a.eff, okAt x
  ty : LR.lies w a.ty
  res : LR.lies w a.res
  kmax : a.kn ≤ 9223372036854775807
  kle : a.kn ≤ a.kc
  knil : a.kp = none → a.kc = 0
def LA : Laid AH where
  enc := encAH
  k := 19
  own := AH.Own
  kp := AH.kp
  kn := AH.kn
  len := fun _ => rfl
  below := fun h hb => ⟨h.k0, h.k1, h.o0, h.o1, h.at_, h.n, h.name, h.arg, h.exn, h.rho, h.rhos.below hb, h.rok, h.eff.below hb, h.eok, LR.lies_below hb _ h.ty, LR.lies_below hb _ h.res, h.kmax, h.kle, h.knil⟩
theorem LAlen : ∀ t : PA, (LA.encT t).length = 19 := fun _ => rfl
/-- a term by value -/
abbrev aggT (a : AH) : Value := .agg #[.int .u8 a.kind, .int .u8 a.op, .int .i64 a.at_, .int .i64 a.n, .string a.name, .string a.arg, .string a.exn, .int .i64 a.rho, .slice a.rp a.rn a.rc, .slice a.ep a.en a.ec,
  .int .u8 a.ty.head.kind, .int .i64 a.ty.head.rho, .slice a.ty.head.ep a.ty.head.en a.ty.head.ec, .slice a.ty.head.kp a.ty.head.kn a.ty.head.kc,
  .int .u8 a.res.head.kind, .int .i64 a.res.head.rho, .slice a.res.head.ep a.res.head.en a.res.head.ec, .slice a.res.head.kp a.res.head.kn a.res.head.kc, .slice a.kp a.kn a.kc]
abbrev boxA (a : AH) : Obj := .cells #[.int .u8 a.kind, .int .u8 a.op, .int .i64 a.at_, .int .i64 a.n, .string a.name, .string a.arg, .string a.exn, .int .i64 a.rho, .slice a.rp a.rn a.rc, .slice a.ep a.en a.ec,
  .int .u8 a.ty.head.kind, .int .i64 a.ty.head.rho, .slice a.ty.head.ep a.ty.head.en a.ty.head.ec, .slice a.ty.head.kp a.ty.head.kn a.ty.head.kc,
  .int .u8 a.res.head.kind, .int .i64 a.res.head.rho, .slice a.res.head.ep a.res.head.en a.res.head.ec, .slice a.res.head.kp a.res.head.kn a.res.head.kc, .slice a.kp a.kn a.kc] 31
/-- the cells of a term at a place -/
structure CellsA (w : World) (b o : Nat) (a : AH) : Prop where
  c : ∀ i u, (encAH a)[i]? = some u → w.cell? ⟨b, o + i, none⟩ = some u
theorem CellsA.below {w w' : World} {b o : Nat} {a : AH} (h : CellsA w b o a) (hb : Below w.heap.size w w') (hlt : b < w.heap.size) : CellsA w' b o a := ⟨fun i u hu => by rw [hb.cell hlt]; exact h.c i u hu⟩
/-- a node that lies, taken apart -/
structure NodeA (w : World) (a : AH) (l : List PA) : Prop where
  own : AH.Own w a
  kids : IsRow LA.encT 19 w a.kp a.kn a.kc l
  each : ∀ t ∈ l, LA.lies w t
theorem nodeA {w : World} {a : AH} {l : List PA} (h : LA.lies w (.node a l)) : NodeA w a l := by
  rw [Laid.lies_node] at h
  exact ⟨h.1, ⟨h.2.1, h.1.kmax, h.1.kle, h.1.knil, h.2.2.1⟩, h.2.2.2⟩
theorem NodeA.lies {w : World} {a : AH} {l : List PA} (h : NodeA w a l) : LA.lies w (.node a l) := by
  rw [Laid.lies_node]
  exact ⟨h.own, h.kids.len, h.kids.row, h.each⟩
theorem NodeA.below {w w' : World} {a : AH} {l : List PA} (h : NodeA w a l) (hb : Below w.heap.size w w') : NodeA w' a l := nodeA (LA.lies_below hb _ h.lies)
theorem NodeA.alloc {w : World} {a : AH} {l : List PA} (h : NodeA w a l) (o : Obj) : NodeA (w.alloc o) a l := h.below ((Below.refl _ _).alloc (Nat.le_refl _) _)
/-- a row of terms -/
structure RowTA (w : World) (p : Option Addr) (n cap : Nat) (l : List PA) : Prop where
  row : IsRow LA.encT 19 w p n cap l
  each : ∀ t ∈ l, LA.lies w t
theorem NodeA.rowT {w : World} {a : AH} {l : List PA} (h : NodeA w a l) : RowTA w a.kp a.kn a.kc l := ⟨h.kids, h.each⟩
theorem RowTA.below {w w' : World} {p : Option Addr} {n cap : Nat} {l : List PA} (h : RowTA w p n cap l) (hb : Below w.heap.size w w') : RowTA w' p n cap l := ⟨h.row.below hb, fun t ht => LA.lies_below hb t (h.each t ht)⟩
/-- a term of a row -/
theorem RowTA.kid {w : World} {p : Option Addr} {n cap : Nat} {l : List PA} (h : RowTA w p n cap l) {j : Nat} {t : PA} (hx : l[j]? = some t) :
    ∃ b o, p = some ⟨b, o, none⟩ ∧ b < w.heap.size ∧ CellsA w b (o + j * 19) t.head := by
  obtain ⟨b, o, hp, hb, hc⟩ := h.row.row.elem hx
  exact ⟨b, o, hp, hb, ⟨fun i u hu => hc i u hu⟩⟩
theorem RowTA.at {w : World} {p : Option Addr} {n cap : Nat} {l : List PA} (h : RowTA w p n cap l) {j : Nat} (hj : j < n) : ∃ t, l[j]? = some t := get_of_lt (by rw [h.row.len]; exact hj)
theorem RowTA.lies {w : World} {p : Option Addr} {n cap : Nat} {l : List PA} (h : RowTA w p n cap l) {j : Nat} {t : PA} (hx : l[j]? = some t) : LA.lies w t := h.each t (List.mem_of_getElem? hx)
end Go.Proofs.YtdlbjngpohkglaaGreatDoor
end
section
set_option linter.unusedVariables false
namespace Go.Proofs.YtdlbjngpohkglaaGreatDoor

/-- the words of a text -/
def cutL : List UInt8 → List (List UInt8)
  | [] => [[]]
  | b :: s => if b = 32 then [] :: cutL s else (b :: (cutL s).headD []) :: (cutL s).tail
theorem cutL_ne : ∀ s, cutL s ≠ []
  | [] => by simp [cutL]
  | b :: s => by unfold cutL; split <;> simp
theorem cutL_eta (s : List UInt8) : (cutL s).headD [] :: (cutL s).tail = cutL s := by
  cases h : cutL s with
  | nil => exact absurd h (cutL_ne s)
  | cons x r => rfl
theorem index32_eq (s : List UInt8) : Lib.index (32 :: s) [32] = ((0 : Nat) : Int) := by rw [Lib.index]; simp [List.isPrefixOf]
theorem index32_ne {b : UInt8} (h : b ≠ 32) (s : List UInt8) : Lib.index (b :: s) [32] = if Lib.index s [32] == -1 then -1 else Lib.index s [32] + 1 := by
  have hp : ([32] : List UInt8).isPrefixOf (b :: s) = false := by simp [List.isPrefixOf, Ne.symm h]
  rw [Lib.index, hp]; simp
/-- the kit's split is this cut -/
theorem splitK_cut : ∀ s : List UInt8, Lib.splitK [32] 0 (Lib.count s [32]) s = cutL s
  | [] => by
    have : Lib.count [] [32] = 0 := by rw [Lib.count_one]; rfl
    rw [this]; rfl
  | b :: s => by
    have ih := splitK_cut s
    by_cases h : b = 32
    · subst h
      rw [Lib.count_cons_eq, Nat.add_comm]
      rw [show Lib.splitK [32] 0 (Lib.count s [32] + 1) (32 :: s) = [] :: Lib.splitK [32] 0 (Lib.count s [32]) s by
        rw [Lib.splitK, index32_eq]; simp]
      rw [ih, cutL, if_pos rfl]
    · rw [Lib.count_cons_ne b 32 s h, cutL, if_neg h, ← ih]
      cases hk : Lib.count s [32] with
      | zero => rfl
      | succ k =>
        by_cases hm : Lib.index s [32] = -1
        · have : Lib.count s [32] = 0 := Lib.count_miss hm
          omega
        · have hge := Lib.index_ge s [32]
          obtain ⟨j, hj⟩ : ∃ j : Nat, Lib.index s [32] = j := ⟨(Lib.index s [32]).toNat, by omega⟩
          have hix' : Lib.index (b :: s) [32] = ((j + 1 : Nat) : Int) := by rw [index32_ne h, if_neg (fun e => hm (beq_iff_eq.1 e)), hj]; omega
          rw [Lib.splitK, Lib.splitK, hix', hj]
          have e1 : (((j + 1 : Nat) : Int) == -1) = false := by rw [beq_eq_false_iff_ne]; omega
          have e2 : ((j : Int) == -1) = false := by rw [beq_eq_false_iff_ne]; omega
          rw [e1, e2]
          simp
/-- a text's words, as texts -/
def spl (s : ByteArray) : List ByteArray := Lib.splitB ⟨#[32]⟩ 0 (Lib.countB s ⟨#[32]⟩) s
theorem spl_data (s : ByteArray) : (spl s).map (·.data.toList) = cutL s.data.toList := by
  unfold spl
  rw [Lib.splitB_data]
  exact splitK_cut _
theorem spl_length (s : ByteArray) : (spl s).length = Lib.countB s ⟨#[32]⟩ + 1 := Lib.splitB_all _ (by decide) _ _ _ rfl
theorem spl_ne (s : ByteArray) : spl s ≠ [] := fun h => by have := spl_length s; rw [h] at this; simp at this
theorem ba_ext {a b : ByteArray} (h : a.data.toList = b.data.toList) : a = b := ByteArray.ext (Array.toList_inj.1 h)
theorem spl_of {s : ByteArray} {l : List ByteArray} (h : cutL s.data.toList = l.map (·.data.toList)) : spl s = l := by
  have h1 := (spl_data s).trans h
  have hinj : ∀ a b : List ByteArray, a.map (·.data.toList) = b.map (·.data.toList) → a = b := by
    intro a
    induction a with
    | nil => intro b hb; cases b with | nil => rfl | cons x b => simp at hb
    | cons x a ih =>
      intro b hb
      cases b with
      | nil => simp at hb
      | cons y b =>
        simp only [List.map_cons, List.cons.injEq] at hb
        rw [ba_ext hb.1, ih b hb.2]
  exact hinj _ _ h1
theorem join32_cons2 (x y : List UInt8) (r : List (List UInt8)) : Lib.join (x :: y :: r) [32] = x ++ 32 :: Lib.join (y :: r) [32] := by
  rw [Lib.join_cons, Lib.join_cons]
  simp [Lib.joinTail]
theorem join32_app : ∀ (a b : List (List UInt8)), a ≠ [] → b ≠ [] → Lib.join (a ++ b) [32] = Lib.join a [32] ++ 32 :: Lib.join b [32]
  | [], _, h, _ => absurd rfl h
  | [x], b, _, hb => by
    cases b with
    | nil => exact absurd rfl hb
    | cons y b => rw [List.singleton_append, join32_cons2, Lib.join_one]
  | x :: y :: a, b, _, hb => by
    rw [List.cons_append, List.cons_append, join32_cons2, join32_cons2, ← List.cons_append, join32_app (y :: a) b (by simp) hb]
    simp
theorem join_cut : ∀ s, Lib.join (cutL s) [32] = s
  | [] => by simp [cutL, Lib.join_one]
  | b :: s => by
    have ih := join_cut s
    have hne := cutL_ne s
    unfold cutL
    split
    · rename_i h; subst h
      cases hc : cutL s with
      | nil => exact absurd hc hne
      | cons x r => rw [hc] at ih; rw [join32_cons2, ih]; rfl
    · cases hc : cutL s with
      | nil => exact absurd hc hne
      | cons x r =>
        rw [hc, Lib.join_cons] at ih
        rw [Lib.join_cons]
        simp only [List.headD_cons, List.tail_cons, List.cons_append]
        rw [ih]
theorem cut_app : ∀ a b, cutL (a ++ 32 :: b) = cutL a ++ cutL b
  | [], b => by simp [cutL]
  | x :: a, b => by
    rw [List.cons_append]
    have e : ∀ t, cutL (x :: t) = if x = 32 then [] :: cutL t else (x :: (cutL t).headD []) :: (cutL t).tail := fun _ => rfl
    rw [e, e, cut_app a b]
    split
    · rfl
    · cases hc : cutL a with
      | nil => exact absurd hc (cutL_ne a)
      | cons y r => rfl
theorem cut_join : ∀ l : List (List UInt8), l ≠ [] → cutL (Lib.join l [32]) = l.flatMap cutL
  | [], h => absurd rfl h
  | [x], _ => by rw [Lib.join_one]; simp
  | x :: y :: r, _ => by
    rw [join32_cons2, cut_app, cut_join (y :: r) (by simp)]
    simp
theorem cut_word : ∀ a : List UInt8, 32 ∉ a → cutL a = [a]
  | [], _ => rfl
  | b :: a, h => by
    unfold cutL
    rw [if_neg (fun e => h (by rw [e]; exact List.mem_cons_self)), cut_word a (fun e => h (List.mem_cons_of_mem _ e))]
    rfl
theorem cut_no : ∀ (a : List UInt8), ∀ x ∈ cutL a, 32 ∉ x
  | [], x, h => by simp [cutL] at h; subst h; simp
  | b :: a, x, h => by
    have ih := cut_no a
    have hne := cutL_ne a
    unfold cutL at h
    split at h
    · rcases List.mem_cons.1 h with rfl | h
      · simp
      · exact ih x h
    · rename_i hb
      cases hc : cutL a with
      | nil => exact absurd hc hne
      | cons y r =>
        rw [hc] at h ih
        simp only [List.headD_cons, List.tail_cons] at h
        rcases List.mem_cons.1 h with rfl | h
        · intro e
          rcases List.mem_cons.1 e with e | e
          · exact hb e.symm
          · exact ih y List.mem_cons_self e
        · exact ih x (List.mem_cons_of_mem _ h)
/-- texts, joined with blanks -/
def joinW (l : List ByteArray) : ByteArray := ⟨(Lib.join (l.map (·.data.toList)) [32]).toArray⟩
theorem joinW_data (l : List ByteArray) : (joinW l).data.toList = Lib.join (l.map (·.data.toList)) [32] := rfl
theorem flatMap_spl (l : List ByteArray) : (l.flatMap spl).map (·.data.toList) = (l.map (·.data.toList)).flatMap cutL := by
  induction l with
  | nil => rfl
  | cons x l ih => rw [List.flatMap_cons, List.map_append, ih, spl_data, List.map_cons, List.flatMap_cons]
theorem join_flatCut : ∀ l : List (List UInt8), Lib.join (l.flatMap cutL) [32] = Lib.join l [32]
  | [] => rfl
  | [x] => by rw [List.flatMap_cons, List.flatMap_nil, List.append_nil, join_cut, Lib.join_one]
  | x :: y :: r => by
    have ih := join_flatCut (y :: r)
    rw [List.flatMap_cons, join32_app _ _ (cutL_ne x) (by
      rw [List.flatMap_cons]; intro h; exact cutL_ne y (List.append_eq_nil_iff.1 h).1), ih, join_cut, join32_cons2]
/-- the words of pieces, joined, are the pieces, joined -/
theorem joinW_spl (l : List ByteArray) : joinW (l.flatMap spl) = joinW l := by
  apply ba_ext
  rw [joinW_data, joinW_data, flatMap_spl, join_flatCut]
/-- the words of pieces, joined, are the pieces' words -/
theorem spl_joinW (l : List ByteArray) (h : l ≠ []) : spl (joinW l) = l.flatMap spl := by
  apply spl_of
  rw [joinW_data, flatMap_spl, cut_join _ (by simpa using h)]
end Go.Proofs.YtdlbjngpohkglaaGreatDoor
end
section
set_option linter.unusedVariables false
set_option maxRecDepth 100000
set_option linter.unusedSimpArgs false
namespace Go.Proofs.YtdlbjngpohkglaaGreatDoor
open Go.RowKit

def atP (a : AH) : List ByteArray := [⟨#[64]⟩, decB a.rho]
def rhosP (a : AH) : List ByteArray := [⟨#[91]⟩] ++ (a.rhos.map decB ++ [⟨#[93]⟩])
def typedP (sign : ByteArray) (t : PT) : List ByteArray := [sign, textT t.er]
def effP (a : AH) : List ByteArray := [⟨#[33]⟩, textA (effL a.eff)]
/-- the word between two kids; none, if it is empty -/
def betw (bt : List ByteArray) (i : Nat) : List ByteArray := if 0 < i ∧ (bt.getD (i - 1) ⟨#[]⟩).size ≠ 0 then [bt.getD (i - 1) ⟨#[]⟩] else []
def kidsTo (bt : List ByteArray) (ks : List (List ByteArray)) : Nat → List ByteArray
  | 0 => []
  | i + 1 => kidsTo bt ks i ++ (betw bt i ++ ks.getD i [])
/-- kids, with words between them -/
def kidsP (bt : List ByteArray) (ks : List (List ByteArray)) : List ByteArray := kidsTo bt ks ks.length
def signB (op : Int) : ByteArray := if op = 1 then ⟨#[43]⟩ else if op = 2 then ⟨#[45]⟩ else if op = 3 then ⟨#[42]⟩ else if op = 4 then ⟨#[60]⟩ else ⟨#[61]⟩
/-- what stands between the brackets of binders -/
def binderP (a : AH) (ks : List (List ByteArray)) : List ByteArray :=
  if a.kind = 11 then [⟨#[102, 110]⟩, a.arg] ++ (typedP ⟨#[58]⟩ a.ty ++ (effP a ++ ([⟨#[61, 62]⟩] ++ (kidsP [] ks ++ atP a))))
  else if a.kind = 12 then [⟨#[108, 101, 116]⟩, a.name, ⟨#[61]⟩] ++ kidsP [⟨#[105, 110]⟩] ks
  else if a.kind = 13 then [⟨#[108, 101, 116, 114, 101, 99]⟩, a.name] ++ (rhosP a ++ ([a.arg] ++ (typedP ⟨#[58]⟩ a.ty ++ (typedP ⟨#[45, 62]⟩ a.res ++ (effP a ++ ([⟨#[61]⟩] ++ (ks.getD 0 [] ++ (atP a ++ ([⟨#[105, 110]⟩] ++ ks.getD 1 [])))))))))
  else if a.kind = 15 then [⟨#[114, 97, 105, 115, 101]⟩, a.exn] ++ (kidsP [] ks ++ typedP ⟨#[58]⟩ a.ty)
  else if a.kind = 16 then [⟨#[116, 114, 121]⟩] ++ kidsP [joinB [⟨#[119, 105, 116, 104]⟩, a.exn, a.arg, ⟨#[61, 62]⟩]] ks
  else if a.kind = 17 then [⟨#[114, 101, 103, 105, 111, 110]⟩] ++ ([decB a.rho] ++ ([⟨#[105, 110]⟩] ++ kidsP [] ks))
  else if a.kind = 18 then [a.name] ++ (rhosP a ++ (effP a ++ atP a))
  else []
/-- what stands between the brackets -/
def innerP (a : AH) (ks : List (List ByteArray)) : List ByteArray :=
  if a.kind = 3 then kidsP [⟨#[44]⟩] ks ++ atP a
  else if a.kind = 4 then [⟨#[102, 115, 116]⟩] ++ kidsP [] ks
  else if a.kind = 5 then [⟨#[115, 110, 100]⟩] ++ kidsP [] ks
  else if a.kind = 7 then [⟨#[33]⟩] ++ kidsP [] ks
  else if a.kind = 6 then [⟨#[114, 101, 102]⟩] ++ (kidsP [] ks ++ atP a)
  else if a.kind = 8 then kidsP [⟨#[58, 61]⟩] ks
  else if a.kind = 9 then kidsP [signB a.op] ks
  else if a.kind = 10 then kidsP [⟨#[]⟩] ks
  else if a.kind = 14 then [⟨#[105, 102]⟩] ++ kidsP [⟨#[116, 104, 101, 110]⟩, ⟨#[101, 108, 115, 101]⟩] ks
  else binderP a ks
def nodeP (a : AH) (ks : List (List ByteArray)) : List ByteArray :=
  if a.kind = 1 then [decB a.n] else if a.kind = 2 then [a.name] else [⟨#[40]⟩] ++ (innerP a ks ++ [⟨#[41]⟩])
/-- a term's text, as pieces -/
def piecesT : PA → List ByteArray := Rose.fold nodeP
theorem piecesT_node (a : AH) (l : List PA) : piecesT (.node a l) = nodeP a (l.map piecesT) := by
  show Rose.fold _ _ = _
  rw [Rose.fold_node]; rfl
/-- words -/
def wordsP (l : List ByteArray) : List ByteArray := l.flatMap spl
theorem wordsP_app (l m : List ByteArray) : wordsP (l ++ m) = wordsP l ++ wordsP m := List.flatMap_append
/-- how long pieces are, with a blank behind each -/
def lensP (l : List ByteArray) : Nat := (l.map (fun s => s.size + 1)).sum
theorem lensP_app (l m : List ByteArray) : lensP (l ++ m) = lensP l + lensP m := by simp [lensP]
theorem lensP_cons (s : ByteArray) (l : List ByteArray) : lensP (s :: l) = s.size + 1 + lensP l := by simp [lensP]
theorem lensP_nil : lensP [] = 0 := rfl
theorem spl_len_le (s : ByteArray) : (spl s).length ≤ s.size + 1 := by
  rw [spl_length]
  have := Lib.countB_le ⟨#[32]⟩ (by decide) s.size s (Nat.le_refl _)
  omega
theorem wordsP_len (l : List ByteArray) : (wordsP l).length ≤ lensP l := by
  induction l with
  | nil => exact Nat.le_refl _
  | cons s l ih =>
    rw [lensP_cons]
    have h1 := spl_len_le s
    have h2 : wordsP (s :: l) = spl s ++ wordsP l := by simp [wordsP]
    rw [h2, List.length_append]
    omega
theorem lensP_mem {l : List ByteArray} {s : ByteArray} (h : s ∈ l) : s.size + 1 ≤ lensP l := by
  induction l with
  | nil => cases h
  | cons x l ih =>
    rw [lensP_cons]
    rcases List.mem_cons.1 h with rfl | h
    · omega
    · have := ih h; omega
theorem kidsTo_len (bt : List ByteArray) (ks : List (List ByteArray)) : ∀ i, lensP (kidsTo bt ks i) ≤ i * lensP bt + ((ks.take i).map lensP).sum
  | 0 => by simp [kidsTo, lensP]
  | i + 1 => by
    have ih := kidsTo_len bt ks i
    have h1 : lensP (betw bt i) ≤ lensP bt := by
      unfold betw
      split
      · rename_i h
        rw [lensP_cons, lensP_nil]
        cases hg : bt[i - 1]? with
        | none => rw [List.getD, hg] at h; exact absurd rfl h.2
        | some s =>
          have := lensP_mem (List.mem_of_getElem? hg)
          rw [List.getD, hg]
          exact this
      · rw [lensP_nil]; exact Nat.zero_le _
    have h2 : ((ks.take (i + 1)).map lensP).sum = ((ks.take i).map lensP).sum + lensP (ks.getD i []) := by
      rw [List.take_add_one, List.map_append, List.sum_append_nat]
      congr 1
      cases hk : ks[i]? with
      | none => rw [List.getD, hk]; rfl
      | some k => rw [List.getD, hk]; simp
    rw [kidsTo, lensP_app, lensP_app, h2, Nat.succ_mul]
    omega
theorem kidsP_len (bt : List ByteArray) (ks : List (List ByteArray)) : lensP (kidsP bt ks) ≤ ks.length * lensP bt + (ks.map lensP).sum := by
  have := kidsTo_len bt ks ks.length
  rwa [List.take_length] at this
end Go.Proofs.YtdlbjngpohkglaaGreatDoor
end
