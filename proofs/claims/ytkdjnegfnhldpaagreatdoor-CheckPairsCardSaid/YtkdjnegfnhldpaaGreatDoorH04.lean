/- Part 4: Concat, Rose, Eff14. -/
import Derived.Test.YtkdjnegfnhldpaaGreatDoorH03
import Derived.Lib.AppendZerosOnto
import Derived.Laws.AppendOwnNone
import Derived.Test.YtkdjnegfnhldpaaGreatDoorH01
set_option linter.unusedVariables false
set_option maxRecDepth 100000
set_option linter.unusedSimpArgs false
open Go.Lib (hid)
section
namespace Go.Proofs.YtkdjnegfnhldpaaGreatDoor
open Go.RowKit
theorem wpList_appendR {P : Program} {α : Type} {ops : Array Oper} {rest : List Oper} {o : Oper} {a : Act} {Q : Exit → Act → World → Prop} (hgd : o.guard = none) (s x : Operand) (t : TypeId)
    (ho : o.op = .call { callee := .builtin .append, args := #[s, x], argTypes := #[t, t] })
    (base : Nat) (e : TypeId) (z : Value) (k bytes : Nat) (ht : P.underlying t = some (.slice e)) (hinfo : (P.info? e).map (fun i => (i.zero, i.size, i.bytes)) = some (some z, k, bytes))
    (hzs : z.cells.size = k) (hsz : 0 < k)
    (enc : α → List Value) (hk : ∀ x, (enc x).length = k) (h1 : ∀ y, ∀ u ∈ enc y, u.oneCell' = true) (l' l : List α) (n : Nat) {w : World} (v : Value) (hown : OwnE enc k w base e v n l)
    (p : Option Addr) (m c : Nat) (hs : a.eval s = v) (hx : a.eval x = .slice p m c) (hl : l'.length = m) (hp : p = none → c = 0) (hr : RowE enc k w p l')
    (hbytes : (n + m) * bytes ≤ 140737488355328) (h63 : n + m ≤ 9223372036854775807) (hbase : base ≤ w.heap.size)
    (h : ∀ v' w', OwnE enc k w' base e v' (n + m) (l ++ l') → w.grownBy w' v.ownBlock → wpList P ops Q rest (a.put o.dst v') w') :
    wpList P ops Q (o :: rest) a w := by
  obtain ⟨i, hi, hz, hsize, hby⟩ := info_parts hinfo
  rcases p with _ | ad
  · have hl0 : l' = [] := by
      rcases hr with h | ⟨_, _, h, _⟩
      · exact h
      · cases h
    subst hl0
    obtain rfl : m = 0 := by simpa using hl.symm
    obtain rfl := hp rfl
    refine wpList_append_own_none hgd s x t ho base e i k ht hi v n _ hs hown hx ?_
    have := h v w (by simpa using hown) (World.grownBy.refl _ _)
    exact this
  · refine wpList_append_own _ hgd s x t ho base e i z k bytes ht hi hz hsize hby hzs hsz v n _ hs hown ad m c (l'.flatMap enc) hx (by rw [flat_length hk, hl]) ?_ ?_ (by unfold maxLen; omega) hbytes hbase ?_
    · intro j u hj
      rcases hr with h0 | ⟨b, o', hb, hlt, hc⟩
      · subst h0; simp at hj
      · cases hb
        have hjl : j < l'.length * k := by rw [← flat_length hk]; exact get_lt hj
        have hq : j / k < l'.length := Nat.div_lt_of_lt_mul (by rw [Nat.mul_comm]; exact hjl)
        have hm : j % k < k := Nat.mod_lt _ hsz
        have hf := flat_get hk l' (j / k) _ (j % k) (List.getElem?_eq_getElem hq) hm
        rw [Nat.div_add_mod' j k, hj] at hf
        have := hc (j / k) _ (List.getElem?_eq_getElem hq) (j % k) u hf.symm
        rw [add_lit', ← Nat.div_add_mod' j k, ← Nat.add_assoc]
        exact this
    · intro u hu
      rw [List.mem_flatMap] at hu
      obtain ⟨y, _, hu⟩ := hu
      exact h1 y u hu
    · intro v' w' hown' hg _
      refine h v' w' ?_ hg
      unfold OwnE
      rw [List.flatMap_append]
      exact hown'
set_option maxHeartbeats 400000 in
theorem grow_nil_any (n : Nat) (w : World) (hn : n ≤ 1000000) :
    Calls Tryz.prog 166 #[.slice none 0 0, .int .i64 n] w fun e w' => ∃ v, e = .returned v ∧ OwnE encA 3 w' w.heap.size 59 v 0 [] ∧ Below w.heap.size w w' := by
  by_cases h0 : n = 0
  · subst h0
    go_enter Tryz.func166, Tryz.ntmps166
    go_wp2_with fail
    go_ret
    exact ⟨_, rfl, OwnE.nil _ _ _ _ _, Below.refl _ _⟩
  · obtain ⟨i, hi, hz, hsize, hby⟩ := info_parts infoA
    have hrz : ∃ (G : Nat) (cs : Array Value), n ≤ G ∧ G ≤ maxLen ∧ cs.size = G * 3 ∧ ∀ ty, (Builtin.append_ #[25, 3] ty #[.slice none 0 0, .int .i64 n]).run Tryz.prog w =
        .ok (.slice (some ⟨w.heap.size, 0, none⟩) n G) (w.drew.alloc (.cells cs 59)) := by
      have h := fun ty => Lib.run_append_grow_zeros w 25 3 ty 59 i _ .i64 .i64 Tryz.underlying25 Tryz.underlying3 hi hz none 0 0 [] (run_firstCells_none w.drew i.size 0 0 0) n (by omega) (by rw [hsize]; decide) (by omega) (by omega) (by rw [hby]; omega)
        (growslice_fits (by omega) (by rw [hby]; omega))
      refine ⟨grownCap w (0 + n) 0 59, _, by have := grownCap_ge w (0 + n) 0 59; omega, grownCap_le_maxLen _ _ _ _ (by unfold maxLen; omega), ?_, fun ty => by have := h ty; rw [Nat.zero_add] at this ⊢; exact this⟩
      have hge := grownCap_ge w n 0 59
      simp [size_zeroCells, Value.cells]
      omega
    obtain ⟨G, cs, hG, hGm, hcs, hrun⟩ := hrz
    have HCS := hid hcs
    have hpos : 0 < n := by omega
    unfold maxLen at hGm
    clear hi hz hsize hby h0 hcs
    go_enter Tryz.func166, Tryz.ntmps166
    go_wp2_with (at_builtin; refine Lib.wpList_append_run _ rfl _ _ _ _ rfl _ _ rfl rfl _ _ (hrun _) ?_)
    go_ret
    exact ⟨_, rfl, World.ownsRow_made _ cs G (by simp) (by unfold maxLen; omega) HCS.out, (below_drewN (n := 1) (Below.refl w.heap.size w)).alloc (Nat.le_refl _) _⟩
structure SlE (α : Type) where
  p : Option Addr
  n : Nat
  cap : Nat
  l : List α
def encSl {α : Type} (r : SlE α) : List Value := [.slice r.p r.n r.cap]
theorem encSl_len {α : Type} (r : SlE α) : (encSl r).length = 1 := rfl
structure SlE.Ok {α : Type} (enc : α → List Value) (k : Nat) (w : World) (r : SlE α) : Prop where
  len : r.l.length = r.n
  cap : r.n ≤ r.cap
  nil : r.p = none → r.cap = 0
  row : RowE enc k w r.p r.l
theorem SlE.Ok.below {α : Type} {enc : α → List Value} {k : Nat} {w w' : World} {r : SlE α} (h : r.Ok enc k w) (hb : Below w.heap.size w w') : r.Ok enc k w' := ⟨h.1, h.2, h.3, h.4.below hb⟩
theorem sum_take_get {α : Type} (f : α → Nat) : ∀ (l : List α) (k : Nat) (x : α), l[k]? = some x → ((l.take (k + 1)).map f).sum = ((l.take k).map f).sum + f x ∧ ((l.take k).map f).sum + f x ≤ (l.map f).sum
  | [], k, x, h => by simp at h
  | y :: l, 0, x, h => by simp at h; subst h; simp
  | y :: l, k + 1, x, h => by
    obtain ⟨h1, h2⟩ := sum_take_get f l k x (by simpa using h)
    constructor
    · simp only [List.take_succ_cons, List.map_cons, List.sum_cons] at h1 ⊢; rw [h1]; omega
    · simp only [List.take_succ_cons, List.map_cons, List.sum_cons]; omega
set_option maxHeartbeats 1000000 in
theorem concat_any (p : Option Addr) (n cap : Nat) (rows : List (SlE Atom)) (w : World) (hn : rows.length = n) (hm : n ≤ 1000000) (hr : RowE encSl 1 w p rows) (hok : ∀ r ∈ rows, r.Ok encA 3 w) (htot : (rows.map (·.n)).sum ≤ 1000000) :
    Calls Tryz.prog 118 #[.slice p n cap] w fun e w' => ∃ v, e = .returned v ∧ OwnE encA 3 w' w.heap.size 59 v (rows.map (·.n)).sum (rows.flatMap (·.l)) ∧ Below w.heap.size w w' := by
  have HR := hid hr
  have HN := hid hn
  have HOK := hid hok
  have HT := hid htot
  clear hr hn hok htot
  go_enter Tryz.func118, Tryz.ntmps118
  go_wp2_with fail
  go_loop [3, 5, 11] (fun s _ i => ∃ k S : Nat, k ≤ n ∧ i = .int .i64 k ∧ ((rows.take k).map (·.n)).sum = S ∧ S ≤ 1000000 ∧ s = .int .i64 S) (fun _ _ i => n - (intOf i).toNat)
  case atStart => exact ⟨0, 0, by omega, rfl, rfl, by omega, rfl⟩
  case round =>
    obtain ⟨k, S, hk, rfl, hS, hS1, rfl⟩ := hrel
    have HS := hid hS
    clear hS
    by_cases hlt : k < n
    · obtain ⟨x, hx⟩ := get_of_lt (l := rows) (j := k) (by rw [HN.out]; exact hlt)
      have HE := hid hx
      obtain ⟨b, o, rfl, hbl, hc⟩ := HR.out.elem hx
      have d0 := hc 0 _ rfl
      simp only [Nat.mul_one, Nat.add_zero] at d0
      have HSS := hid (sum_take_get (·.n) rows k x hx)
      have hb1 : S + x.n ≤ 1000000 := by have := HSS.out.2; have := HT.out; have := HS.out; omega
      clear hx hbl hc
      go_wp2_with fail
      go_round
      case rel => exact ⟨k + 1, S + x.n, by omega, by go_num, by have := HSS.out.1; have := HS.out; omega, hb1, by go_num⟩
      case measure => simp [intOf]; omega
    · have hkn : k = n := by omega
      subst hkn
      have HS' : Hid ((rows.map (·.n)).sum = S) := by have h := HS.out; rw [take_full (by rw [HN.out]; omega)] at h; exact h
      go_wp2_with fail
      refine (grow_nil_any S w hS1).mono ?_
      rintro e w1 ⟨v0, rfl, ho, hb⟩
      have HO := hid ho
      have HB := hid hb
      clear ho hb
      go_wp2_with fail
      go_loopw [6, 8, 27] (fun u _ i wr => ∃ j T : Nat, j ≤ k ∧ i = .int .i64 j ∧ ((rows.take j).map (·.n)).sum = T ∧ T ≤ 1000000 ∧ OwnE encA 3 wr w.heap.size 59 u T ((rows.take j).flatMap (·.l)) ∧ Below w.heap.size w wr) (fun _ _ i _ => k - (intOf i).toNat)
      case atStart => exact ⟨0, 0, by omega, rfl, rfl, by omega, HO.out, HB.out⟩
      case round =>
        obtain ⟨j, T, hj, rfl, hT, hT1, hown, hb⟩ := hrel
        have HT1 := hid hT
        have HOWN := hid hown
        have HBW := hid hb
        clear hT hown hb
        by_cases hlt : j < k
        · obtain ⟨x, hx⟩ := get_of_lt (l := rows) (j := j) (by rw [HN.out]; exact hlt)
          have HE := hid hx
          obtain ⟨b, o, rfl, hbl, hc⟩ := (HR.out.below HBW.out).elem hx
          have d0 := hc 0 _ rfl
          simp only [Nat.mul_one, Nat.add_zero] at d0
          have HSS := hid (sum_take_get (·.n) rows j x hx)
          have hb1 : T + x.n ≤ 1000000 := by have := HSS.out.2; have := HT.out; have := HT1.out; omega
          have HX := hid ((HOK.out x (List.mem_of_getElem? hx)).below HBW.out)
          clear hx hbl hc
          go_wp2_with (at_builtin; refine wpList_appendR rfl _ _ 25 rfl w.heap.size 59 _ 3 32 Tryz.underlying25 infoA rfl (by decide) encA encA_len encA_one x.l _ _ _ HOWN.out _ _ _ rfl rfl HX.out.len HX.out.nil HX.out.row ?c1 ?c2 ?c3 ?_)
          case c1 => omega
          case c2 => omega
          case c3 => exact HBW.out.size
          · intro v' w4 hown' hg
            have HO4 := hid hown'
            have HB4 := hid (Below.own HBW.out hg HBW.out.size HOWN.out)
            clear hown' hg
            go_wp2_with fail
            go_roundw
            case rel => exact ⟨j + 1, T + x.n, by omega, by go_num, by have := HSS.out.1; have := HT1.out; omega, hb1, by rw [take_succ_get HE.out, List.flatMap_append]; simpa using HO4.out, HB4.out⟩
            case measure => simp [intOf]; omega
        · have hjk : j = k := by omega
          subst hjk
          go_wp2_with fail
          go_ret
          have h1 := HOWN.out
          rw [take_full (by rw [HN.out]; omega)] at h1
          exact ⟨_, rfl, by rw [HS'.out]; have := HT1.out; rw [take_full (by rw [HN.out]; omega), HS'.out] at this; subst this; exact h1, HBW.out⟩
end Go.Proofs.YtkdjnegfnhldpaaGreatDoor
end
section
namespace Go.Proofs.YtkdjnegfnhldpaaGreatDoor
open Go.RowKit
inductive Rose (α : Type) where
  | node (a : α) (kids : List (Rose α))
namespace Rose
variable {α β : Type}
def head : Rose α → α
  | node a _ => a
def kids : Rose α → List (Rose α)
  | node _ l => l
theorem eta (t : Rose α) : t = node t.head t.kids := by cases t; rfl
mutual
theorem ind {P : Rose α → Prop} (h : ∀ a l, (∀ t ∈ l, P t) → P (node a l)) : ∀ t, P t
  | node a l => h a l (indL h l)
theorem indL {P : Rose α → Prop} (h : ∀ a l, (∀ t ∈ l, P t) → P (node a l)) : ∀ l : List (Rose α), ∀ t ∈ l, P t
  | [], _, hm => absurd hm List.not_mem_nil
  | t :: l, x, hm => by
    rcases List.mem_cons.1 hm with e | hm
    · rw [e]; exact ind h t
    · exact indL h l x hm
end
mutual
def fold (f : α → List β → β) : Rose α → β
  | node a l => f a (foldL f l)
def foldL (f : α → List β → β) : List (Rose α) → List β
  | [] => []
  | t :: l => fold f t :: foldL f l
end
theorem foldL_eq (f : α → List β → β) : ∀ l : List (Rose α), foldL f l = l.map (fold f)
  | [] => by simp [foldL]
  | t :: l => by simp [foldL, foldL_eq f l]
theorem fold_node (f : α → List β → β) (a : α) (l : List (Rose α)) : fold f (node a l) = f a (l.map (fold f)) := by
  rw [fold, foldL_eq]
def size : Rose α → Nat := fold (fun _ l => 1 + l.sum)
theorem size_node (a : α) (l : List (Rose α)) : size (node a l) = 1 + (l.map size).sum := fold_node _ a l
theorem size_pos (t : Rose α) : 0 < size t := by cases t; rw [size_node]; omega
def map (g : α → β) : Rose α → Rose β := fold (fun a l => node (g a) l)
theorem map_node (g : α → β) (a : α) (l : List (Rose α)) : map g (node a l) = node (g a) (l.map (map g)) := fold_node _ a l
theorem size_map (g : α → β) (t : Rose α) : size (map g t) = size t := by
  refine ind (P := fun t => size (map g t) = size t) (fun a l ih => ?_) t
  rw [map_node, size_node, size_node, List.map_map]
  congr 2
  exact List.map_congr_left ih
def nodes : Rose α → List α := fold (fun a l => a :: l.flatten)
theorem nodes_node (a : α) (l : List (Rose α)) : nodes (node a l) = a :: (l.map nodes).flatten := fold_node _ a l
def all (p : α → Nat → Bool) : Rose α → Bool := fold (fun a l => p a l.length && l.all id)
theorem all_node (p : α → Nat → Bool) (a : α) (l : List (Rose α)) : all p (node a l) = (p a l.length && l.all (all p)) := by
  show fold _ _ = _
  rw [fold_node, List.length_map, List.all_map]
  rfl
mutual
def same (r : α → β → Bool) : Rose α → Rose β → Bool
  | node a l, node b m => r a b && sameL r l m
def sameL (r : α → β → Bool) : List (Rose α) → List (Rose β) → Bool
  | [], [] => true
  | t :: l, u :: m => same r t u && sameL r l m
  | [], _ :: _ => false
  | _ :: _, [] => false
end
theorem same_node (r : α → β → Bool) (a : α) (b : β) (l : List (Rose α)) (m : List (Rose β)) : same r (node a l) (node b m) = (r a b && sameL r l m) := by rw [same]
theorem sameL_length (r : α → β → Bool) : ∀ (l : List (Rose α)) (m : List (Rose β)), sameL r l m = true → List.length l = List.length m
  | [], [], _ => rfl
  | t :: l, u :: m, h => by
    simp only [sameL, Bool.and_eq_true] at h
    simp [sameL_length r l m h.2]
  | [], _ :: _, h => by simp [sameL] at h
  | _ :: _, [], h => by simp [sameL] at h
theorem sameL_get (r : α → β → Bool) : ∀ (l : List (Rose α)) (m : List (Rose β)), sameL r l m = true ↔ l.length = m.length ∧ ∀ (j : Nat) (t : Rose α) (u : Rose β), l[j]? = some t → m[j]? = some u → same r t u = true
  | [], [] => by simp [sameL]
  | t :: l, u :: m => by
    simp only [sameL, Bool.and_eq_true, sameL_get r l m, List.length_cons, Nat.add_right_cancel_iff]
    constructor
    · rintro ⟨h, hl, hj⟩
      refine ⟨hl, fun j x y hx hy => ?_⟩
      cases j with
      | zero => simp at hx hy; subst hx; subst hy; exact h
      | succ j => exact hj j x y (by simpa using hx) (by simpa using hy)
    · rintro ⟨hl, hj⟩
      exact ⟨hj 0 t u rfl rfl, hl, fun j x y hx hy => hj (j + 1) x y (by simpa using hx) (by simpa using hy)⟩
  | [], _ :: _ => by simp [sameL]
  | _ :: _, [] => by simp [sameL]
end Rose
structure Laid (α : Type) where
  enc : α → List Value
  k : Nat
  own : World → α → Prop
  kp : α → Option Addr
  kn : α → Nat
  len : ∀ a, (enc a).length = k
  below : ∀ {w w' : World} {a : α}, own w a → Below w.heap.size w w' → own w' a
namespace Laid
variable {α : Type}
def encT (L : Laid α) (t : Rose α) : List Value := L.enc t.head
mutual
def lies (L : Laid α) (w : World) : Rose α → Prop
  | .node a l => L.own w a ∧ l.length = L.kn a ∧ RowE L.encT L.k w (L.kp a) l ∧ liesL L w l
def liesL (L : Laid α) (w : World) : List (Rose α) → Prop
  | [] => True
  | t :: l => lies L w t ∧ liesL L w l
end
theorem liesL_iff (L : Laid α) (w : World) : ∀ l : List (Rose α), L.liesL w l ↔ ∀ t ∈ l, L.lies w t
  | [] => by simp [liesL]
  | t :: l => by simp [liesL, liesL_iff L w l]
theorem lies_node (L : Laid α) (w : World) (a : α) (l : List (Rose α)) : L.lies w (.node a l) ↔ L.own w a ∧ l.length = L.kn a ∧ RowE L.encT L.k w (L.kp a) l ∧ ∀ t ∈ l, L.lies w t := by
  rw [lies, liesL_iff]
theorem lies_below (L : Laid α) {w w' : World} (hb : Below w.heap.size w w') (t : Rose α) : L.lies w t → L.lies w' t := by
  refine Rose.ind (P := fun t => L.lies w t → L.lies w' t) (fun a l ih h => ?_) t
  rw [lies_node] at h ⊢
  exact ⟨L.below h.1 hb, h.2.1, h.2.2.1.below hb, fun t ht => ih t ht (h.2.2.2 t ht)⟩
end Laid
end Go.Proofs.YtkdjnegfnhldpaaGreatDoor
end
section
namespace Go.Proofs.YtkdjnegfnhldpaaGreatDoor
open Go.RowKit
abbrev aggA (x : Atom) : Value := .agg #[.int .u8 x.kind, .int .i64 x.rho, .string x.exn]
def Enters (fid : FuncId) : Prop := ∀ args w, (callFunc fid args).run Tryz.prog w = .ok (.enter fid args) w
def PredA (fid : FuncId) (caps : Array Value) (w : World) (l : List Atom) (q : Atom → Bool) : Prop :=
  ∀ x ∈ l, ∀ W, Below w.heap.size w W → Calls Tryz.prog fid (#[aggA x] ++ caps) W fun e w' => e = .returned (.bool (q x)) ∧ Below W.heap.size W w'
theorem PredA.is {fid : FuncId} {caps : Array Value} {w : World} {l : List Atom} {q : Atom → Bool} (h : PredA fid caps w l q) {x : Atom} (hx : x ∈ l) {r : Bool} (hq : q x = r) {W : World} (hb : Below w.heap.size w W) :
    Calls Tryz.prog fid (#[aggA x] ++ caps) W fun e w' => e = .returned (.bool r) ∧ Below W.heap.size W w' := by subst hq; exact h x hx W hb
def IdxOf {α : Type} (q : α → Bool) (l : List α) (r : Int) : Prop := (r = -1 ∧ l.any q = false) ∨ ∃ (k : Nat) (x : α), r = (k : Int) ∧ l[k]? = some x ∧ q x = true ∧ (l.take k).any q = false
theorem IdxOf.any {α : Type} {q : α → Bool} {l : List α} {r : Int} (h : IdxOf q l r) : l.any q = decide (0 ≤ r) := by
  rcases h with ⟨rfl, h⟩ | ⟨k, x, rfl, hx, hq, _⟩
  · rw [h]; rfl
  · rw [any_get hx hq]; simp
def PredB (fid : FuncId) (caps : Array Value) (B : Nat) (w : World) (l : List Atom) (q : Atom → Bool) : Prop :=
  ∀ x ∈ l, ∀ W, Below B w W → Calls Tryz.prog fid (#[aggA x] ++ caps) W fun e w' => e = .returned (.bool (q x)) ∧ Below W.heap.size W w'
theorem PredB.a {fid : FuncId} {caps : Array Value} {B : Nat} {w w' : World} {l : List Atom} {q : Atom → Bool} (h : PredB fid caps B w l q) (hb : Below B w w') (hB : B ≤ w'.heap.size) : PredA fid caps w' l q :=
  fun x hx W hW => h x hx W (hb.trans (hW.mono hB))
theorem PredB.is {fid : FuncId} {caps : Array Value} {B : Nat} {w : World} {l : List Atom} {q : Atom → Bool} (h : PredB fid caps B w l q) {x : Atom} (hx : x ∈ l) {r : Bool} (hq : q x = r) {W : World} (hb : Below B w W) :
    Calls Tryz.prog fid (#[aggA x] ++ caps) W fun e w' => e = .returned (.bool r) ∧ Below W.heap.size W w' := by subst hq; exact h x hx W hb
set_option maxHeartbeats 400000 in
theorem a_indexFunc_any (fid : FuncId) (caps : Array Value) (q : Atom → Bool) (hent : Enters fid) (p : Option Addr) (n cap : Nat) (l : List Atom) (w : World) (hn : l.length = n) (hm : n ≤ 9223372036854775807) (hr : RowA w p l)
    (hf : PredA fid caps w l q) :
    Calls Tryz.prog 217 #[.slice p n cap, .func (.func fid) #[] caps] w fun e w' =>
      (∃ r : Int, e = .returned (.int .i64 r) ∧ IdxOf q l r) ∧ Below w.heap.size w w' := by
  unfold Enters at hent
  have HR := hid hr
  have HN := hid hn
  have HF := hid hf
  clear hr hn hf
  go_enter Tryz.func217, Tryz.ntmps217
  go_wp2_with fail
  go_loopw [5, 8] (fun _ i wr => ∃ k : Nat, k ≤ n ∧ i = .int .i64 k ∧ (l.take k).any q = false ∧ Below w.heap.size w wr) (fun _ i _ => n - (intOf i).toNat)
  case atStart => exact ⟨0, by omega, rfl, by simp, Below.refl _ _⟩
  case round =>
    obtain ⟨k, hk, rfl, hno, hb⟩ := hrel
    have HNO := hid hno
    have HB := hid hb
    clear hno hb
    by_cases hlt : k < n
    · obtain ⟨x, hx⟩ := get_of_lt (l := l) (j := k) (by rw [HN.out]; exact hlt)
      have HE := hid hx
      obtain ⟨b, o, rfl, hbl, d0, d1, d2⟩ := RowA.atom (HR.out.below HB.out) hx
      clear hx hbl
      cases hq : q x
      · have HQ := hid hq
        clear hq
        go_wp2_with fail
        refine (HF.out.is (List.mem_of_getElem? HE.out) HQ.out HB.out).mono ?_
        rintro e w1 ⟨rfl, hb⟩
        have HB1 := hid (HB.out.trans (hb.mono HB.out.size))
        clear hb
        clear d0 d1 d2
        go_wp2_with fail
        go_roundw
        case rel => exact ⟨k + 1, by omega, by go_num, by rw [any_take_get HE.out, HNO.out, HQ.out]; rfl, HB1.out⟩
        case measure => simp [intOf]; omega
      · have HQ := hid hq
        clear hq
        go_wp2_with fail
        refine (HF.out.is (List.mem_of_getElem? HE.out) HQ.out HB.out).mono ?_
        rintro e w1 ⟨rfl, hb⟩
        have HB1 := hid (HB.out.trans (hb.mono HB.out.size))
        clear hb
        clear d0 d1 d2
        go_wp2_with fail
        go_ret
        exact ⟨⟨k, rfl, .inr ⟨k, x, rfl, HE.out, HQ.out, HNO.out⟩⟩, HB1.out⟩
    · go_wp2_with fail
      go_ret
      have h := HNO.out
      rw [take_full (by rw [HN.out]; omega)] at h
      exact ⟨⟨-1, rfl, .inl ⟨rfl, h⟩⟩, HB.out⟩
theorem a_containsFunc_any (fid : FuncId) (caps : Array Value) (q : Atom → Bool) (hent : Enters fid) (p : Option Addr) (n cap : Nat) (l : List Atom) (w : World) (hn : l.length = n) (hm : n ≤ 9223372036854775807) (hr : RowA w p l)
    (hf : PredA fid caps w l q) :
    Calls Tryz.prog 187 #[.slice p n cap, .func (.func fid) #[] caps] w fun e w' =>
      e = .returned (.bool (l.any q)) ∧ Below w.heap.size w w' := by
  have hc : Calls Tryz.prog 217 #[.slice p n cap, .func (.func fid) #[] caps] w fun e w' =>
      (∃ r : Int, e = .returned (.int .i64 r) ∧ l.any q = decide (0 ≤ r)) ∧ Below w.heap.size w w' :=
    (a_indexFunc_any fid caps q hent p n cap l w hn hm hr hf).mono fun _ _ ⟨⟨r, he, hr⟩, hb⟩ => ⟨⟨r, he, hr.any⟩, hb⟩
  generalize l.any q = r at hc ⊢
  clear hr hn hf hent
  go_enter Tryz.func187, Tryz.ntmps187
  go_wp2_with fail
  refine hc.mono ?_
  rintro e w1 ⟨⟨r, rfl, hr⟩, hb⟩
  have HR := hid hr
  have HB := hid hb
  clear hr hb hc
  go_wp2_with fail
  go_ret
  exact ⟨ret_bool HR.out.symm, HB.out⟩
end Go.Proofs.YtkdjnegfnhldpaaGreatDoor
end
