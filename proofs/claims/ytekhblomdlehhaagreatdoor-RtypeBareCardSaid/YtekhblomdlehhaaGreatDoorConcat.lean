/- slices.Grow of nil, slices.Concat at atoms. -/
import Derived.Test.YtekhblomdlehhaaGreatDoorEff6
import Derived.Lib.AppendZerosOnto
import Derived.Laws.AppendOwnNone
set_option linter.unusedVariables false
set_option maxRecDepth 100000
set_option linter.unusedSimpArgs false
namespace Go.Proofs.YtekhblomdlehhaaGreatDoor
open Go.RowKit

/-- append of a row, nil or not, to a row of the call's own -/
theorem wpList_appendR {P : Program} {α : Type} {ops : Array Oper} {rest : List Oper} {o : Oper} {a : Act} {Q : Exit → Act → World → Prop} (hgd : o.guard = none) (s x : Operand) (t : TypeId)
    (ho : o.op = .call { callee := .builtin .append, args := #[s, x], argTypes := #[t, t] })
    (base : Nat) (e : TypeId) (z : Value) (k bytes : Nat) (ht : P.underlying t = some (.slice e)) (hinfo : (P.info? e).map (fun i => (i.zero, i.size, i.bytes)) = some (some z, k, bytes))
    (hzs : z.cells.size = k) (hsz : 0 < k)
    (enc : α → List Value) (hk : ∀ x, (enc x).length = k) (h1 : ∀ y, ∀ u ∈ enc y, u.oneCell' = true) (l' l : List α) (n : Nat) {w : World} (v : Value) (hown : OwnE enc k w base e v n l)
    (p : Option Addr) (m c : Nat) (hs : a.eval s = v) (hx : a.eval x = .slice p m c) (hl : l'.length = m) (hp : p = none → c = 0) (hr : RowE enc k w p l')
    (hbytes : (n + m) * bytes ≤ 140737488355328) (h63 : n + m ≤ 9223372036854775807) (hbase : base ≤ w.heap.size)
    (h : ∀ v' w', OwnE enc k w' base e v' (n + m) (l ++ l') → w.grownBy w' v.ownBlock → wpList P ops Q rest (a.put o.dst v') w') :
    wpList P ops Q (o :: rest) a w := by
  obtain ⟨i, hi, hz, hsize, hby⟩ := info_parts hinfo
  rcases p with _ | ad
  · have hl0 : l' = [] := by
      rcases hr with h | ⟨_, _, h, _⟩
      · exact h
      · cases h
    subst hl0
    obtain rfl : m = 0 := by simpa using hl.symm
    obtain rfl := hp rfl
    refine wpList_append_own_none hgd s x t ho base e i k ht hi v n _ hs hown hx ?_
    have := h v w (by simpa using hown) (World.grownBy.refl _ _)
    exact this
  · refine wpList_append_own _ hgd s x t ho base e i z k bytes ht hi hz hsize hby hzs hsz v n _ hs hown ad m c (l'.flatMap enc) hx (by rw [flat_length hk, hl]) ?_ ?_ (by unfold maxLen; omega) hbytes hbase ?_
    · intro j u hj
      rcases hr with h0 | ⟨b, o', hb, hlt, hc⟩
      · subst h0; simp at hj
      · cases hb
        have hjl : j < l'.length * k := by rw [← flat_length hk]; exact get_lt hj
        have hq : j / k < l'.length := Nat.div_lt_of_lt_mul (by rw [Nat.mul_comm]; exact hjl)
        have hm : j % k < k := Nat.mod_lt _ hsz
        have hf := flat_get hk l' (j / k) _ (j % k) (List.getElem?_eq_getElem hq) hm
        rw [Nat.div_add_mod' j k, hj] at hf
        have := hc (j / k) _ (List.getElem?_eq_getElem hq) (j % k) u hf.symm
        rw [add_lit', ← Nat.div_add_mod' j k, ← Nat.add_assoc]
        exact this
    · intro u hu
      rw [List.mem_flatMap] at hu
      obtain ⟨y, _, hu⟩ := hu
      exact h1 y u hu
    · intro v' w' hown' hg _
      refine h v' w' ?_ hg
      unfold OwnE
      rw [List.flatMap_append]
      exact hown'

set_option maxHeartbeats 400000 in
theorem grow_nil_any (n : Nat) (w : World) (hn : n ≤ 1000000) :
    Calls Tryz.prog 81 #[.slice none 0 0, .int .i64 n] w fun e w' => ∃ v, e = .returned v ∧ OwnE encA 3 w' w.heap.size 70 v 0 [] ∧ Below w.heap.size w w' := by
  by_cases h0 : n = 0
  · subst h0
    go_enter Tryz.func81, Tryz.ntmps81
    go_wp2_with fail
    go_ret
    exact ⟨_, rfl, OwnE.nil _ _ _ _ _, Below.refl _ _⟩
  · obtain ⟨i, hi, hz, hsize, hby⟩ := info_parts infoA
    have hrz : ∃ (G : Nat) (cs : Array Value), n ≤ G ∧ G ≤ maxLen ∧ cs.size = G * 3 ∧ ∀ ty, (Builtin.append_ #[25, 3] ty #[.slice none 0 0, .int .i64 n]).run Tryz.prog w =
        .ok (.slice (some ⟨w.heap.size, 0, none⟩) n G) (w.drew.alloc (.cells cs 70)) := by
      have h := fun ty => Lib.run_append_grow_zeros w 25 3 ty 70 i _ .i64 .i64 Tryz.underlying25 Tryz.underlying3 hi hz none 0 0 [] (run_firstCells_none w.drew i.size 0 0 0) n (by omega) (by rw [hsize]; decide) (by omega) (by omega) (by rw [hby]; omega)
        (growslice_fits (by omega) (by rw [hby]; omega))
      refine ⟨grownCap w (0 + n) 0 70, _, by have := grownCap_ge w (0 + n) 0 70; omega, grownCap_le_maxLen _ _ _ _ (by unfold maxLen; omega), ?_, fun ty => by have := h ty; rw [Nat.zero_add] at this ⊢; exact this⟩
      have hge := grownCap_ge w n 0 70
      simp [size_zeroCells, Value.cells]
      omega
    obtain ⟨G, cs, hG, hGm, hcs, hrun⟩ := hrz
    have HCS := Lib.hid hcs
    have hpos : 0 < n := by omega
    unfold maxLen at hGm
    clear hi hz hsize hby h0 hcs
    go_enter Tryz.func81, Tryz.ntmps81
    go_wp2_with (at_builtin; refine Lib.wpList_append_run _ rfl _ _ _ _ rfl _ _ rfl rfl _ _ (hrun _) ?_)
    go_ret
    exact ⟨_, rfl, World.ownsRow_made _ cs G (by simp) (by unfold maxLen; omega) HCS.out, (below_drewN (n := 1) (Below.refl w.heap.size w)).alloc (Nat.le_refl _) _⟩
/-- a slice, as an element of a row -/
structure SlE (α : Type) where
  p : Option Addr
  n : Nat
  cap : Nat
  l : List α
def encSl {α : Type} (r : SlE α) : List Value := [.slice r.p r.n r.cap]
theorem encSl_len {α : Type} (r : SlE α) : (encSl r).length = 1 := rfl
/-- It is what it says. -/
structure SlE.Ok {α : Type} (enc : α → List Value) (k : Nat) (w : World) (r : SlE α) : Prop where
  len : r.l.length = r.n
  cap : r.n ≤ r.cap
  nil : r.p = none → r.cap = 0
  row : RowE enc k w r.p r.l
theorem SlE.Ok.below {α : Type} {enc : α → List Value} {k : Nat} {w w' : World} {r : SlE α} (h : r.Ok enc k w) (hb : Below w.heap.size w w') : r.Ok enc k w' := ⟨h.1, h.2, h.3, h.4.below hb⟩

theorem sum_take_get {α : Type} (f : α → Nat) : ∀ (l : List α) (k : Nat) (x : α), l[k]? = some x → ((l.take (k + 1)).map f).sum = ((l.take k).map f).sum + f x ∧ ((l.take k).map f).sum + f x ≤ (l.map f).sum
  | [], k, x, h => by simp at h
  | y :: l, 0, x, h => by simp at h; subst h; simp
  | y :: l, k + 1, x, h => by
    obtain ⟨h1, h2⟩ := sum_take_get f l k x (by simpa using h)
    constructor
    · simp only [List.take_succ_cons, List.map_cons, List.sum_cons] at h1 ⊢; rw [h1]; omega
    · simp only [List.take_succ_cons, List.map_cons, List.sum_cons]; omega

set_option maxHeartbeats 1000000 in
theorem concat_any (p : Option Addr) (n cap : Nat) (rows : List (SlE Atom)) (w : World) (hn : rows.length = n) (hm : n ≤ 1000000) (hr : RowE encSl 1 w p rows) (hok : ∀ r ∈ rows, r.Ok encA 3 w) (htot : (rows.map (·.n)).sum ≤ 1000000) :
    Calls Tryz.prog 49 #[.slice p n cap] w fun e w' => ∃ v, e = .returned v ∧ OwnE encA 3 w' w.heap.size 70 v (rows.map (·.n)).sum (rows.flatMap (·.l)) ∧ Below w.heap.size w w' := by
  have HR := Lib.hid hr
  have HN := Lib.hid hn
  have HOK := Lib.hid hok
  have HT := Lib.hid htot
  clear hr hn hok htot
  go_enter Tryz.func49, Tryz.ntmps49
  go_wp2_with fail
  go_loop [3, 5, 11] (fun s _ i => ∃ k S : Nat, k ≤ n ∧ i = .int .i64 k ∧ ((rows.take k).map (·.n)).sum = S ∧ S ≤ 1000000 ∧ s = .int .i64 S) (fun _ _ i => n - (intOf i).toNat)
  case atStart => exact ⟨0, 0, by omega, rfl, rfl, by omega, rfl⟩
  case round =>
    obtain ⟨k, S, hk, rfl, hS, hS1, rfl⟩ := hrel
    have HS := Lib.hid hS
    clear hS
    by_cases hlt : k < n
    · obtain ⟨x, hx⟩ := get_of_lt (l := rows) (j := k) (by rw [HN.out]; exact hlt)
      have HE := Lib.hid hx
      obtain ⟨b, o, rfl, hbl, hc⟩ := HR.out.elem hx
      have d0 := hc 0 _ rfl
      simp only [Nat.mul_one, Nat.add_zero] at d0
      have HSS := Lib.hid (sum_take_get (·.n) rows k x hx)
      have hb1 : S + x.n ≤ 1000000 := by have := HSS.out.2; have := HT.out; have := HS.out; omega
      clear hx hbl hc
      go_wp2_with fail
      go_round
      case rel => exact ⟨k + 1, S + x.n, by omega, by go_num, by have := HSS.out.1; have := HS.out; omega, hb1, by go_num⟩
      case measure => simp [intOf]; omega
    · have hkn : k = n := by omega
      subst hkn
      have HS' : Hid ((rows.map (·.n)).sum = S) := by have h := HS.out; rw [take_full (by rw [HN.out]; omega)] at h; exact h
      go_wp2_with fail
      refine (grow_nil_any S w hS1).mono ?_
      rintro e w1 ⟨v0, rfl, ho, hb⟩
      have HO := Lib.hid ho
      have HB := Lib.hid hb
      clear ho hb
      go_wp2_with fail
      go_loopw [6, 8, 27] (fun u _ i wr => ∃ j T : Nat, j ≤ k ∧ i = .int .i64 j ∧ ((rows.take j).map (·.n)).sum = T ∧ T ≤ 1000000 ∧ OwnE encA 3 wr w.heap.size 70 u T ((rows.take j).flatMap (·.l)) ∧ Below w.heap.size w wr) (fun _ _ i _ => k - (intOf i).toNat)
      case atStart => exact ⟨0, 0, by omega, rfl, rfl, by omega, HO.out, HB.out⟩
      case round =>
        obtain ⟨j, T, hj, rfl, hT, hT1, hown, hb⟩ := hrel
        have HT1 := Lib.hid hT
        have HOWN := Lib.hid hown
        have HBW := Lib.hid hb
        clear hT hown hb
        by_cases hlt : j < k
        · obtain ⟨x, hx⟩ := get_of_lt (l := rows) (j := j) (by rw [HN.out]; exact hlt)
          have HE := Lib.hid hx
          obtain ⟨b, o, rfl, hbl, hc⟩ := (HR.out.below HBW.out).elem hx
          have d0 := hc 0 _ rfl
          simp only [Nat.mul_one, Nat.add_zero] at d0
          have HSS := Lib.hid (sum_take_get (·.n) rows j x hx)
          have hb1 : T + x.n ≤ 1000000 := by have := HSS.out.2; have := HT.out; have := HT1.out; omega
          have HX := Lib.hid ((HOK.out x (List.mem_of_getElem? hx)).below HBW.out)
          clear hx hbl hc
          go_wp2_with (at_builtin; refine wpList_appendR rfl _ _ 25 rfl w.heap.size 70 _ 3 32 Tryz.underlying25 infoA rfl (by decide) encA encA_len encA_one x.l _ _ _ HOWN.out _ _ _ rfl rfl HX.out.len HX.out.nil HX.out.row ?c1 ?c2 ?c3 ?_)
          case c1 => omega
          case c2 => omega
          case c3 => exact HBW.out.size
          · intro v' w4 hown' hg
            have HO4 := Lib.hid hown'
            have HB4 := Lib.hid (Below.own HBW.out hg HBW.out.size HOWN.out)
            clear hown' hg
            go_wp2_with fail
            go_roundw
            case rel => exact ⟨j + 1, T + x.n, by omega, by go_num, by have := HSS.out.1; have := HT1.out; omega, hb1, by rw [take_succ_get HE.out, List.flatMap_append]; simpa using HO4.out, HB4.out⟩
            case measure => simp [intOf]; omega
        · have hjk : j = k := by omega
          subst hjk
          go_wp2_with fail
          go_ret
          have h1 := HOWN.out
          rw [take_full (by rw [HN.out]; omega)] at h1
          exact ⟨_, rfl, by rw [HS'.out]; have := HT1.out; rw [take_full (by rw [HN.out]; omega), HS'.out] at this; subst this; exact h1, HBW.out⟩
end Go.Proofs.YtekhblomdlehhaaGreatDoor
