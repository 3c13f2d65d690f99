/- Part 25 of the texts: Tn, To, St, Te, Tms. -/
import Derived.Test.YtdlbjngpohkglaaGreatDoorG21
import Derived.Test.YtdlbjngpohkglaaGreatDoorG03
import Derived.Lib.ConvBytes
import Derived.Test.YtdlbjngpohkglaaGreatDoorG24
import Derived.Deep.MidRow
section
set_option linter.unusedVariables false
set_option maxRecDepth 100000
set_option linter.unusedSimpArgs false
namespace Go.Proofs.YtdlbjngpohkglaaGreatDoor
open Go.RowKit

set_option maxHeartbeats 1000000 in
theorem b_index_any {p : Option Addr} {n cap : Nat} {l : List Int} {w : World} (hn : l.length = n) (hm : n ≤ 1000000) (hr : RowE encU 1 w p l) (x : Int) :
    Calls Tryz.prog 177 #[.slice p n cap, .int .u8 x] w fun e w' => (∃ r : Int, e = .returned (.int .i64 r) ∧ decide (r ≥ 0) = inB l x) ∧ w = w' := by
  have HR := Lib.hid hr
  have HN := Lib.hid hn
  clear hr hn
  go_enter Tryz.func177, Tryz.ntmps177
  go_wp2_with fail
  go_loop [5, 8] (fun _ i => ∃ j : Nat, j ≤ n ∧ i = .int .i64 j ∧ (l.take j).any (· == x) = false) (fun _ i => n - (intOf i).toNat)
  case atStart => exact ⟨0, by omega, rfl, by simp⟩
  case round =>
    obtain ⟨j, hj, rfl, hno⟩ := hrel
    have HNO := Lib.hid hno
    clear hno
    by_cases hlt : j < n
    · obtain ⟨y, hy⟩ := get_of_lt (l := l) (j := j) (by rw [HN.out]; exact hlt)
      have HE := Lib.hid hy
      obtain ⟨b, o, rfl, d0⟩ := HR.out.u8 hy
      clear hy
      cases hq : (x == y)
      · have HQ := Lib.hid hq
        go_wp2_with fail
        go_round
        case rel => exact ⟨j + 1, by omega, by go_num, by rw [any_take_get HE.out, HNO.out, BEq.comm, HQ.out]; rfl⟩
        case measure => simp [intOf]; omega
      · have HQ := Lib.hid hq
        go_wp2_with fail
        go_ret
        exact ⟨⟨j, rfl, by rw [show inB l x = true from any_get HE.out (by rw [BEq.comm]; exact HQ.out)]; simp⟩, rfl⟩
    · go_wp2_with fail
      go_ret
      have h := HNO.out
      rw [take_full (by rw [HN.out]; omega)] at h
      exact ⟨⟨-1, rfl, by rw [show inB l x = false from h]; decide⟩, rfl⟩
theorem b_contains_any {p : Option Addr} {n cap : Nat} {l : List Int} {w : World} (hn : l.length = n) (hm : n ≤ 1000000) (hr : RowE encU 1 w p l) (x : Int) :
    Calls Tryz.prog 151 #[.slice p n cap, .int .u8 x] w fun e w' => e = .returned (.bool (inB l x)) ∧ w = w' := by
  have HC := Lib.hid (b_index_any (cap := cap) hn hm hr x)
  clear hr hn
  go_enter Tryz.func151, Tryz.ntmps151
  go_wp2_with fail
  refine HC.out.mono ?_
  rintro e w1 ⟨⟨r, rfl, hr⟩, rfl⟩
  have HR := Lib.hid hr
  clear hr
  go_wp2_with fail
  all_goals (try go_ret)
  all_goals exact ⟨ret_bool (by rw [← HR.out]), rfl⟩
/-- the bytes of a text, as numbers -/
def bytesU (s : ByteArray) : List Int := s.data.toList.map (fun b => (b.toNat : Int))
def hasB (s : ByteArray) (x : Int) : Bool := inB (bytesU s) x
theorem bytes_row (w : World) (e : TypeId) (s : ByteArray) : RowE encU 1 (Lib.bytesWorld w e s) (some ⟨w.heap.size, 0, none⟩) (bytesU s) := by
  refine .inr ⟨_, 0, rfl, by rw [Lib.bytesWorld_size]; exact Nat.lt_succ_self _, fun j x hx i v hv => ?_⟩
  have hj : j < s.size := by
    have := (List.getElem?_eq_some_iff.1 hx).1
    simpa [bytesU] using this
  have hi : i = 0 := by
    cases i with
    | zero => rfl
    | succ i => simp [encU] at hv
  subst hi
  have hv' : v = .int .u8 x := by simpa [encU] using hv.symm
  have := Lib.bytesWorld_cell w e s j hj
  rw [hv']
  simp only [Nat.zero_add, Nat.mul_one, Nat.add_zero]
  rw [this]
  have hx' : ((s.data.toList.getD j 0).toNat : Int) = x := by
    have h2 : (bytesU s)[j]? = some ((s.data.toList.getD j 0).toNat : Int) := by
      unfold bytesU
      rw [List.getElem?_map, List.getD, List.getElem?_eq_getElem (by simpa using hj)]
      simp
    rw [h2] at hx
    exact Option.some.inj hx
  rw [hx']
theorem below_bytes (w : World) (e : TypeId) (s : ByteArray) : Below w.heap.size w (Lib.bytesWorld w e s) :=
  ⟨rfl, rfl, rfl, by rw [Lib.bytesWorld_size]; omega, fun j hj => Lib.bytesWorld_at_old w e s j hj⟩
set_option maxHeartbeats 1000000 in
theorem shape_has_any (k : Int) (s : ByteArray) (x : Int) (hs : s.size ≤ 1000) (w : World) :
    Calls Tryz.prog 127 #[.agg #[.int .i64 k, .string s], .int .u8 x] w fun e w' => e = .returned (.bool (hasB s x)) ∧ Below w.heap.size w w' := by
  have HB := Lib.hid (((Below.refl w.heap.size w).alloc (Nat.le_refl _) (.cells #[.int .i64 k, .string s] 145)))
  have hl : (bytesU s).length = s.size := by simp [bytesU]
  go_enter Tryz.func127, Tryz.ntmps127
  have hcv := Lib.run_convert_string_bytes (P := Tryz.prog) (w.alloc (.cells #[.int .i64 k, .string s] 145)) 9 55 5 s Tryz.underlying9 Tryz.underlying55 Tryz.underlying5
  have HR := Lib.hid (bytes_row (w.alloc (.cells #[.int .i64 k, .string s] 145)) 5 s)
  have HB2 := Lib.hid (HB.out.trans ((below_bytes (w.alloc (.cells #[.int .i64 k, .string s] 145)) 5 s).mono HB.out.size))
  generalize Lib.bytesWorld (w.alloc (.cells #[.int .i64 k, .string s] 145)) 5 s = w2 at *
  generalize grownCap (w.alloc (.cells #[.int .i64 k, .string s] 145)) s.size 0 5 = cp at *
  simp only [World.size_alloc] at hcv HR
  go_wp2_with fail
  refine (b_contains_any hl (by omega) HR.out x).mono ?_
  rintro e w3 ⟨rfl, rfl⟩
  go_wp2_with fail
  go_ret
  exact ⟨rfl, HB2.out⟩
/-- what a function value says of one text -/
def Says (fid : FuncId) (q : ByteArray → Bool) (w : World) : Prop := ∀ (s : ByteArray) (W : World) (g : Nat), Below w.heap.size w W → RowE encS 1 W (some ⟨g, 0, none⟩) [s] → Calls Tryz.prog fid #[.slice (some ⟨g, 0, none⟩) 1 1] W fun e w' => e = .returned (.bool (q s)) ∧ Below W.heap.size W w'
theorem Says.below {fid : FuncId} {q : ByteArray → Bool} {w W : World} (h : Says fid q w) (hb : Below w.heap.size w W) : Says fid q W := fun s W' g hb' hr => h s W' g (hb.trans (hb'.mono hb.size)) hr
theorem says_Name {w : World} (hv : Vr w) : Says 129 nameB w := fun s W g hb hr => by
  have := words_Name_any (hv.below hb) (some ⟨g, 0, none⟩) 1 1 [s] rfl (by decide) hr
  simpa using this
theorem says_Exn (w : World) : Says 108 exnB w := fun s W g hb hr => by
  have := words_Exn_any (some ⟨g, 0, none⟩) 1 1 [s] W rfl (by decide) hr
  simpa using this
def fieldB (has : Bool) (q : ByteArray → Bool) (t : ByteArray) : Bool := if has then q t else t.toList.isEmpty
set_option maxHeartbeats 2000000 in
theorem shape_field_any {fid : FuncId} {q : ByteArray → Bool} (eg : ∀ args w, (callFunc fid args).run Tryz.prog w = .ok (.enter fid args) w) (k : Int) (s : ByteArray) (x : Int) (t : ByteArray) (hs : s.size ≤ 1000) {w : World} (hq : Says fid q w) :
    Calls Tryz.prog 128 #[.agg #[.int .i64 k, .string s], .int .u8 x, .string t, .func (.func fid) #[] #[]] w fun e w' => e = .returned (.bool (fieldB (hasB s x) q t)) ∧ Below w.heap.size w w' := by
  have HB := Lib.hid (((Below.refl w.heap.size w).alloc (Nat.le_refl _) (.cells #[.int .i64 k, .string s] 145)))
  have HQ := Lib.hid (hq.below HB.out)
  clear hq
  go_enter Tryz.func128, Tryz.ntmps128
  cases hh : hasB s x
  · have HH := Lib.hid hh
    have HC := Lib.hid (shape_has_any k s x hs (w.alloc (.cells #[.int .i64 k, .string s] 145)))
    rw [hh] at HC
    clear hh
    go_wp2_with (go_at_call 127; refine HC.out.mono ?_; rintro e w2 ⟨rfl, hb⟩; have HB2 := Lib.hid (HB.out.trans (hb.mono HB.out.size)); clear hb)
    go_ret
    exact ⟨ret_bool rfl, HB2.out⟩
  · have HC := Lib.hid (shape_has_any k s x hs (w.alloc (.cells #[.int .i64 k, .string s] 145)))
    rw [hh] at HC
    clear hh
    go_wp2_with (first
      | (go_at_call 127; refine HC.out.mono ?_; rintro e w2 ⟨rfl, hb⟩; have HB2 := Lib.hid (HB.out.trans (hb.mono HB.out.size)); have HQ2 := Lib.hid (HQ.out.below hb); clear hb)
      | (go_at_fn fid; refine (HQ2.out t _ _ ((Below.refl _ _).alloc (Nat.le_refl _) _) (RowE.newAt encS_len _ [t] _ (by simp [encS]) _ _ _ rfl)).mono ?_; rintro e w3 ⟨rfl, hb⟩; have HB3 := Lib.hid (HB2.out.trans ((((Below.refl _ w2).alloc (Nat.le_refl _) _).trans (hb.mono (by simp))).mono HB2.out.size)); clear hb))
    go_ret
    exact ⟨ret_bool rfl, HB3.out⟩
end Go.Proofs.YtdlbjngpohkglaaGreatDoor
end
section
set_option linter.unusedVariables false
set_option maxRecDepth 100000
set_option linter.unusedSimpArgs false
namespace Go.Proofs.YtdlbjngpohkglaaGreatDoor
open Go.RowKit

def encSh (x : Int × ByteArray) : List Value := [.int .i64 x.1, .string x.2]
theorem encSh_len (x : Int × ByteArray) : (encSh x).length = 2 := rfl
def shapesL : List (Int × ByteArray) := [(0, ⟨#[110]⟩), (0, ⟨#[109]⟩), (2, ⟨#[]⟩), (1, ⟨#[]⟩), (1, ⟨#[]⟩), (1, ⟨#[]⟩), (1, ⟨#[]⟩), (2, ⟨#[]⟩), (2, ⟨#[111]⟩), (2, ⟨#[]⟩), (1, ⟨#[97]⟩), (2, ⟨#[109]⟩), (2, ⟨#[109, 97]⟩), (3, ⟨#[]⟩), (1, ⟨#[101]⟩), (2, ⟨#[101, 97]⟩)]
set_option maxHeartbeats 2000000 in
theorem shapes_any (w : World) : Calls Tryz.prog 126 #[] w fun e w' => e = .returned (.slice (some ⟨w.heap.size, 0, none⟩) 16 16) ∧ RowE encSh 2 w' (some ⟨w.heap.size, 0, none⟩) shapesL ∧ Below w.heap.size w w' := by
  go_enter Tryz.func126, Tryz.ntmps126
  go_wp2_with fail
  go_ret
  exact ⟨rfl, RowE.newAt encSh_len _ shapesL _ (by simp [encSh, shapesL]) _ _ _ rfl, (Below.refl _ _).alloc (Nat.le_refl _) _⟩
/-- what a kind's shape tells -/
structure Shape (k : Int) (kd : Int) (s : ByteArray) : Prop where
  kids : kidsI k = kd
  k0 : 0 ≤ kd
  k3 : kd ≤ 3
  size : s.size ≤ 1000
  o : hasB s 111 = (k == 9)
  n : hasB s 110 = (k == 1)
  m : hasB s 109 = wName k
  a : hasB s 97 = wArg k
  e : hasB s 101 = wExn k
theorem shape_at (j : Nat) (h : j < 16) : ∃ kd s, shapesL[j]? = some (kd, s) ∧ Shape ((j : Int) + 1) kd s := by
  rcases (by omega : j = 0 ∨ j = 1 ∨ j = 2 ∨ j = 3 ∨ j = 4 ∨ j = 5 ∨ j = 6 ∨ j = 7 ∨ j = 8 ∨ j = 9 ∨ j = 10 ∨ j = 11 ∨ j = 12 ∨ j = 13 ∨ j = 14 ∨ j = 15) with rfl | rfl | rfl | rfl | rfl | rfl | rfl | rfl | rfl | rfl | rfl | rfl | rfl | rfl | rfl | rfl <;>
    exact ⟨_, _, rfl, by decide, by decide, by decide, by decide, by decide, by decide, by decide, by decide, by decide⟩
theorem node4B_low {h : HeadV} (n : Nat) (hk : h.kind < 1 ∨ 16 < h.kind ∨ h.at_ < 0) : node4B h n = false := by
  unfold node4B
  rcases hk with hk | hk | hk
  · have : kidsI h.kind = -1 := by unfold kidsI; rw [if_neg (by omega), if_neg (by omega), if_neg (by omega), if_neg (by omega)]
    rw [this]; simp
  · have : kidsI h.kind = -1 := by unfold kidsI; rw [if_neg (by omega), if_neg (by omega), if_neg (by omega), if_neg (by omega)]
    rw [this]; simp
  · have : decide (h.at_ < 0) = true := by simpa using hk
    rw [this]; simp
def opB (o : Int) : Bool := decide (1 ≤ o) && decide (o ≤ 5)
theorem node4B_eq {k op at_ m : Int} {name arg exn : ByteArray} {n : Nat} {kd : Int} {s : ByteArray} (hS : Shape k kd s) (h3 : 0 ≤ at_) :
    node4B ⟨k, op, at_, m, name, arg, exn⟩ n = (!(((n : Int) != kd) || (hasB s 111 && !opB op || !hasB s 111 && (op != 0))) && !(decide (m < 0) || decide (m > 2147483647) || !hasB s 110 && (m != 0)) && (fieldB (hasB s 109) nameB name && fieldB (hasB s 97) nameB arg && fieldB (hasB s 101) exnB exn)) := by
  have hf : ∀ (b : Bool) (q : ByteArray → Bool) (t : ByteArray), fitsB b t (q t) = fieldB b q t := by
    intro b q t
    cases b
    · unfold fitsB fieldB
      have : t.toList.isEmpty = decide (t.size = 0) := by
        rw [Lib.toList_data]
        obtain ⟨⟨l⟩⟩ := t
        cases l with
        | nil => rfl
        | cons b l => show false = decide (l.length + 1 = 0); simp
      simp [this]
    · simp [fitsB, fieldB]
  have hk0 : decide (kidsI k < 0) = false := by rw [hS.kids]; have := hS.k0; simp; omega
  have ha : decide (at_ < 0) = false := by simp; omega
  have ho : (decide (op < 1) || decide (5 < op)) = !opB op := by
    unfold opB
    rw [Bool.eq_iff_iff]
    simp
  show (!(decide (kidsI k < 0) || ((n : Int) != kidsI k) || decide (at_ < 0)) && !((k == 9) && (decide (op < 1) || decide (5 < op)) || (k != 9) && (op != 0)) &&
    !(decide (m < 0) || decide (2147483647 < m) || (k != 1) && (m != 0)) && (fitsB (wName k) name (nameB name) && fitsB (wArg k) arg (nameB arg) && fitsB (wExn k) exn (exnB exn))) = _
  rw [hk0, ha, hf, hf, hf, ho, hS.kids, hS.o, hS.n, hS.m, hS.a, hS.e]
  have e9 : (k != 9) = !(k == 9) := rfl
  have e1 : (k != 1) = !(k == 1) := rfl
  rw [e9, e1]
  simp only [Bool.false_or, Bool.or_false, Bool.not_or, gt_iff_lt]
/-- the two boxes of term.node -/
structure NdIn (w W : World) (g : Nat) (h : HeadV) (p : Option Addr) (n c : Nat) (kd : Int) (s : ByteArray) : Prop where
  tm : CellsTm W w.heap.size h p n c
  s0 : W.cell? ⟨g, 0, none⟩ = some (.int .i64 kd)
  s1 : W.cell? ⟨g, 1, none⟩ = some (.string s)
  below : Below w.heap.size w W
theorem NdIn.drop {w W W' : World} {g : Nat} {h : HeadV} {p : Option Addr} {n c : Nat} {kd : Int} {s : ByteArray} (hi : NdIn w W g h p n c kd s) (hb : Below W.heap.size W W') : NdIn w W' g h p n c kd s := by
  have hlt : g < W.heap.size := cell_block hi.s0
  exact ⟨hi.tm.below hb, by rw [hb.cell hlt]; exact hi.s0, by rw [hb.cell hlt]; exact hi.s1, hi.below.trans (hb.mono hi.below.size)⟩
theorem shape_has_is {k : Int} {s : ByteArray} {x : Int} {r : Bool} (h : hasB s x = r) (hs : s.size ≤ 1000) (w : World) :
    Calls Tryz.prog 127 #[.agg #[.int .i64 k, .string s], .int .u8 x] w fun e w' => e = .returned (.bool r) ∧ Below w.heap.size w w' := by
  subst h; exact shape_has_any k s x hs w
end Go.Proofs.YtdlbjngpohkglaaGreatDoor
end
section
set_option linter.unusedVariables false
set_option maxRecDepth 100000
set_option linter.unusedSimpArgs false
namespace Go.Proofs.YtdlbjngpohkglaaGreatDoor
open Go.RowKit

def encO (_ : Unit) : List Value := [.int .u8 1, .int .u8 0, .int .i64 0, .int .i64 0, .string ⟨#[]⟩, .string ⟨#[]⟩, .string ⟨#[]⟩, .slice none 0 0]
theorem encO_len : ∀ x, (encO x).length = 8 := fun _ => rfl
theorem encO_one : ∀ y, ∀ u ∈ encO y, u.oneCell' = true := by
  intro y u hu
  simp [encO] at hu
  rcases hu with rfl | rfl | rfl | rfl | rfl | rfl <;> rfl
theorem OwnE.other {α : Type} {enc : α → List Value} {k : Nat} {w w' : World} {base e n : Nat} {v : Value} {l : List α} {r : Option Nat} (h : OwnE enc k w base e v n l) (hg : w.grownBy w' r) (hr : ∀ b, v.ownBlock = some b → r ≠ some b) : OwnE enc k w' base e v n l := by
  refine ⟨h.1, ?_⟩
  rcases h.2 with hn | ⟨g, cap, cur, rfl, hb', hgg, rest⟩
  · exact .inl hn
  · refine .inr ⟨g, cap, cur, rfl, hb', ?_, rest⟩
    rw [hg.block g (Array.getElem?_eq_some_iff.1 hgg).1 (hr g rfl).symm]; exact hgg
end Go.Proofs.YtdlbjngpohkglaaGreatDoor
end
section
set_option linter.unusedVariables false
set_option maxRecDepth 100000
set_option linter.unusedSimpArgs false
namespace Go.Proofs.YtdlbjngpohkglaaGreatDoor
open Go.RowKit

/-- a term by value -/
structure TmV where
  hd : HeadV
  kp : Option Addr
  kn : Nat
  kc : Nat
def encTm (t : TmV) : List Value := [.int .u8 t.hd.kind, .int .u8 t.hd.op, .int .i64 t.hd.at_, .int .i64 t.hd.n, .string t.hd.name, .string t.hd.arg, .string t.hd.exn, .slice t.kp t.kn t.kc]
theorem encTm_len (t : TmV) : (encTm t).length = 8 := rfl
theorem encTm_one : ∀ t : TmV, ∀ u ∈ encTm t, u.oneCell' = true := by
  intro y u hu
  simp [encTm] at hu
  rcases hu with rfl | rfl | rfl | rfl | rfl | rfl | rfl | rfl <;> rfl
abbrev aggV (t : TmV) : Value := aggTm t.hd t.kp t.kn t.kc
/-- the nodes of a row of terms -/
def nodesK (kids : TmV → List TmV) (l : List TmV) : List TmV := (l.map (fun t => t :: kids t)).flatten
theorem nodesK_split (kids : TmV → List TmV) (l : List TmV) (k : Nat) : nodesK kids l = nodesK kids (l.take k) ++ nodesK kids (l.drop k) := by
  unfold nodesK
  rw [← List.flatten_append, ← List.map_append, List.take_append_drop]
theorem nodesK_step {kids : TmV → List TmV} {l : List TmV} {k : Nat} {x : TmV} (h : l[k]? = some x) : nodesK kids (l.take (k + 1)) = nodesK kids (l.take k) ++ x :: kids x := by
  unfold nodesK
  rw [List.take_add_one, h]
  simp
theorem saK_step {σ : Type} {kids : TmV → List TmV} (st : TmV → σ → Bool × σ) (s : σ) {l : List TmV} {k : Nat} {x : TmV} (h : l[k]? = some x) (hb : (stepAll st (nodesK kids (l.take k)) s).1 = true) :
    stepAll st (nodesK kids (l.take (k + 1))) s = if (st x (stepAll st (nodesK kids (l.take k)) s).2).1 then stepAll st (kids x) (st x (stepAll st (nodesK kids (l.take k)) s).2).2 else (false, (st x (stepAll st (nodesK kids (l.take k)) s).2).2) := by
  rw [nodesK_step h, stepAll_app, if_pos hb]
  rfl
theorem saK_stop {σ : Type} {kids : TmV → List TmV} (st : TmV → σ → Bool × σ) (s : σ) (l : List TmV) (k : Nat) (hb : (stepAll st (nodesK kids (l.take k)) s).1 = false) : stepAll st (nodesK kids l) s = stepAll st (nodesK kids (l.take k)) s := by
  rw [nodesK_split kids l k, stepAll_app, if_neg (by rw [hb]; exact Bool.false_ne_true)]
/-- a function value over terms, whose state lies in one block at most -/
structure FvT (w0 : World) (row : Option Nat) (g : Nat) (lb : Array Value) {σ : Type} (Inv : σ → World → Prop) (ok : TmV → Prop) (st : TmV → σ → Bool × σ) : Prop where
  eg : ∀ args w, (callFunc g args).run Tryz.prog w = .ok (.enter g args) w
  hb : ∀ b, row = some b → w0.heap.size ≤ b
  lt : ∀ b, row = some b → ∀ s W, Inv s W → b < W.heap.size
  inv : ∀ s W W', Inv s W → Below W.heap.size W W' → Inv s W'
  call : ∀ a s W, ok a → Below w0.heap.size w0 W → Inv s W → Calls Tryz.prog g (#[aggV a] ++ lb) W fun e w' => e = .returned (.bool (st a s).1) ∧ Inv (st a s).2 w' ∧ W.grownBy w' row
def EachT (w0 : World) (row : Option Nat) (g : Nat) (lb : Array Value) {σ : Type} (Inv : σ → World → Prop) (ok : TmV → Prop) (st : TmV → σ → Bool × σ) (p : Option Addr) (n c : Nat) (L : List TmV) : Prop :=
  (∀ a ∈ L, ok a) → ∀ s W, Below w0.heap.size w0 W → Inv s W → Calls Tryz.prog 102 #[.func (.func g) #[] lb, .slice p n c] W fun e w' => e = .returned (.bool (stepAll st L s).1) ∧ Inv (stepAll st L s).2 w' ∧ W.grownBy w' row
theorem mem_nodesK {kids : TmV → List TmV} {l : List TmV} {x : TmV} (hx : x ∈ l) {a : TmV} (ha : a ∈ x :: kids x) : a ∈ nodesK kids l := List.mem_flatten.2 ⟨_, List.mem_map_of_mem hx, ha⟩
/-- a term whose kids are numbers alone, in a row of its own -/
def leafV : TmV := ⟨⟨1, 0, 0, 0, ⟨#[]⟩, ⟨#[]⟩, ⟨#[]⟩⟩, none, 0, 0⟩
end Go.Proofs.YtdlbjngpohkglaaGreatDoor
end
section
set_option linter.unusedVariables false
set_option maxRecDepth 100000
set_option linter.unusedSimpArgs false
namespace Go.Proofs.YtdlbjngpohkglaaGreatDoor
open Go.RowKit

/-- a load of a row of cells, behind a guard that lets it by -/
theorem wpList_load_midG {P : Program} {ops : Array Oper} {rest : List Oper} {op : Oper} {a : Act} {w : World} {Q : Exit → Act → World → Prop} (hw : Region.wanted op (yielded ops a.tmps) = true) (ty : TypeId) (x : Operand) (ho : op.op = .load ty x)
    (b o : Nat) (hx : a.eval x = .pointer (some ⟨b, o, none⟩)) (cs : List Value) (d : TypeDesc) (hc : w.rangeAt b o cs)
    (hu : P.underlying ty = some d) (hd : d.isRow = true) (hi : (P.info? ty).map (·.size) = some cs.length)
    (h : wpList P ops Q rest (a.put op.dst (.agg cs.toArray)) w) : wpList P ops Q (op :: rest) a w := by
  rw [wpList, if_pos hw]
  exact .inl (wp_load_mid ty x ho b o hx cs d hc hu hd hi h)
/-- a number's own block -/
def IntBlk (b : Nat) (z : Int) (W : World) : Prop := W.heap[b]? = some (.cells #[.int .i64 z] 3 (0, 0))
theorem IntBlk.cells {W : World} {b : Nat} {z : Int} (h : IntBlk b z W) : W.cell? ⟨b, 0, none⟩ = some (.int .i64 z) ∧ W.frozen? ⟨b, 0, none⟩ = false := by
  unfold IntBlk at h
  simp [World.cell?, World.frozen?, h]
theorem IntBlk.lt {W : World} {b : Nat} {z : Int} (h : IntBlk b z W) : b < W.heap.size := (Array.getElem?_eq_some_iff.1 h).1
theorem IntBlk.below {W W' : World} {b : Nat} {z : Int} (h : IntBlk b z W) (hb : Below W.heap.size W W') : IntBlk b z W' := by
  unfold IntBlk; rw [hb.block b h.lt]; exact h
theorem IntBlk.set {W : World} {b : Nat} {z : Int} (h : IntBlk b z W) (y : Int) : IntBlk b y (W.setCell ⟨b, 0, none⟩ (.int .i64 y)) := by
  unfold IntBlk at h ⊢
  simpa using heap_setCell1 (o := 0) (.int .i64 y) h
/-- one more -/
def plus1 {α : Type} (_ : α) (z : Int) : Bool × Int := (true, IntKind.i64.wrap (z + 1))
theorem plus1_all {α : Type} : ∀ (l : List α) (z : Int), 0 ≤ z → z + l.length ≤ 1000000000 → stepAll plus1 l z = (true, z + l.length)
  | [], z, _, _ => by simp [stepAll]
  | a :: l, z, h0, h => by
    have hl : ((a :: l).length : Int) = (l.length : Int) + 1 := by simp
    have e : IntKind.i64.wrap (z + 1) = z + 1 := IntWalk.i64_in _ (by omega)
    show (if true = true then stepAll plus1 l (IntKind.i64.wrap (z + 1)) else _) = _
    rw [if_pos rfl, e, plus1_all l (z + 1) (by omega) (by omega), hl]
    congr 1
    omega
/-- term.node at a stub's nodes -/
theorem leaf_node : node4B leafV.hd 0 = true := by decide
def nodeT (t : TmV) (_ : Unit) : Bool × Unit := (node4B t.hd t.kn, ())
theorem stepAll_leaf : ∀ n, stepAll nodeT (List.replicate n leafV) () = (true, ())
  | 0 => rfl
  | n + 1 => by
    rw [List.replicate_succ]
    show (if (node4B leafV.hd 0) = true then stepAll nodeT (List.replicate n leafV) () else _) = _
    rw [leaf_node, if_pos rfl, stepAll_leaf n]
theorem stepAll_stub (t : TmV) (n : Nat) : (stepAll nodeT (t :: List.replicate n leafV) ()).1 = node4B t.hd t.kn := by
  show (if (node4B t.hd t.kn) = true then stepAll nodeT (List.replicate n leafV) () else (false, ())).1 = _
  rw [stepAll_leaf]
  cases node4B t.hd t.kn <;> rfl
end Go.Proofs.YtdlbjngpohkglaaGreatDoor
end
