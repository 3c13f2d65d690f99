/- Part 14: Nd, Tn, To, All. -/
import Derived.Test.YtkdjnegfnhldpaaGreatDoorH13
import Derived.Test.YtkdjnegfnhldpaaGreatDoorH08
import Derived.Test.YtkdjnegfnhldpaaGreatDoorH02
import Derived.Lib.ConvBytes
import Derived.Test.YtkdjnegfnhldpaaGreatDoorH04
import Derived.Deep.MidRow
set_option linter.unusedVariables false
set_option maxRecDepth 100000
set_option linter.unusedSimpArgs false
namespace Go.Proofs.YtkdjnegfnhldpaaGreatDoor
open Go.Lib (hid)
section
open Go.RowKit
def encU (x : Int) : List Value := [.int .u8 x]
theorem RowE.u8 {w : World} {p : Option Addr} {l : List Int} (h : RowE encU 1 w p l) {j : Nat} {x : Int} (hx : l[j]? = some x) : ∃ b o, p = some ⟨b, o, none⟩ ∧ w.cell? ⟨b, o + j, none⟩ = some (.int .u8 x) := by
  obtain ⟨b, o, hp, _, hc⟩ := h.elem hx
  exact ⟨b, o, hp, by simpa using hc 0 _ rfl⟩
def inB (l : List Int) (k : Int) : Bool := l.any (· == k)
def plainB (a : RH) : Bool := (a.kind == 0) && (a.rho == 0) && ((a.en : Int) == 0) && ((a.kn : Int) == 0)
structure BoxA (W : World) (b : Nat) (a : AH) : Prop where
  blk : W.heap[b]? = some (.cells #[.int .u8 a.kind, .int .u8 a.op, .int .i64 a.at_, .int .i64 a.n, .string a.name, .string a.arg, .string a.exn, .int .i64 a.rho, .slice a.rp a.rn a.rc, .slice a.ep a.en a.ec, .int .u8 a.ty.head.kind, .int .i64 a.ty.head.rho, .slice a.ty.head.ep a.ty.head.en a.ty.head.ec, .slice a.ty.head.kp a.ty.head.kn a.ty.head.kc, .int .u8 a.res.head.kind, .int .i64 a.res.head.rho, .slice a.res.head.ep a.res.head.en a.res.head.ec, .slice a.res.head.kp a.res.head.kn a.res.head.kc, .slice a.kp a.kn a.kc] 31 (0, 0))
theorem BoxA.c {W : World} {b : Nat} {a : AH} (h : BoxA W b a) (i : Nat) (u : Value) (hu : (encAH a)[i]? = some u) : W.cell? ⟨b, i, none⟩ = some u := by
  rw [Lib.cell_of_heap h.blk]
  have : (encAH a).toArray[i]? = some u := by simpa using hu
  exact this
theorem BoxA.below {w w' : World} {b : Nat} {a : AH} (h : BoxA w b a) (hb : Below w.heap.size w w') : BoxA w' b a := ⟨by rw [hb.block b (Array.getElem?_eq_some_iff.1 h.blk).1]; exact h.blk⟩
theorem boxA_new (w : World) (a : AH) : BoxA (w.alloc (boxA a)) w.heap.size a := ⟨heap_alloc_new w _⟩
theorem BoxA.all {W : World} {b : Nat} {a : AH} (h : BoxA W b a) : W.cell? ⟨b, 0, none⟩ = some (Value.int .u8 a.kind) ∧ W.cell? ⟨b, 1, none⟩ = some (Value.int .u8 a.op) ∧ W.cell? ⟨b, 2, none⟩ = some (Value.int .i64 a.at_) ∧ W.cell? ⟨b, 3, none⟩ = some (Value.int .i64 a.n) ∧ W.cell? ⟨b, 4, none⟩ = some (Value.string a.name) ∧ W.cell? ⟨b, 5, none⟩ = some (Value.string a.arg) ∧ W.cell? ⟨b, 6, none⟩ = some (Value.string a.exn) ∧ W.cell? ⟨b, 7, none⟩ = some (Value.int .i64 a.rho) ∧ W.cell? ⟨b, 8, none⟩ = some (Value.slice a.rp a.rn a.rc) ∧ W.cell? ⟨b, 9, none⟩ = some (Value.slice a.ep a.en a.ec) ∧ W.cell? ⟨b, 10, none⟩ = some (Value.int .u8 a.ty.head.kind) ∧ W.cell? ⟨b, 11, none⟩ = some (Value.int .i64 a.ty.head.rho) ∧ W.cell? ⟨b, 12, none⟩ = some (Value.slice a.ty.head.ep a.ty.head.en a.ty.head.ec) ∧ W.cell? ⟨b, 13, none⟩ = some (Value.slice a.ty.head.kp a.ty.head.kn a.ty.head.kc) ∧ W.cell? ⟨b, 14, none⟩ = some (Value.int .u8 a.res.head.kind) ∧ W.cell? ⟨b, 15, none⟩ = some (Value.int .i64 a.res.head.rho) ∧ W.cell? ⟨b, 16, none⟩ = some (Value.slice a.res.head.ep a.res.head.en a.res.head.ec) ∧ W.cell? ⟨b, 17, none⟩ = some (Value.slice a.res.head.kp a.res.head.kn a.res.head.kc) ∧ W.cell? ⟨b, 18, none⟩ = some (Value.slice a.kp a.kn a.kc) :=
  ⟨h.c 0 _ rfl, h.c 1 _ rfl, h.c 2 _ rfl, h.c 3 _ rfl, h.c 4 _ rfl, h.c 5 _ rfl, h.c 6 _ rfl, h.c 7 _ rfl, h.c 8 _ rfl, h.c 9 _ rfl, h.c 10 _ rfl, h.c 11 _ rfl, h.c 12 _ rfl, h.c 13 _ rfl, h.c 14 _ rfl, h.c 15 _ rfl, h.c 16 _ rfl, h.c 17 _ rfl, h.c 18 _ rfl⟩
def rhoB (k : Int) (l : List Int) (i : Nat) (x : Int) : Bool := !(decide (x < 0) || (k == 13) && ((x == 0) || inN (l.take i) x))
def rhosB (k : Int) (l : List Int) (n : Nat) : Bool := (List.range n).all (fun i => match l[i]? with | some x => rhoB k l i x | none => true)
theorem nodeIn' {w : World} {t : PT} (h : LR.lies w t) : NodeIn w t.head t.kids := by
  rw [Rose.eta t] at h; exact nodeIn h
theorem ref_Ints_b {p : Option Addr} {n cap : Nat} {l : List Int} {x : Int} {w : World} {r : Bool} (hq : inN l x = r) (h : IsRow encN 1 w p n cap l) :
    Calls Tryz.prog 21 #[.slice p n cap, .int .i64 x] w fun e w' => e = .returned (.bool r) ∧ Below w.heap.size w w' :=
  (ref_Ints_of hq h).mono (fun _ _ ⟨h1, h2⟩ => ⟨h1, h2 ▸ Below.refl _ _⟩)
def node13 (a : AH) : Bool := !(!(headB a.hd a.kn) || decide (a.rho < 0) || ((a.kind == 17) && (a.rho == 0)) || (!(inB [3, 6, 11, 13, 17, 18] a.kind) && (a.rho != 0))) && !((a.kind != 13) && (a.kind != 18) && decide (0 < a.rn)) && rhosB a.kind a.rhos a.rn && !(!(inB [11, 13, 18] a.kind) && decide (0 < a.en) || !(mayB a.eff)) && !(inB [11, 13, 15] a.kind && !(mayT a.ty.er) || !(inB [11, 13, 15] a.kind) && !(plainB a.ty.head)) && ((a.kind == 13) && mayT a.res.er || (a.kind != 13) && plainB a.res.head)
end
section
open Go.RowKit
set_option maxHeartbeats 1000000 in
theorem b_index_any {p : Option Addr} {n cap : Nat} {l : List Int} {w : World} (hn : l.length = n) (hm : n ≤ 1000000) (hr : RowE encU 1 w p l) (x : Int) :
    Calls Tryz.prog 257 #[.slice p n cap, .int .u8 x] w fun e w' => (∃ r : Int, e = .returned (.int .i64 r) ∧ decide (r ≥ 0) = inB l x) ∧ w = w' := by
  have HR := hid hr
  have HN := hid hn
  clear hr hn
  go_enter Tryz.func257, Tryz.ntmps257
  go_wp2_with fail
  go_loop [5, 8] (fun _ i => ∃ j : Nat, j ≤ n ∧ i = .int .i64 j ∧ (l.take j).any (· == x) = false) (fun _ i => n - (intOf i).toNat)
  case atStart => exact ⟨0, by omega, rfl, by simp⟩
  case round =>
    obtain ⟨j, hj, rfl, hno⟩ := hrel
    have HNO := hid hno
    clear hno
    by_cases hlt : j < n
    · obtain ⟨y, hy⟩ := get_of_lt (l := l) (j := j) (by rw [HN.out]; exact hlt)
      have HE := hid hy
      obtain ⟨b, o, rfl, d0⟩ := HR.out.u8 hy
      clear hy
      cases hq : (x == y)
      · have HQ := hid hq
        go_wp2_with fail
        go_round
        case rel => exact ⟨j + 1, by omega, by go_num, by rw [any_take_get HE.out, HNO.out, BEq.comm, HQ.out]; rfl⟩
        case measure => simp [intOf]; omega
      · have HQ := hid hq
        go_wp2_with fail
        go_ret
        exact ⟨⟨j, rfl, by rw [show inB l x = true from any_get HE.out (by rw [BEq.comm]; exact HQ.out)]; simp⟩, rfl⟩
    · go_wp2_with fail
      go_ret
      have h := HNO.out
      rw [take_full (by rw [HN.out]; omega)] at h
      exact ⟨⟨-1, rfl, by rw [show inB l x = false from h]; decide⟩, rfl⟩
theorem b_contains_any {p : Option Addr} {n cap : Nat} {l : List Int} {w : World} (hn : l.length = n) (hm : n ≤ 1000000) (hr : RowE encU 1 w p l) (x : Int) :
    Calls Tryz.prog 234 #[.slice p n cap, .int .u8 x] w fun e w' => e = .returned (.bool (inB l x)) ∧ w = w' := by
  have HC := hid (b_index_any (cap := cap) hn hm hr x)
  clear hr hn
  go_enter Tryz.func234, Tryz.ntmps234
  go_wp2_with fail
  refine HC.out.mono ?_
  rintro e w1 ⟨⟨r, rfl, hr⟩, rfl⟩
  have HR := hid hr
  clear hr
  go_wp2_with fail
  all_goals (try go_ret)
  all_goals exact ⟨ret_bool (by rw [← HR.out]), rfl⟩
def bytesU (s : ByteArray) : List Int := s.data.toList.map (fun b => (b.toNat : Int))
def hasB (s : ByteArray) (x : Int) : Bool := inB (bytesU s) x
theorem bytes_row (w : World) (e : TypeId) (s : ByteArray) : RowE encU 1 (Lib.bytesWorld w e s) (some ⟨w.heap.size, 0, none⟩) (bytesU s) := by
  refine .inr ⟨_, 0, rfl, by rw [Lib.bytesWorld_size]; exact Nat.lt_succ_self _, fun j x hx i v hv => ?_⟩
  have hj : j < s.size := by
    have := (List.getElem?_eq_some_iff.1 hx).1
    simpa [bytesU] using this
  have hi : i = 0 := by
    cases i with
    | zero => rfl
    | succ i => simp [encU] at hv
  subst hi
  have hv' : v = .int .u8 x := by simpa [encU] using hv.symm
  have := Lib.bytesWorld_cell w e s j hj
  rw [hv']
  simp only [Nat.zero_add, Nat.mul_one, Nat.add_zero]
  rw [this]
  have hx' : ((s.data.toList.getD j 0).toNat : Int) = x := by
    have h2 : (bytesU s)[j]? = some ((s.data.toList.getD j 0).toNat : Int) := by
      unfold bytesU
      rw [List.getElem?_map, List.getD, List.getElem?_eq_getElem (by simpa using hj)]
      simp
    rw [h2] at hx
    exact Option.some.inj hx
  rw [hx']
theorem below_bytes (w : World) (e : TypeId) (s : ByteArray) : Below w.heap.size w (Lib.bytesWorld w e s) :=
  ⟨rfl, rfl, rfl, by rw [Lib.bytesWorld_size]; omega, fun j hj => Lib.bytesWorld_at_old w e s j hj⟩
set_option maxHeartbeats 1000000 in
theorem shape_has_any (k : Int) (s : ByteArray) (x : Int) (hs : s.size ≤ 1000) (w : World) :
    Calls Tryz.prog 205 #[.agg #[.int .i64 k, .string s], .int .u8 x] w fun e w' => e = .returned (.bool (hasB s x)) ∧ Below w.heap.size w w' := by
  have HB := hid (((Below.refl w.heap.size w).alloc (Nat.le_refl _) (.cells #[.int .i64 k, .string s] 244)))
  have hl : (bytesU s).length = s.size := by simp [bytesU]
  go_enter Tryz.func205, Tryz.ntmps205
  have hcv := Lib.run_convert_string_bytes (P := Tryz.prog) (w.alloc (.cells #[.int .i64 k, .string s] 244)) 9 166 5 s Tryz.underlying9 Tryz.underlying166 Tryz.underlying5
  have HR := hid (bytes_row (w.alloc (.cells #[.int .i64 k, .string s] 244)) 5 s)
  have HB2 := hid (HB.out.trans ((below_bytes (w.alloc (.cells #[.int .i64 k, .string s] 244)) 5 s).mono HB.out.size))
  generalize Lib.bytesWorld (w.alloc (.cells #[.int .i64 k, .string s] 244)) 5 s = w2 at *
  generalize grownCap (w.alloc (.cells #[.int .i64 k, .string s] 244)) s.size 0 5 = cp at *
  simp only [World.size_alloc] at hcv HR
  go_wp2_with fail
  refine (b_contains_any hl (by omega) HR.out x).mono ?_
  rintro e w3 ⟨rfl, rfl⟩
  go_wp2_with fail
  go_ret
  exact ⟨rfl, HB2.out⟩
def Says (fid : FuncId) (q : ByteArray → Bool) (w : World) : Prop := ∀ (s : ByteArray) (W : World) (g : Nat), Below w.heap.size w W → RowE encS 1 W (some ⟨g, 0, none⟩) [s] → Calls Tryz.prog fid #[.slice (some ⟨g, 0, none⟩) 1 1] W fun e w' => e = .returned (.bool (q s)) ∧ Below W.heap.size W w'
theorem Says.below {fid : FuncId} {q : ByteArray → Bool} {w W : World} (h : Says fid q w) (hb : Below w.heap.size w W) : Says fid q W := fun s W' g hb' hr => h s W' g (hb.trans (hb'.mono hb.size)) hr
theorem says_Name {w : World} (hv : Vr w) : Says 207 nameB w := fun s W g hb hr => by
  have := words_Name_any (hv.below hb) (some ⟨g, 0, none⟩) 1 1 [s] rfl (by decide) hr
  simpa using this
theorem says_Exn (w : World) : Says 174 exnB w := fun s W g hb hr => by
  have := words_Exn_any (some ⟨g, 0, none⟩) 1 1 [s] W rfl (by decide) hr
  simpa using this
def fieldB (has : Bool) (q : ByteArray → Bool) (t : ByteArray) : Bool := if has then q t else t.toList.isEmpty
set_option maxHeartbeats 2000000 in
theorem shape_field_any {fid : FuncId} {q : ByteArray → Bool} (eg : ∀ args w, (callFunc fid args).run Tryz.prog w = .ok (.enter fid args) w) (k : Int) (s : ByteArray) (x : Int) (t : ByteArray) (hs : s.size ≤ 1000) {w : World} (hq : Says fid q w) :
    Calls Tryz.prog 206 #[.agg #[.int .i64 k, .string s], .int .u8 x, .string t, .func (.func fid) #[] #[]] w fun e w' => e = .returned (.bool (fieldB (hasB s x) q t)) ∧ Below w.heap.size w w' := by
  have HB := hid (((Below.refl w.heap.size w).alloc (Nat.le_refl _) (.cells #[.int .i64 k, .string s] 244)))
  have HQ := hid (hq.below HB.out)
  clear hq
  go_enter Tryz.func206, Tryz.ntmps206
  cases hh : hasB s x
  · have HH := hid hh
    have HC := hid (shape_has_any k s x hs (w.alloc (.cells #[.int .i64 k, .string s] 244)))
    rw [hh] at HC
    clear hh
    go_wp2_with (go_at_call 205; refine HC.out.mono ?_; rintro e w2 ⟨rfl, hb⟩; have HB2 := hid (HB.out.trans (hb.mono HB.out.size)); clear hb)
    go_ret
    exact ⟨ret_bool rfl, HB2.out⟩
  · have HC := hid (shape_has_any k s x hs (w.alloc (.cells #[.int .i64 k, .string s] 244)))
    rw [hh] at HC
    clear hh
    go_wp2_with (first
      | (go_at_call 205; refine HC.out.mono ?_; rintro e w2 ⟨rfl, hb⟩; have HB2 := hid (HB.out.trans (hb.mono HB.out.size)); have HQ2 := hid (HQ.out.below hb); clear hb)
      | (go_at_fn fid; refine (HQ2.out t _ _ ((Below.refl _ _).alloc (Nat.le_refl _) _) (RowE.newAt encS_len _ [t] _ (by simp [encS]) _ _ _ rfl)).mono ?_; rintro e w3 ⟨rfl, hb⟩; have HB3 := hid (HB2.out.trans ((((Below.refl _ w2).alloc (Nat.le_refl _) _).trans (hb.mono (by simp))).mono HB2.out.size)); clear hb))
    go_ret
    exact ⟨ret_bool rfl, HB3.out⟩
end
section
open Go.RowKit
def encSh (x : Int × ByteArray) : List Value := [.int .i64 x.1, .string x.2]
theorem encSh_len (x : Int × ByteArray) : (encSh x).length = 2 := rfl
def shapesL : List (Int × ByteArray) := [(0, ⟨#[110]⟩), (0, ⟨#[109]⟩), (2, ⟨#[]⟩), (1, ⟨#[]⟩), (1, ⟨#[]⟩), (1, ⟨#[]⟩), (1, ⟨#[]⟩), (2, ⟨#[]⟩), (2, ⟨#[111]⟩), (2, ⟨#[]⟩), (1, ⟨#[97]⟩), (2, ⟨#[109]⟩), (2, ⟨#[109, 97]⟩), (3, ⟨#[]⟩), (1, ⟨#[101]⟩), (2, ⟨#[101, 97]⟩)]
set_option maxHeartbeats 2000000 in
theorem shapes_any (w : World) : Calls Tryz.prog 204 #[] w fun e w' => e = .returned (.slice (some ⟨w.heap.size, 0, none⟩) 16 16) ∧ RowE encSh 2 w' (some ⟨w.heap.size, 0, none⟩) shapesL ∧ Below w.heap.size w w' := by
  go_enter Tryz.func204, Tryz.ntmps204
  go_wp2_with fail
  go_ret
  exact ⟨rfl, RowE.newAt encSh_len _ shapesL _ (by simp [encSh, shapesL]) _ _ _ rfl, (Below.refl _ _).alloc (Nat.le_refl _) _⟩
structure Shape (k : Int) (kd : Int) (s : ByteArray) : Prop where
  kids : kidsI k = kd
  k0 : 0 ≤ kd
  k3 : kd ≤ 3
  size : s.size ≤ 1000
  o : hasB s 111 = (k == 9)
  n : hasB s 110 = (k == 1)
  m : hasB s 109 = wName k
  a : hasB s 97 = wArg k
  e : hasB s 101 = wExn k
theorem shape_at (j : Nat) (h : j < 16) : ∃ kd s, shapesL[j]? = some (kd, s) ∧ Shape ((j : Int) + 1) kd s := by
  rcases (by omega : j = 0 ∨ j = 1 ∨ j = 2 ∨ j = 3 ∨ j = 4 ∨ j = 5 ∨ j = 6 ∨ j = 7 ∨ j = 8 ∨ j = 9 ∨ j = 10 ∨ j = 11 ∨ j = 12 ∨ j = 13 ∨ j = 14 ∨ j = 15) with rfl | rfl | rfl | rfl | rfl | rfl | rfl | rfl | rfl | rfl | rfl | rfl | rfl | rfl | rfl | rfl <;>
    exact ⟨_, _, rfl, by decide, by decide, by decide, by decide, by decide, by decide, by decide, by decide, by decide⟩
theorem node4B_low {h : HeadV} (n : Nat) (hk : h.kind < 1 ∨ 16 < h.kind ∨ h.at_ < 0) : node4B h n = false := by
  unfold node4B
  rcases hk with hk | hk | hk
  · have : kidsI h.kind = -1 := by unfold kidsI; rw [if_neg (by omega), if_neg (by omega), if_neg (by omega), if_neg (by omega)]
    rw [this]; simp
  · have : kidsI h.kind = -1 := by unfold kidsI; rw [if_neg (by omega), if_neg (by omega), if_neg (by omega), if_neg (by omega)]
    rw [this]; simp
  · have : decide (h.at_ < 0) = true := by simpa using hk
    rw [this]; simp
def opB (o : Int) : Bool := decide (1 ≤ o) && decide (o ≤ 5)
theorem node4B_eq {k op at_ m : Int} {name arg exn : ByteArray} {n : Nat} {kd : Int} {s : ByteArray} (hS : Shape k kd s) (h3 : 0 ≤ at_) :
    node4B ⟨k, op, at_, m, name, arg, exn⟩ n = (!(((n : Int) != kd) || (hasB s 111 && !opB op || !hasB s 111 && (op != 0))) && !(decide (m < 0) || decide (m > 2147483647) || !hasB s 110 && (m != 0)) && (fieldB (hasB s 109) nameB name && fieldB (hasB s 97) nameB arg && fieldB (hasB s 101) exnB exn)) := by
  have hf : ∀ (b : Bool) (q : ByteArray → Bool) (t : ByteArray), fitsB b t (q t) = fieldB b q t := by
    intro b q t
    cases b
    · unfold fitsB fieldB
      have : t.toList.isEmpty = decide (t.size = 0) := by
        rw [Lib.toList_data]
        obtain ⟨⟨l⟩⟩ := t
        cases l with
        | nil => rfl
        | cons b l => show false = decide (l.length + 1 = 0); simp
      simp [this]
    · simp [fitsB, fieldB]
  have hk0 : decide (kidsI k < 0) = false := by rw [hS.kids]; have := hS.k0; simp; omega
  have ha : decide (at_ < 0) = false := by simp; omega
  have ho : (decide (op < 1) || decide (5 < op)) = !opB op := by
    unfold opB
    rw [Bool.eq_iff_iff]
    simp
  show (!(decide (kidsI k < 0) || ((n : Int) != kidsI k) || decide (at_ < 0)) && !((k == 9) && (decide (op < 1) || decide (5 < op)) || (k != 9) && (op != 0)) &&
    !(decide (m < 0) || decide (2147483647 < m) || (k != 1) && (m != 0)) && (fitsB (wName k) name (nameB name) && fitsB (wArg k) arg (nameB arg) && fitsB (wExn k) exn (exnB exn))) = _
  rw [hk0, ha, hf, hf, hf, ho, hS.kids, hS.o, hS.n, hS.m, hS.a, hS.e]
  have e9 : (k != 9) = !(k == 9) := rfl
  have e1 : (k != 1) = !(k == 1) := rfl
  rw [e9, e1]
  simp only [Bool.false_or, Bool.or_false, Bool.not_or, gt_iff_lt]
set_option maxHeartbeats 4000000 in
theorem term_node_low (h : HeadV) (p : Option Addr) (n c : Nat) (hk0 : 0 ≤ h.kind) (hk1 : h.kind ≤ 255) (w : World) (hk : h.kind < 1 ∨ 16 < h.kind ∨ h.at_ < 0) :
    Calls Tryz.prog 169 #[aggTm h p n c] w fun e w' => e = .returned (.bool (node4B h n)) ∧ Below w.heap.size w w' := by
  have HR := hid (node4B_low n hk)
  have HBX := hid ((Below.refl w.heap.size w).alloc (Nat.le_refl _) (boxTm h p n c))
  have HC := hid (cellsTm_new w h p n c)
  have hwr : IntKind.i64.wrap h.kind = h.kind := IntWalk.i64_in _ (by omega)
  go_enter Tryz.func169, Tryz.ntmps169
  go_wp2_with (go_at_call 204; refine (shapes_any _).mono ?_; rintro e w2 ⟨rfl, hr2, hb⟩; have HC2 := hid (HC.out.below hb); have HB2 := hid (HBX.out.trans (hb.mono HBX.out.size)); clear hr2 hb; obtain ⟨q0, q1, q2, q3, q4, q5, q6, q7⟩ := HC2.out)
  all_goals (go_ret; exact ⟨ret_bool HR.out.symm, HB2.out⟩)
structure NdIn (w W : World) (g : Nat) (h : HeadV) (p : Option Addr) (n c : Nat) (kd : Int) (s : ByteArray) : Prop where
  tm : CellsTm W w.heap.size h p n c
  s0 : W.cell? ⟨g, 0, none⟩ = some (.int .i64 kd)
  s1 : W.cell? ⟨g, 1, none⟩ = some (.string s)
  below : Below w.heap.size w W
theorem NdIn.drop {w W W' : World} {g : Nat} {h : HeadV} {p : Option Addr} {n c : Nat} {kd : Int} {s : ByteArray} (hi : NdIn w W g h p n c kd s) (hb : Below W.heap.size W W') : NdIn w W' g h p n c kd s := by
  have hlt : g < W.heap.size := cell_block hi.s0
  exact ⟨hi.tm.below hb, by rw [hb.cell hlt]; exact hi.s0, by rw [hb.cell hlt]; exact hi.s1, hi.below.trans (hb.mono hi.below.size)⟩
theorem shape_has_is {k : Int} {s : ByteArray} {x : Int} {r : Bool} (h : hasB s x = r) (hs : s.size ≤ 1000) (w : World) :
    Calls Tryz.prog 205 #[.agg #[.int .i64 k, .string s], .int .u8 x] w fun e w' => e = .returned (.bool r) ∧ Below w.heap.size w w' := by
  subst h; exact shape_has_any k s x hs w
set_option maxHeartbeats 4000000 in
theorem term_node_high (j : Nat) (hj : j < 16) (op at_ m : Int) (name arg exn : ByteArray) (p : Option Addr) (n c : Nat) (hn : n ≤ 1000000) (h3 : 0 ≤ at_) (w : World) (hv : Vr w) :
    Calls Tryz.prog 169 #[aggTm ⟨(j : Int) + 1, op, at_, m, name, arg, exn⟩ p n c] w fun e w' => e = .returned (.bool (node4B ⟨(j : Int) + 1, op, at_, m, name, arg, exn⟩ n)) ∧ Below w.heap.size w w' := by
  obtain ⟨kd, s, hsh, hS⟩ := shape_at j hj
  have HR := hid (node4B_eq (op := op) (m := m) (name := name) (arg := arg) (exn := exn) (n := n) hS h3)
  have HBX := hid ((Below.refl w.heap.size w).alloc (Nat.le_refl _) (boxTm ⟨(j : Int) + 1, op, at_, m, name, arg, exn⟩ p n c))
  have HC := hid (cellsTm_new w ⟨(j : Int) + 1, op, at_, m, name, arg, exn⟩ p n c)
  have hss := hS.size
  have HV := hid hv
  have HSH := hid hsh
  clear hv hsh hS
  have hwr : IntKind.i64.wrap ((j : Int) + 1) = (j : Int) + 1 := IntWalk.i64_in _ (by omega)
  have hu1 : IntKind.u8.wrap ((j : Int) + 1 - 1) = (j : Int) := by rw [show (j : Int) + 1 - 1 = (j : Int) by omega]; exact IntWalk.u8_in _ (by omega)
  have hu2 : IntKind.u8.wrap (j : Int) = (j : Int) := IntWalk.u8_in _ (by omega)
  have d1 : decide ((j : Int) + 1 < 1) = false := by simp; omega
  have d2 : decide ((16 : Int) < (j : Int) + 1) = false := by simp; omega
  have d3 : decide (at_ < 0) = false := by simp; omega
  go_enter Tryz.func169, Tryz.ntmps169
  go_upto_region 2 with (go_at_call 204; refine (shapes_any _).mono ?_; rintro e w2 ⟨rfl, hr2, hb⟩; have HC2 := hid (HC.out.below hb); have HB2 := hid (HBX.out.trans (hb.mono HBX.out.size)); have HR2 := hid hr2; clear hr2 hb)
  obtain ⟨b, o, hbo, hbl, hcs⟩ := HR2.out.elem HSH.out
  have hbo1 : b = w.heap.size + 1 ∧ o = 0 := by
    injection hbo with h1
    injection h1 with h1 h2
    exact ⟨by rw [← h1]; simp, h2.symm⟩
  obtain ⟨rfl, rfl⟩ := hbo1
  have r0 : w2.cell? ⟨w.heap.size + 1, j * 2, none⟩ = some (.int .i64 kd) := by simpa using hcs 0 _ rfl
  have r1 : w2.cell? ⟨w.heap.size + 1, j * 2 + 1, none⟩ = some (.string s) := by simpa using hcs 1 _ rfl
  have HN : Hid (NdIn w (w2.alloc (.cells #[.int .i64 kd, .string s] 244)) w2.heap.size ⟨(j : Int) + 1, op, at_, m, name, arg, exn⟩ p n c kd s) :=
    hid ⟨HC2.out.below ((Below.refl _ _).alloc (Nat.le_refl _) _), by rw [cell_new]; rfl, by rw [cell_new]; rfl, HB2.out.alloc HB2.out.size _⟩
  obtain ⟨q0, q1, q2, q3, q4, q5, q6, q7⟩ := HC2.out
  clear hbo hbl hcs
  go_upto_region 5 with fail
  generalize w2.alloc (.cells #[.int .i64 kd, .string s] 244) = W1 at *
  clear q0 q1 q2 q3 q4 q5 q6 q7 r0 r1
  obtain ⟨⟨q0, q1, q2, q3, q4, q5, q6, q7⟩, r0, r1, hbel⟩ := HN.out
  go_cut [5] from 33 to 42 (fun s5 wx => s5 = .bool (opB op) ∧ wx = W1)
  case first =>
    by_cases o1 : 1 ≤ op
    · have e1 : decide (op ≥ 1) = true := by simpa using o1
      by_cases o5 : op ≤ 5
      · have e2 : decide (op ≤ 5) = true := by simpa using o5
        have HB : Hid (opB op = true) := by show _ = _; simp [opB, o1, o5]
        clear o1 o5
        go_wp2_with fail
        go_meet
        case rel => exact ⟨by rw [HB.out], rfl⟩
      · have e2 : decide (op ≤ 5) = false := by simpa using o5
        have HB : Hid (opB op = false) := by show _ = _; simp [opB, o5]
        clear o1 o5
        go_wp2_with fail
        go_meet
        case rel => exact ⟨by rw [HB.out], rfl⟩
    · have e1 : decide (op ≥ 1) = false := by simpa using o1
      have HB : Hid (opB op = false) := by show _ = _; simp [opB, o1]
      clear o1
      go_wp2_with fail
      go_meet
      case rel => exact ⟨by rw [HB.out], rfl⟩
  case rest =>
    obtain ⟨rfl, rfl⟩ := hcut
    generalize opB op = B5 at *
    have HasO := hid (fun w => shape_has_is (k := kd) (s := s) (x := 111) rfl hss w)
    have HasN := hid (fun w => shape_has_is (k := kd) (s := s) (x := 110) rfl hss w)
    generalize hasB s 111 = O at *
    generalize hasB s 110 = N at *
    by_cases hnk : (n : Int) = kd
    · have f1 : ((n : Int) != kd) = false := by simpa using hnk
      have f2 : decide ((n : Int) = kd) = true := by simpa using hnk
      have HF1 := hid f1
      clear hnk
      go_upto_region 7 with fail
      go_cut [43] from 50 to 66 (fun s43 wx => s43 = .bool (O && !B5 || !O && (op != 0)) ∧ NdIn w wx w2.heap.size ⟨(j : Int) + 1, op, at_, m, name, arg, exn⟩ p n c kd s)
      case first =>
        cases O
        · by_cases o0 : op = 0
          · have e0 : (op != 0) = false := by simpa using o0
            have HB := hid e0
            clear o0
            go_wp2_with (go_at_call 205; refine (HasO.out _).mono ?_; rintro e w8 ⟨rfl, hb⟩; have HN := hid (HN.out.drop hb); clear hb q0 q1 q2 q3 q4 q5 q6 q7 r0 r1 hbel; obtain ⟨⟨q0, q1, q2, q3, q4, q5, q6, q7⟩, r0, r1, hbel⟩ := HN.out)
            go_meet
            case rel => exact ⟨by rw [HB.out]; rfl, HN.out⟩
          · have e0 : (op != 0) = true := by simpa using o0
            have HB := hid e0
            clear o0
            go_wp2_with (go_at_call 205; refine (HasO.out _).mono ?_; rintro e w8 ⟨rfl, hb⟩; have HN := hid (HN.out.drop hb); clear hb q0 q1 q2 q3 q4 q5 q6 q7 r0 r1 hbel; obtain ⟨⟨q0, q1, q2, q3, q4, q5, q6, q7⟩, r0, r1, hbel⟩ := HN.out)
            go_meet
            case rel => exact ⟨by rw [HB.out]; rfl, HN.out⟩
        · cases B5
          · go_wp2_with (go_at_call 205; refine (HasO.out _).mono ?_; rintro e w8 ⟨rfl, hb⟩; have HN := hid (HN.out.drop hb); clear hb q0 q1 q2 q3 q4 q5 q6 q7 r0 r1 hbel; obtain ⟨⟨q0, q1, q2, q3, q4, q5, q6, q7⟩, r0, r1, hbel⟩ := HN.out)
            go_meet
            case rel => exact ⟨rfl, HN.out⟩
          · go_wp2_with (go_at_call 205; refine (HasO.out _).mono ?_; rintro e w8 ⟨rfl, hb⟩; have HN := hid (HN.out.drop hb); clear hb q0 q1 q2 q3 q4 q5 q6 q7 r0 r1 hbel; obtain ⟨⟨q0, q1, q2, q3, q4, q5, q6, q7⟩, r0, r1, hbel⟩ := HN.out)
            go_meet
            case rel => exact ⟨rfl, HN.out⟩
      case rest =>
        obtain ⟨rfl, hN1⟩ := hcut
        have HN1 := hid hN1
        clear hN1 q0 q1 q2 q3 q4 q5 q6 q7 r0 r1 hbel
        obtain ⟨⟨q0, q1, q2, q3, q4, q5, q6, q7⟩, r0, r1, hbel⟩ := HN1.out
        generalize hb7' : (O && !B5 || !O && (op != 0)) = B7 at *
        have HB7 := hid hb7'
        clear hb7'
        cases B7
        · go_upto_region 9 with fail
          have HN := HN1
          go_cut [67] from 68 to 88 (fun s67 wx => s67 = .bool (decide (m < 0) || decide (m > 2147483647) || !N && (m != 0)) ∧ NdIn w wx w2.heap.size ⟨(j : Int) + 1, op, at_, m, name, arg, exn⟩ p n c kd s)
          case first =>
            by_cases m0 : m < 0
            · have e0 : decide (m < 0) = true := by simpa using m0
              have HB := hid e0
              clear m0
              go_wp2_with fail
              go_meet
              case rel => exact ⟨by rw [HB.out]; rfl, HN.out⟩
            · have e0 : decide (m < 0) = false := by simpa using m0
              have HB := hid e0
              by_cases m1 : m > 2147483647
              · have e1 : decide (m > 2147483647) = true := by simpa using m1
                have HB1 := hid e1
                clear m0 m1
                go_wp2_with fail
                go_meet
                case rel => exact ⟨by rw [HB.out, HB1.out]; rfl, HN.out⟩
              · have e1 : decide (m > 2147483647) = false := by simpa using m1
                have HB1 := hid e1
                clear m0 m1
                cases N
                · by_cases mz : m = 0
                  · have e2 : (m != 0) = false := by simpa using mz
                    have HB2' := hid e2
                    clear mz
                    go_wp2_with (go_at_call 205; refine (HasN.out _).mono ?_; rintro e w8 ⟨rfl, hb⟩; have HN := hid (HN.out.drop hb); clear hb q0 q1 q2 q3 q4 q5 q6 q7 r0 r1 hbel; obtain ⟨⟨q0, q1, q2, q3, q4, q5, q6, q7⟩, r0, r1, hbel⟩ := HN.out)
                    go_meet
                    case rel => exact ⟨by rw [HB.out, HB1.out, HB2'.out]; rfl, HN.out⟩
                  · have e2 : (m != 0) = true := by simpa using mz
                    have HB2' := hid e2
                    clear mz
                    go_wp2_with (go_at_call 205; refine (HasN.out _).mono ?_; rintro e w8 ⟨rfl, hb⟩; have HN := hid (HN.out.drop hb); clear hb q0 q1 q2 q3 q4 q5 q6 q7 r0 r1 hbel; obtain ⟨⟨q0, q1, q2, q3, q4, q5, q6, q7⟩, r0, r1, hbel⟩ := HN.out)
                    go_meet
                    case rel => exact ⟨by rw [HB.out, HB1.out, HB2'.out]; rfl, HN.out⟩
                · go_wp2_with (go_at_call 205; refine (HasN.out _).mono ?_; rintro e w8 ⟨rfl, hb⟩; have HN := hid (HN.out.drop hb); clear hb q0 q1 q2 q3 q4 q5 q6 q7 r0 r1 hbel; obtain ⟨⟨q0, q1, q2, q3, q4, q5, q6, q7⟩, r0, r1, hbel⟩ := HN.out)
                  go_meet
                  case rel => exact ⟨by rw [HB.out, HB1.out]; rfl, HN.out⟩
          case rest =>
            obtain ⟨rfl, hN2⟩ := hcut
            have HN := hid hN2
            clear hN2 q0 q1 q2 q3 q4 q5 q6 q7 r0 r1 hbel
            obtain ⟨⟨q0, q1, q2, q3, q4, q5, q6, q7⟩, r0, r1, hbel⟩ := HN.out
            generalize hb9 : (decide (m < 0) || decide (m > 2147483647) || !N && (m != 0)) = B9 at *
            have HB9 := hid hb9
            clear hb9
            cases B9
            · have HSN := hid (fun (W : World) (hb : Below w.heap.size w W) => shape_field_any (fid := 207) (q := nameB) (fun args w => by kernel_rfl) kd s 109 name hss (says_Name (HV.out.below hb)))
              have HSA := hid (fun (W : World) (hb : Below w.heap.size w W) => shape_field_any (fid := 207) (q := nameB) (fun args w => by kernel_rfl) kd s 97 arg hss (says_Name (HV.out.below hb)))
              have HSE := hid (fun (W : World) (hb : Below w.heap.size w W) => shape_field_any (fid := 174) (q := exnB) (fun args w => by kernel_rfl) kd s 101 exn hss (says_Exn W))
              have HRR := hid (show node4B ⟨(j : Int) + 1, op, at_, m, name, arg, exn⟩ n = (fieldB (hasB s 109) nameB name && fieldB (hasB s 97) nameB arg && fieldB (hasB s 101) exnB exn) by rw [HR.out, HF1.out]; simp)
              generalize fieldB (hasB s 109) nameB name = F1 at *
              generalize fieldB (hasB s 97) nameB arg = F2 at *
              generalize fieldB (hasB s 101) exnB exn = F3 at *
              have HX := HSN
              have HY := HSA
              have HZ := HSE
              go_upto_region 11 with fail
              cases F1
              · go_wp2_with (go_at_call 206; refine (HX.out _ hbel).mono ?_; rintro e w8 ⟨rfl, hb⟩; have HN := hid (HN.out.drop hb); clear hb q0 q1 q2 q3 q4 q5 q6 q7 r0 r1 hbel; obtain ⟨⟨q0, q1, q2, q3, q4, q5, q6, q7⟩, r0, r1, hbel⟩ := HN.out; have HX := HY; have HY := HZ)
                go_ret
                exact ⟨ret_bool (by rw [HRR.out]; rfl), hbel⟩
              · cases F2
                · go_wp2_with (go_at_call 206; refine (HX.out _ hbel).mono ?_; rintro e w8 ⟨rfl, hb⟩; have HN := hid (HN.out.drop hb); clear hb q0 q1 q2 q3 q4 q5 q6 q7 r0 r1 hbel; obtain ⟨⟨q0, q1, q2, q3, q4, q5, q6, q7⟩, r0, r1, hbel⟩ := HN.out; have HX := HY; have HY := HZ)
                  go_ret
                  exact ⟨ret_bool (by rw [HRR.out]; rfl), hbel⟩
                · go_wp2_with (go_at_call 206; refine (HX.out _ hbel).mono ?_; rintro e w8 ⟨rfl, hb⟩; have HN := hid (HN.out.drop hb); clear hb q0 q1 q2 q3 q4 q5 q6 q7 r0 r1 hbel; obtain ⟨⟨q0, q1, q2, q3, q4, q5, q6, q7⟩, r0, r1, hbel⟩ := HN.out; have HX := HY; have HY := HZ)
                  go_ret
                  exact ⟨ret_bool (by rw [HRR.out]; rfl), hbel⟩
            · go_wp2_with fail
              go_ret
              exact ⟨ret_bool (by rw [HR.out]; simp), hbel⟩
        · go_wp2_with fail
          go_ret
          exact ⟨ret_bool (by rw [HR.out, HF1.out]; simp), hbel⟩
    · have f1 : ((n : Int) != kd) = true := by simpa using hnk
      have f2 : decide ((n : Int) = kd) = false := by simpa using hnk
      have HF1 := hid f1
      clear hnk
      go_wp2_with fail
      go_ret
      exact ⟨ret_bool (by rw [HR.out, HF1.out]; simp), hbel⟩
theorem term_node_any (h : HeadV) (hk0 : 0 ≤ h.kind) (hk1 : h.kind ≤ 255) (p : Option Addr) (n c : Nat) (hn : n ≤ 1000000) (w : World) (hv : Vr w) :
    Calls Tryz.prog 169 #[aggTm h p n c] w fun e w' => e = .returned (.bool (node4B h n)) ∧ Below w.heap.size w w' := by
  by_cases hk : h.kind < 1 ∨ 16 < h.kind ∨ h.at_ < 0
  · exact term_node_low h p n c hk0 hk1 w hk
  · obtain ⟨k, op, at_, m, name, arg, exn⟩ := h
    simp only [not_or] at hk
    obtain ⟨j, hj⟩ : ∃ j : Nat, k = (j : Int) + 1 := ⟨(k - 1).toNat, by omega⟩
    subst hj
    exact term_node_high j (by omega) op at_ m name arg exn p n c hn (by omega) w hv
end
section
open Go.RowKit
theorem encAH_len (a : AH) : (encAH a).length = 19 := rfl
theorem encAH_one : ∀ a : AH, ∀ u ∈ encAH a, u.oneCell' = true := by
  intro a u hu
  simp [encAH] at hu
  rcases hu with rfl | rfl | rfl | rfl | rfl | rfl | rfl | rfl | rfl | rfl | rfl | rfl | rfl | rfl | rfl | rfl | rfl | rfl | rfl <;> rfl
abbrev zAT : Value := .agg #[.int .u8 0, .int .u8 0, .int .i64 0, .int .i64 0, .string .empty, .string .empty, .string .empty, .int .i64 0, .slice none 0 0, .slice none 0 0, .int .u8 0, .int .i64 0, .slice none 0 0, .slice none 0 0, .int .u8 0, .int .i64 0, .slice none 0 0, .slice none 0 0, .slice none 0 0]
theorem infoAT : (Tryz.prog.info? 31).map (fun i => (i.zero, i.size, i.bytes)) = some (some zAT, 19, 280) := by kernel_rfl
theorem nodes_length (t : PA) : (Rose.nodes t).length = t.size := by
  refine Rose.ind (P := fun (t : PA) => (Rose.nodes t).length = t.size) (fun a l ih => ?_) t
  rw [Rose.nodes_node, Rose.size_node, List.length_cons, List.length_flatten, List.map_map]
  have : l.map (List.length ∘ Rose.nodes) = l.map Rose.size := List.map_congr_left ih
  rw [this]; omega
def nodesTo (l : List PA) (k : Nat) : List AH := ((l.take k).map Rose.nodes).flatten
theorem nodesTo_step {l : List PA} {k : Nat} {x : PA} (h : l[k]? = some x) : nodesTo l (k + 1) = nodesTo l k ++ Rose.nodes x := by
  unfold nodesTo; rw [take_succ_get h, List.map_append, List.flatten_append]; simp
theorem sizesA_take {l : List PA} {k : Nat} : ((l.take k).map Rose.size).sum ≤ (l.map Rose.size).sum := by
  induction k generalizing l with
  | zero => simp
  | succ k ih => cases l with
    | nil => simp
    | cons y l => have := ih (l := l); simp only [List.take_succ_cons, List.map_cons, List.sum_cons] at this ⊢; omega
theorem nodesTo_length (l : List PA) (k : Nat) : (nodesTo l k).length = ((l.take k).map Rose.size).sum := by
  unfold nodesTo
  rw [List.length_flatten, List.map_map]
  congr 1
  exact List.map_congr_left (fun t _ => nodes_length t)
theorem nodes_app {a : AH} {l : List PA} {k : Nat} {x : PA} (h : l[k]? = some x) : a :: (nodesTo l k ++ Rose.nodes x) = a :: nodesTo l (k + 1) := by rw [nodesTo_step h]
def AllAt (t : PA) (w : World) : Prop := Calls Tryz.prog 26 #[aggT t.head] w fun e w' => (∃ p c, e = .returned (.slice p t.size c) ∧ OwnE encAH 19 w' w.heap.size 31 (.slice p t.size c) t.size (Rose.nodes t)) ∧ Below w.heap.size w w'
set_option maxHeartbeats 4000000 in
theorem ref13_All_of {a : AH} {l : List PA} {w : World} (hN : NodeA w a l) (hs : (Rose.node a l).size ≤ 1000) (hf : ∀ x ∈ l, ∀ W, Below w.heap.size w W → AllAt x W) : AllAt (.node a l) w := by
  have HN := hid hN
  have HF := hid hf
  have HS := hid hs
  have hkm := hN.own.kmax
  have HA := hid (boxA_new w a)
  have HBX := hid ((Below.refl w.heap.size w).alloc (Nat.le_refl _) (boxA a))
  have HO0 := hid (own_made encAH_len (w.alloc (boxA a)) (w.heap.size + 1) 31 [a] 1 #[.int .u8 a.kind, .int .u8 a.op, .int .i64 a.at_, .int .i64 a.n, .string a.name, .string a.arg, .string a.exn, .int .i64 a.rho, .slice a.rp a.rn a.rc, .slice a.ep a.en a.ec, .int .u8 a.ty.head.kind, .int .i64 a.ty.head.rho, .slice a.ty.head.ep a.ty.head.en a.ty.head.ec, .slice a.ty.head.kp a.ty.head.kn a.ty.head.kc, .int .u8 a.res.head.kind, .int .i64 a.res.head.rho, .slice a.res.head.ep a.res.head.en a.res.head.ec, .slice a.res.head.kp a.res.head.kn a.res.head.kc, .slice a.kp a.kn a.kc] rfl rfl (by decide) (by simp))
  show Calls _ _ #[aggT a] w _
  clear hN hf hs
  go_enter Tryz.func26, Tryz.ntmps26
  go_wp2_with (refine wpList_load_row rfl 31 _ rfl w.heap.size rfl 31 _ (0, 0) _ (HA.out.blk) Tryz.underlying31 rfl (by kernel_rfl) ?_)
  have HA2 := hid (HA.out.below ((Below.refl (w.alloc (boxA a)).heap.size (w.alloc (boxA a))).alloc (Nat.le_refl _) (.cells #[.int .u8 a.kind, .int .u8 a.op, .int .i64 a.at_, .int .i64 a.n, .string a.name, .string a.arg, .string a.exn, .int .i64 a.rho, .slice a.rp a.rn a.rc, .slice a.ep a.en a.ec, .int .u8 a.ty.head.kind, .int .i64 a.ty.head.rho, .slice a.ty.head.ep a.ty.head.en a.ty.head.ec, .slice a.ty.head.kp a.ty.head.kn a.ty.head.kc, .int .u8 a.res.head.kind, .int .i64 a.res.head.rho, .slice a.res.head.ep a.res.head.en a.res.head.ec, .slice a.res.head.kp a.res.head.kn a.res.head.kc, .slice a.kp a.kn a.kc] 31)))
  have HB2 := hid (HBX.out.alloc HBX.out.size (.cells #[.int .u8 a.kind, .int .u8 a.op, .int .i64 a.at_, .int .i64 a.n, .string a.name, .string a.arg, .string a.exn, .int .i64 a.rho, .slice a.rp a.rn a.rc, .slice a.ep a.en a.ec, .int .u8 a.ty.head.kind, .int .i64 a.ty.head.rho, .slice a.ty.head.ep a.ty.head.en a.ty.head.ec, .slice a.ty.head.kp a.ty.head.kn a.ty.head.kc, .int .u8 a.res.head.kind, .int .i64 a.res.head.rho, .slice a.res.head.ep a.res.head.en a.res.head.ec, .slice a.res.head.kp a.res.head.kn a.res.head.kc, .slice a.kp a.kn a.kc] 31))
  have hsz : ((w.alloc (boxA a)).alloc (.cells #[.int .u8 a.kind, .int .u8 a.op, .int .i64 a.at_, .int .i64 a.n, .string a.name, .string a.arg, .string a.exn, .int .i64 a.rho, .slice a.rp a.rn a.rc, .slice a.ep a.en a.ec, .int .u8 a.ty.head.kind, .int .i64 a.ty.head.rho, .slice a.ty.head.ep a.ty.head.en a.ty.head.ec, .slice a.ty.head.kp a.ty.head.kn a.ty.head.kc, .int .u8 a.res.head.kind, .int .i64 a.res.head.rho, .slice a.res.head.ep a.res.head.en a.res.head.ec, .slice a.res.head.kp a.res.head.kn a.res.head.kc, .slice a.kp a.kn a.kc] 31)).heap.size = w.heap.size + 2 := by simp
  have hs1 : (w.alloc (boxA a)).heap.size = w.heap.size + 1 := by simp
  rw [hs1] at HO0
  generalize (w.alloc (.cells #[.int .u8 a.kind, .int .u8 a.op, .int .i64 a.at_, .int .i64 a.n, .string a.name, .string a.arg, .string a.exn, .int .i64 a.rho, .slice a.rp a.rn a.rc, .slice a.ep a.en a.ec, .int .u8 a.ty.head.kind, .int .i64 a.ty.head.rho, .slice a.ty.head.ep a.ty.head.en a.ty.head.ec, .slice a.ty.head.kp a.ty.head.kn a.ty.head.kc, .int .u8 a.res.head.kind, .int .i64 a.res.head.rho, .slice a.res.head.ep a.res.head.en a.res.head.ec, .slice a.res.head.kp a.res.head.kn a.res.head.kc, .slice a.kp a.kn a.kc] 31)).alloc (.cells #[.int .u8 a.kind, .int .u8 a.op, .int .i64 a.at_, .int .i64 a.n, .string a.name, .string a.arg, .string a.exn, .int .i64 a.rho, .slice a.rp a.rn a.rc, .slice a.ep a.en a.ec, .int .u8 a.ty.head.kind, .int .i64 a.ty.head.rho, .slice a.ty.head.ep a.ty.head.en a.ty.head.ec, .slice a.ty.head.kp a.ty.head.kn a.ty.head.kc, .int .u8 a.res.head.kind, .int .i64 a.res.head.rho, .slice a.res.head.ep a.res.head.en a.res.head.ec, .slice a.res.head.kp a.res.head.kn a.res.head.kc, .slice a.kp a.kn a.kc] 31) = W2 at *
  clear hs1
  go_loopw [3, 10] (fun u i wr => ∃ (k : Nat) (p : Option Addr) (c : Nat), k ≤ a.kn ∧ i = .int .i64 k ∧ u = .slice p (1 + (nodesTo l k).length) c ∧ OwnE encAH 19 wr (w.heap.size + 1) 31 u (1 + (nodesTo l k).length) (a :: nodesTo l k) ∧ BoxA wr w.heap.size a ∧ Below w.heap.size w wr) (fun _ i _ => a.kn - (intOf i).toNat)
  case atStart => exact ⟨0, some ⟨w.heap.size + 1, 0, none⟩, 1, by omega, rfl, rfl, HO0.out, HA2.out, HB2.out⟩
  case round =>
    obtain ⟨k, p, c, hk, rfl, rfl, hown, hbox, hb⟩ := hrel
    have HOWN := hid hown
    have HBO := hid hbox
    have HB := hid hb
    clear hown hbox hb
    have q18 : wr.cell? ⟨w.heap.size, 18, none⟩ = some (.slice a.kp a.kn a.kc) := HBO.out.c 18 _ rfl
    by_cases hlt : k < a.kn
    · obtain ⟨x, hx⟩ := (HN.out.rowT).at (j := k) hlt
      have HE := hid hx
      obtain ⟨b, o, hbo, hbl, hcs⟩ := (HN.out.rowT.below HB.out).kid hx
      have HCS := hid hcs
      rw [hbo] at q18
      clear hx hbl hbo hcs
      have HLN := hid (show 1 + (nodesTo l k).length + x.size ≤ 1000 by
        have h1 := congrArg List.length (nodesTo_step HE.out)
        rw [List.length_append, nodes_length, nodesTo_length l (k + 1)] at h1
        have h2 := sizesA_take (l := l) (k := k + 1)
        have h3 := HS.out
        rw [Rose.size_node] at h3
        omega)
      go_wp2_with (refine wpList_load_mid rfl 31 _ rfl b (o + k * 19) rfl (encAH x.head) _ HCS.out.c Tryz.underlying31 rfl (by kernel_rfl) ?_)
      refine Calls.mono (HF.out x (List.mem_of_getElem? HE.out) wr HB.out) ?_
      rintro e w2 ⟨⟨p2, c2, rfl, hown2⟩, hb⟩
      have HO1 := hid (HOWN.out.below hb)
      have HB1 := hid (HB.out.trans (hb.mono HB.out.size))
      have HBO1 := hid (HBO.out.below hb)
      obtain ⟨q, cc, hv, hrow⟩ := hown2.isRow encAH_len (by omega)
      cases hv
      have HR2 := hid hrow
      have hlw : w.heap.size + 1 ≤ w2.heap.size := by have := (Array.getElem?_eq_some_iff.1 HBO1.out.blk).1; omega
      have HLW := hid hlw
      clear hown2 hrow hb hlw q18
      go_wp2_with (at_builtin; refine wpList_appendR rfl _ _ 29 rfl (w.heap.size + 1) 31 zAT 19 280 Tryz.underlying29 infoAT rfl (by decide) encAH encAH_len encAH_one (Rose.nodes x) (a :: nodesTo l k) (1 + (nodesTo l k).length) _ HO1.out _ x.size _ rfl rfl HR2.out.len HR2.out.nil HR2.out.row ?c1 ?c2 ?c3 ?_)
      case c1 => have := HLN.out; omega
      case c2 => have := HLN.out; omega
      case c3 => exact HLW.out
      · intro v3 w3 hown3 hg3
        obtain ⟨p3, c3, rfl, hrow3⟩ := OwnE.isRow encAH_len (by omega) hown3
        have hfr : ∀ g, (Value.slice p (1 + (nodesTo l k).length) c).ownBlock = some g → w.heap.size + 1 ≤ g := fun g hg => (World.ownsRow.lt HO1.out g hg).1
        have HB3 := hid (HB1.out.grown hg3 HB1.out.size (fun g hg => by have := hfr g hg; omega))
        have HBO3 : Hid (BoxA w3 w.heap.size a) := ⟨by rw [hg3.block w.heap.size (Array.getElem?_eq_some_iff.1 HBO1.out.blk).1 (fun e => by have := hfr _ e.symm; omega)]; exact HBO1.out.blk⟩
        have HEQ : Hid (1 + (nodesTo l k).length + x.size = 1 + (nodesTo l (k + 1)).length) := by show _ = _; rw [nodesTo_step HE.out, List.length_append, nodes_length]; omega
        rw [nodes_app HE.out, HEQ.out] at hown3
        have HO3 := hid hown3
        clear hown3 hg3 hfr hrow3
        go_wp2_with fail
        go_roundw
        case rel => exact ⟨k + 1, p3, c3, by omega, by go_num, by rw [HEQ.out], by rw [HEQ.out]; exact HO3.out, HBO3.out, HB3.out⟩
        case measure => simp [intOf]; omega
    · have hkn : k = a.kn := by omega
      have hfull : l.take k = l := take_full (by rw [hkn, HN.out.kids.len]; exact Nat.le_refl _)
      have HSZ : Hid (1 + (nodesTo l k).length = (Rose.node a l).size) := by show _ = _; rw [nodesTo_length, hfull, Rose.size_node]
      have HND : Hid (a :: nodesTo l k = Rose.nodes (Rose.node a l)) := by show _ = _; rw [Rose.nodes_node]; unfold nodesTo; rw [hfull]
      clear hkn hfull
      go_wp2_with fail
      go_ret
      refine ⟨⟨p, c, by rw [← HSZ.out]; rfl, ?_⟩, HB.out⟩
      have h := HOWN.out
      rw [HND.out, HSZ.out] at h
      exact h.lower (Nat.le_succ _)
theorem kidsA_le (l : List PA) : l.length ≤ (l.map Rose.size).sum := by
  induction l with
  | nil => simp
  | cons x l ih => have := Rose.size_pos x; simp only [List.length_cons, List.map_cons, List.sum_cons]; omega
theorem allAt_any (t : PA) : ∀ w, LA.lies w t → t.size ≤ 1000 → AllAt t w := by
  refine Rose.ind (P := fun (t : PA) => ∀ w, LA.lies w t → t.size ≤ 1000 → AllAt t w) (fun a l ih => ?_) t
  intro w hl hs
  have HN := nodeA hl
  refine ref13_All_of HN hs (fun x hx W hW => ih x hx W (LA.lies_below hW x (HN.each x hx)) ?_)
  have h1 := hs
  rw [Rose.size_node] at h1
  have h2 : x.size ≤ (l.map Rose.size).sum := le_sum_of_mem (List.mem_map_of_mem hx)
  omega
end
end Go.Proofs.YtkdjnegfnhldpaaGreatDoor
