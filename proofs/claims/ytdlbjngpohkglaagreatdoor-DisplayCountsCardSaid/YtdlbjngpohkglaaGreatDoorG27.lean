/- Part 27 of the texts: Tn. -/
import Derived.Test.YtdlbjngpohkglaaGreatDoorG23
import Derived.Test.YtdlbjngpohkglaaGreatDoorG03
import Derived.Lib.ConvBytes
section
set_option linter.unusedVariables false
set_option maxRecDepth 100000
set_option linter.unusedSimpArgs false
namespace Go.Proofs.YtdlbjngpohkglaaGreatDoor
open Go.RowKit

set_option maxHeartbeats 1000000 in
theorem b_index_any {p : Option Addr} {n cap : Nat} {l : List Int} {w : World} (hn : l.length = n) (hm : n ≤ 1000000) (hr : RowE encU 1 w p l) (x : Int) :
    Calls Tryz.prog 177 #[.slice p n cap, .int .u8 x] w fun e w' => (∃ r : Int, e = .returned (.int .i64 r) ∧ decide (r ≥ 0) = inB l x) ∧ w = w' := by
  have HR := Lib.hid hr
  have HN := Lib.hid hn
  clear hr hn
  go_enter Tryz.func177, Tryz.ntmps177
  go_wp2_with fail
  go_loop [5, 8] (fun _ i => ∃ j : Nat, j ≤ n ∧ i = .int .i64 j ∧ (l.take j).any (· == x) = false) (fun _ i => n - (intOf i).toNat)
  case atStart => exact ⟨0, by omega, rfl, by simp⟩
  case round =>
    obtain ⟨j, hj, rfl, hno⟩ := hrel
    have HNO := Lib.hid hno
    clear hno
    by_cases hlt : j < n
    · obtain ⟨y, hy⟩ := get_of_lt (l := l) (j := j) (by rw [HN.out]; exact hlt)
      have HE := Lib.hid hy
      obtain ⟨b, o, rfl, d0⟩ := HR.out.u8 hy
      clear hy
      cases hq : (x == y)
      · have HQ := Lib.hid hq
        go_wp2_with fail
        go_round
        case rel => exact ⟨j + 1, by omega, by go_num, by rw [any_take_get HE.out, HNO.out, BEq.comm, HQ.out]; rfl⟩
        case measure => simp [intOf]; omega
      · have HQ := Lib.hid hq
        go_wp2_with fail
        go_ret
        exact ⟨⟨j, rfl, by rw [show inB l x = true from any_get HE.out (by rw [BEq.comm]; exact HQ.out)]; simp⟩, rfl⟩
    · go_wp2_with fail
      go_ret
      have h := HNO.out
      rw [take_full (by rw [HN.out]; omega)] at h
      exact ⟨⟨-1, rfl, by rw [show inB l x = false from h]; decide⟩, rfl⟩
theorem b_contains_any {p : Option Addr} {n cap : Nat} {l : List Int} {w : World} (hn : l.length = n) (hm : n ≤ 1000000) (hr : RowE encU 1 w p l) (x : Int) :
    Calls Tryz.prog 151 #[.slice p n cap, .int .u8 x] w fun e w' => e = .returned (.bool (inB l x)) ∧ w = w' := by
  have HC := Lib.hid (b_index_any (cap := cap) hn hm hr x)
  clear hr hn
  go_enter Tryz.func151, Tryz.ntmps151
  go_wp2_with fail
  refine HC.out.mono ?_
  rintro e w1 ⟨⟨r, rfl, hr⟩, rfl⟩
  have HR := Lib.hid hr
  clear hr
  go_wp2_with fail
  all_goals (try go_ret)
  all_goals exact ⟨ret_bool (by rw [← HR.out]), rfl⟩
/-- the bytes of a text, as numbers -/
def bytesU (s : ByteArray) : List Int := s.data.toList.map (fun b => (b.toNat : Int))
def hasB (s : ByteArray) (x : Int) : Bool := inB (bytesU s) x
theorem bytes_row (w : World) (e : TypeId) (s : ByteArray) : RowE encU 1 (Lib.bytesWorld w e s) (some ⟨w.heap.size, 0, none⟩) (bytesU s) := by
  refine .inr ⟨_, 0, rfl, by rw [Lib.bytesWorld_size]; exact Nat.lt_succ_self _, fun j x hx i v hv => ?_⟩
  have hj : j < s.size := by
    have := (List.getElem?_eq_some_iff.1 hx).1
    simpa [bytesU] using this
  have hi : i = 0 := by
    cases i with
    | zero => rfl
    | succ i => simp [encU] at hv
  subst hi
  have hv' : v = .int .u8 x := by simpa [encU] using hv.symm
  have := Lib.bytesWorld_cell w e s j hj
  rw [hv']
  simp only [Nat.zero_add, Nat.mul_one, Nat.add_zero]
  rw [this]
  have hx' : ((s.data.toList.getD j 0).toNat : Int) = x := by
    have h2 : (bytesU s)[j]? = some ((s.data.toList.getD j 0).toNat : Int) := by
      unfold bytesU
      rw [List.getElem?_map, List.getD, List.getElem?_eq_getElem (by simpa using hj)]
      simp
    rw [h2] at hx
    exact Option.some.inj hx
  rw [hx']
theorem below_bytes (w : World) (e : TypeId) (s : ByteArray) : Below w.heap.size w (Lib.bytesWorld w e s) :=
  ⟨rfl, rfl, rfl, by rw [Lib.bytesWorld_size]; omega, fun j hj => Lib.bytesWorld_at_old w e s j hj⟩
set_option maxHeartbeats 1000000 in
theorem shape_has_any (k : Int) (s : ByteArray) (x : Int) (hs : s.size ≤ 1000) (w : World) :
    Calls Tryz.prog 127 #[.agg #[.int .i64 k, .string s], .int .u8 x] w fun e w' => e = .returned (.bool (hasB s x)) ∧ Below w.heap.size w w' := by
  have HB := Lib.hid (((Below.refl w.heap.size w).alloc (Nat.le_refl _) (.cells #[.int .i64 k, .string s] 145)))
  have hl : (bytesU s).length = s.size := by simp [bytesU]
  go_enter Tryz.func127, Tryz.ntmps127
  have hcv := Lib.run_convert_string_bytes (P := Tryz.prog) (w.alloc (.cells #[.int .i64 k, .string s] 145)) 9 55 5 s Tryz.underlying9 Tryz.underlying55 Tryz.underlying5
  have HR := Lib.hid (bytes_row (w.alloc (.cells #[.int .i64 k, .string s] 145)) 5 s)
  have HB2 := Lib.hid (HB.out.trans ((below_bytes (w.alloc (.cells #[.int .i64 k, .string s] 145)) 5 s).mono HB.out.size))
  generalize Lib.bytesWorld (w.alloc (.cells #[.int .i64 k, .string s] 145)) 5 s = w2 at *
  generalize grownCap (w.alloc (.cells #[.int .i64 k, .string s] 145)) s.size 0 5 = cp at *
  simp only [World.size_alloc] at hcv HR
  go_wp2_with fail
  refine (b_contains_any hl (by omega) HR.out x).mono ?_
  rintro e w3 ⟨rfl, rfl⟩
  go_wp2_with fail
  go_ret
  exact ⟨rfl, HB2.out⟩
/-- what a function value says of one text -/
def Says (fid : FuncId) (q : ByteArray → Bool) (w : World) : Prop := ∀ (s : ByteArray) (W : World) (g : Nat), Below w.heap.size w W → RowE encS 1 W (some ⟨g, 0, none⟩) [s] → Calls Tryz.prog fid #[.slice (some ⟨g, 0, none⟩) 1 1] W fun e w' => e = .returned (.bool (q s)) ∧ Below W.heap.size W w'
theorem Says.below {fid : FuncId} {q : ByteArray → Bool} {w W : World} (h : Says fid q w) (hb : Below w.heap.size w W) : Says fid q W := fun s W' g hb' hr => h s W' g (hb.trans (hb'.mono hb.size)) hr
theorem says_Name {w : World} (hv : Vr w) : Says 129 nameB w := fun s W g hb hr => by
  have := words_Name_any (hv.below hb) (some ⟨g, 0, none⟩) 1 1 [s] rfl (by decide) hr
  simpa using this
theorem says_Exn (w : World) : Says 108 exnB w := fun s W g hb hr => by
  have := words_Exn_any (some ⟨g, 0, none⟩) 1 1 [s] W rfl (by decide) hr
  simpa using this
def fieldB (has : Bool) (q : ByteArray → Bool) (t : ByteArray) : Bool := if has then q t else t.toList.isEmpty
set_option maxHeartbeats 2000000 in
theorem shape_field_any {fid : FuncId} {q : ByteArray → Bool} (eg : ∀ args w, (callFunc fid args).run Tryz.prog w = .ok (.enter fid args) w) (k : Int) (s : ByteArray) (x : Int) (t : ByteArray) (hs : s.size ≤ 1000) {w : World} (hq : Says fid q w) :
    Calls Tryz.prog 128 #[.agg #[.int .i64 k, .string s], .int .u8 x, .string t, .func (.func fid) #[] #[]] w fun e w' => e = .returned (.bool (fieldB (hasB s x) q t)) ∧ Below w.heap.size w w' := by
  have HB := Lib.hid (((Below.refl w.heap.size w).alloc (Nat.le_refl _) (.cells #[.int .i64 k, .string s] 145)))
  have HQ := Lib.hid (hq.below HB.out)
  clear hq
  go_enter Tryz.func128, Tryz.ntmps128
  cases hh : hasB s x
  · have HH := Lib.hid hh
    have HC := Lib.hid (shape_has_any k s x hs (w.alloc (.cells #[.int .i64 k, .string s] 145)))
    rw [hh] at HC
    clear hh
    go_wp2_with (go_at_call 127; refine HC.out.mono ?_; rintro e w2 ⟨rfl, hb⟩; have HB2 := Lib.hid (HB.out.trans (hb.mono HB.out.size)); clear hb)
    go_ret
    exact ⟨ret_bool rfl, HB2.out⟩
  · have HC := Lib.hid (shape_has_any k s x hs (w.alloc (.cells #[.int .i64 k, .string s] 145)))
    rw [hh] at HC
    clear hh
    go_wp2_with (first
      | (go_at_call 127; refine HC.out.mono ?_; rintro e w2 ⟨rfl, hb⟩; have HB2 := Lib.hid (HB.out.trans (hb.mono HB.out.size)); have HQ2 := Lib.hid (HQ.out.below hb); clear hb)
      | (go_at_fn fid; refine (HQ2.out t _ _ ((Below.refl _ _).alloc (Nat.le_refl _) _) (RowE.newAt encS_len _ [t] _ (by simp [encS]) _ _ _ rfl)).mono ?_; rintro e w3 ⟨rfl, hb⟩; have HB3 := Lib.hid (HB2.out.trans ((((Below.refl _ w2).alloc (Nat.le_refl _) _).trans (hb.mono (by simp))).mono HB2.out.size)); clear hb))
    go_ret
    exact ⟨ret_bool rfl, HB3.out⟩
end Go.Proofs.YtdlbjngpohkglaaGreatDoor
end
