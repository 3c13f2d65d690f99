/- rtype.Size; enclaveref12.Size. -/
import Derived.Test.YtekhblomdlehhaaGreatDoorRT
set_option linter.unusedVariables false
set_option maxRecDepth 100000
set_option linter.unusedSimpArgs false
namespace Go.Proofs.YtekhblomdlehhaaGreatDoor
open Go.RowKit

/-- how many nodes types have -/
def sizes (l : List PT) : Nat := (l.map Rose.size).sum
theorem sizes_take {l : List PT} {k : Nat} {x : PT} (h : l[k]? = some x) : sizes (l.take (k + 1)) = sizes (l.take k) + x.size ∧ sizes (l.take k) + x.size ≤ sizes l := sum_take_get Rose.size l k x h
theorem sizes_kids (t : PT) : sizes t.kids + 1 = t.size := by
  obtain ⟨a, l⟩ := t
  rw [Rose.size_node]
  show sizes l + 1 = _
  unfold sizes; omega
/-- what Size of a type's kids answers -/
def SizeAt (x : PT) (W : World) : Prop := Calls Tryz.prog 33 #[.slice x.head.kp x.head.kn x.head.kc] W fun e w' => e = .returned (.int .i64 (sizes x.kids)) ∧ Below W.heap.size W w'

set_option maxHeartbeats 1000000 in
theorem rtype_Size_of {p : Option Addr} {n cap : Nat} {l : List PT} {w : World} (hr : RowT w p n cap l) (hs : sizes l ≤ 1000000) (hf : ∀ x ∈ l, ∀ W, Below w.heap.size w W → SizeAt x W) :
    Calls Tryz.prog 33 #[.slice p n cap] w fun e w' => e = .returned (.int .i64 (sizes l)) ∧ Below w.heap.size w w' := by
  have hm := hr.row.max
  have HR := Lib.hid hr
  have HF := Lib.hid hf
  have HS := Lib.hid hs
  clear hr hf hs
  go_enter Tryz.func33, Tryz.ntmps33
  go_wp2_with fail
  go_loopw [3, 5, 8] (fun s _ i wr => ∃ k S : Nat, k ≤ n ∧ i = .int .i64 k ∧ sizes (l.take k) = S ∧ S ≤ 1000000 ∧ s = .int .i64 S ∧ Below w.heap.size w wr) (fun _ _ i _ => n - (intOf i).toNat)
  case atStart => exact ⟨0, 0, by omega, rfl, rfl, by omega, rfl, Below.refl _ _⟩
  case round =>
    obtain ⟨k, S, hk, rfl, hS, hS1, rfl, hb⟩ := hrel
    have HSk := Lib.hid hS
    have HB := Lib.hid hb
    clear hS hb
    by_cases hlt : k < n
    · obtain ⟨x, hx⟩ := HR.out.at (j := k) hlt
      have HE := Lib.hid hx
      obtain ⟨b, o, rfl, hbl, d0, d1, d2, d3⟩ := (HR.out.below HB.out).kid hx
      have HST := Lib.hid (sizes_take hx)
      have HSK := Lib.hid (sizes_kids x)
      have hb1 : S + x.size ≤ 1000000 := by have := HST.out.2; have := HS.out; have := HSk.out; omega
      have hb2 : sizes x.kids ≤ 1000000 := by have := HSK.out; omega
      have hwr := HB.out.size
      clear hx hbl
      go_wp2_with fail
      refine (HF.out x (List.mem_of_getElem? HE.out) _ (HB.out.alloc hwr _)).mono ?_
      rintro e w1 ⟨rfl, hb⟩
      have HB1 := Lib.hid ((HB.out.alloc hwr (.cells #[.int .u8 x.head.kind, .int .i64 x.head.rho, .slice x.head.ep x.head.en x.head.ec, .slice x.head.kp x.head.kn x.head.kc] 47)).trans (hb.mono (by simp; omega)))
      clear hb d0 d1 d2 d3
      generalize hz : sizes x.kids = z at *
      have hz3 : S + z ≤ 1000000 := by have := HSK.out; omega
      have HSK2 : Hid (z + 1 = x.size) := HSK.out
      have hzz := Lib.hid hz
      clear hz
      go_wp2_with fail
      go_roundw
      case rel => exact ⟨k + 1, S + x.size, by omega, by go_num, by have := HST.out.1; have := HSk.out; omega, hb1, by have := HSK2.out; rw [show ((S + x.size : Nat) : Int) = (S : Int) + ((1 : Int) + (z : Int)) by omega], HB1.out⟩
      case measure => simp [intOf]; omega
    · have hkn : k = n := by omega
      subst hkn
      go_wp2_with fail
      go_ret
      have h := HSk.out
      rw [take_full (by rw [HR.out.row.len]; omega)] at h
      subst h
      exact ⟨rfl, HB.out⟩
theorem sizeAt_any (t : PT) : ∀ w, LR.lies w t → t.size ≤ 1000000 → SizeAt t w := by
  refine Rose.ind (P := fun (t : PT) => ∀ w, LR.lies w t → t.size ≤ 1000000 → SizeAt t w) (fun a l ih => ?_) t
  intro w hl hs
  have HN := nodeIn hl
  have hk : sizes l + 1 = (Rose.node a l).size := sizes_kids (.node a l)
  exact rtype_Size_of (l := l) HN.rowT (by omega) (fun x hx W hW => ih x hx W (LR.lies_below hW x (HN.each x hx)) (by
    have h2 : x.size ≤ sizes l := le_sum_of_mem (List.mem_map_of_mem hx)
    omega))
theorem rtype_Size_any {p : Option Addr} {n cap : Nat} {l : List PT} {w : World} (hr : RowT w p n cap l) (hs : sizes l ≤ 1000000) :
    Calls Tryz.prog 33 #[.slice p n cap] w fun e w' => e = .returned (.int .i64 (sizes l)) ∧ Below w.heap.size w w' :=
  rtype_Size_of hr hs (fun x hx W hW => sizeAt_any x W (LR.lies_below hW x (hr.each x hx)) (by
    have : x.size ≤ sizes l := le_sum_of_mem (List.mem_map_of_mem hx)
    omega))

set_option maxHeartbeats 1000000 in
theorem ref_Size12_any (t : PT) : ∀ w, LR.lies w t → t.size ≤ 1000000 → Calls Tryz.prog 35 #[aggR t.head] w fun e w' => e = .returned (.int .i64 t.size) ∧ Below w.heap.size w w' := by
  refine Rose.ind (P := fun (t : PT) => ∀ w, LR.lies w t → t.size ≤ 1000000 → Calls Tryz.prog 35 #[aggR t.head] w fun e w' => e = .returned (.int .i64 t.size) ∧ Below w.heap.size w w') (fun a l ih => ?_) t
  intro w hl hs
  have HN := Lib.hid (nodeIn hl)
  have IH := Lib.hid ih
  have HSK := Lib.hid (sizes_kids (.node a l))
  change Hid (sizes l + 1 = (Rose.node a l).size) at HSK
  generalize hz : (Rose.node a l).size = z at *
  have HZ := Lib.hid hz
  have hkm := HN.out.own.kmax
  have hc3 : (w.alloc (.cells #[.int .u8 a.kind, .int .i64 a.rho, .slice a.ep a.en a.ec, .slice a.kp a.kn a.kc] 47)).cell? ⟨w.heap.size, 3, none⟩ = some (.slice a.kp a.kn a.kc) := by rw [cell_new]; rfl
  have HBX := Lib.hid ((Below.refl w.heap.size w).alloc (Nat.le_refl _) (.cells #[.int .u8 a.kind, .int .i64 a.rho, .slice a.ep a.en a.ec, .slice a.kp a.kn a.kc] 47))
  have HNW := Lib.hid (HN.out.alloc (.cells #[.int .u8 a.kind, .int .i64 a.rho, .slice a.ep a.en a.ec, .slice a.kp a.kn a.kc] 47))
  show Calls _ _ #[aggR a] w _
  clear hl ih hz
  obtain ⟨kd, rr, ep, en, ec, eff, kp, kn, kc⟩ := a
  simp only at hkm hc3 HBX HNW
  go_enter Tryz.func35, Tryz.ntmps35
  go_wp2_with fail
  generalize w.alloc (.cells #[.int .u8 kd, .int .i64 rr, .slice ep en ec, .slice kp kn kc] 47) = W at *
  have HC3 : Hid (∀ wr, Below W.heap.size W wr → wr.cell? ⟨w.heap.size, 3, none⟩ = some (.slice kp kn kc)) := fun wr hb => by rw [hb.cell (cell_block hc3)]; exact hc3
  clear hc3
  go_loopw [3, 4, 8] (fun s _ i wr => ∃ k S : Nat, k ≤ kn ∧ i = .int .i64 k ∧ sizes (l.take k) + 1 = S ∧ S ≤ 1000000 ∧ s = .int .i64 S ∧ Below W.heap.size W wr) (fun _ _ i _ => kn - (intOf i).toNat)
  case atStart => exact ⟨0, 1, by omega, rfl, rfl, by omega, rfl, Below.refl _ _⟩
  case round =>
    obtain ⟨k, S, hk, rfl, hS, hS1, rfl, hb⟩ := hrel
    have HSk := Lib.hid hS
    have HB := Lib.hid hb
    clear hS hb
    have hc3 := HC3.out wr HB.out
    by_cases hlt : k < kn
    · obtain ⟨x, hx⟩ := HNW.out.rowT.at (j := k) hlt
      have HE := Lib.hid hx
      obtain ⟨b, o, hbo, hbl, d0, d1, d2, d3⟩ := (HNW.out.rowT.below HB.out).kid hx
      simp only at hbo
      subst hbo
      have HX := Lib.hid ((HNW.out.rowT.below HB.out).lies hx)
      have HST := Lib.hid (sizes_take hx)
      have hb1 : S + x.size ≤ 1000000 := by have := HST.out.2; have := HSK.out; have := HSk.out; omega
      clear hx hbl
      go_wp2_with fail
      refine (IH.out x (List.mem_of_getElem? HE.out) wr HX.out (by omega)).mono ?_
      rintro e w1 ⟨rfl, hb⟩
      have HB1 := Lib.hid (HB.out.trans (hb.mono HB.out.size))
      clear hb d0 d1 d2 d3 hc3
      generalize hxz : x.size = xz at *
      have HXZ := Lib.hid hxz
      clear hxz
      go_wp2_with fail
      go_roundw
      case rel => exact ⟨k + 1, S + xz, by omega, by go_num, by have := HST.out.1; have := HSk.out; omega, hb1, by go_num, HB1.out⟩
      case measure => simp [intOf]; omega
    · have hkn : k = kn := by omega
      subst hkn
      go_wp2_with fail
      go_ret
      have h := HSk.out
      rw [take_full (by have := HNW.out.kids.len; simp only at this; omega)] at h
      have hz : S = z := by have := HSK.out; omega
      subst hz
      exact ⟨rfl, HBX.out.trans (HB.out.mono HBX.out.size)⟩
end Go.Proofs.YtekhblomdlehhaaGreatDoor
