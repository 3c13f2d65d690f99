/- Part 48 of the texts: Rf, Rg, Rx, Ql, Rx1. -/
import Derived.Test.YtdlbjngpohkglaaGreatDoorG43
import Derived.Test.YtdlbjngpohkglaaGreatDoorG19
import Derived.Test.YtdlbjngpohkglaaGreatDoorG10
import Derived.Test.YtdlbjngpohkglaaGreatDoorG26
import Derived.Test.YtdlbjngpohkglaaGreatDoorG40
import Derived.Test.YtdlbjngpohkglaaGreatDoorG38
import Derived.Test.YtdlbjngpohkglaaGreatDoorG08
import Derived.Deep.MidRow
import Derived.Deep.Quiet
import Derived.Test.YtdlbjngpohkglaaGreatDoorG31
section
set_option linter.unusedVariables false
set_option maxRecDepth 100000
set_option linter.unusedSimpArgs false
namespace Go.Proofs.YtdlbjngpohkglaaGreatDoor
open Go.RowKit

theorem ref14_num {r : Int} (h0 : 0 ≤ r) (h1 : r ≤ 9223372036854775807) (w : World) : Calls Tryz.prog 29 #[.int .i64 r] w fun e w' => e = .returned (.string (decB r)) ∧ Below w.heap.size w w' := by
  have HC := Lib.hid (fun W => ref_Digits_pos h0 h1 W)
  clear h0 h1
  go_enter Tryz.func29, Tryz.ntmps29
  go_wp2_with fail
  refine (HC.out _).mono ?_
  rintro e w1 ⟨rfl, hb⟩
  have HB := Lib.hid hb
  clear hb
  go_wp2_with fail
  go_ret
  exact ⟨rfl, HB.out⟩
/-- the text of regions, so far -/
def rhS (l : List Int) : ByteArray := l.foldl (fun s r => s ++ ⟨#[32]⟩ ++ decB r) ⟨#[32, 91]⟩
theorem rhS_take {l : List Int} {k : Nat} {r : Int} (h : l[k]? = some r) : rhS (l.take (k + 1)) = rhS (l.take k) ++ ⟨#[32]⟩ ++ decB r := by
  unfold rhS
  rw [take_succ_get h, List.foldl_append]; rfl
theorem rhS_all : ∀ (l : List Int) (s x : ByteArray), l.foldl (fun s r => s ++ ⟨#[32]⟩ ++ decB r) s ++ (⟨#[32]⟩ ++ x) = s ++ (⟨#[32]⟩ ++ joinB (l.map decB ++ [x]))
  | [], s, x => by simp [joinB_one]
  | r :: l, s, x => by
    rw [List.foldl_cons, rhS_all l, List.map_cons, List.cons_append, joinB_cons _ _ (by simp)]
    simp only [ByteArray.append_assoc]
/-- the text of regions -/
def rhT (a : AH) : ByteArray := ⟨#[32]⟩ ++ joinB (rhosP a)
theorem rhT_eq (a : AH) : rhS a.rhos ++ ⟨#[32, 93]⟩ = rhT a := by
  unfold rhS rhT rhosP
  have h := rhS_all a.rhos ⟨#[32, 91]⟩ ⟨#[93]⟩
  have e : (⟨#[32]⟩ ++ ⟨#[93]⟩ : ByteArray) = ⟨#[32, 93]⟩ := rfl
  rw [e] at h
  rw [h, List.singleton_append, joinB_cons _ _ (by simp)]
  rfl
theorem rhS_size (l : List Int) (h : ∀ r ∈ l, inI r) : ∀ k, (rhS (l.take k)).size ≤ 2 + 22 * k
  | 0 => by simp [rhS]; decide
  | k + 1 => by
    have ih := rhS_size l h k
    cases hk : l[k]? with
    | none =>
      have : l.take (k + 1) = l.take k := by rw [List.take_add_one, hk]; simp
      rw [this]; omega
    | some r =>
      have hr := h r (List.mem_of_getElem? hk)
      have hd := decB_size r hr.1 hr.2
      have e1 : (⟨#[32]⟩ : ByteArray).size = 1 := rfl
      rw [rhS_take hk]
      simp only [ByteArray.size_append]
      omega
set_option maxHeartbeats 2000000 in
theorem ref14_rhos {w : World} {a : AH} (ho : AH.Own w a) (hn : a.rn ≤ 1000) (h0 : ∀ r ∈ a.rhos, 0 ≤ r) : Calls Tryz.prog 32 #[aggT a] w fun e w' => e = .returned (.string (rhT a)) ∧ Below w.heap.size w w' := by
  have HBX := Lib.hid ((Below.refl w.heap.size w).alloc (Nat.le_refl _) (boxA a))
  have HA := Lib.hid (boxA_new w a)
  have HR := Lib.hid ho.rhos
  have HP := Lib.hid h0
  have HI := Lib.hid ho.rok
  have HSZ := Lib.hid (rhS_size a.rhos ho.rok)
  have hrm := ho.rhos.max
  clear ho h0
  go_enter Tryz.func32, Tryz.ntmps32
  go_upto_region 1 with fail
  obtain ⟨c0, c1, c2, c3, c4, c5, c6, c7, c8, c9, c10, c11, c12, c13, c14, c15, c16, c17, c18⟩ := HA.out.all
  clear c0 c1 c2 c3 c4 c5 c6 c7 c9 c10 c11 c12 c13 c14 c15 c16 c17 c18
  generalize hW0 : w.alloc (boxA a) = W0 at *
  clear hW0
  go_wp2_with fail
  go_loopw [3, 4, 8] (fun o _ i wr => ∃ (k : Nat) (s : ByteArray), k ≤ a.rn ∧ i = .int .i64 k ∧ o = .string s ∧ s = rhS (a.rhos.take k) ∧ s.size ≤ 2 + 22 * k ∧ Below W0.heap.size W0 wr) (fun _ _ i _ => a.rn - (intOf i).toNat)
  case atStart => exact ⟨0, _, by omega, rfl, rfl, rfl, by decide, Below.refl _ _⟩
  case round =>
    obtain ⟨k, s, hk, rfl, rfl, hs, hsz, hb⟩ := hrel
    have HSS := Lib.hid hs
    have HB := Lib.hid hb
    clear hs hb
    have HBW := Lib.hid (HBX.out.trans (HB.out.mono HBX.out.size))
    have q8 : wr.cell? ⟨w.heap.size, 8, none⟩ = some (.slice a.rp a.rn a.rc) := by rw [HB.out.cell (cell_block c8)]; exact c8
    clear c8
    by_cases hlt : k < a.rn
    · obtain ⟨x, hx⟩ := get_of_lt (l := a.rhos) (j := k) (by rw [HR.out.len]; exact hlt)
      obtain ⟨b, o, hbo, hbl, hcs⟩ := (HR.out.below HBW.out).row.elem hx
      have d0 := hcs 0 _ rfl
      simp only [Nat.add_zero, Nat.mul_one] at d0
      have hx0 := HP.out x (List.mem_of_getElem? hx)
      have hx1 := HI.out x (List.mem_of_getElem? hx)
      have hds := decB_size x hx1.1 hx1.2
      have HST := Lib.hid (rhS_take hx)
      have HNM := Lib.hid (fun W => ref14_num hx0 hx1.2 W)
      rw [hbo] at q8
      clear hx hcs hbl hbo hx0 hx1
      go_wp2_with (go_at_call 29; refine (HNM.out _).mono ?_; rintro e w2 ⟨rfl, hb⟩; have HB2 := Lib.hid (HB.out.trans (hb.mono HB.out.size)); clear hb)
      go_roundw
      case rel => exact ⟨k + 1, _, by omega, by go_num, rfl, by rw [HST.out, HSS.out], by simp only [ByteArray.size_append]; have : (⟨#[32]⟩ : ByteArray).size = 1 := rfl; omega, HB2.out⟩
      case measure => simp [intOf]; omega
    · have hkn : k = a.rn := by omega
      have HF : Hid (s = rhS a.rhos) := by show _ = _; rw [HSS.out, take_full (by rw [HR.out.len, hkn]; exact Nat.le_refl _)]
      clear hkn
      go_wp2_with fail
      go_ret
      exact ⟨ret_str (by rw [HF.out, rhT_eq]), HBW.out⟩
end Go.Proofs.YtdlbjngpohkglaaGreatDoor
end
section
set_option linter.unusedVariables false
set_option maxRecDepth 100000
set_option linter.unusedSimpArgs false
namespace Go.Proofs.YtdlbjngpohkglaaGreatDoor
open Go.RowKit

theorem ne_comma : ¬ (⟨#[44]⟩ : ByteArray) = ByteArray.empty := by decide
theorem ne_set : ¬ (⟨#[58, 61]⟩ : ByteArray) = ByteArray.empty := by decide
theorem ne_in : ¬ (⟨#[105, 110]⟩ : ByteArray) = ByteArray.empty := by decide
theorem ne_then : ¬ (⟨#[116, 104, 101, 110]⟩ : ByteArray) = ByteArray.empty := by decide
theorem ne_else : ¬ (⟨#[101, 108, 115, 101]⟩ : ByteArray) = ByteArray.empty := by decide
theorem eq_none : (⟨#[]⟩ : ByteArray) = ByteArray.empty := rfl
theorem text_1 (a : AH) (h : a.kind = 1) (l : List PA) : textOf (.node a l) = decB a.n := by
  unfold textOf
  rw [piecesT_node]
  unfold nodeP
  rw [if_pos h, joinB_one]
theorem text_2 (a : AH) (h : a.kind = 2) (l : List PA) : textOf (.node a l) = a.name := by
  unfold textOf
  rw [piecesT_node]
  unfold nodeP
  rw [if_neg (by omega), if_pos h, joinB_one]
theorem text_3 (a : AH) (h : a.kind = 3) (x y : PA) : textOf (.node a [x, y]) = ⟨#[40, 32]⟩ ++ textOf x ++ ⟨#[32, 44, 32]⟩ ++ textOf y ++ (⟨#[32, 64, 32]⟩ ++ decB a.rho) ++ ⟨#[32, 41]⟩ := by
  unfold textOf
  rw [piecesT_node]
  unfold nodeP innerP
  simp [kidsP, kidsTo, betw, atP, signB, typedP, effP, binderP, h, ne_comma, ne_set, ne_in, ne_then, ne_else, eq_none]
  simp (disch := simp [piecesT_ne', rhosP]) only [joinB_cons, joinB_app, joinB_one]
  apply ba_ext
  simp [app_data]
theorem text_4 (a : AH) (h : a.kind = 4) (x : PA) : textOf (.node a [x]) = ⟨#[40, 32, 102, 115, 116, 32]⟩ ++ textOf x ++ ⟨#[32, 41]⟩ := by
  unfold textOf
  rw [piecesT_node]
  unfold nodeP innerP
  simp [kidsP, kidsTo, betw, atP, signB, typedP, effP, binderP, h, ne_comma, ne_set, ne_in, ne_then, ne_else, eq_none]
  simp (disch := simp [piecesT_ne', rhosP]) only [joinB_cons, joinB_app, joinB_one]
  apply ba_ext
  simp [app_data]
theorem text_5 (a : AH) (h : a.kind = 5) (x : PA) : textOf (.node a [x]) = ⟨#[40, 32, 115, 110, 100, 32]⟩ ++ textOf x ++ ⟨#[32, 41]⟩ := by
  unfold textOf
  rw [piecesT_node]
  unfold nodeP innerP
  simp [kidsP, kidsTo, betw, atP, signB, typedP, effP, binderP, h, ne_comma, ne_set, ne_in, ne_then, ne_else, eq_none]
  simp (disch := simp [piecesT_ne', rhosP]) only [joinB_cons, joinB_app, joinB_one]
  apply ba_ext
  simp [app_data]
theorem text_6 (a : AH) (h : a.kind = 6) (x : PA) : textOf (.node a [x]) = ⟨#[40, 32, 114, 101, 102, 32]⟩ ++ textOf x ++ (⟨#[32, 64, 32]⟩ ++ decB a.rho) ++ ⟨#[32, 41]⟩ := by
  unfold textOf
  rw [piecesT_node]
  unfold nodeP innerP
  simp [kidsP, kidsTo, betw, atP, signB, typedP, effP, binderP, h, ne_comma, ne_set, ne_in, ne_then, ne_else, eq_none]
  simp (disch := simp [piecesT_ne', rhosP]) only [joinB_cons, joinB_app, joinB_one]
  apply ba_ext
  simp [app_data]
theorem text_7 (a : AH) (h : a.kind = 7) (x : PA) : textOf (.node a [x]) = ⟨#[40, 32, 33, 32]⟩ ++ textOf x ++ ⟨#[32, 41]⟩ := by
  unfold textOf
  rw [piecesT_node]
  unfold nodeP innerP
  simp [kidsP, kidsTo, betw, atP, signB, typedP, effP, binderP, h, ne_comma, ne_set, ne_in, ne_then, ne_else, eq_none]
  simp (disch := simp [piecesT_ne', rhosP]) only [joinB_cons, joinB_app, joinB_one]
  apply ba_ext
  simp [app_data]
theorem text_8 (a : AH) (h : a.kind = 8) (x y : PA) : textOf (.node a [x, y]) = ⟨#[40, 32]⟩ ++ textOf x ++ ⟨#[32, 58, 61, 32]⟩ ++ textOf y ++ ⟨#[32, 41]⟩ := by
  unfold textOf
  rw [piecesT_node]
  unfold nodeP innerP
  simp [kidsP, kidsTo, betw, atP, signB, typedP, effP, binderP, h, ne_comma, ne_set, ne_in, ne_then, ne_else, eq_none]
  simp (disch := simp [piecesT_ne', rhosP]) only [joinB_cons, joinB_app, joinB_one]
  apply ba_ext
  simp [app_data]
theorem text_9 (a : AH) (h : a.kind = 9) (x y : PA) : textOf (.node a [x, y]) = ⟨#[40, 32]⟩ ++ textOf x ++ ⟨#[32]⟩ ++ signB a.op ++ ⟨#[32]⟩ ++ textOf y ++ ⟨#[32, 41]⟩ := by
  have hs : (signB a.op).size ≠ 0 := by unfold signB; split; decide; split; decide; split; decide; split <;> decide
  generalize hsg : signB a.op = s at hs
  unfold textOf
  rw [piecesT_node]
  unfold nodeP innerP
  simp [h, kidsP, kidsTo, betw, hsg, hs]
  simp (disch := simp [piecesT_ne', rhosP]) only [joinB_cons, joinB_app, joinB_one]
  apply ba_ext
  simp [app_data]
theorem text_10 (a : AH) (h : a.kind = 10) (x y : PA) : textOf (.node a [x, y]) = ⟨#[40, 32]⟩ ++ textOf x ++ ⟨#[32]⟩ ++ textOf y ++ ⟨#[32, 41]⟩ := by
  unfold textOf
  rw [piecesT_node]
  unfold nodeP innerP
  simp [kidsP, kidsTo, betw, atP, signB, typedP, effP, binderP, h, ne_comma, ne_set, ne_in, ne_then, ne_else, eq_none]
  simp (disch := simp [piecesT_ne', rhosP]) only [joinB_cons, joinB_app, joinB_one]
  apply ba_ext
  simp [app_data]
theorem text_11 (a : AH) (h : a.kind = 11) (x : PA) : textOf (.node a [x]) = ⟨#[40, 32, 102, 110, 32]⟩ ++ a.arg ++ ⟨#[32, 58, 32]⟩ ++ textT a.ty.er ++ (⟨#[32, 33, 32]⟩ ++ textA (effL a.eff)) ++ ⟨#[32, 61, 62, 32]⟩ ++ textOf x ++ (⟨#[32, 64, 32]⟩ ++ decB a.rho) ++ ⟨#[32, 41]⟩ := by
  unfold textOf
  rw [piecesT_node]
  unfold nodeP innerP
  simp [kidsP, kidsTo, betw, atP, signB, typedP, effP, binderP, h, ne_comma, ne_set, ne_in, ne_then, ne_else, eq_none]
  simp (disch := simp [piecesT_ne', rhosP]) only [joinB_cons, joinB_app, joinB_one]
  apply ba_ext
  simp [app_data]
theorem text_12 (a : AH) (h : a.kind = 12) (x y : PA) : textOf (.node a [x, y]) = ⟨#[40, 32, 108, 101, 116, 32]⟩ ++ a.name ++ ⟨#[32, 61, 32]⟩ ++ textOf x ++ ⟨#[32, 105, 110, 32]⟩ ++ textOf y ++ ⟨#[32, 41]⟩ := by
  unfold textOf
  rw [piecesT_node]
  unfold nodeP innerP
  simp [kidsP, kidsTo, betw, atP, signB, typedP, effP, binderP, h, ne_comma, ne_set, ne_in, ne_then, ne_else, eq_none]
  simp (disch := simp [piecesT_ne', rhosP]) only [joinB_cons, joinB_app, joinB_one]
  apply ba_ext
  simp [app_data]
theorem text_13 (a : AH) (h : a.kind = 13) (x y : PA) : textOf (.node a [x, y]) = ⟨#[40, 32, 108, 101, 116, 114, 101, 99, 32]⟩ ++ a.name ++ rhT a ++ ⟨#[32]⟩ ++ a.arg ++ ⟨#[32, 58, 32]⟩ ++ textT a.ty.er ++ ⟨#[32, 45, 62, 32]⟩ ++ textT a.res.er ++ (⟨#[32, 33, 32]⟩ ++ textA (effL a.eff)) ++ ⟨#[32, 61, 32]⟩ ++ textOf x ++ (⟨#[32, 64, 32]⟩ ++ decB a.rho) ++ ⟨#[32, 105, 110, 32]⟩ ++ textOf y ++ ⟨#[32, 41]⟩ := by
  unfold rhT
  have hr : rhosP a ≠ [] := by simp [rhosP]
  generalize hrh : rhosP a = R at hr
  unfold textOf
  rw [piecesT_node]
  unfold nodeP innerP binderP
  simp [h, typedP, effP, atP, hrh]
  simp (disch := simp [piecesT_ne', hr]) only [joinB_cons, joinB_app, joinB_one]
  apply ba_ext
  simp [app_data]
theorem text_14 (a : AH) (h : a.kind = 14) (x y z : PA) : textOf (.node a [x, y, z]) = ⟨#[40, 32, 105, 102, 32]⟩ ++ textOf x ++ ⟨#[32, 116, 104, 101, 110, 32]⟩ ++ textOf y ++ ⟨#[32, 101, 108, 115, 101, 32]⟩ ++ textOf z ++ ⟨#[32, 41]⟩ := by
  unfold textOf
  rw [piecesT_node]
  unfold nodeP innerP
  simp [kidsP, kidsTo, betw, atP, signB, typedP, effP, binderP, h, ne_comma, ne_set, ne_in, ne_then, ne_else, eq_none]
  simp (disch := simp [piecesT_ne', rhosP]) only [joinB_cons, joinB_app, joinB_one]
  apply ba_ext
  simp [app_data]
theorem text_15 (a : AH) (h : a.kind = 15) (x : PA) : textOf (.node a [x]) = ⟨#[40, 32, 114, 97, 105, 115, 101, 32]⟩ ++ a.exn ++ ⟨#[32]⟩ ++ textOf x ++ ⟨#[32, 58, 32]⟩ ++ textT a.ty.er ++ ⟨#[32, 41]⟩ := by
  unfold textOf
  rw [piecesT_node]
  unfold nodeP innerP
  simp [kidsP, kidsTo, betw, atP, signB, typedP, effP, binderP, h, ne_comma, ne_set, ne_in, ne_then, ne_else, eq_none]
  simp (disch := simp [piecesT_ne', rhosP]) only [joinB_cons, joinB_app, joinB_one]
  apply ba_ext
  simp [app_data]
theorem text_16 (a : AH) (h : a.kind = 16) (x y : PA) : textOf (.node a [x, y]) = ⟨#[40, 32, 116, 114, 121, 32]⟩ ++ textOf x ++ ⟨#[32, 119, 105, 116, 104, 32]⟩ ++ a.exn ++ ⟨#[32]⟩ ++ a.arg ++ ⟨#[32, 61, 62, 32]⟩ ++ textOf y ++ ⟨#[32, 41]⟩ := by
  have hs : (joinB [⟨#[119, 105, 116, 104]⟩, a.exn, a.arg, ⟨#[61, 62]⟩]).size ≠ 0 := by
    have h1 : (joinB [⟨#[119, 105, 116, 104]⟩, a.exn, a.arg, ⟨#[61, 62]⟩]) = ⟨#[119, 105, 116, 104]⟩ ++ (⟨#[32]⟩ ++ joinB [a.exn, a.arg, ⟨#[61, 62]⟩]) := joinB_cons _ _ (by simp)
    rw [h1, ByteArray.size_append]
    have : (⟨#[119, 105, 116, 104]⟩ : ByteArray).size = 4 := rfl
    omega
  have hj : joinB [⟨#[119, 105, 116, 104]⟩, a.exn, a.arg, ⟨#[61, 62]⟩] = ⟨#[119, 105, 116, 104, 32]⟩ ++ a.exn ++ ⟨#[32]⟩ ++ a.arg ++ ⟨#[32, 61, 62]⟩ := by
    simp (disch := simp) only [joinB_cons, joinB_one]
    apply ba_ext
    simp [app_data]
  generalize hsg : joinB [⟨#[119, 105, 116, 104]⟩, a.exn, a.arg, ⟨#[61, 62]⟩] = s at hs hj
  unfold textOf
  rw [piecesT_node]
  unfold nodeP innerP binderP
  simp [h, kidsP, kidsTo, betw, hsg, hs]
  simp (disch := simp [piecesT_ne', rhosP]) only [joinB_cons, joinB_app, joinB_one]
  rw [hj]
  apply ba_ext
  simp [app_data]
theorem text_17 (a : AH) (h : a.kind = 17) (x : PA) : textOf (.node a [x]) = ⟨#[40, 32, 114, 101, 103, 105, 111, 110, 32]⟩ ++ decB a.rho ++ ⟨#[32, 105, 110, 32]⟩ ++ textOf x ++ ⟨#[32, 41]⟩ := by
  unfold textOf
  rw [piecesT_node]
  unfold nodeP innerP
  simp [kidsP, kidsTo, betw, atP, signB, typedP, effP, binderP, h, ne_comma, ne_set, ne_in, ne_then, ne_else, eq_none]
  simp (disch := simp [piecesT_ne', rhosP]) only [joinB_cons, joinB_app, joinB_one]
  apply ba_ext
  simp [app_data]
theorem text_18 (a : AH) (h : a.kind = 18) (l : List PA) : textOf (.node a l) = ⟨#[40, 32]⟩ ++ a.name ++ rhT a ++ (⟨#[32, 33, 32]⟩ ++ textA (effL a.eff)) ++ (⟨#[32, 64, 32]⟩ ++ decB a.rho) ++ ⟨#[32, 41]⟩ := by
  unfold rhT
  have hr : rhosP a ≠ [] := by simp [rhosP]
  generalize hrh : rhosP a = R at hr
  unfold textOf
  rw [piecesT_node]
  unfold nodeP innerP binderP
  simp [h, typedP, effP, atP, hrh]
  simp (disch := simp [piecesT_ne', hr]) only [joinB_cons, joinB_app, joinB_one]
  apply ba_ext
  simp [app_data]
end Go.Proofs.YtdlbjngpohkglaaGreatDoor
end
section
set_option linter.unusedVariables false
set_option maxRecDepth 100000
set_option linter.unusedSimpArgs false
namespace Go.Proofs.YtdlbjngpohkglaaGreatDoor
open Go.RowKit

/-- what the document's Text answers -/
def T14At (t : PA) (W : World) : Prop := Calls Tryz.prog 17 #[aggT t.head] W fun e w' => e = .returned (.string (textOf t)) ∧ Below W.heap.size W w'
/-- what a node wants -/
structure TN (w : World) (a : AH) (l : List PA) : Prop where
  node : NodeA w a l
  small : SmallN a
  ok : NodeOk a
  ty : inB [11, 13, 15] a.kind = true → (∀ W, Below w.heap.size w W → RTextAt a.ty W) ∧ (textT a.ty.er).size ≤ 4000000
  res : a.kind = 13 → (∀ W, Below w.heap.size w W → RTextAt a.res W) ∧ (textT a.res.er).size ≤ 4000000
  eff : ∀ W, Below w.heap.size w W → Calls Tryz.prog 30 #[.slice a.ep a.en a.ec] W fun e w' => e = .returned (.string (textA (effL a.eff))) ∧ Below W.heap.size W w'
  effz : (textA (effL a.eff)).size ≤ 30000
  kidz : ∀ x ∈ l, (textOf x).size ≤ 1000000000000
  kids : ∀ x ∈ l, ∀ W, Below w.heap.size w W → T14At x W
theorem rhT_size {w : World} {a : AH} (h : AH.Own w a) (hn : a.rn ≤ 50) : (rhT a).size ≤ 2000 := by
  have h1 := rhS_size a.rhos h.rok a.rhos.length
  rw [List.take_length, h.rhos.len] at h1
  have e1 : (⟨#[32, 93]⟩ : ByteArray).size = 2 := rfl
  rw [← rhT_eq, ByteArray.size_append]
  omega
/-- the world of Text behind its loop -/
structure TS (w W : World) (a : AH) (l : List PA) (p : Option Addr) (c : Nat) : Prop where
  box : BoxA W w.heap.size a
  below : Below w.heap.size w W
  row : IsRow encS 1 W p l.length c (l.map textOf)
theorem TS.step {w W W' : World} {a : AH} {l : List PA} {p : Option Addr} {c : Nat} (h : TS w W a l p c) (hb : Below W.heap.size W W') : TS w W' a l p c := ⟨h.box.below hb, h.below.trans (hb.mono h.below.size), h.row.below hb⟩
/-- a kid's text in the row -/
theorem TS.at {w W : World} {a : AH} {l : List PA} {p : Option Addr} {c : Nat} (h : TS w W a l p c) {j : Nat} {x : PA} (hx : l[j]? = some x) : ∃ b o, p = some ⟨b, o, none⟩ ∧ W.cell? ⟨b, o + j, none⟩ = some (.string (textOf x)) := by
  obtain ⟨b, o, hp, _, hc⟩ := h.row.row.elem (j := j) (x := textOf x) (by rw [List.getElem?_map, hx]; rfl)
  exact ⟨b, o, hp, by simpa using hc 0 _ rfl⟩
end Go.Proofs.YtdlbjngpohkglaaGreatDoor
end
section
set_option linter.unusedVariables false
namespace Go.Proofs.YtdlbjngpohkglaaGreatDoor

theorem quiet_load_mid {P : Program} {ops : Array Oper} {C : World → Prop} {Q : Act → Prop} {rest : List Oper} {op : Oper} {a : Act} (hgd : op.guard = none) (ty : TypeId) (x : Operand) (ho : op.op = .load ty x)
    (b o : Nat) (hx : a.eval x = .pointer (some ⟨b, o, none⟩)) (cs : List Value) (d : TypeDesc) (hC : ∀ w, C w → w.rangeAt b o cs)
    (hu : P.underlying ty = some d) (hd : d.isRow = true) (hi : (P.info? ty).map (·.size) = some cs.length)
    (h : wpQuiet P ops C Q rest (a.put op.dst (.agg cs.toArray))) : wpQuiet P ops C Q (op :: rest) a := by
  have hw : Region.wanted op (yielded ops a.tmps) = true := by simp [Region.wanted, hgd]
  refine wpQuiet_step (fun K hK => ?_)
  rw [if_pos hw]
  refine ⟨.agg cs.toArray, fun w hw' => ?_, hK _ h⟩
  unfold Oper.quietAt execOp
  simp only [ho, hx, Instr.loadAt, Instr.sureAddr, Sem.run_bind, Sem.run_pure, Result.andThen_ok, run_loadVar_mid w b o ty cs d (hC w hw') hu hd hi]
  exact ⟨rfl, rfl⟩
end Go.Proofs.YtdlbjngpohkglaaGreatDoor
end
section
set_option linter.unusedVariables false
set_option maxRecDepth 100000
set_option linter.unusedSimpArgs false
namespace Go.Proofs.YtdlbjngpohkglaaGreatDoor
open Go.RowKit

set_option maxHeartbeats 4000000 in
theorem text14_1 {w : World} {a : AH} {l : List PA} (N : TN w a l) (hk : a.kind = 1) : T14At (.node a l) w := by
  have HN := Lib.hid N
  have HKK := Lib.hid hk
  clear hk
  have HBX := Lib.hid ((Below.refl w.heap.size w).alloc (Nat.le_refl _) (boxA a))
  have HA := Lib.hid (boxA_new w a)
  have hkm := N.node.own.kmax
  have hln := N.node.kids.len
  have HK3 : Hid (a.kn ≤ 3) := by
    have h := N.ok.kids
    have := kidsI_le (if a.kind = 17 then 4 else if a.kind = 18 then 1 else a.kind)
    show _ ≤ _
    omega
  have HS0 : Hid ((w.alloc (boxA a)).heap.size = w.heap.size + 1) := by show _ = _; simp
  clear N
  show Calls _ _ #[aggT a] w _
  go_enter Tryz.func17, Tryz.ntmps17
  go_upto_region 1 with fail
  generalize w.alloc (boxA a) = W0 at *
  go_upto_region 2 with fail
  have HO0 := Lib.hid (own_made encS_len W0 W0.heap.size 9 [] 0 #[] (by simp) rfl (by unfold maxLen; omega) (Nat.le_refl _))
  have HBA := Lib.hid (HA.out.below ((Below.refl W0.heap.size W0).alloc (Nat.le_refl _) (.cells #[] 9)))
  have HBB := Lib.hid (HBX.out.alloc HBX.out.size (.cells #[] 9))
  have hss : W0.heap.size ≤ (W0.alloc (.cells #[] 9)).heap.size := by simp
  generalize W0.alloc (.cells #[] 9) = W1 at *
  have HSS := Lib.hid hss
  clear hss
  have q18 : W1.cell? ⟨w.heap.size, 18, none⟩ = some (.slice a.kp a.kn a.kc) := HBA.out.c 18 _ rfl
  go_wp2_with fail
  clear q18
  go_loopw [3, 4, 12] (fun u _ i wr => ∃ (k : Nat), k ≤ a.kn ∧ i = .int .i64 k ∧ OwnE encS 1 wr W0.heap.size 9 u k ((l.take k).map textOf) ∧ BoxA wr w.heap.size a ∧ Below w.heap.size w wr ∧ W0.heap.size ≤ wr.heap.size) (fun _ _ i _ => a.kn - (intOf i).toNat)
  case atStart => exact ⟨0, by omega, rfl, HO0.out, HBA.out, HBB.out, HSS.out⟩
  case round =>
    obtain ⟨k, hk, rfl, hown, hbox, hb, hle⟩ := hrel
    have HOWN := Lib.hid hown
    have HBO := Lib.hid hbox
    have HB := Lib.hid hb
    have HLE := Lib.hid hle
    clear hown hbox hb hle
    have q18 : wr.cell? ⟨w.heap.size, 18, none⟩ = some (.slice a.kp a.kn a.kc) := HBO.out.c 18 _ rfl
    by_cases hlt : k < a.kn
    · obtain ⟨x, hx⟩ := (HN.out.node.rowT).at (j := k) hlt
      have HE := Lib.hid hx
      obtain ⟨b, o, hbo, hbl, hcs⟩ := (HN.out.node.rowT.below HB.out).kid hx
      have HCS := Lib.hid hcs
      have HKX := Lib.hid (HN.out.kids x (List.mem_of_getElem? hx) wr HB.out)
      rw [hbo] at q18
      clear hx hbl hbo hcs
      go_wp2_with (refine wpList_load_mid rfl 31 _ rfl b (o + k * 19) rfl (encAH x.head) _ HCS.out.c Tryz.underlying31 rfl (by kernel_rfl) ?_)
      refine Calls.mono HKX.out ?_
      rintro e w2 ⟨rfl, hb⟩
      have HO1 := Lib.hid (HOWN.out.below hb)
      have HB1 := Lib.hid (HB.out.trans (hb.mono HB.out.size))
      have HBO1 := Lib.hid (HBO.out.below hb)
      have HLE1 := Lib.hid (Nat.le_trans HLE.out hb.size)
      have hk3 := HK3.out
      clear hb q18
      go_wp2_with (at_builtin; refine wpList_append1 rfl _ _ 44 rfl W0.heap.size 9 _ 1 16 Tryz.underlying44 infoS rfl (by decide) encS encS_len encS_one (textOf x) _ _ _ HO1.out rfl (by refine Eq.trans (b := Value.slice (some ⟨w2.heap.size, 0, none⟩) 1 1) rfl ?_; simp) ?c1 ?c2 ?c3 ?_)
      case c1 => omega
      case c2 => omega
      case c3 => exact HLE1.out
      · intro v3 w3 hown3 hg3
        have hfr : ∀ g, Value.ownBlock _ = some g → W0.heap.size ≤ g := fun g hg => (World.ownsRow.lt HO1.out g hg).1
        have HB3 := Lib.hid (HB1.out.grown hg3 HB1.out.size (fun g hg => by have := hfr g hg; have := HBX.out.size; have := HS0.out; omega))
        have HBO3 : Hid (BoxA w3 w.heap.size a) := ⟨by rw [hg3.block w.heap.size (Array.getElem?_eq_some_iff.1 HBO1.out.blk).1 (fun e => by have := hfr _ e.symm; have := HS0.out; omega)]; exact HBO1.out.blk⟩
        have HLE3 : Hid (W0.heap.size ≤ w3.heap.size) := by have := HLE1.out; have := hg3.size; show _ ≤ _; omega
        have HO3 := Lib.hid hown3
        clear hown3 hg3 hfr
        go_wp2_with fail
        go_roundw
        case rel => exact ⟨k + 1, by omega, by go_num, by rw [take_succ_get HE.out, List.map_append, List.map_take]; exact HO3.out, HBO3.out, HB3.out, HLE3.out⟩
        case measure => simp [intOf]; omega
    · have hkn : k = a.kn := by omega
      obtain ⟨p, c, rfl, hrow⟩ := HOWN.out.isRow encS_len (by have := HK3.out; omega)
      have HT : Hid (TS w wr a l p c) := by
        have h := hrow
        rw [take_full (by rw [hln, hkn]; exact Nat.le_refl _)] at h
        refine ⟨HBO.out, HB.out, ?_⟩
        rw [hln, ← hkn]
        exact h
      clear hrow hlt hk q18 HA HBX HBA HBB HS0 HO0 HSS HOWN HBO HB HLE
      obtain ⟨c0, c1, c2, c3, c4, c5, c6, c7, c8, c9, c10, c11, c12, c13, c14, c15, c16, c17, c18⟩ := HT.out.box.all
      have hds := decB_size a.rho HN.out.node.own.rho.1 HN.out.node.own.rho.2
      have hez := HN.out.effz
      go_upto_region 9 with (first
        | (go_at_call 29; refine (ref14_num HN.out.ok.rho HN.out.node.own.rho.2 _).mono ?_; rintro e w8 ⟨rfl, hb⟩; have HT := Lib.hid (HT.out.step hb); clear hb c0 c1 c2 c3 c4 c5 c6 c7 c8 c9 c10 c11 c12 c13 c14 c15 c16 c17 c18; obtain ⟨c0, c1, c2, c3, c4, c5, c6, c7, c8, c9, c10, c11, c12, c13, c14, c15, c16, c17, c18⟩ := HT.out.box.all)
        | (go_at_call 30; refine (HN.out.eff _ HT.out.below).mono ?_; rintro e w8 ⟨rfl, hb⟩; have HT := Lib.hid (HT.out.step hb); clear hb c0 c1 c2 c3 c4 c5 c6 c7 c8 c9 c10 c11 c12 c13 c14 c15 c16 c17 c18; obtain ⟨c0, c1, c2, c3, c4, c5, c6, c7, c8, c9, c10, c11, c12, c13, c14, c15, c16, c17, c18⟩ := HT.out.box.all))
      go_upto_region 10 with fail
      clear c0 c1 c2 c3 c4 c5 c6 c7 c8 c9 c10 c11 c12 c13 c14 c15 c16 c17 c18
      have HT := Lib.hid (HT.out.step ((Below.refl w8.heap.size w8).alloc (Nat.le_refl _) (.cells #[.string ⟨#[43]⟩, .string ⟨#[45]⟩, .string ⟨#[42]⟩, .string ⟨#[60]⟩, .string ⟨#[61]⟩] 9)))
      have hw9 : (w8.alloc (.cells #[.string ⟨#[43]⟩, .string ⟨#[45]⟩, .string ⟨#[42]⟩, .string ⟨#[60]⟩, .string ⟨#[61]⟩] 9)).heap[w8.heap.size]? = some (.cells #[.string ⟨#[43]⟩, .string ⟨#[45]⟩, .string ⟨#[42]⟩, .string ⟨#[60]⟩, .string ⟨#[61]⟩] 9) := heap_alloc_new _ _
      generalize w8.alloc (.cells #[.string ⟨#[43]⟩, .string ⟨#[45]⟩, .string ⟨#[42]⟩, .string ⟨#[60]⟩, .string ⟨#[61]⟩] 9) = w9 at *
      have HW9 := Lib.hid hw9
      clear hw9
      obtain ⟨c0, c1, c2, c3, c4, c5, c6, c7, c8, c9, c10, c11, c12, c13, c14, c15, c16, c17, c18⟩ := HT.out.box.all
      have hs1 := HN.out.small.name
      have hs2 := HN.out.small.arg
      have hs3 := HN.out.small.exn
      have e1 : (a.kind == 1) = true := by simp [HKK.out]
      have HJ := Lib.hid (text_1 a HKK.out l)
      have h0 := HN.out.ok.n
      have h2 := HN.out.node.own.n.2
      go_wp2_with (go_at_call 15; refine (ref_Digits_pos h0 h2 _).mono ?_; rintro e w10 ⟨rfl, hb⟩; have HT := Lib.hid (HT.out.step hb); clear hb)
      go_ret
      exact ⟨ret_str HJ.out.symm, HT.out.below⟩
set_option maxHeartbeats 4000000 in
theorem text14_2 {w : World} {a : AH} {l : List PA} (N : TN w a l) (hk : a.kind = 2) : T14At (.node a l) w := by
  have HN := Lib.hid N
  have HKK := Lib.hid hk
  clear hk
  have HBX := Lib.hid ((Below.refl w.heap.size w).alloc (Nat.le_refl _) (boxA a))
  have HA := Lib.hid (boxA_new w a)
  have hkm := N.node.own.kmax
  have hln := N.node.kids.len
  have HK3 : Hid (a.kn ≤ 3) := by
    have h := N.ok.kids
    have := kidsI_le (if a.kind = 17 then 4 else if a.kind = 18 then 1 else a.kind)
    show _ ≤ _
    omega
  have HS0 : Hid ((w.alloc (boxA a)).heap.size = w.heap.size + 1) := by show _ = _; simp
  clear N
  show Calls _ _ #[aggT a] w _
  go_enter Tryz.func17, Tryz.ntmps17
  go_upto_region 1 with fail
  generalize w.alloc (boxA a) = W0 at *
  go_upto_region 2 with fail
  have HO0 := Lib.hid (own_made encS_len W0 W0.heap.size 9 [] 0 #[] (by simp) rfl (by unfold maxLen; omega) (Nat.le_refl _))
  have HBA := Lib.hid (HA.out.below ((Below.refl W0.heap.size W0).alloc (Nat.le_refl _) (.cells #[] 9)))
  have HBB := Lib.hid (HBX.out.alloc HBX.out.size (.cells #[] 9))
  have hss : W0.heap.size ≤ (W0.alloc (.cells #[] 9)).heap.size := by simp
  generalize W0.alloc (.cells #[] 9) = W1 at *
  have HSS := Lib.hid hss
  clear hss
  have q18 : W1.cell? ⟨w.heap.size, 18, none⟩ = some (.slice a.kp a.kn a.kc) := HBA.out.c 18 _ rfl
  go_wp2_with fail
  clear q18
  go_loopw [3, 4, 12] (fun u _ i wr => ∃ (k : Nat), k ≤ a.kn ∧ i = .int .i64 k ∧ OwnE encS 1 wr W0.heap.size 9 u k ((l.take k).map textOf) ∧ BoxA wr w.heap.size a ∧ Below w.heap.size w wr ∧ W0.heap.size ≤ wr.heap.size) (fun _ _ i _ => a.kn - (intOf i).toNat)
  case atStart => exact ⟨0, by omega, rfl, HO0.out, HBA.out, HBB.out, HSS.out⟩
  case round =>
    obtain ⟨k, hk, rfl, hown, hbox, hb, hle⟩ := hrel
    have HOWN := Lib.hid hown
    have HBO := Lib.hid hbox
    have HB := Lib.hid hb
    have HLE := Lib.hid hle
    clear hown hbox hb hle
    have q18 : wr.cell? ⟨w.heap.size, 18, none⟩ = some (.slice a.kp a.kn a.kc) := HBO.out.c 18 _ rfl
    by_cases hlt : k < a.kn
    · obtain ⟨x, hx⟩ := (HN.out.node.rowT).at (j := k) hlt
      have HE := Lib.hid hx
      obtain ⟨b, o, hbo, hbl, hcs⟩ := (HN.out.node.rowT.below HB.out).kid hx
      have HCS := Lib.hid hcs
      have HKX := Lib.hid (HN.out.kids x (List.mem_of_getElem? hx) wr HB.out)
      rw [hbo] at q18
      clear hx hbl hbo hcs
      go_wp2_with (refine wpList_load_mid rfl 31 _ rfl b (o + k * 19) rfl (encAH x.head) _ HCS.out.c Tryz.underlying31 rfl (by kernel_rfl) ?_)
      refine Calls.mono HKX.out ?_
      rintro e w2 ⟨rfl, hb⟩
      have HO1 := Lib.hid (HOWN.out.below hb)
      have HB1 := Lib.hid (HB.out.trans (hb.mono HB.out.size))
      have HBO1 := Lib.hid (HBO.out.below hb)
      have HLE1 := Lib.hid (Nat.le_trans HLE.out hb.size)
      have hk3 := HK3.out
      clear hb q18
      go_wp2_with (at_builtin; refine wpList_append1 rfl _ _ 44 rfl W0.heap.size 9 _ 1 16 Tryz.underlying44 infoS rfl (by decide) encS encS_len encS_one (textOf x) _ _ _ HO1.out rfl (by refine Eq.trans (b := Value.slice (some ⟨w2.heap.size, 0, none⟩) 1 1) rfl ?_; simp) ?c1 ?c2 ?c3 ?_)
      case c1 => omega
      case c2 => omega
      case c3 => exact HLE1.out
      · intro v3 w3 hown3 hg3
        have hfr : ∀ g, Value.ownBlock _ = some g → W0.heap.size ≤ g := fun g hg => (World.ownsRow.lt HO1.out g hg).1
        have HB3 := Lib.hid (HB1.out.grown hg3 HB1.out.size (fun g hg => by have := hfr g hg; have := HBX.out.size; have := HS0.out; omega))
        have HBO3 : Hid (BoxA w3 w.heap.size a) := ⟨by rw [hg3.block w.heap.size (Array.getElem?_eq_some_iff.1 HBO1.out.blk).1 (fun e => by have := hfr _ e.symm; have := HS0.out; omega)]; exact HBO1.out.blk⟩
        have HLE3 : Hid (W0.heap.size ≤ w3.heap.size) := by have := HLE1.out; have := hg3.size; show _ ≤ _; omega
        have HO3 := Lib.hid hown3
        clear hown3 hg3 hfr
        go_wp2_with fail
        go_roundw
        case rel => exact ⟨k + 1, by omega, by go_num, by rw [take_succ_get HE.out, List.map_append, List.map_take]; exact HO3.out, HBO3.out, HB3.out, HLE3.out⟩
        case measure => simp [intOf]; omega
    · have hkn : k = a.kn := by omega
      obtain ⟨p, c, rfl, hrow⟩ := HOWN.out.isRow encS_len (by have := HK3.out; omega)
      have HT : Hid (TS w wr a l p c) := by
        have h := hrow
        rw [take_full (by rw [hln, hkn]; exact Nat.le_refl _)] at h
        refine ⟨HBO.out, HB.out, ?_⟩
        rw [hln, ← hkn]
        exact h
      clear hrow hlt hk q18 HA HBX HBA HBB HS0 HO0 HSS HOWN HBO HB HLE
      obtain ⟨c0, c1, c2, c3, c4, c5, c6, c7, c8, c9, c10, c11, c12, c13, c14, c15, c16, c17, c18⟩ := HT.out.box.all
      have hds := decB_size a.rho HN.out.node.own.rho.1 HN.out.node.own.rho.2
      have hez := HN.out.effz
      go_upto_region 9 with (first
        | (go_at_call 29; refine (ref14_num HN.out.ok.rho HN.out.node.own.rho.2 _).mono ?_; rintro e w8 ⟨rfl, hb⟩; have HT := Lib.hid (HT.out.step hb); clear hb c0 c1 c2 c3 c4 c5 c6 c7 c8 c9 c10 c11 c12 c13 c14 c15 c16 c17 c18; obtain ⟨c0, c1, c2, c3, c4, c5, c6, c7, c8, c9, c10, c11, c12, c13, c14, c15, c16, c17, c18⟩ := HT.out.box.all)
        | (go_at_call 30; refine (HN.out.eff _ HT.out.below).mono ?_; rintro e w8 ⟨rfl, hb⟩; have HT := Lib.hid (HT.out.step hb); clear hb c0 c1 c2 c3 c4 c5 c6 c7 c8 c9 c10 c11 c12 c13 c14 c15 c16 c17 c18; obtain ⟨c0, c1, c2, c3, c4, c5, c6, c7, c8, c9, c10, c11, c12, c13, c14, c15, c16, c17, c18⟩ := HT.out.box.all))
      go_upto_region 10 with fail
      clear c0 c1 c2 c3 c4 c5 c6 c7 c8 c9 c10 c11 c12 c13 c14 c15 c16 c17 c18
      have HT := Lib.hid (HT.out.step ((Below.refl w8.heap.size w8).alloc (Nat.le_refl _) (.cells #[.string ⟨#[43]⟩, .string ⟨#[45]⟩, .string ⟨#[42]⟩, .string ⟨#[60]⟩, .string ⟨#[61]⟩] 9)))
      have hw9 : (w8.alloc (.cells #[.string ⟨#[43]⟩, .string ⟨#[45]⟩, .string ⟨#[42]⟩, .string ⟨#[60]⟩, .string ⟨#[61]⟩] 9)).heap[w8.heap.size]? = some (.cells #[.string ⟨#[43]⟩, .string ⟨#[45]⟩, .string ⟨#[42]⟩, .string ⟨#[60]⟩, .string ⟨#[61]⟩] 9) := heap_alloc_new _ _
      generalize w8.alloc (.cells #[.string ⟨#[43]⟩, .string ⟨#[45]⟩, .string ⟨#[42]⟩, .string ⟨#[60]⟩, .string ⟨#[61]⟩] 9) = w9 at *
      have HW9 := Lib.hid hw9
      clear hw9
      obtain ⟨c0, c1, c2, c3, c4, c5, c6, c7, c8, c9, c10, c11, c12, c13, c14, c15, c16, c17, c18⟩ := HT.out.box.all
      have hs1 := HN.out.small.name
      have hs2 := HN.out.small.arg
      have hs3 := HN.out.small.exn
      have e1 : (a.kind == 1) = false := by simp [HKK.out]
      have e2 : (a.kind == 2) = true := by simp [HKK.out]
      have HJ := Lib.hid (text_2 a HKK.out l)
      go_wp2_with fail
      go_ret
      exact ⟨ret_str HJ.out.symm, HT.out.below⟩
set_option maxHeartbeats 4000000 in
theorem text14_3 {w : World} {a : AH} {l : List PA} (N : TN w a l) (hk : a.kind = 3) : T14At (.node a l) w := by
  have HN := Lib.hid N
  have HKK := Lib.hid hk
  clear hk
  have HBX := Lib.hid ((Below.refl w.heap.size w).alloc (Nat.le_refl _) (boxA a))
  have HA := Lib.hid (boxA_new w a)
  have hkm := N.node.own.kmax
  have hln := N.node.kids.len
  have HK3 : Hid (a.kn ≤ 3) := by
    have h := N.ok.kids
    have := kidsI_le (if a.kind = 17 then 4 else if a.kind = 18 then 1 else a.kind)
    show _ ≤ _
    omega
  have HS0 : Hid ((w.alloc (boxA a)).heap.size = w.heap.size + 1) := by show _ = _; simp
  clear N
  show Calls _ _ #[aggT a] w _
  go_enter Tryz.func17, Tryz.ntmps17
  go_upto_region 1 with fail
  generalize w.alloc (boxA a) = W0 at *
  go_upto_region 2 with fail
  have HO0 := Lib.hid (own_made encS_len W0 W0.heap.size 9 [] 0 #[] (by simp) rfl (by unfold maxLen; omega) (Nat.le_refl _))
  have HBA := Lib.hid (HA.out.below ((Below.refl W0.heap.size W0).alloc (Nat.le_refl _) (.cells #[] 9)))
  have HBB := Lib.hid (HBX.out.alloc HBX.out.size (.cells #[] 9))
  have hss : W0.heap.size ≤ (W0.alloc (.cells #[] 9)).heap.size := by simp
  generalize W0.alloc (.cells #[] 9) = W1 at *
  have HSS := Lib.hid hss
  clear hss
  have q18 : W1.cell? ⟨w.heap.size, 18, none⟩ = some (.slice a.kp a.kn a.kc) := HBA.out.c 18 _ rfl
  go_wp2_with fail
  clear q18
  go_loopw [3, 4, 12] (fun u _ i wr => ∃ (k : Nat), k ≤ a.kn ∧ i = .int .i64 k ∧ OwnE encS 1 wr W0.heap.size 9 u k ((l.take k).map textOf) ∧ BoxA wr w.heap.size a ∧ Below w.heap.size w wr ∧ W0.heap.size ≤ wr.heap.size) (fun _ _ i _ => a.kn - (intOf i).toNat)
  case atStart => exact ⟨0, by omega, rfl, HO0.out, HBA.out, HBB.out, HSS.out⟩
  case round =>
    obtain ⟨k, hk, rfl, hown, hbox, hb, hle⟩ := hrel
    have HOWN := Lib.hid hown
    have HBO := Lib.hid hbox
    have HB := Lib.hid hb
    have HLE := Lib.hid hle
    clear hown hbox hb hle
    have q18 : wr.cell? ⟨w.heap.size, 18, none⟩ = some (.slice a.kp a.kn a.kc) := HBO.out.c 18 _ rfl
    by_cases hlt : k < a.kn
    · obtain ⟨x, hx⟩ := (HN.out.node.rowT).at (j := k) hlt
      have HE := Lib.hid hx
      obtain ⟨b, o, hbo, hbl, hcs⟩ := (HN.out.node.rowT.below HB.out).kid hx
      have HCS := Lib.hid hcs
      have HKX := Lib.hid (HN.out.kids x (List.mem_of_getElem? hx) wr HB.out)
      rw [hbo] at q18
      clear hx hbl hbo hcs
      go_wp2_with (refine wpList_load_mid rfl 31 _ rfl b (o + k * 19) rfl (encAH x.head) _ HCS.out.c Tryz.underlying31 rfl (by kernel_rfl) ?_)
      refine Calls.mono HKX.out ?_
      rintro e w2 ⟨rfl, hb⟩
      have HO1 := Lib.hid (HOWN.out.below hb)
      have HB1 := Lib.hid (HB.out.trans (hb.mono HB.out.size))
      have HBO1 := Lib.hid (HBO.out.below hb)
      have HLE1 := Lib.hid (Nat.le_trans HLE.out hb.size)
      have hk3 := HK3.out
      clear hb q18
      go_wp2_with (at_builtin; refine wpList_append1 rfl _ _ 44 rfl W0.heap.size 9 _ 1 16 Tryz.underlying44 infoS rfl (by decide) encS encS_len encS_one (textOf x) _ _ _ HO1.out rfl (by refine Eq.trans (b := Value.slice (some ⟨w2.heap.size, 0, none⟩) 1 1) rfl ?_; simp) ?c1 ?c2 ?c3 ?_)
      case c1 => omega
      case c2 => omega
      case c3 => exact HLE1.out
      · intro v3 w3 hown3 hg3
        have hfr : ∀ g, Value.ownBlock _ = some g → W0.heap.size ≤ g := fun g hg => (World.ownsRow.lt HO1.out g hg).1
        have HB3 := Lib.hid (HB1.out.grown hg3 HB1.out.size (fun g hg => by have := hfr g hg; have := HBX.out.size; have := HS0.out; omega))
        have HBO3 : Hid (BoxA w3 w.heap.size a) := ⟨by rw [hg3.block w.heap.size (Array.getElem?_eq_some_iff.1 HBO1.out.blk).1 (fun e => by have := hfr _ e.symm; have := HS0.out; omega)]; exact HBO1.out.blk⟩
        have HLE3 : Hid (W0.heap.size ≤ w3.heap.size) := by have := HLE1.out; have := hg3.size; show _ ≤ _; omega
        have HO3 := Lib.hid hown3
        clear hown3 hg3 hfr
        go_wp2_with fail
        go_roundw
        case rel => exact ⟨k + 1, by omega, by go_num, by rw [take_succ_get HE.out, List.map_append, List.map_take]; exact HO3.out, HBO3.out, HB3.out, HLE3.out⟩
        case measure => simp [intOf]; omega
    · have hkn : k = a.kn := by omega
      obtain ⟨p, c, rfl, hrow⟩ := HOWN.out.isRow encS_len (by have := HK3.out; omega)
      have HT : Hid (TS w wr a l p c) := by
        have h := hrow
        rw [take_full (by rw [hln, hkn]; exact Nat.le_refl _)] at h
        refine ⟨HBO.out, HB.out, ?_⟩
        rw [hln, ← hkn]
        exact h
      clear hrow hlt hk q18 HA HBX HBA HBB HS0 HO0 HSS HOWN HBO HB HLE
      obtain ⟨c0, c1, c2, c3, c4, c5, c6, c7, c8, c9, c10, c11, c12, c13, c14, c15, c16, c17, c18⟩ := HT.out.box.all
      have hds := decB_size a.rho HN.out.node.own.rho.1 HN.out.node.own.rho.2
      have hez := HN.out.effz
      go_upto_region 9 with (first
        | (go_at_call 29; refine (ref14_num HN.out.ok.rho HN.out.node.own.rho.2 _).mono ?_; rintro e w8 ⟨rfl, hb⟩; have HT := Lib.hid (HT.out.step hb); clear hb c0 c1 c2 c3 c4 c5 c6 c7 c8 c9 c10 c11 c12 c13 c14 c15 c16 c17 c18; obtain ⟨c0, c1, c2, c3, c4, c5, c6, c7, c8, c9, c10, c11, c12, c13, c14, c15, c16, c17, c18⟩ := HT.out.box.all)
        | (go_at_call 30; refine (HN.out.eff _ HT.out.below).mono ?_; rintro e w8 ⟨rfl, hb⟩; have HT := Lib.hid (HT.out.step hb); clear hb c0 c1 c2 c3 c4 c5 c6 c7 c8 c9 c10 c11 c12 c13 c14 c15 c16 c17 c18; obtain ⟨c0, c1, c2, c3, c4, c5, c6, c7, c8, c9, c10, c11, c12, c13, c14, c15, c16, c17, c18⟩ := HT.out.box.all))
      go_upto_region 10 with fail
      clear c0 c1 c2 c3 c4 c5 c6 c7 c8 c9 c10 c11 c12 c13 c14 c15 c16 c17 c18
      have HT := Lib.hid (HT.out.step ((Below.refl w8.heap.size w8).alloc (Nat.le_refl _) (.cells #[.string ⟨#[43]⟩, .string ⟨#[45]⟩, .string ⟨#[42]⟩, .string ⟨#[60]⟩, .string ⟨#[61]⟩] 9)))
      have hw9 : (w8.alloc (.cells #[.string ⟨#[43]⟩, .string ⟨#[45]⟩, .string ⟨#[42]⟩, .string ⟨#[60]⟩, .string ⟨#[61]⟩] 9)).heap[w8.heap.size]? = some (.cells #[.string ⟨#[43]⟩, .string ⟨#[45]⟩, .string ⟨#[42]⟩, .string ⟨#[60]⟩, .string ⟨#[61]⟩] 9) := heap_alloc_new _ _
      generalize w8.alloc (.cells #[.string ⟨#[43]⟩, .string ⟨#[45]⟩, .string ⟨#[42]⟩, .string ⟨#[60]⟩, .string ⟨#[61]⟩] 9) = w9 at *
      have HW9 := Lib.hid hw9
      clear hw9
      obtain ⟨c0, c1, c2, c3, c4, c5, c6, c7, c8, c9, c10, c11, c12, c13, c14, c15, c16, c17, c18⟩ := HT.out.box.all
      have hs1 := HN.out.small.name
      have hs2 := HN.out.small.arg
      have hs3 := HN.out.small.exn
      have e1 : (a.kind == 1) = false := by simp [HKK.out]
      have e2 : (a.kind == 2) = false := by simp [HKK.out]
      have e3 : (a.kind == 3) = true := by simp [HKK.out]
      obtain ⟨x, y, rfl⟩ : ∃ x y, l = [x, y] := by
        have hl2 : l.length = 2 := by have h := HN.out.ok.kids; rw [HKK.out] at h; have e : kidsI 3 = 2 := rfl; simp at h; omega
        match l, hl2 with | [y, z], _ => exact ⟨y, z, rfl⟩
      obtain ⟨b, o, rfl, d0⟩ := HT.out.at (j := 0) rfl
      obtain ⟨b', o', hbo, d1⟩ := HT.out.at (j := 1) rfl
      cases hbo
      have z0 := HN.out.kidz x (by simp)
      have z1 := HN.out.kidz y (by simp)
      simp only [Nat.add_zero] at d0
      have hkn2 : a.kn = 2 := by rw [← hln]; rfl
      have HJ := Lib.hid (text_3 a HKK.out x y)
      have n0 : ¬ 9223372036854775807 < 2 + (textOf x).size := by omega
      have n1 : ¬ 9223372036854775807 < 2 + (textOf x).size + 3 := by omega
      have n2 : ¬ 9223372036854775807 < 2 + (textOf x).size + 3 + (textOf y).size := by omega
      have n3 : ¬ 9223372036854775807 < 2 + (textOf x).size + 3 + (textOf y).size + (3 + (decB a.rho).size) := by omega
      have n4 : ¬ 9223372036854775807 < 2 + (textOf x).size + 3 + (textOf y).size + (3 + (decB a.rho).size) + 2 := by omega
      have c0 := fun g => gw_cell c0 g
      have c1 := fun g => gw_cell c1 g
      have c2 := fun g => gw_cell c2 g
      have c3 := fun g => gw_cell c3 g
      have c4 := fun g => gw_cell c4 g
      have c5 := fun g => gw_cell c5 g
      have c6 := fun g => gw_cell c6 g
      have c7 := fun g => gw_cell c7 g
      have c8 := fun g => gw_cell c8 g
      have c9 := fun g => gw_cell c9 g
      have c10 := fun g => gw_cell c10 g
      have c11 := fun g => gw_cell c11 g
      have c12 := fun g => gw_cell c12 g
      have c13 := fun g => gw_cell c13 g
      have c14 := fun g => gw_cell c14 g
      have c15 := fun g => gw_cell c15 g
      have c16 := fun g => gw_cell c16 g
      have c17 := fun g => gw_cell c17 g
      have c18 := fun g => gw_cell c18 g
      have d0 := fun g => gw_cell d0 g
      have d1 := fun g => gw_cell d1 g
      go_upto_region 16 with fail
      refine wp_region_gw (by kernel_rfl) (by kernel_rfl) ?_
      repeat ((with_reducible refine wpQuiet_step (fun K hK => ?_)); go_simp; refine hK _ ?_; clear hK K)
      refine wpQuiet_nil ?_
      rintro w10 ⟨g, rfl⟩
      have HT := Lib.hid (HT.out.step (gw_below w9 g))
      go_wp2_with fail
      go_ret
      exact ⟨ret_str HJ.out.symm, HT.out.below⟩
set_option maxHeartbeats 4000000 in
theorem text14_4 {w : World} {a : AH} {l : List PA} (N : TN w a l) (hk : a.kind = 4) : T14At (.node a l) w := by
  have HN := Lib.hid N
  have HKK := Lib.hid hk
  clear hk
  have HBX := Lib.hid ((Below.refl w.heap.size w).alloc (Nat.le_refl _) (boxA a))
  have HA := Lib.hid (boxA_new w a)
  have hkm := N.node.own.kmax
  have hln := N.node.kids.len
  have HK3 : Hid (a.kn ≤ 3) := by
    have h := N.ok.kids
    have := kidsI_le (if a.kind = 17 then 4 else if a.kind = 18 then 1 else a.kind)
    show _ ≤ _
    omega
  have HS0 : Hid ((w.alloc (boxA a)).heap.size = w.heap.size + 1) := by show _ = _; simp
  clear N
  show Calls _ _ #[aggT a] w _
  go_enter Tryz.func17, Tryz.ntmps17
  go_upto_region 1 with fail
  generalize w.alloc (boxA a) = W0 at *
  go_upto_region 2 with fail
  have HO0 := Lib.hid (own_made encS_len W0 W0.heap.size 9 [] 0 #[] (by simp) rfl (by unfold maxLen; omega) (Nat.le_refl _))
  have HBA := Lib.hid (HA.out.below ((Below.refl W0.heap.size W0).alloc (Nat.le_refl _) (.cells #[] 9)))
  have HBB := Lib.hid (HBX.out.alloc HBX.out.size (.cells #[] 9))
  have hss : W0.heap.size ≤ (W0.alloc (.cells #[] 9)).heap.size := by simp
  generalize W0.alloc (.cells #[] 9) = W1 at *
  have HSS := Lib.hid hss
  clear hss
  have q18 : W1.cell? ⟨w.heap.size, 18, none⟩ = some (.slice a.kp a.kn a.kc) := HBA.out.c 18 _ rfl
  go_wp2_with fail
  clear q18
  go_loopw [3, 4, 12] (fun u _ i wr => ∃ (k : Nat), k ≤ a.kn ∧ i = .int .i64 k ∧ OwnE encS 1 wr W0.heap.size 9 u k ((l.take k).map textOf) ∧ BoxA wr w.heap.size a ∧ Below w.heap.size w wr ∧ W0.heap.size ≤ wr.heap.size) (fun _ _ i _ => a.kn - (intOf i).toNat)
  case atStart => exact ⟨0, by omega, rfl, HO0.out, HBA.out, HBB.out, HSS.out⟩
  case round =>
    obtain ⟨k, hk, rfl, hown, hbox, hb, hle⟩ := hrel
    have HOWN := Lib.hid hown
    have HBO := Lib.hid hbox
    have HB := Lib.hid hb
    have HLE := Lib.hid hle
    clear hown hbox hb hle
    have q18 : wr.cell? ⟨w.heap.size, 18, none⟩ = some (.slice a.kp a.kn a.kc) := HBO.out.c 18 _ rfl
    by_cases hlt : k < a.kn
    · obtain ⟨x, hx⟩ := (HN.out.node.rowT).at (j := k) hlt
      have HE := Lib.hid hx
      obtain ⟨b, o, hbo, hbl, hcs⟩ := (HN.out.node.rowT.below HB.out).kid hx
      have HCS := Lib.hid hcs
      have HKX := Lib.hid (HN.out.kids x (List.mem_of_getElem? hx) wr HB.out)
      rw [hbo] at q18
      clear hx hbl hbo hcs
      go_wp2_with (refine wpList_load_mid rfl 31 _ rfl b (o + k * 19) rfl (encAH x.head) _ HCS.out.c Tryz.underlying31 rfl (by kernel_rfl) ?_)
      refine Calls.mono HKX.out ?_
      rintro e w2 ⟨rfl, hb⟩
      have HO1 := Lib.hid (HOWN.out.below hb)
      have HB1 := Lib.hid (HB.out.trans (hb.mono HB.out.size))
      have HBO1 := Lib.hid (HBO.out.below hb)
      have HLE1 := Lib.hid (Nat.le_trans HLE.out hb.size)
      have hk3 := HK3.out
      clear hb q18
      go_wp2_with (at_builtin; refine wpList_append1 rfl _ _ 44 rfl W0.heap.size 9 _ 1 16 Tryz.underlying44 infoS rfl (by decide) encS encS_len encS_one (textOf x) _ _ _ HO1.out rfl (by refine Eq.trans (b := Value.slice (some ⟨w2.heap.size, 0, none⟩) 1 1) rfl ?_; simp) ?c1 ?c2 ?c3 ?_)
      case c1 => omega
      case c2 => omega
      case c3 => exact HLE1.out
      · intro v3 w3 hown3 hg3
        have hfr : ∀ g, Value.ownBlock _ = some g → W0.heap.size ≤ g := fun g hg => (World.ownsRow.lt HO1.out g hg).1
        have HB3 := Lib.hid (HB1.out.grown hg3 HB1.out.size (fun g hg => by have := hfr g hg; have := HBX.out.size; have := HS0.out; omega))
        have HBO3 : Hid (BoxA w3 w.heap.size a) := ⟨by rw [hg3.block w.heap.size (Array.getElem?_eq_some_iff.1 HBO1.out.blk).1 (fun e => by have := hfr _ e.symm; have := HS0.out; omega)]; exact HBO1.out.blk⟩
        have HLE3 : Hid (W0.heap.size ≤ w3.heap.size) := by have := HLE1.out; have := hg3.size; show _ ≤ _; omega
        have HO3 := Lib.hid hown3
        clear hown3 hg3 hfr
        go_wp2_with fail
        go_roundw
        case rel => exact ⟨k + 1, by omega, by go_num, by rw [take_succ_get HE.out, List.map_append, List.map_take]; exact HO3.out, HBO3.out, HB3.out, HLE3.out⟩
        case measure => simp [intOf]; omega
    · have hkn : k = a.kn := by omega
      obtain ⟨p, c, rfl, hrow⟩ := HOWN.out.isRow encS_len (by have := HK3.out; omega)
      have HT : Hid (TS w wr a l p c) := by
        have h := hrow
        rw [take_full (by rw [hln, hkn]; exact Nat.le_refl _)] at h
        refine ⟨HBO.out, HB.out, ?_⟩
        rw [hln, ← hkn]
        exact h
      clear hrow hlt hk q18 HA HBX HBA HBB HS0 HO0 HSS HOWN HBO HB HLE
      obtain ⟨c0, c1, c2, c3, c4, c5, c6, c7, c8, c9, c10, c11, c12, c13, c14, c15, c16, c17, c18⟩ := HT.out.box.all
      have hds := decB_size a.rho HN.out.node.own.rho.1 HN.out.node.own.rho.2
      have hez := HN.out.effz
      go_upto_region 9 with (first
        | (go_at_call 29; refine (ref14_num HN.out.ok.rho HN.out.node.own.rho.2 _).mono ?_; rintro e w8 ⟨rfl, hb⟩; have HT := Lib.hid (HT.out.step hb); clear hb c0 c1 c2 c3 c4 c5 c6 c7 c8 c9 c10 c11 c12 c13 c14 c15 c16 c17 c18; obtain ⟨c0, c1, c2, c3, c4, c5, c6, c7, c8, c9, c10, c11, c12, c13, c14, c15, c16, c17, c18⟩ := HT.out.box.all)
        | (go_at_call 30; refine (HN.out.eff _ HT.out.below).mono ?_; rintro e w8 ⟨rfl, hb⟩; have HT := Lib.hid (HT.out.step hb); clear hb c0 c1 c2 c3 c4 c5 c6 c7 c8 c9 c10 c11 c12 c13 c14 c15 c16 c17 c18; obtain ⟨c0, c1, c2, c3, c4, c5, c6, c7, c8, c9, c10, c11, c12, c13, c14, c15, c16, c17, c18⟩ := HT.out.box.all))
      go_upto_region 10 with fail
      clear c0 c1 c2 c3 c4 c5 c6 c7 c8 c9 c10 c11 c12 c13 c14 c15 c16 c17 c18
      have HT := Lib.hid (HT.out.step ((Below.refl w8.heap.size w8).alloc (Nat.le_refl _) (.cells #[.string ⟨#[43]⟩, .string ⟨#[45]⟩, .string ⟨#[42]⟩, .string ⟨#[60]⟩, .string ⟨#[61]⟩] 9)))
      have hw9 : (w8.alloc (.cells #[.string ⟨#[43]⟩, .string ⟨#[45]⟩, .string ⟨#[42]⟩, .string ⟨#[60]⟩, .string ⟨#[61]⟩] 9)).heap[w8.heap.size]? = some (.cells #[.string ⟨#[43]⟩, .string ⟨#[45]⟩, .string ⟨#[42]⟩, .string ⟨#[60]⟩, .string ⟨#[61]⟩] 9) := heap_alloc_new _ _
      generalize w8.alloc (.cells #[.string ⟨#[43]⟩, .string ⟨#[45]⟩, .string ⟨#[42]⟩, .string ⟨#[60]⟩, .string ⟨#[61]⟩] 9) = w9 at *
      have HW9 := Lib.hid hw9
      clear hw9
      obtain ⟨c0, c1, c2, c3, c4, c5, c6, c7, c8, c9, c10, c11, c12, c13, c14, c15, c16, c17, c18⟩ := HT.out.box.all
      have hs1 := HN.out.small.name
      have hs2 := HN.out.small.arg
      have hs3 := HN.out.small.exn
      have e1 : (a.kind == 1) = false := by simp [HKK.out]
      have e2 : (a.kind == 2) = false := by simp [HKK.out]
      have e3 : (a.kind == 3) = false := by simp [HKK.out]
      have e4 : (a.kind == 4) = true := by simp [HKK.out]
      obtain ⟨x, rfl⟩ := List.length_eq_one_iff.1 (show l.length = 1 by have h := HN.out.ok.kids; rw [HKK.out] at h; have e : kidsI 4 = 1 := rfl; simp at h; omega)
      obtain ⟨b, o, rfl, d0⟩ := HT.out.at (j := 0) rfl
      have z0 := HN.out.kidz x (by simp)
      simp only [Nat.add_zero] at d0
      have hkn1 : a.kn = 1 := by rw [← hln]; rfl
      have HJ := Lib.hid (text_4 a HKK.out x)
      have n0 : ¬ 9223372036854775807 < 6 + (textOf x).size := by omega
      have n1 : ¬ 9223372036854775807 < 6 + (textOf x).size + 2 := by omega
      go_wp2_with fail
      go_ret
      exact ⟨ret_str HJ.out.symm, HT.out.below⟩
set_option maxHeartbeats 4000000 in
theorem text14_5 {w : World} {a : AH} {l : List PA} (N : TN w a l) (hk : a.kind = 5) : T14At (.node a l) w := by
  have HN := Lib.hid N
  have HKK := Lib.hid hk
  clear hk
  have HBX := Lib.hid ((Below.refl w.heap.size w).alloc (Nat.le_refl _) (boxA a))
  have HA := Lib.hid (boxA_new w a)
  have hkm := N.node.own.kmax
  have hln := N.node.kids.len
  have HK3 : Hid (a.kn ≤ 3) := by
    have h := N.ok.kids
    have := kidsI_le (if a.kind = 17 then 4 else if a.kind = 18 then 1 else a.kind)
    show _ ≤ _
    omega
  have HS0 : Hid ((w.alloc (boxA a)).heap.size = w.heap.size + 1) := by show _ = _; simp
  clear N
  show Calls _ _ #[aggT a] w _
  go_enter Tryz.func17, Tryz.ntmps17
  go_upto_region 1 with fail
  generalize w.alloc (boxA a) = W0 at *
  go_upto_region 2 with fail
  have HO0 := Lib.hid (own_made encS_len W0 W0.heap.size 9 [] 0 #[] (by simp) rfl (by unfold maxLen; omega) (Nat.le_refl _))
  have HBA := Lib.hid (HA.out.below ((Below.refl W0.heap.size W0).alloc (Nat.le_refl _) (.cells #[] 9)))
  have HBB := Lib.hid (HBX.out.alloc HBX.out.size (.cells #[] 9))
  have hss : W0.heap.size ≤ (W0.alloc (.cells #[] 9)).heap.size := by simp
  generalize W0.alloc (.cells #[] 9) = W1 at *
  have HSS := Lib.hid hss
  clear hss
  have q18 : W1.cell? ⟨w.heap.size, 18, none⟩ = some (.slice a.kp a.kn a.kc) := HBA.out.c 18 _ rfl
  go_wp2_with fail
  clear q18
  go_loopw [3, 4, 12] (fun u _ i wr => ∃ (k : Nat), k ≤ a.kn ∧ i = .int .i64 k ∧ OwnE encS 1 wr W0.heap.size 9 u k ((l.take k).map textOf) ∧ BoxA wr w.heap.size a ∧ Below w.heap.size w wr ∧ W0.heap.size ≤ wr.heap.size) (fun _ _ i _ => a.kn - (intOf i).toNat)
  case atStart => exact ⟨0, by omega, rfl, HO0.out, HBA.out, HBB.out, HSS.out⟩
  case round =>
    obtain ⟨k, hk, rfl, hown, hbox, hb, hle⟩ := hrel
    have HOWN := Lib.hid hown
    have HBO := Lib.hid hbox
    have HB := Lib.hid hb
    have HLE := Lib.hid hle
    clear hown hbox hb hle
    have q18 : wr.cell? ⟨w.heap.size, 18, none⟩ = some (.slice a.kp a.kn a.kc) := HBO.out.c 18 _ rfl
    by_cases hlt : k < a.kn
    · obtain ⟨x, hx⟩ := (HN.out.node.rowT).at (j := k) hlt
      have HE := Lib.hid hx
      obtain ⟨b, o, hbo, hbl, hcs⟩ := (HN.out.node.rowT.below HB.out).kid hx
      have HCS := Lib.hid hcs
      have HKX := Lib.hid (HN.out.kids x (List.mem_of_getElem? hx) wr HB.out)
      rw [hbo] at q18
      clear hx hbl hbo hcs
      go_wp2_with (refine wpList_load_mid rfl 31 _ rfl b (o + k * 19) rfl (encAH x.head) _ HCS.out.c Tryz.underlying31 rfl (by kernel_rfl) ?_)
      refine Calls.mono HKX.out ?_
      rintro e w2 ⟨rfl, hb⟩
      have HO1 := Lib.hid (HOWN.out.below hb)
      have HB1 := Lib.hid (HB.out.trans (hb.mono HB.out.size))
      have HBO1 := Lib.hid (HBO.out.below hb)
      have HLE1 := Lib.hid (Nat.le_trans HLE.out hb.size)
      have hk3 := HK3.out
      clear hb q18
      go_wp2_with (at_builtin; refine wpList_append1 rfl _ _ 44 rfl W0.heap.size 9 _ 1 16 Tryz.underlying44 infoS rfl (by decide) encS encS_len encS_one (textOf x) _ _ _ HO1.out rfl (by refine Eq.trans (b := Value.slice (some ⟨w2.heap.size, 0, none⟩) 1 1) rfl ?_; simp) ?c1 ?c2 ?c3 ?_)
      case c1 => omega
      case c2 => omega
      case c3 => exact HLE1.out
      · intro v3 w3 hown3 hg3
        have hfr : ∀ g, Value.ownBlock _ = some g → W0.heap.size ≤ g := fun g hg => (World.ownsRow.lt HO1.out g hg).1
        have HB3 := Lib.hid (HB1.out.grown hg3 HB1.out.size (fun g hg => by have := hfr g hg; have := HBX.out.size; have := HS0.out; omega))
        have HBO3 : Hid (BoxA w3 w.heap.size a) := ⟨by rw [hg3.block w.heap.size (Array.getElem?_eq_some_iff.1 HBO1.out.blk).1 (fun e => by have := hfr _ e.symm; have := HS0.out; omega)]; exact HBO1.out.blk⟩
        have HLE3 : Hid (W0.heap.size ≤ w3.heap.size) := by have := HLE1.out; have := hg3.size; show _ ≤ _; omega
        have HO3 := Lib.hid hown3
        clear hown3 hg3 hfr
        go_wp2_with fail
        go_roundw
        case rel => exact ⟨k + 1, by omega, by go_num, by rw [take_succ_get HE.out, List.map_append, List.map_take]; exact HO3.out, HBO3.out, HB3.out, HLE3.out⟩
        case measure => simp [intOf]; omega
    · have hkn : k = a.kn := by omega
      obtain ⟨p, c, rfl, hrow⟩ := HOWN.out.isRow encS_len (by have := HK3.out; omega)
      have HT : Hid (TS w wr a l p c) := by
        have h := hrow
        rw [take_full (by rw [hln, hkn]; exact Nat.le_refl _)] at h
        refine ⟨HBO.out, HB.out, ?_⟩
        rw [hln, ← hkn]
        exact h
      clear hrow hlt hk q18 HA HBX HBA HBB HS0 HO0 HSS HOWN HBO HB HLE
      obtain ⟨c0, c1, c2, c3, c4, c5, c6, c7, c8, c9, c10, c11, c12, c13, c14, c15, c16, c17, c18⟩ := HT.out.box.all
      have hds := decB_size a.rho HN.out.node.own.rho.1 HN.out.node.own.rho.2
      have hez := HN.out.effz
      go_upto_region 9 with (first
        | (go_at_call 29; refine (ref14_num HN.out.ok.rho HN.out.node.own.rho.2 _).mono ?_; rintro e w8 ⟨rfl, hb⟩; have HT := Lib.hid (HT.out.step hb); clear hb c0 c1 c2 c3 c4 c5 c6 c7 c8 c9 c10 c11 c12 c13 c14 c15 c16 c17 c18; obtain ⟨c0, c1, c2, c3, c4, c5, c6, c7, c8, c9, c10, c11, c12, c13, c14, c15, c16, c17, c18⟩ := HT.out.box.all)
        | (go_at_call 30; refine (HN.out.eff _ HT.out.below).mono ?_; rintro e w8 ⟨rfl, hb⟩; have HT := Lib.hid (HT.out.step hb); clear hb c0 c1 c2 c3 c4 c5 c6 c7 c8 c9 c10 c11 c12 c13 c14 c15 c16 c17 c18; obtain ⟨c0, c1, c2, c3, c4, c5, c6, c7, c8, c9, c10, c11, c12, c13, c14, c15, c16, c17, c18⟩ := HT.out.box.all))
      go_upto_region 10 with fail
      clear c0 c1 c2 c3 c4 c5 c6 c7 c8 c9 c10 c11 c12 c13 c14 c15 c16 c17 c18
      have HT := Lib.hid (HT.out.step ((Below.refl w8.heap.size w8).alloc (Nat.le_refl _) (.cells #[.string ⟨#[43]⟩, .string ⟨#[45]⟩, .string ⟨#[42]⟩, .string ⟨#[60]⟩, .string ⟨#[61]⟩] 9)))
      have hw9 : (w8.alloc (.cells #[.string ⟨#[43]⟩, .string ⟨#[45]⟩, .string ⟨#[42]⟩, .string ⟨#[60]⟩, .string ⟨#[61]⟩] 9)).heap[w8.heap.size]? = some (.cells #[.string ⟨#[43]⟩, .string ⟨#[45]⟩, .string ⟨#[42]⟩, .string ⟨#[60]⟩, .string ⟨#[61]⟩] 9) := heap_alloc_new _ _
      generalize w8.alloc (.cells #[.string ⟨#[43]⟩, .string ⟨#[45]⟩, .string ⟨#[42]⟩, .string ⟨#[60]⟩, .string ⟨#[61]⟩] 9) = w9 at *
      have HW9 := Lib.hid hw9
      clear hw9
      obtain ⟨c0, c1, c2, c3, c4, c5, c6, c7, c8, c9, c10, c11, c12, c13, c14, c15, c16, c17, c18⟩ := HT.out.box.all
      have hs1 := HN.out.small.name
      have hs2 := HN.out.small.arg
      have hs3 := HN.out.small.exn
      have e1 : (a.kind == 1) = false := by simp [HKK.out]
      have e2 : (a.kind == 2) = false := by simp [HKK.out]
      have e3 : (a.kind == 3) = false := by simp [HKK.out]
      have e4 : (a.kind == 4) = false := by simp [HKK.out]
      have e5 : (a.kind == 5) = true := by simp [HKK.out]
      obtain ⟨x, rfl⟩ := List.length_eq_one_iff.1 (show l.length = 1 by have h := HN.out.ok.kids; rw [HKK.out] at h; have e : kidsI 5 = 1 := rfl; simp at h; omega)
      obtain ⟨b, o, rfl, d0⟩ := HT.out.at (j := 0) rfl
      have z0 := HN.out.kidz x (by simp)
      simp only [Nat.add_zero] at d0
      have hkn1 : a.kn = 1 := by rw [← hln]; rfl
      have HJ := Lib.hid (text_5 a HKK.out x)
      have n0 : ¬ 9223372036854775807 < 6 + (textOf x).size := by omega
      have n1 : ¬ 9223372036854775807 < 6 + (textOf x).size + 2 := by omega
      go_wp2_with fail
      go_ret
      exact ⟨ret_str HJ.out.symm, HT.out.below⟩
end Go.Proofs.YtdlbjngpohkglaaGreatDoor
end
