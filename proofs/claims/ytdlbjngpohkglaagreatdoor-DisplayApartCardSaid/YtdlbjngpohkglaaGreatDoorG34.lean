/- Part 34 of the texts: Rf, Rg, Ut. -/
import Derived.Test.YtdlbjngpohkglaaGreatDoorG33
import Derived.Test.YtdlbjngpohkglaaGreatDoorG16
import Derived.Test.YtdlbjngpohkglaaGreatDoorG13
import Derived.Test.YtdlbjngpohkglaaGreatDoorG22
import Derived.Test.YtdlbjngpohkglaaGreatDoorG31
section
set_option linter.unusedVariables false
set_option maxRecDepth 100000
set_option linter.unusedSimpArgs false
namespace Go.Proofs.YtdlbjngpohkglaaGreatDoor
open Go.RowKit

theorem ref14_num {r : Int} (h0 : 0 ≤ r) (h1 : r ≤ 9223372036854775807) (w : World) : Calls Tryz.prog 29 #[.int .i64 r] w fun e w' => e = .returned (.string (decB r)) ∧ Below w.heap.size w w' := by
  have HC := Lib.hid (fun W => ref_Digits_pos h0 h1 W)
  clear h0 h1
  go_enter Tryz.func29, Tryz.ntmps29
  go_wp2_with fail
  refine (HC.out _).mono ?_
  rintro e w1 ⟨rfl, hb⟩
  have HB := Lib.hid hb
  clear hb
  go_wp2_with fail
  go_ret
  exact ⟨rfl, HB.out⟩
/-- the text of regions, so far -/
def rhS (l : List Int) : ByteArray := l.foldl (fun s r => s ++ ⟨#[32]⟩ ++ decB r) ⟨#[32, 91]⟩
theorem rhS_take {l : List Int} {k : Nat} {r : Int} (h : l[k]? = some r) : rhS (l.take (k + 1)) = rhS (l.take k) ++ ⟨#[32]⟩ ++ decB r := by
  unfold rhS
  rw [take_succ_get h, List.foldl_append]; rfl
theorem rhS_all : ∀ (l : List Int) (s x : ByteArray), l.foldl (fun s r => s ++ ⟨#[32]⟩ ++ decB r) s ++ (⟨#[32]⟩ ++ x) = s ++ (⟨#[32]⟩ ++ joinB (l.map decB ++ [x]))
  | [], s, x => by simp [joinB_one]
  | r :: l, s, x => by
    rw [List.foldl_cons, rhS_all l, List.map_cons, List.cons_append, joinB_cons _ _ (by simp)]
    simp only [ByteArray.append_assoc]
/-- the text of regions -/
def rhT (a : AH) : ByteArray := ⟨#[32]⟩ ++ joinB (rhosP a)
theorem rhT_eq (a : AH) : rhS a.rhos ++ ⟨#[32, 93]⟩ = rhT a := by
  unfold rhS rhT rhosP
  have h := rhS_all a.rhos ⟨#[32, 91]⟩ ⟨#[93]⟩
  have e : (⟨#[32]⟩ ++ ⟨#[93]⟩ : ByteArray) = ⟨#[32, 93]⟩ := rfl
  rw [e] at h
  rw [h, List.singleton_append, joinB_cons _ _ (by simp)]
  rfl
theorem rhS_size (l : List Int) (h : ∀ r ∈ l, inI r) : ∀ k, (rhS (l.take k)).size ≤ 2 + 22 * k
  | 0 => by simp [rhS]; decide
  | k + 1 => by
    have ih := rhS_size l h k
    cases hk : l[k]? with
    | none =>
      have : l.take (k + 1) = l.take k := by rw [List.take_add_one, hk]; simp
      rw [this]; omega
    | some r =>
      have hr := h r (List.mem_of_getElem? hk)
      have hd := decB_size r hr.1 hr.2
      have e1 : (⟨#[32]⟩ : ByteArray).size = 1 := rfl
      rw [rhS_take hk]
      simp only [ByteArray.size_append]
      omega
set_option maxHeartbeats 2000000 in
theorem ref14_rhos {w : World} {a : AH} (ho : AH.Own w a) (hn : a.rn ≤ 1000) (h0 : ∀ r ∈ a.rhos, 0 ≤ r) : Calls Tryz.prog 32 #[aggT a] w fun e w' => e = .returned (.string (rhT a)) ∧ Below w.heap.size w w' := by
  have HBX := Lib.hid ((Below.refl w.heap.size w).alloc (Nat.le_refl _) (boxA a))
  have HA := Lib.hid (boxA_new w a)
  have HR := Lib.hid ho.rhos
  have HP := Lib.hid h0
  have HI := Lib.hid ho.rok
  have HSZ := Lib.hid (rhS_size a.rhos ho.rok)
  have hrm := ho.rhos.max
  clear ho h0
  go_enter Tryz.func32, Tryz.ntmps32
  go_upto_region 1 with fail
  obtain ⟨c0, c1, c2, c3, c4, c5, c6, c7, c8, c9, c10, c11, c12, c13, c14, c15, c16, c17, c18⟩ := HA.out.all
  clear c0 c1 c2 c3 c4 c5 c6 c7 c9 c10 c11 c12 c13 c14 c15 c16 c17 c18
  generalize hW0 : w.alloc (boxA a) = W0 at *
  clear hW0
  go_wp2_with fail
  go_loopw [3, 4, 8] (fun o _ i wr => ∃ (k : Nat) (s : ByteArray), k ≤ a.rn ∧ i = .int .i64 k ∧ o = .string s ∧ s = rhS (a.rhos.take k) ∧ s.size ≤ 2 + 22 * k ∧ Below W0.heap.size W0 wr) (fun _ _ i _ => a.rn - (intOf i).toNat)
  case atStart => exact ⟨0, _, by omega, rfl, rfl, rfl, by decide, Below.refl _ _⟩
  case round =>
    obtain ⟨k, s, hk, rfl, rfl, hs, hsz, hb⟩ := hrel
    have HSS := Lib.hid hs
    have HB := Lib.hid hb
    clear hs hb
    have HBW := Lib.hid (HBX.out.trans (HB.out.mono HBX.out.size))
    have q8 : wr.cell? ⟨w.heap.size, 8, none⟩ = some (.slice a.rp a.rn a.rc) := by rw [HB.out.cell (cell_block c8)]; exact c8
    clear c8
    by_cases hlt : k < a.rn
    · obtain ⟨x, hx⟩ := get_of_lt (l := a.rhos) (j := k) (by rw [HR.out.len]; exact hlt)
      obtain ⟨b, o, hbo, hbl, hcs⟩ := (HR.out.below HBW.out).row.elem hx
      have d0 := hcs 0 _ rfl
      simp only [Nat.add_zero, Nat.mul_one] at d0
      have hx0 := HP.out x (List.mem_of_getElem? hx)
      have hx1 := HI.out x (List.mem_of_getElem? hx)
      have hds := decB_size x hx1.1 hx1.2
      have HST := Lib.hid (rhS_take hx)
      have HNM := Lib.hid (fun W => ref14_num hx0 hx1.2 W)
      rw [hbo] at q8
      clear hx hcs hbl hbo hx0 hx1
      go_wp2_with (go_at_call 29; refine (HNM.out _).mono ?_; rintro e w2 ⟨rfl, hb⟩; have HB2 := Lib.hid (HB.out.trans (hb.mono HB.out.size)); clear hb)
      go_roundw
      case rel => exact ⟨k + 1, _, by omega, by go_num, rfl, by rw [HST.out, HSS.out], by simp only [ByteArray.size_append]; have : (⟨#[32]⟩ : ByteArray).size = 1 := rfl; omega, HB2.out⟩
      case measure => simp [intOf]; omega
    · have hkn : k = a.rn := by omega
      have HF : Hid (s = rhS a.rhos) := by show _ = _; rw [HSS.out, take_full (by rw [HR.out.len, hkn]; exact Nat.le_refl _)]
      clear hkn
      go_wp2_with fail
      go_ret
      exact ⟨ret_str (by rw [HF.out, rhT_eq]), HBW.out⟩
end Go.Proofs.YtdlbjngpohkglaaGreatDoor
end
section
set_option linter.unusedVariables false
set_option maxRecDepth 100000
set_option linter.unusedSimpArgs false
namespace Go.Proofs.YtdlbjngpohkglaaGreatDoor
open Go.RowKit

theorem ne_comma : ¬ (⟨#[44]⟩ : ByteArray) = ByteArray.empty := by decide
theorem ne_set : ¬ (⟨#[58, 61]⟩ : ByteArray) = ByteArray.empty := by decide
theorem ne_in : ¬ (⟨#[105, 110]⟩ : ByteArray) = ByteArray.empty := by decide
theorem ne_then : ¬ (⟨#[116, 104, 101, 110]⟩ : ByteArray) = ByteArray.empty := by decide
theorem ne_else : ¬ (⟨#[101, 108, 115, 101]⟩ : ByteArray) = ByteArray.empty := by decide
theorem eq_none : (⟨#[]⟩ : ByteArray) = ByteArray.empty := rfl
theorem text_1 (a : AH) (h : a.kind = 1) (l : List PA) : textOf (.node a l) = decB a.n := by
  unfold textOf
  rw [piecesT_node]
  unfold nodeP
  rw [if_pos h, joinB_one]
theorem text_2 (a : AH) (h : a.kind = 2) (l : List PA) : textOf (.node a l) = a.name := by
  unfold textOf
  rw [piecesT_node]
  unfold nodeP
  rw [if_neg (by omega), if_pos h, joinB_one]
theorem text_3 (a : AH) (h : a.kind = 3) (x y : PA) : textOf (.node a [x, y]) = ⟨#[40, 32]⟩ ++ textOf x ++ ⟨#[32, 44, 32]⟩ ++ textOf y ++ (⟨#[32, 64, 32]⟩ ++ decB a.rho) ++ ⟨#[32, 41]⟩ := by
  unfold textOf
  rw [piecesT_node]
  unfold nodeP innerP
  simp [kidsP, kidsTo, betw, atP, signB, typedP, effP, binderP, h, ne_comma, ne_set, ne_in, ne_then, ne_else, eq_none]
  simp (disch := simp [piecesT_ne', rhosP]) only [joinB_cons, joinB_app, joinB_one]
  apply ba_ext
  simp [app_data]
theorem text_4 (a : AH) (h : a.kind = 4) (x : PA) : textOf (.node a [x]) = ⟨#[40, 32, 102, 115, 116, 32]⟩ ++ textOf x ++ ⟨#[32, 41]⟩ := by
  unfold textOf
  rw [piecesT_node]
  unfold nodeP innerP
  simp [kidsP, kidsTo, betw, atP, signB, typedP, effP, binderP, h, ne_comma, ne_set, ne_in, ne_then, ne_else, eq_none]
  simp (disch := simp [piecesT_ne', rhosP]) only [joinB_cons, joinB_app, joinB_one]
  apply ba_ext
  simp [app_data]
theorem text_5 (a : AH) (h : a.kind = 5) (x : PA) : textOf (.node a [x]) = ⟨#[40, 32, 115, 110, 100, 32]⟩ ++ textOf x ++ ⟨#[32, 41]⟩ := by
  unfold textOf
  rw [piecesT_node]
  unfold nodeP innerP
  simp [kidsP, kidsTo, betw, atP, signB, typedP, effP, binderP, h, ne_comma, ne_set, ne_in, ne_then, ne_else, eq_none]
  simp (disch := simp [piecesT_ne', rhosP]) only [joinB_cons, joinB_app, joinB_one]
  apply ba_ext
  simp [app_data]
theorem text_6 (a : AH) (h : a.kind = 6) (x : PA) : textOf (.node a [x]) = ⟨#[40, 32, 114, 101, 102, 32]⟩ ++ textOf x ++ (⟨#[32, 64, 32]⟩ ++ decB a.rho) ++ ⟨#[32, 41]⟩ := by
  unfold textOf
  rw [piecesT_node]
  unfold nodeP innerP
  simp [kidsP, kidsTo, betw, atP, signB, typedP, effP, binderP, h, ne_comma, ne_set, ne_in, ne_then, ne_else, eq_none]
  simp (disch := simp [piecesT_ne', rhosP]) only [joinB_cons, joinB_app, joinB_one]
  apply ba_ext
  simp [app_data]
theorem text_7 (a : AH) (h : a.kind = 7) (x : PA) : textOf (.node a [x]) = ⟨#[40, 32, 33, 32]⟩ ++ textOf x ++ ⟨#[32, 41]⟩ := by
  unfold textOf
  rw [piecesT_node]
  unfold nodeP innerP
  simp [kidsP, kidsTo, betw, atP, signB, typedP, effP, binderP, h, ne_comma, ne_set, ne_in, ne_then, ne_else, eq_none]
  simp (disch := simp [piecesT_ne', rhosP]) only [joinB_cons, joinB_app, joinB_one]
  apply ba_ext
  simp [app_data]
theorem text_8 (a : AH) (h : a.kind = 8) (x y : PA) : textOf (.node a [x, y]) = ⟨#[40, 32]⟩ ++ textOf x ++ ⟨#[32, 58, 61, 32]⟩ ++ textOf y ++ ⟨#[32, 41]⟩ := by
  unfold textOf
  rw [piecesT_node]
  unfold nodeP innerP
  simp [kidsP, kidsTo, betw, atP, signB, typedP, effP, binderP, h, ne_comma, ne_set, ne_in, ne_then, ne_else, eq_none]
  simp (disch := simp [piecesT_ne', rhosP]) only [joinB_cons, joinB_app, joinB_one]
  apply ba_ext
  simp [app_data]
theorem text_9 (a : AH) (h : a.kind = 9) (x y : PA) : textOf (.node a [x, y]) = ⟨#[40, 32]⟩ ++ textOf x ++ ⟨#[32]⟩ ++ signB a.op ++ ⟨#[32]⟩ ++ textOf y ++ ⟨#[32, 41]⟩ := by
  have hs : (signB a.op).size ≠ 0 := by unfold signB; split; decide; split; decide; split; decide; split <;> decide
  generalize hsg : signB a.op = s at hs
  unfold textOf
  rw [piecesT_node]
  unfold nodeP innerP
  simp [h, kidsP, kidsTo, betw, hsg, hs]
  simp (disch := simp [piecesT_ne', rhosP]) only [joinB_cons, joinB_app, joinB_one]
  apply ba_ext
  simp [app_data]
theorem text_10 (a : AH) (h : a.kind = 10) (x y : PA) : textOf (.node a [x, y]) = ⟨#[40, 32]⟩ ++ textOf x ++ ⟨#[32]⟩ ++ textOf y ++ ⟨#[32, 41]⟩ := by
  unfold textOf
  rw [piecesT_node]
  unfold nodeP innerP
  simp [kidsP, kidsTo, betw, atP, signB, typedP, effP, binderP, h, ne_comma, ne_set, ne_in, ne_then, ne_else, eq_none]
  simp (disch := simp [piecesT_ne', rhosP]) only [joinB_cons, joinB_app, joinB_one]
  apply ba_ext
  simp [app_data]
theorem text_11 (a : AH) (h : a.kind = 11) (x : PA) : textOf (.node a [x]) = ⟨#[40, 32, 102, 110, 32]⟩ ++ a.arg ++ ⟨#[32, 58, 32]⟩ ++ textT a.ty.er ++ (⟨#[32, 33, 32]⟩ ++ textA (effL a.eff)) ++ ⟨#[32, 61, 62, 32]⟩ ++ textOf x ++ (⟨#[32, 64, 32]⟩ ++ decB a.rho) ++ ⟨#[32, 41]⟩ := by
  unfold textOf
  rw [piecesT_node]
  unfold nodeP innerP
  simp [kidsP, kidsTo, betw, atP, signB, typedP, effP, binderP, h, ne_comma, ne_set, ne_in, ne_then, ne_else, eq_none]
  simp (disch := simp [piecesT_ne', rhosP]) only [joinB_cons, joinB_app, joinB_one]
  apply ba_ext
  simp [app_data]
theorem text_12 (a : AH) (h : a.kind = 12) (x y : PA) : textOf (.node a [x, y]) = ⟨#[40, 32, 108, 101, 116, 32]⟩ ++ a.name ++ ⟨#[32, 61, 32]⟩ ++ textOf x ++ ⟨#[32, 105, 110, 32]⟩ ++ textOf y ++ ⟨#[32, 41]⟩ := by
  unfold textOf
  rw [piecesT_node]
  unfold nodeP innerP
  simp [kidsP, kidsTo, betw, atP, signB, typedP, effP, binderP, h, ne_comma, ne_set, ne_in, ne_then, ne_else, eq_none]
  simp (disch := simp [piecesT_ne', rhosP]) only [joinB_cons, joinB_app, joinB_one]
  apply ba_ext
  simp [app_data]
theorem text_13 (a : AH) (h : a.kind = 13) (x y : PA) : textOf (.node a [x, y]) = ⟨#[40, 32, 108, 101, 116, 114, 101, 99, 32]⟩ ++ a.name ++ rhT a ++ ⟨#[32]⟩ ++ a.arg ++ ⟨#[32, 58, 32]⟩ ++ textT a.ty.er ++ ⟨#[32, 45, 62, 32]⟩ ++ textT a.res.er ++ (⟨#[32, 33, 32]⟩ ++ textA (effL a.eff)) ++ ⟨#[32, 61, 32]⟩ ++ textOf x ++ (⟨#[32, 64, 32]⟩ ++ decB a.rho) ++ ⟨#[32, 105, 110, 32]⟩ ++ textOf y ++ ⟨#[32, 41]⟩ := by
  unfold rhT
  have hr : rhosP a ≠ [] := by simp [rhosP]
  generalize hrh : rhosP a = R at hr
  unfold textOf
  rw [piecesT_node]
  unfold nodeP innerP binderP
  simp [h, typedP, effP, atP, hrh]
  simp (disch := simp [piecesT_ne', hr]) only [joinB_cons, joinB_app, joinB_one]
  apply ba_ext
  simp [app_data]
theorem text_14 (a : AH) (h : a.kind = 14) (x y z : PA) : textOf (.node a [x, y, z]) = ⟨#[40, 32, 105, 102, 32]⟩ ++ textOf x ++ ⟨#[32, 116, 104, 101, 110, 32]⟩ ++ textOf y ++ ⟨#[32, 101, 108, 115, 101, 32]⟩ ++ textOf z ++ ⟨#[32, 41]⟩ := by
  unfold textOf
  rw [piecesT_node]
  unfold nodeP innerP
  simp [kidsP, kidsTo, betw, atP, signB, typedP, effP, binderP, h, ne_comma, ne_set, ne_in, ne_then, ne_else, eq_none]
  simp (disch := simp [piecesT_ne', rhosP]) only [joinB_cons, joinB_app, joinB_one]
  apply ba_ext
  simp [app_data]
theorem text_15 (a : AH) (h : a.kind = 15) (x : PA) : textOf (.node a [x]) = ⟨#[40, 32, 114, 97, 105, 115, 101, 32]⟩ ++ a.exn ++ ⟨#[32]⟩ ++ textOf x ++ ⟨#[32, 58, 32]⟩ ++ textT a.ty.er ++ ⟨#[32, 41]⟩ := by
  unfold textOf
  rw [piecesT_node]
  unfold nodeP innerP
  simp [kidsP, kidsTo, betw, atP, signB, typedP, effP, binderP, h, ne_comma, ne_set, ne_in, ne_then, ne_else, eq_none]
  simp (disch := simp [piecesT_ne', rhosP]) only [joinB_cons, joinB_app, joinB_one]
  apply ba_ext
  simp [app_data]
theorem text_16 (a : AH) (h : a.kind = 16) (x y : PA) : textOf (.node a [x, y]) = ⟨#[40, 32, 116, 114, 121, 32]⟩ ++ textOf x ++ ⟨#[32, 119, 105, 116, 104, 32]⟩ ++ a.exn ++ ⟨#[32]⟩ ++ a.arg ++ ⟨#[32, 61, 62, 32]⟩ ++ textOf y ++ ⟨#[32, 41]⟩ := by
  have hs : (joinB [⟨#[119, 105, 116, 104]⟩, a.exn, a.arg, ⟨#[61, 62]⟩]).size ≠ 0 := by
    have h1 : (joinB [⟨#[119, 105, 116, 104]⟩, a.exn, a.arg, ⟨#[61, 62]⟩]) = ⟨#[119, 105, 116, 104]⟩ ++ (⟨#[32]⟩ ++ joinB [a.exn, a.arg, ⟨#[61, 62]⟩]) := joinB_cons _ _ (by simp)
    rw [h1, ByteArray.size_append]
    have : (⟨#[119, 105, 116, 104]⟩ : ByteArray).size = 4 := rfl
    omega
  have hj : joinB [⟨#[119, 105, 116, 104]⟩, a.exn, a.arg, ⟨#[61, 62]⟩] = ⟨#[119, 105, 116, 104, 32]⟩ ++ a.exn ++ ⟨#[32]⟩ ++ a.arg ++ ⟨#[32, 61, 62]⟩ := by
    simp (disch := simp) only [joinB_cons, joinB_one]
    apply ba_ext
    simp [app_data]
  generalize hsg : joinB [⟨#[119, 105, 116, 104]⟩, a.exn, a.arg, ⟨#[61, 62]⟩] = s at hs hj
  unfold textOf
  rw [piecesT_node]
  unfold nodeP innerP binderP
  simp [h, kidsP, kidsTo, betw, hsg, hs]
  simp (disch := simp [piecesT_ne', rhosP]) only [joinB_cons, joinB_app, joinB_one]
  rw [hj]
  apply ba_ext
  simp [app_data]
theorem text_17 (a : AH) (h : a.kind = 17) (x : PA) : textOf (.node a [x]) = ⟨#[40, 32, 114, 101, 103, 105, 111, 110, 32]⟩ ++ decB a.rho ++ ⟨#[32, 105, 110, 32]⟩ ++ textOf x ++ ⟨#[32, 41]⟩ := by
  unfold textOf
  rw [piecesT_node]
  unfold nodeP innerP
  simp [kidsP, kidsTo, betw, atP, signB, typedP, effP, binderP, h, ne_comma, ne_set, ne_in, ne_then, ne_else, eq_none]
  simp (disch := simp [piecesT_ne', rhosP]) only [joinB_cons, joinB_app, joinB_one]
  apply ba_ext
  simp [app_data]
theorem text_18 (a : AH) (h : a.kind = 18) (l : List PA) : textOf (.node a l) = ⟨#[40, 32]⟩ ++ a.name ++ rhT a ++ (⟨#[32, 33, 32]⟩ ++ textA (effL a.eff)) ++ (⟨#[32, 64, 32]⟩ ++ decB a.rho) ++ ⟨#[32, 41]⟩ := by
  unfold rhT
  have hr : rhosP a ≠ [] := by simp [rhosP]
  generalize hrh : rhosP a = R at hr
  unfold textOf
  rw [piecesT_node]
  unfold nodeP innerP binderP
  simp [h, typedP, effP, atP, hrh]
  simp (disch := simp [piecesT_ne', hr]) only [joinB_cons, joinB_app, joinB_one]
  apply ba_ext
  simp [app_data]
end Go.Proofs.YtdlbjngpohkglaaGreatDoor
end
section
set_option linter.unusedVariables false
set_option maxRecDepth 100000
set_option linter.unusedSimpArgs false
namespace Go.Proofs.YtdlbjngpohkglaaGreatDoor
open Go.RowKit

/-- what a term's text tells of a node -/
structure KH where
  kind : Int
  op : Int
  at_ : Int
  n : Int
  name : ByteArray
  arg : ByteArray
  exn : ByteArray
  rho : Int
  rhos : List Int
  eff : List Atom
  ty : RT
  res : RT
def AH.kh (a : AH) : KH := ⟨a.kind, a.op, a.at_, a.n, a.name, a.arg, a.exn, a.rho, a.rhos, a.eff, a.ty.er, a.res.er⟩
def KH.put (k : KH) : KH := { k with at_ := 0 }
/-- a term but for places -/
def keyT (t : PA) : Rose KH := Rose.map (fun a => a.kh.put) t
theorem keyT_node (a : AH) (l : List PA) : keyT (.node a l) = .node a.kh.put (l.map keyT) := Rose.map_node _ a l
structure AOk (a : AH) : Prop where
  ok : NodeOk a
  hr : a.rhos.length = a.rn
  he : a.eff.length = a.en
  ht : plainB a.ty.head = true → a.ty.er = .node ⟨0, 0, []⟩ []
  hs : plainB a.res.head = true → a.res.er = .node ⟨0, 0, []⟩ []
def Good : PA → Prop := Rose.fold (fun a ps => AOk a ∧ ps.length = a.kn ∧ ∀ p ∈ ps, p)
theorem Good_node (a : AH) (l : List PA) : Good (.node a l) ↔ AOk a ∧ l.length = a.kn ∧ ∀ x ∈ l, Good x := by
  have h : Good (.node a l) = (AOk a ∧ (l.map Good).length = a.kn ∧ ∀ p ∈ l.map Good, p) := Rose.fold_node _ a l
  rw [h, List.length_map]
  exact ⟨fun ⟨h1, h2, h3⟩ => ⟨h1, h2, fun x hx => h3 _ (List.mem_map_of_mem hx)⟩, fun ⟨h1, h2, h3⟩ => ⟨h1, h2, fun p hp => by obtain ⟨x, hx, rfl⟩ := List.mem_map.1 hp; exact h3 x hx⟩⟩
theorem plain_er {w : World} {t : PT} (hl : LR.lies w t) (h : plainB t.head = true) : t.er = .node ⟨0, 0, []⟩ [] := by
  obtain ⟨a, l⟩ := t
  have hN := nodeIn hl
  have h : plainB a = true := h
  unfold plainB at h
  simp only [Bool.and_eq_true, beq_iff_eq] at h
  obtain ⟨⟨⟨h1, h2⟩, h3⟩, h4⟩ := h
  have e1 : l = [] := List.eq_nil_of_length_eq_zero (by have := hN.kids.len; omega)
  have e2 : a.eff = [] := List.eq_nil_of_length_eq_zero (by have := hN.own.eff.len; omega)
  rw [PT.er_node, e1]
  unfold RH.plain
  rw [h1, h2, e2]
  rfl
theorem good_of {w : World} (t : PA) : LA.lies w t → mayA t = true → Good t := by
  refine Rose.ind (P := fun (t : PA) => LA.lies w t → mayA t = true → Good t) (fun a l ih hl hm => ?_) t
  have hN := nodeA hl
  rw [mayA_node, Bool.and_eq_true, List.all_eq_true] at hm
  have hok := node_ok hm.1 hN.own.rhos.len
  rw [Good_node]
  exact ⟨⟨hok, hN.own.rhos.len, hN.own.eff.len, plain_er hN.own.ty, plain_er hN.own.res⟩, hN.kids.len, fun x hx => ih x hx (hN.each x hx) (hm.2 x hx)⟩
/-- the words of a term -/
def W (t : PA) : List ByteArray := wordsP (piecesT t)
def bFst : ByteArray := ⟨#[102, 115, 116]⟩
def bSnd : ByteArray := ⟨#[115, 110, 100]⟩
def bFn : ByteArray := ⟨#[102, 110]⟩
def bLet : ByteArray := ⟨#[108, 101, 116]⟩
def bLetrec : ByteArray := ⟨#[108, 101, 116, 114, 101, 99]⟩
def bIf : ByteArray := ⟨#[105, 102]⟩
def bRaise : ByteArray := ⟨#[114, 97, 105, 115, 101]⟩
def bTry : ByteArray := ⟨#[116, 114, 121]⟩
def bRegion : ByteArray := ⟨#[114, 101, 103, 105, 111, 110]⟩
def bIn : ByteArray := ⟨#[105, 110]⟩
def bThen : ByteArray := ⟨#[116, 104, 101, 110]⟩
def bElse : ByteArray := ⟨#[101, 108, 115, 101]⟩
def bWith : ByteArray := ⟨#[119, 105, 116, 104]⟩
def bSq : ByteArray := ⟨#[91]⟩
def bSqC : ByteArray := ⟨#[93]⟩
def bColon : ByteArray := ⟨#[58]⟩
def bEq : ByteArray := ⟨#[61]⟩
def bFat : ByteArray := ⟨#[61, 62]⟩
def bSet : ByteArray := ⟨#[58, 61]⟩
theorem s_Cm : spl ⟨#[44]⟩ = [bCm] := spl_of (by rfl)
theorem s_Fst : spl ⟨#[102, 115, 116]⟩ = [bFst] := spl_of (by rfl)
theorem s_Snd : spl ⟨#[115, 110, 100]⟩ = [bSnd] := spl_of (by rfl)
theorem s_Ref : spl ⟨#[114, 101, 102]⟩ = [bRef] := spl_of (by rfl)
theorem s_Fn : spl ⟨#[102, 110]⟩ = [bFn] := spl_of (by rfl)
theorem s_Let : spl ⟨#[108, 101, 116]⟩ = [bLet] := spl_of (by rfl)
theorem s_Letrec : spl ⟨#[108, 101, 116, 114, 101, 99]⟩ = [bLetrec] := spl_of (by rfl)
theorem s_If : spl ⟨#[105, 102]⟩ = [bIf] := spl_of (by rfl)
theorem s_Raise : spl ⟨#[114, 97, 105, 115, 101]⟩ = [bRaise] := spl_of (by rfl)
theorem s_Try : spl ⟨#[116, 114, 121]⟩ = [bTry] := spl_of (by rfl)
theorem s_Region : spl ⟨#[114, 101, 103, 105, 111, 110]⟩ = [bRegion] := spl_of (by rfl)
theorem s_In : spl ⟨#[105, 110]⟩ = [bIn] := spl_of (by rfl)
theorem s_Then : spl ⟨#[116, 104, 101, 110]⟩ = [bThen] := spl_of (by rfl)
theorem s_Else : spl ⟨#[101, 108, 115, 101]⟩ = [bElse] := spl_of (by rfl)
theorem s_With : spl ⟨#[119, 105, 116, 104]⟩ = [bWith] := spl_of (by rfl)
theorem s_Sq : spl ⟨#[91]⟩ = [bSq] := spl_of (by rfl)
theorem s_SqC : spl ⟨#[93]⟩ = [bSqC] := spl_of (by rfl)
theorem s_Colon : spl ⟨#[58]⟩ = [bColon] := spl_of (by rfl)
theorem s_Eq : spl ⟨#[61]⟩ = [bEq] := spl_of (by rfl)
theorem s_Fat : spl ⟨#[61, 62]⟩ = [bFat] := spl_of (by rfl)
theorem s_Set : spl ⟨#[58, 61]⟩ = [bSet] := spl_of (by rfl)
theorem wordsP_cons (s : ByteArray) (l : List ByteArray) : wordsP (s :: l) = spl s ++ wordsP l := by simp [wordsP]
theorem wordsP_nil : wordsP [] = [] := rfl
theorem wordsP_dec : ∀ l : List Int, (∀ r ∈ l, 0 ≤ r) → wordsP (l.map decB) = l.map decB
  | [], _ => rfl
  | r :: l, h => by rw [List.map_cons, wordsP_cons, decB_word (h r (by simp)), wordsP_dec l (fun x hx => h x (List.mem_cons_of_mem _ hx))]; rfl
theorem w_1 (a : AH) (l : List PA) (h : a.kind = 1) (hn : 0 ≤ a.n) : W (.node a l) = [decB a.n] := by
  unfold W
  rw [piecesT_node]
  unfold nodeP
  rw [if_pos h, wordsP_cons, decB_word hn]; rfl
theorem w_2 (a : AH) (l : List PA) (h : a.kind = 2) (hn : nameB a.name = true) : W (.node a l) = [a.name] := by
  unfold W
  rw [piecesT_node]
  unfold nodeP
  rw [if_neg (by omega), if_pos h, wordsP_cons, name_word hn]; rfl
theorem w_3 (a : AH) (x y : PA) (h : a.kind = 3) (h0 : 0 ≤ a.rho) : W (.node a [x, y]) = bO :: (W x ++ bCm :: (W y ++ [bAt, decB a.rho, bC])) := by
  unfold W
  rw [piecesT_node]
  unfold nodeP innerP binderP
  simp [kidsP, kidsTo, betw, atP, signB, typedP, effP, rhosP, h, ne_comma, ne_set, ne_in, ne_then, ne_else, eq_none, wordsP_app, wordsP_cons, wordsP_nil, s_O, s_C, s_Cm, s_At, s_Bang, s_Arr, s_Fst, s_Snd, s_Ref, s_Fn, s_Let, s_Letrec, s_If, s_Raise, s_Try, s_Region, s_In, s_Then, s_Else, s_With, s_Sq, s_SqC, s_Colon, s_Eq, s_Fat, s_Set, decB_word h0]
theorem w_4 (a : AH) (x : PA) (h : a.kind = 4) : W (.node a [x]) = bO :: bFst :: (W x ++ [bC]) := by
  unfold W
  rw [piecesT_node]
  unfold nodeP innerP binderP
  simp [kidsP, kidsTo, betw, atP, signB, typedP, effP, rhosP, h, ne_comma, ne_set, ne_in, ne_then, ne_else, eq_none, wordsP_app, wordsP_cons, wordsP_nil, s_O, s_C, s_Cm, s_At, s_Bang, s_Arr, s_Fst, s_Snd, s_Ref, s_Fn, s_Let, s_Letrec, s_If, s_Raise, s_Try, s_Region, s_In, s_Then, s_Else, s_With, s_Sq, s_SqC, s_Colon, s_Eq, s_Fat, s_Set, h]
theorem w_5 (a : AH) (x : PA) (h : a.kind = 5) : W (.node a [x]) = bO :: bSnd :: (W x ++ [bC]) := by
  unfold W
  rw [piecesT_node]
  unfold nodeP innerP binderP
  simp [kidsP, kidsTo, betw, atP, signB, typedP, effP, rhosP, h, ne_comma, ne_set, ne_in, ne_then, ne_else, eq_none, wordsP_app, wordsP_cons, wordsP_nil, s_O, s_C, s_Cm, s_At, s_Bang, s_Arr, s_Fst, s_Snd, s_Ref, s_Fn, s_Let, s_Letrec, s_If, s_Raise, s_Try, s_Region, s_In, s_Then, s_Else, s_With, s_Sq, s_SqC, s_Colon, s_Eq, s_Fat, s_Set, h]
theorem w_6 (a : AH) (x : PA) (h : a.kind = 6) (h0 : 0 ≤ a.rho) : W (.node a [x]) = bO :: bRef :: (W x ++ [bAt, decB a.rho, bC]) := by
  unfold W
  rw [piecesT_node]
  unfold nodeP innerP binderP
  simp [kidsP, kidsTo, betw, atP, signB, typedP, effP, rhosP, h, ne_comma, ne_set, ne_in, ne_then, ne_else, eq_none, wordsP_app, wordsP_cons, wordsP_nil, s_O, s_C, s_Cm, s_At, s_Bang, s_Arr, s_Fst, s_Snd, s_Ref, s_Fn, s_Let, s_Letrec, s_If, s_Raise, s_Try, s_Region, s_In, s_Then, s_Else, s_With, s_Sq, s_SqC, s_Colon, s_Eq, s_Fat, s_Set, decB_word h0]
theorem w_7 (a : AH) (x : PA) (h : a.kind = 7) : W (.node a [x]) = bO :: bBang :: (W x ++ [bC]) := by
  unfold W
  rw [piecesT_node]
  unfold nodeP innerP binderP
  simp [kidsP, kidsTo, betw, atP, signB, typedP, effP, rhosP, h, ne_comma, ne_set, ne_in, ne_then, ne_else, eq_none, wordsP_app, wordsP_cons, wordsP_nil, s_O, s_C, s_Cm, s_At, s_Bang, s_Arr, s_Fst, s_Snd, s_Ref, s_Fn, s_Let, s_Letrec, s_If, s_Raise, s_Try, s_Region, s_In, s_Then, s_Else, s_With, s_Sq, s_SqC, s_Colon, s_Eq, s_Fat, s_Set, h]
theorem w_8 (a : AH) (x y : PA) (h : a.kind = 8) : W (.node a [x, y]) = bO :: (W x ++ bSet :: (W y ++ [bC])) := by
  unfold W
  rw [piecesT_node]
  unfold nodeP innerP binderP
  simp [kidsP, kidsTo, betw, atP, signB, typedP, effP, rhosP, h, ne_comma, ne_set, ne_in, ne_then, ne_else, eq_none, wordsP_app, wordsP_cons, wordsP_nil, s_O, s_C, s_Cm, s_At, s_Bang, s_Arr, s_Fst, s_Snd, s_Ref, s_Fn, s_Let, s_Letrec, s_If, s_Raise, s_Try, s_Region, s_In, s_Then, s_Else, s_With, s_Sq, s_SqC, s_Colon, s_Eq, s_Fat, s_Set, h]
theorem sign_word (op : Int) : spl (signB op) = [signB op] := by
  unfold signB
  split
  · exact spl_of (by rfl)
  split
  · exact spl_of (by rfl)
  split
  · exact spl_of (by rfl)
  split
  · exact spl_of (by rfl)
  · exact spl_of (by rfl)
theorem w_9 (a : AH) (x y : PA) (h : a.kind = 9) : W (.node a [x, y]) = bO :: (W x ++ signB a.op :: (W y ++ [bC])) := by
  have hs : (signB a.op).size ≠ 0 := by unfold signB; split; decide; split; decide; split; decide; split <;> decide
  have hw := sign_word a.op
  generalize hsg : signB a.op = s at hs hw
  unfold W
  rw [piecesT_node]
  unfold nodeP innerP
  simp [h, kidsP, kidsTo, betw, hsg, hs, wordsP_app, wordsP_cons, wordsP_nil, s_O, s_C, hw]
theorem w_10 (a : AH) (x y : PA) (h : a.kind = 10) : W (.node a [x, y]) = bO :: (W x ++ (W y ++ [bC])) := by
  unfold W
  rw [piecesT_node]
  unfold nodeP innerP binderP
  simp [kidsP, kidsTo, betw, atP, signB, typedP, effP, rhosP, h, ne_comma, ne_set, ne_in, ne_then, ne_else, eq_none, wordsP_app, wordsP_cons, wordsP_nil, s_O, s_C, s_Cm, s_At, s_Bang, s_Arr, s_Fst, s_Snd, s_Ref, s_Fn, s_Let, s_Letrec, s_If, s_Raise, s_Try, s_Region, s_In, s_Then, s_Else, s_With, s_Sq, s_SqC, s_Colon, s_Eq, s_Fat, s_Set, h]
theorem w_11 (a : AH) (x : PA) (h : a.kind = 11) (h0 : 0 ≤ a.rho) (hn : nameB a.arg = true) (he : mayB a.eff = true) : W (.node a [x]) = bO :: bFn :: a.arg :: bColon :: (wT a.ty.er ++ bBang :: (wE a.eff ++ bFat :: (W x ++ [bAt, decB a.rho, bC]))) := by
  have e1 : spl (textA (effL a.eff)) = wE a.eff := by rw [effL_may he, wE_eq _ (mayB_all he)]
  have e2 : spl (textT a.ty.er) = wT a.ty.er := rfl
  unfold W
  rw [piecesT_node]
  unfold nodeP innerP binderP
  simp [kidsP, kidsTo, betw, atP, signB, typedP, effP, rhosP, h, ne_comma, ne_set, ne_in, ne_then, ne_else, eq_none, wordsP_app, wordsP_cons, wordsP_nil, s_O, s_C, s_Cm, s_At, s_Bang, s_Arr, s_Fst, s_Snd, s_Ref, s_Fn, s_Let, s_Letrec, s_If, s_Raise, s_Try, s_Region, s_In, s_Then, s_Else, s_With, s_Sq, s_SqC, s_Colon, s_Eq, s_Fat, s_Set, decB_word h0, name_word hn, e1, e2]
theorem w_12 (a : AH) (x y : PA) (h : a.kind = 12) (hn : nameB a.name = true) : W (.node a [x, y]) = bO :: bLet :: a.name :: bEq :: (W x ++ bIn :: (W y ++ [bC])) := by
  unfold W
  rw [piecesT_node]
  unfold nodeP innerP binderP
  simp [kidsP, kidsTo, betw, atP, signB, typedP, effP, rhosP, h, ne_comma, ne_set, ne_in, ne_then, ne_else, eq_none, wordsP_app, wordsP_cons, wordsP_nil, s_O, s_C, s_Cm, s_At, s_Bang, s_Arr, s_Fst, s_Snd, s_Ref, s_Fn, s_Let, s_Letrec, s_If, s_Raise, s_Try, s_Region, s_In, s_Then, s_Else, s_With, s_Sq, s_SqC, s_Colon, s_Eq, s_Fat, s_Set, name_word hn]
theorem w_13 (a : AH) (x y : PA) (h : a.kind = 13) (h0 : 0 ≤ a.rho) (hn : nameB a.name = true) (hg : nameB a.arg = true) (he : mayB a.eff = true) (hr : ∀ r ∈ a.rhos, 0 ≤ r) : W (.node a [x, y]) = bO :: bLetrec :: a.name :: bSq :: (a.rhos.map decB ++ bSqC :: a.arg :: bColon :: (wT a.ty.er ++ bArr :: (wT a.res.er ++ bBang :: (wE a.eff ++ bEq :: (W x ++ bAt :: decB a.rho :: bIn :: (W y ++ [bC])))))) := by
  have e1 : spl (textA (effL a.eff)) = wE a.eff := by rw [effL_may he, wE_eq _ (mayB_all he)]
  have e2 : spl (textT a.ty.er) = wT a.ty.er := rfl
  have e3 : spl (textT a.res.er) = wT a.res.er := rfl
  unfold W
  rw [piecesT_node]
  unfold nodeP innerP binderP
  simp [kidsP, kidsTo, betw, atP, signB, typedP, effP, rhosP, h, ne_comma, ne_set, ne_in, ne_then, ne_else, eq_none, wordsP_app, wordsP_cons, wordsP_nil, s_O, s_C, s_Cm, s_At, s_Bang, s_Arr, s_Fst, s_Snd, s_Ref, s_Fn, s_Let, s_Letrec, s_If, s_Raise, s_Try, s_Region, s_In, s_Then, s_Else, s_With, s_Sq, s_SqC, s_Colon, s_Eq, s_Fat, s_Set, decB_word h0, name_word hn, name_word hg, e1, e2, e3, wordsP_dec _ hr]
theorem w_14 (a : AH) (x y z : PA) (h : a.kind = 14) : W (.node a [x, y, z]) = bO :: bIf :: (W x ++ bThen :: (W y ++ bElse :: (W z ++ [bC]))) := by
  unfold W
  rw [piecesT_node]
  unfold nodeP innerP binderP
  simp [kidsP, kidsTo, betw, atP, signB, typedP, effP, rhosP, h, ne_comma, ne_set, ne_in, ne_then, ne_else, eq_none, wordsP_app, wordsP_cons, wordsP_nil, s_O, s_C, s_Cm, s_At, s_Bang, s_Arr, s_Fst, s_Snd, s_Ref, s_Fn, s_Let, s_Letrec, s_If, s_Raise, s_Try, s_Region, s_In, s_Then, s_Else, s_With, s_Sq, s_SqC, s_Colon, s_Eq, s_Fat, s_Set, h]
theorem w_15 (a : AH) (x : PA) (h : a.kind = 15) (hn : exnB a.exn = true) : W (.node a [x]) = bO :: bRaise :: a.exn :: (W x ++ bColon :: (wT a.ty.er ++ [bC])) := by
  have e2 : spl (textT a.ty.er) = wT a.ty.er := rfl
  unfold W
  rw [piecesT_node]
  unfold nodeP innerP binderP
  simp [kidsP, kidsTo, betw, atP, signB, typedP, effP, rhosP, h, ne_comma, ne_set, ne_in, ne_then, ne_else, eq_none, wordsP_app, wordsP_cons, wordsP_nil, s_O, s_C, s_Cm, s_At, s_Bang, s_Arr, s_Fst, s_Snd, s_Ref, s_Fn, s_Let, s_Letrec, s_If, s_Raise, s_Try, s_Region, s_In, s_Then, s_Else, s_With, s_Sq, s_SqC, s_Colon, s_Eq, s_Fat, s_Set, exn_word hn, e2]
theorem w_16 (a : AH) (x y : PA) (h : a.kind = 16) (hn : exnB a.exn = true) (hg : nameB a.arg = true) : W (.node a [x, y]) = bO :: bTry :: (W x ++ bWith :: a.exn :: a.arg :: bFat :: (W y ++ [bC])) := by
  have hs : (joinB [⟨#[119, 105, 116, 104]⟩, a.exn, a.arg, ⟨#[61, 62]⟩]).size ≠ 0 := by
    have h1 : (joinB [⟨#[119, 105, 116, 104]⟩, a.exn, a.arg, ⟨#[61, 62]⟩]) = ⟨#[119, 105, 116, 104]⟩ ++ (⟨#[32]⟩ ++ joinB [a.exn, a.arg, ⟨#[61, 62]⟩]) := joinB_cons _ _ (by simp)
    rw [h1, ByteArray.size_append]
    have : (⟨#[119, 105, 116, 104]⟩ : ByteArray).size = 4 := rfl
    omega
  have hw : spl (joinB [⟨#[119, 105, 116, 104]⟩, a.exn, a.arg, ⟨#[61, 62]⟩]) = [bWith, a.exn, a.arg, bFat] := by
    rw [wordsJ _ (by simp)]
    simp [s_With, s_Fat, exn_word hn, name_word hg]
  have hs' : ¬ joinB [⟨#[119, 105, 116, 104]⟩, a.exn, a.arg, ⟨#[61, 62]⟩] = ByteArray.empty := fun e => by rw [e] at hs; exact hs rfl
  unfold W
  rw [piecesT_node]
  unfold nodeP innerP binderP
  simp [h, kidsP, kidsTo, betw, hs', wordsP_app, wordsP_cons, wordsP_nil, s_O, s_C, s_Try, hw]
theorem w_17 (a : AH) (x : PA) (h : a.kind = 17) (h0 : 0 ≤ a.rho) : W (.node a [x]) = bO :: bRegion :: decB a.rho :: bIn :: (W x ++ [bC]) := by
  unfold W
  rw [piecesT_node]
  unfold nodeP innerP binderP
  simp [kidsP, kidsTo, betw, atP, signB, typedP, effP, rhosP, h, ne_comma, ne_set, ne_in, ne_then, ne_else, eq_none, wordsP_app, wordsP_cons, wordsP_nil, s_O, s_C, s_Cm, s_At, s_Bang, s_Arr, s_Fst, s_Snd, s_Ref, s_Fn, s_Let, s_Letrec, s_If, s_Raise, s_Try, s_Region, s_In, s_Then, s_Else, s_With, s_Sq, s_SqC, s_Colon, s_Eq, s_Fat, s_Set, decB_word h0]
theorem w_18 (a : AH) (l : List PA) (h : a.kind = 18) (h0 : 0 ≤ a.rho) (hn : nameB a.name = true) (he : mayB a.eff = true) (hr : ∀ r ∈ a.rhos, 0 ≤ r) : W (.node a l) = bO :: a.name :: bSq :: (a.rhos.map decB ++ bSqC :: bBang :: (wE a.eff ++ [bAt, decB a.rho, bC])) := by
  have e1 : spl (textA (effL a.eff)) = wE a.eff := by rw [effL_may he, wE_eq _ (mayB_all he)]
  unfold W
  rw [piecesT_node]
  unfold nodeP innerP binderP
  simp [kidsP, kidsTo, betw, atP, signB, typedP, effP, rhosP, h, ne_comma, ne_set, ne_in, ne_then, ne_else, eq_none, wordsP_app, wordsP_cons, wordsP_nil, s_O, s_C, s_Cm, s_At, s_Bang, s_Arr, s_Fst, s_Snd, s_Ref, s_Fn, s_Let, s_Letrec, s_If, s_Raise, s_Try, s_Region, s_In, s_Then, s_Else, s_With, s_Sq, s_SqC, s_Colon, s_Eq, s_Fat, s_Set, decB_word h0, name_word hn, e1, wordsP_dec _ hr]
end Go.Proofs.YtdlbjngpohkglaaGreatDoor
end
