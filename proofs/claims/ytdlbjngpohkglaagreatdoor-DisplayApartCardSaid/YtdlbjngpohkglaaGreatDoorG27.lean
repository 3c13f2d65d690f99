/- Part 27 of the texts: Wl. -/
import Derived.Test.YtdlbjngpohkglaaGreatDoorG26
section
set_option linter.unusedVariables false
set_option maxRecDepth 100000
set_option linter.unusedSimpArgs false
namespace Go.Proofs.YtdlbjngpohkglaaGreatDoor
open Go.RowKit

set_option maxHeartbeats 4000000 in
theorem letrec_13 {w0 : World} {g : Nat} {a : AH} {x0 x1 : AH} {m0 m1 : List PA} (D : DN w0 g a [.node x0 m0, .node x1 m1]) (hk : a.kind = 13) : PutsAt w0 g 99 #[.pointer (some ⟨g, 0, none⟩), aggT a] (wordsP [⟨#[108, 101, 116, 114, 101, 99]⟩, a.name] ++ ((wordsP [⟨#[91]⟩] ++ (wordsP (a.rhos.map decB) ++ wordsP [⟨#[93]⟩])) ++ (wordsP [a.arg] ++ (wordsP [⟨#[58]⟩, textT a.ty.er] ++ (wordsP [⟨#[45, 62]⟩, textT a.res.er] ++ (wordsP [⟨#[33]⟩, textA (effL a.eff)] ++ (wordsP [⟨#[61]⟩] ++ (wordsP (piecesT (.node x0 m0)) ++ ((wordsP [⟨#[64]⟩] ++ wordsP [decB a.rho]) ++ (wordsP [⟨#[105, 110]⟩] ++ (wordsP (piecesT (.node x1 m1))))))))))))) := by
  intro W v L hb hw hM
  have HE := Lib.hid D.env
  have HG := Lib.hid D.env.hg
  have HG1 := Lib.hid hw.lt
  have HM := Lib.hid hM
  have HD := Lib.hid (DSt.init hb hw a)
  have HS1 := Lib.hid D.name
  have HS2 := Lib.hid D.arg
  have HS3 := Lib.hid D.exn
  have HAT := Lib.hid D.hat
  have HEF := Lib.hid D.heff
  have HRH := Lib.hid D.hrhos
  have HTX := Lib.hid (D.hty (by simp [hk, inB]))
  have HTR := Lib.hid (D.hres hk)
  have HTM := Lib.hid (show PutsAt w0 g 42 #[.pointer (some ⟨g, 0, none⟩), aggT x0] (wordsP (piecesT (.node x0 m0))) from D.kids _ (by simp))
  have HT1 := Lib.hid (show PutsAt w0 g 42 #[.pointer (some ⟨g, 0, none⟩), aggT x1] (wordsP (piecesT (.node x1 m1))) from D.kids _ (by simp))
  have hR : RowTA w0 a.kp a.kn a.kc [.node x0 m0, .node x1 m1] := D.node.rowT
  have hkn : a.kn = 2 := by have := hR.row.len; simpa using this.symm
  have hn0 : 0 < a.kn := by omega
  have hn1 : 1 < a.kn := by omega
  obtain ⟨b, o, hbo, hbl, hc0⟩ := hR.kid (j := 0) rfl
  obtain ⟨b', o', hbo', hbl', hc1⟩ := hR.kid (j := 1) rfl
  have hbb : b' = b ∧ o' = o := by rw [hbo] at hbo'; injection hbo' with h1; injection h1 with h1 h2; exact ⟨h1.symm, h2.symm⟩
  obtain ⟨rfl, rfl⟩ := hbb
  have HBO := Lib.hid hbo
  have HBL := Lib.hid hbl
  have HC0 := Lib.hid (show CellsA w0 b' (o' + 0 * 19) x0 from hc0)
  have HC1 := Lib.hid (show CellsA w0 b' (o' + 1 * 19) x1 from hc1)
  clear hR hkn hbo hbl hc0 hbo' hbl' hc1
  clear D hb hw hM
  show Calls _ _ _ _ _
  have HKD := Lib.hid hk
  clear hk
  go_enter Tryz.func99, Tryz.ntmps99
  go_upto_region 1 with fail
  generalize hW0 : W.alloc (boxA a) = W0 at *
  clear hW0
  obtain ⟨c0, c1, c2, c3, c4, c5, c6, c7, c8, c9, c10, c11, c12, c13, c14, c15, c16, c17, c18⟩ := HD.out.box.all
  go_wp2_with (first
    | (refine wpList_load_row rfl 31 _ rfl W.heap.size rfl 31 _ (0, 0) _ HD.out.box.blk Tryz.underlying31 rfl (by kernel_rfl) ?_)
    | (refine wpList_load_mid rfl 31 _ rfl b' (o' + 0 * 19) rfl (encAH x0) _ k0 Tryz.underlying31 rfl (by kernel_rfl) ?_)
    | (refine wpList_load_mid rfl 31 _ rfl b' (o' + 1 * 19) rfl (encAH x1) _ k1 Tryz.underlying31 rfl (by kernel_rfl) ?_)
    | (go_at_call 57; refine (put_cs HE.out HD.out.below HD.out.wr _ (by omega) _ (by simp [strsOf, strOf, encS]) (by rfl) _ _ (by simp) (by simp [strsOf, strOf, HS1.out, HS2.out, HS3.out] <;> decide) (by first | exact HM.out | (have := HM.out; simp only [strsOf, strOf, List.map_cons, List.map_nil, List.length_append] at this ⊢; omega))).mono ?_; rintro e w8 ⟨rfl, v8, hw8, ht8⟩; have HD := Lib.hid (HD.out.step HG.out HG1.out hw8 ht8); clear hw8 ht8 c0 c1 c2 c3 c4 c5 c6 c7 c8 c9 c10 c11 c12 c13 c14 c15 c16 c17 c18; obtain ⟨c0, c1, c2, c3, c4, c5, c6, c7, c8, c9, c10, c11, c12, c13, c14, c15, c16, c17, c18⟩ := HD.out.box.all; rw [HBO.out] at c18; have k0 := (HC0.out.below HD.out.below HBL.out).c; have k1 := (HC1.out.below HD.out.below HBL.out).c)
    | (go_at_call 100; refine (HRH.out _ _ _ HD.out.below HD.out.wr (by first | exact HM.out | (have := HM.out; simp only [strsOf, strOf, List.map_cons, List.map_nil, List.length_append] at this ⊢; omega))).mono ?_; rintro e w8 ⟨rfl, v8, hw8, ht8⟩; have HD := Lib.hid (HD.out.step HG.out HG1.out hw8 ht8); clear hw8 ht8 c0 c1 c2 c3 c4 c5 c6 c7 c8 c9 c10 c11 c12 c13 c14 c15 c16 c17 c18; obtain ⟨c0, c1, c2, c3, c4, c5, c6, c7, c8, c9, c10, c11, c12, c13, c14, c15, c16, c17, c18⟩ := HD.out.box.all; rw [HBO.out] at c18; have k0 := (HC0.out.below HD.out.below HBL.out).c; have k1 := (HC1.out.below HD.out.below HBL.out).c)
    | (go_at_call 97; refine (HTX.out _ _ _ HD.out.below HD.out.wr (by first | exact HM.out | (have := HM.out; simp only [strsOf, strOf, List.map_cons, List.map_nil, List.length_append] at this ⊢; omega))).mono ?_; clear HTX; have HTX := HTR; rintro e w8 ⟨rfl, v8, hw8, ht8⟩; have HD := Lib.hid (HD.out.step HG.out HG1.out hw8 ht8); clear hw8 ht8 c0 c1 c2 c3 c4 c5 c6 c7 c8 c9 c10 c11 c12 c13 c14 c15 c16 c17 c18; obtain ⟨c0, c1, c2, c3, c4, c5, c6, c7, c8, c9, c10, c11, c12, c13, c14, c15, c16, c17, c18⟩ := HD.out.box.all; rw [HBO.out] at c18; have k0 := (HC0.out.below HD.out.below HBL.out).c; have k1 := (HC1.out.below HD.out.below HBL.out).c)
    | (go_at_call 98; refine (HEF.out _ _ _ HD.out.below HD.out.wr (by first | exact HM.out | (have := HM.out; simp only [strsOf, strOf, List.map_cons, List.map_nil, List.length_append] at this ⊢; omega))).mono ?_; rintro e w8 ⟨rfl, v8, hw8, ht8⟩; have HD := Lib.hid (HD.out.step HG.out HG1.out hw8 ht8); clear hw8 ht8 c0 c1 c2 c3 c4 c5 c6 c7 c8 c9 c10 c11 c12 c13 c14 c15 c16 c17 c18; obtain ⟨c0, c1, c2, c3, c4, c5, c6, c7, c8, c9, c10, c11, c12, c13, c14, c15, c16, c17, c18⟩ := HD.out.box.all; rw [HBO.out] at c18; have k0 := (HC0.out.below HD.out.below HBL.out).c; have k1 := (HC1.out.below HD.out.below HBL.out).c)
    | (go_at_call 78; refine (HAT.out _ _ _ HD.out.below HD.out.wr (by first | exact HM.out | (have := HM.out; simp only [strsOf, strOf, List.map_cons, List.map_nil, List.length_append] at this ⊢; omega))).mono ?_; rintro e w8 ⟨rfl, v8, hw8, ht8⟩; have HD := Lib.hid (HD.out.step HG.out HG1.out hw8 ht8); clear hw8 ht8 c0 c1 c2 c3 c4 c5 c6 c7 c8 c9 c10 c11 c12 c13 c14 c15 c16 c17 c18; obtain ⟨c0, c1, c2, c3, c4, c5, c6, c7, c8, c9, c10, c11, c12, c13, c14, c15, c16, c17, c18⟩ := HD.out.box.all; rw [HBO.out] at c18; have k0 := (HC0.out.below HD.out.below HBL.out).c; have k1 := (HC1.out.below HD.out.below HBL.out).c)
    | (go_at_call 42; refine (HTM.out _ _ _ HD.out.below HD.out.wr (by first | exact HM.out | (have := HM.out; simp only [strsOf, strOf, List.map_cons, List.map_nil, List.length_append] at this ⊢; omega))).mono ?_; clear HTM; have HTM := HT1; rintro e w8 ⟨rfl, v8, hw8, ht8⟩; have HD := Lib.hid (HD.out.step HG.out HG1.out hw8 ht8); clear hw8 ht8 c0 c1 c2 c3 c4 c5 c6 c7 c8 c9 c10 c11 c12 c13 c14 c15 c16 c17 c18; obtain ⟨c0, c1, c2, c3, c4, c5, c6, c7, c8, c9, c10, c11, c12, c13, c14, c15, c16, c17, c18⟩ := HD.out.box.all; rw [HBO.out] at c18; have k0 := (HC0.out.below HD.out.below HBL.out).c; have k1 := (HC1.out.below HD.out.below HBL.out).c))
  go_end0
  refine ⟨rfl, _, ?_, HD.out.wrote⟩
  have := HD.out.wr
  first
    | exact this
    | (simp only [strsOf, strOf, List.map_cons, List.map_nil, List.append_assoc] at this ⊢
       exact this)
end Go.Proofs.YtdlbjngpohkglaaGreatDoor
end
