/- Part 26 of the texts: Wt. -/
import Derived.Test.YtdlbjngpohkglaaGreatDoorG25
section
set_option linter.unusedVariables false
set_option maxRecDepth 100000
set_option linter.unusedSimpArgs false
namespace Go.Proofs.YtdlbjngpohkglaaGreatDoor
open Go.RowKit

/-- kids behind a row of words of its own -/
theorem kids_cs {w0 : World} {g : Nat} (hE : DEnv w0 g) {a : AH} {l : List PA} (hN : NodeA w0 a l) (hf : ∀ x ∈ l, TermAt w0 g x)
    (W : World) (v : Value) (L : List ByteArray) (hb : Below w0.heap.size w0 W) (hw : WrS g L W v) (n : Nat) (hm : n ≤ 1000) (cs : Array Value) (hcs : cs.toList = (strsOf cs).flatMap encS) (hn : cs.size = n) (e : TypeId) (gs : Nat) (hgs : W.heap.size = gs)
    (hsz : ∀ s ∈ strsOf cs, s.size < 4294967281) (hle : l.length ≤ n + 1) (hM : L.length + (wordsP (kidsP (strsOf cs) (l.map piecesT))).length ≤ 1000000000000) :
    PutsTo g 77 #[.pointer (some ⟨g, 0, none⟩), aggT a, .slice (some ⟨gs, 0, none⟩) n n] (wordsP (kidsP (strsOf cs) (l.map piecesT))) L W v (W.alloc (.cells cs e)) := by
  subst hgs
  have hlt := hw.lt
  have hbl : Below W.heap.size W (W.alloc (.cells cs e)) := (Below.refl _ _).alloc (Nat.le_refl _) _
  refine (kids_any hE hN hf hsz (some ⟨W.heap.size, 0, none⟩) n n (by simp [strsOf, hn]) hm hle (hb.trans (hbl.mono hb.size)) (hw.below hbl) hM (.inr ⟨W.heap.size, rfl, by simp, by omega, fun h => by have := (hw.from _ h).2; omega, RowE.newAt encS_len W (strsOf cs) cs hcs _ _ _ rfl⟩)).mono ?_
  rintro e' w' ⟨rfl, v', h1, h2⟩
  exact ⟨rfl, v', h1, (Wrote.of_below hbl).trans h2⟩
/-- what the writer's methods want of a node -/
structure DN (w0 : World) (g : Nat) (a : AH) (l : List PA) : Prop where
  env : DEnv w0 g
  node : NodeA w0 a l
  kids : ∀ x ∈ l, TermAt w0 g x
  name : a.name.size < 4294967281
  arg : a.arg.size < 4294967281
  exn : a.exn.size < 4294967281
  len : ∀ {m : Nat}, kidsI (if a.kind = 17 then 4 else if a.kind = 18 then 1 else a.kind) = (m : Int) → l.length = m
  op : a.kind = 9 → 1 ≤ a.op ∧ a.op ≤ 5
  heff : PutsAt w0 g 98 #[.pointer (some ⟨g, 0, none⟩), aggT a] (wordsP [⟨#[33]⟩, textA (effL a.eff)])
  hty : inB [11, 13, 15] a.kind = true → PutsAt w0 g 97 #[.pointer (some ⟨g, 0, none⟩), .string ⟨#[58]⟩, aggR a.ty.head] (wordsP [⟨#[58]⟩, textT a.ty.er])
  hres : a.kind = 13 → PutsAt w0 g 97 #[.pointer (some ⟨g, 0, none⟩), .string ⟨#[45, 62]⟩, aggR a.res.head] (wordsP [⟨#[45, 62]⟩, textT a.res.er])
section
variable {w0 : World} {g : Nat} {a : AH} {l : List PA}
theorem DN.hat (D : DN w0 g a l) : PutsAt w0 g 78 #[.pointer (some ⟨g, 0, none⟩), aggT a] (wordsP [⟨#[64]⟩] ++ wordsP [decB a.rho]) := at_any D.env a D.node.own.rho
theorem DN.hnum (D : DN w0 g a l) : PutsAt w0 g 96 #[.pointer (some ⟨g, 0, none⟩), .int .i64 a.rho] (wordsP [decB a.rho]) := num_any D.env D.node.own.rho
theorem DN.hrhos (D : DN w0 g a l) : PutsAt w0 g 100 #[.pointer (some ⟨g, 0, none⟩), aggT a] (wordsP [⟨#[91]⟩] ++ (wordsP (a.rhos.map decB) ++ wordsP [⟨#[93]⟩])) := rhos_any D.env a D.node.own.rhos D.node.own.rok
theorem DN.hkids (D : DN w0 g a l) (W : World) (v : Value) (L : List ByteArray) (hb : Below w0.heap.size w0 W) (hw : WrS g L W v) (n : Nat) (hm : n ≤ 1000) (cs : Array Value) (hcs : cs.toList = (strsOf cs).flatMap encS) (hn : cs.size = n) (e : TypeId) (gs : Nat) (hgs : W.heap.size = gs)
    (hsz : ∀ s ∈ strsOf cs, s.size < 4294967281) (hle : l.length ≤ n + 1) (hM : L.length + (wordsP (kidsP (strsOf cs) (l.map piecesT))).length ≤ 1000000000000) :
    PutsTo g 77 #[.pointer (some ⟨g, 0, none⟩), aggT a, .slice (some ⟨gs, 0, none⟩) n n] (wordsP (kidsP (strsOf cs) (l.map piecesT))) L W v (W.alloc (.cells cs e)) := kids_cs D.env D.node D.kids W v L hb hw n hm cs hcs hn e gs hgs hsz hle hM
theorem DN.hkids0 (D : DN w0 g a l) (W : World) (v : Value) (L : List ByteArray) (hb : Below w0.heap.size w0 W) (hw : WrS g L W v) (hle : l.length ≤ 1) (hM : L.length + (wordsP (kidsP [] (l.map piecesT))).length ≤ 1000000000000) :
    PutsTo g 77 #[.pointer (some ⟨g, 0, none⟩), aggT a, .slice none 0 0] (wordsP (kidsP [] (l.map piecesT))) L W v W :=
  kids_any D.env D.node D.kids (by simp) none 0 0 rfl (by omega) (by omega) hb hw hM (.inl rfl)
end
set_option maxHeartbeats 2000000 in
theorem inner_3 {w0 : World} {g : Nat} {a : AH} {l : List PA} (D : DN w0 g a l) (hk : a.kind = 3) : PutsAt w0 g 59 #[.pointer (some ⟨g, 0, none⟩), aggT a] (wordsP (kidsP [⟨#[44]⟩] (l.map piecesT)) ++ ((wordsP [⟨#[64]⟩] ++ wordsP [decB a.rho]))) := by
  intro W v L hb hw hM
  have HE := Lib.hid D.env
  have HG := Lib.hid D.env.hg
  have HG1 := Lib.hid hw.lt
  have HM := Lib.hid hM
  have HD := Lib.hid (DSt.init hb hw a)
  have HS1 := Lib.hid D.name
  have HS2 := Lib.hid D.arg
  have HS3 := Lib.hid D.exn
  have HKC := Lib.hid D.hkids
  have HLN := Lib.hid (D.len (m := 2) (by simp [hk, kidsI]))
  have HAT := Lib.hid D.hat
  clear D hb hw hM
  show Calls _ _ _ _ _
  have e3 : (a.kind == 3) = true := by simp [hk]
  have e4 : (a.kind == 4) = false := by simp [hk]
  have e5 : (a.kind == 5) = false := by simp [hk]
  have e7 : (a.kind == 7) = false := by simp [hk]
  have e6 : (a.kind == 6) = false := by simp [hk]
  have e8 : (a.kind == 8) = false := by simp [hk]
  have e9 : (a.kind == 9) = false := by simp [hk]
  have e10 : (a.kind == 10) = false := by simp [hk]
  have e14 : (a.kind == 14) = false := by simp [hk]
  have HKD := Lib.hid hk
  clear hk
  go_enter Tryz.func59, Tryz.ntmps59
  go_upto_region 1 with fail
  generalize hW0 : W.alloc (boxA a) = W0 at *
  clear hW0
  obtain ⟨c0, c1, c2, c3, c4, c5, c6, c7, c8, c9, c10, c11, c12, c13, c14, c15, c16, c17, c18⟩ := HD.out.box.all
  go_wp2_with (first
    | (refine wpList_load_row rfl 31 _ rfl W.heap.size rfl 31 _ (0, 0) _ HD.out.box.blk Tryz.underlying31 rfl (by kernel_rfl) ?_)
    | (go_at_call 77; refine (HKC.out _ _ _ HD.out.below HD.out.wr _ (by omega) _ (by simp [strsOf, strOf, encS]) (by rfl) _ _ (by simp) (by simp [strsOf, strOf, HS1.out, HS2.out, HS3.out] <;> decide) (by simp [HLN.out]) (by first | exact HM.out | (have := HM.out; simp only [strsOf, strOf, List.map_cons, List.map_nil, List.length_append] at this ⊢; omega))).mono ?_; rintro e w8 ⟨rfl, v8, hw8, ht8⟩; have HD := Lib.hid (HD.out.step HG.out HG1.out hw8 ht8); clear hw8 ht8 c0 c1 c2 c3 c4 c5 c6 c7 c8 c9 c10 c11 c12 c13 c14 c15 c16 c17 c18; obtain ⟨c0, c1, c2, c3, c4, c5, c6, c7, c8, c9, c10, c11, c12, c13, c14, c15, c16, c17, c18⟩ := HD.out.box.all)
    | (go_at_call 78; refine (HAT.out _ _ _ HD.out.below HD.out.wr (by first | exact HM.out | (have := HM.out; simp only [strsOf, strOf, List.map_cons, List.map_nil, List.length_append] at this ⊢; omega))).mono ?_; rintro e w8 ⟨rfl, v8, hw8, ht8⟩; have HD := Lib.hid (HD.out.step HG.out HG1.out hw8 ht8); clear hw8 ht8 c0 c1 c2 c3 c4 c5 c6 c7 c8 c9 c10 c11 c12 c13 c14 c15 c16 c17 c18; obtain ⟨c0, c1, c2, c3, c4, c5, c6, c7, c8, c9, c10, c11, c12, c13, c14, c15, c16, c17, c18⟩ := HD.out.box.all))
  go_end0
  refine ⟨rfl, _, ?_, HD.out.wrote⟩
  have := HD.out.wr
  first
    | exact this
    | (simp only [strsOf, strOf, List.map_cons, List.map_nil, List.append_assoc] at this ⊢
       exact this)

set_option maxHeartbeats 2000000 in
theorem inner_6 {w0 : World} {g : Nat} {a : AH} {l : List PA} (D : DN w0 g a l) (hk : a.kind = 6) : PutsAt w0 g 59 #[.pointer (some ⟨g, 0, none⟩), aggT a] (wordsP [⟨#[114, 101, 102]⟩] ++ (wordsP (kidsP [] (l.map piecesT)) ++ ((wordsP [⟨#[64]⟩] ++ wordsP [decB a.rho])))) := by
  intro W v L hb hw hM
  have HE := Lib.hid D.env
  have HG := Lib.hid D.env.hg
  have HG1 := Lib.hid hw.lt
  have HM := Lib.hid hM
  have HD := Lib.hid (DSt.init hb hw a)
  have HS1 := Lib.hid D.name
  have HS2 := Lib.hid D.arg
  have HS3 := Lib.hid D.exn
  have HK0 := Lib.hid D.hkids0
  have hln := D.len (m := 1) (by simp [hk, kidsI])
  have HAT := Lib.hid D.hat
  clear D hb hw hM
  show Calls _ _ _ _ _
  have e3 : (a.kind == 3) = false := by simp [hk]
  have e4 : (a.kind == 4) = false := by simp [hk]
  have e5 : (a.kind == 5) = false := by simp [hk]
  have e7 : (a.kind == 7) = false := by simp [hk]
  have e6 : (a.kind == 6) = true := by simp [hk]
  have e8 : (a.kind == 8) = false := by simp [hk]
  have e9 : (a.kind == 9) = false := by simp [hk]
  have e10 : (a.kind == 10) = false := by simp [hk]
  have e14 : (a.kind == 14) = false := by simp [hk]
  have HKD := Lib.hid hk
  clear hk
  go_enter Tryz.func59, Tryz.ntmps59
  go_upto_region 1 with fail
  generalize hW0 : W.alloc (boxA a) = W0 at *
  clear hW0
  obtain ⟨c0, c1, c2, c3, c4, c5, c6, c7, c8, c9, c10, c11, c12, c13, c14, c15, c16, c17, c18⟩ := HD.out.box.all
  go_wp2_with (first
    | (refine wpList_load_row rfl 31 _ rfl W.heap.size rfl 31 _ (0, 0) _ HD.out.box.blk Tryz.underlying31 rfl (by kernel_rfl) ?_)
    | (go_at_call 57; refine (put_cs HE.out HD.out.below HD.out.wr _ (by omega) _ (by simp [strsOf, strOf, encS]) (by rfl) _ _ (by simp) (by simp [strsOf, strOf, HS1.out, HS2.out, HS3.out] <;> decide) (by first | exact HM.out | (have := HM.out; simp only [strsOf, strOf, List.map_cons, List.map_nil, List.length_append] at this ⊢; omega))).mono ?_; rintro e w8 ⟨rfl, v8, hw8, ht8⟩; have HD := Lib.hid (HD.out.step HG.out HG1.out hw8 ht8); clear hw8 ht8 c0 c1 c2 c3 c4 c5 c6 c7 c8 c9 c10 c11 c12 c13 c14 c15 c16 c17 c18; obtain ⟨c0, c1, c2, c3, c4, c5, c6, c7, c8, c9, c10, c11, c12, c13, c14, c15, c16, c17, c18⟩ := HD.out.box.all)
    | (go_at_call 77; refine (HK0.out _ _ _ HD.out.below HD.out.wr (by omega) (by first | exact HM.out | (have := HM.out; simp only [strsOf, strOf, List.map_cons, List.map_nil, List.length_append] at this ⊢; omega))).mono ?_; rintro e w8 ⟨rfl, v8, hw8, ht8⟩; have HD := Lib.hid (HD.out.step HG.out HG1.out hw8 ht8); clear hw8 ht8 c0 c1 c2 c3 c4 c5 c6 c7 c8 c9 c10 c11 c12 c13 c14 c15 c16 c17 c18; obtain ⟨c0, c1, c2, c3, c4, c5, c6, c7, c8, c9, c10, c11, c12, c13, c14, c15, c16, c17, c18⟩ := HD.out.box.all)
    | (go_at_call 78; refine (HAT.out _ _ _ HD.out.below HD.out.wr (by first | exact HM.out | (have := HM.out; simp only [strsOf, strOf, List.map_cons, List.map_nil, List.length_append] at this ⊢; omega))).mono ?_; rintro e w8 ⟨rfl, v8, hw8, ht8⟩; have HD := Lib.hid (HD.out.step HG.out HG1.out hw8 ht8); clear hw8 ht8 c0 c1 c2 c3 c4 c5 c6 c7 c8 c9 c10 c11 c12 c13 c14 c15 c16 c17 c18; obtain ⟨c0, c1, c2, c3, c4, c5, c6, c7, c8, c9, c10, c11, c12, c13, c14, c15, c16, c17, c18⟩ := HD.out.box.all))
  go_end0
  refine ⟨rfl, _, ?_, HD.out.wrote⟩
  have := HD.out.wr
  first
    | exact this
    | (simp only [strsOf, strOf, List.map_cons, List.map_nil, List.append_assoc] at this ⊢
       exact this)

set_option maxHeartbeats 2000000 in
theorem inner_8 {w0 : World} {g : Nat} {a : AH} {l : List PA} (D : DN w0 g a l) (hk : a.kind = 8) : PutsAt w0 g 59 #[.pointer (some ⟨g, 0, none⟩), aggT a] (wordsP (kidsP [⟨#[58, 61]⟩] (l.map piecesT))) := by
  intro W v L hb hw hM
  have HE := Lib.hid D.env
  have HG := Lib.hid D.env.hg
  have HG1 := Lib.hid hw.lt
  have HM := Lib.hid hM
  have HD := Lib.hid (DSt.init hb hw a)
  have HS1 := Lib.hid D.name
  have HS2 := Lib.hid D.arg
  have HS3 := Lib.hid D.exn
  have HKC := Lib.hid D.hkids
  have HLN := Lib.hid (D.len (m := 2) (by simp [hk, kidsI]))
  clear D hb hw hM
  show Calls _ _ _ _ _
  have e3 : (a.kind == 3) = false := by simp [hk]
  have e4 : (a.kind == 4) = false := by simp [hk]
  have e5 : (a.kind == 5) = false := by simp [hk]
  have e7 : (a.kind == 7) = false := by simp [hk]
  have e6 : (a.kind == 6) = false := by simp [hk]
  have e8 : (a.kind == 8) = true := by simp [hk]
  have e9 : (a.kind == 9) = false := by simp [hk]
  have e10 : (a.kind == 10) = false := by simp [hk]
  have e14 : (a.kind == 14) = false := by simp [hk]
  have HKD := Lib.hid hk
  clear hk
  go_enter Tryz.func59, Tryz.ntmps59
  go_upto_region 1 with fail
  generalize hW0 : W.alloc (boxA a) = W0 at *
  clear hW0
  obtain ⟨c0, c1, c2, c3, c4, c5, c6, c7, c8, c9, c10, c11, c12, c13, c14, c15, c16, c17, c18⟩ := HD.out.box.all
  go_wp2_with (first
    | (refine wpList_load_row rfl 31 _ rfl W.heap.size rfl 31 _ (0, 0) _ HD.out.box.blk Tryz.underlying31 rfl (by kernel_rfl) ?_)
    | (go_at_call 77; refine (HKC.out _ _ _ HD.out.below HD.out.wr _ (by omega) _ (by simp [strsOf, strOf, encS]) (by rfl) _ _ (by simp) (by simp [strsOf, strOf, HS1.out, HS2.out, HS3.out] <;> decide) (by simp [HLN.out]) (by first | exact HM.out | (have := HM.out; simp only [strsOf, strOf, List.map_cons, List.map_nil, List.length_append] at this ⊢; omega))).mono ?_; rintro e w8 ⟨rfl, v8, hw8, ht8⟩; have HD := Lib.hid (HD.out.step HG.out HG1.out hw8 ht8); clear hw8 ht8 c0 c1 c2 c3 c4 c5 c6 c7 c8 c9 c10 c11 c12 c13 c14 c15 c16 c17 c18; obtain ⟨c0, c1, c2, c3, c4, c5, c6, c7, c8, c9, c10, c11, c12, c13, c14, c15, c16, c17, c18⟩ := HD.out.box.all))
  go_end0
  refine ⟨rfl, _, ?_, HD.out.wrote⟩
  have := HD.out.wr
  first
    | exact this
    | (simp only [strsOf, strOf, List.map_cons, List.map_nil, List.append_assoc] at this ⊢
       exact this)

set_option maxHeartbeats 2000000 in
theorem inner_10 {w0 : World} {g : Nat} {a : AH} {l : List PA} (D : DN w0 g a l) (hk : a.kind = 10) : PutsAt w0 g 59 #[.pointer (some ⟨g, 0, none⟩), aggT a] (wordsP (kidsP [⟨#[]⟩] (l.map piecesT))) := by
  intro W v L hb hw hM
  have HE := Lib.hid D.env
  have HG := Lib.hid D.env.hg
  have HG1 := Lib.hid hw.lt
  have HM := Lib.hid hM
  have HD := Lib.hid (DSt.init hb hw a)
  have HS1 := Lib.hid D.name
  have HS2 := Lib.hid D.arg
  have HS3 := Lib.hid D.exn
  have HKC := Lib.hid D.hkids
  have HLN := Lib.hid (D.len (m := 2) (by simp [hk, kidsI]))
  clear D hb hw hM
  show Calls _ _ _ _ _
  have e3 : (a.kind == 3) = false := by simp [hk]
  have e4 : (a.kind == 4) = false := by simp [hk]
  have e5 : (a.kind == 5) = false := by simp [hk]
  have e7 : (a.kind == 7) = false := by simp [hk]
  have e6 : (a.kind == 6) = false := by simp [hk]
  have e8 : (a.kind == 8) = false := by simp [hk]
  have e9 : (a.kind == 9) = false := by simp [hk]
  have e10 : (a.kind == 10) = true := by simp [hk]
  have e14 : (a.kind == 14) = false := by simp [hk]
  have HKD := Lib.hid hk
  clear hk
  go_enter Tryz.func59, Tryz.ntmps59
  go_upto_region 1 with fail
  generalize hW0 : W.alloc (boxA a) = W0 at *
  clear hW0
  obtain ⟨c0, c1, c2, c3, c4, c5, c6, c7, c8, c9, c10, c11, c12, c13, c14, c15, c16, c17, c18⟩ := HD.out.box.all
  go_wp2_with (first
    | (refine wpList_load_row rfl 31 _ rfl W.heap.size rfl 31 _ (0, 0) _ HD.out.box.blk Tryz.underlying31 rfl (by kernel_rfl) ?_)
    | (go_at_call 77; refine (HKC.out _ _ _ HD.out.below HD.out.wr _ (by omega) _ (by simp [strsOf, strOf, encS]) (by rfl) _ _ (by simp) (by simp [strsOf, strOf, HS1.out, HS2.out, HS3.out] <;> decide) (by simp [HLN.out]) (by first | exact HM.out | (have := HM.out; simp only [strsOf, strOf, List.map_cons, List.map_nil, List.length_append] at this ⊢; omega))).mono ?_; rintro e w8 ⟨rfl, v8, hw8, ht8⟩; have HD := Lib.hid (HD.out.step HG.out HG1.out hw8 ht8); clear hw8 ht8 c0 c1 c2 c3 c4 c5 c6 c7 c8 c9 c10 c11 c12 c13 c14 c15 c16 c17 c18; obtain ⟨c0, c1, c2, c3, c4, c5, c6, c7, c8, c9, c10, c11, c12, c13, c14, c15, c16, c17, c18⟩ := HD.out.box.all))
  go_end0
  refine ⟨rfl, _, ?_, HD.out.wrote⟩
  have := HD.out.wr
  first
    | exact this
    | (simp only [strsOf, strOf, List.map_cons, List.map_nil, List.append_assoc] at this ⊢
       exact this)

set_option maxHeartbeats 2000000 in
theorem inner_14 {w0 : World} {g : Nat} {a : AH} {l : List PA} (D : DN w0 g a l) (hk : a.kind = 14) : PutsAt w0 g 59 #[.pointer (some ⟨g, 0, none⟩), aggT a] (wordsP [⟨#[105, 102]⟩] ++ (wordsP (kidsP [⟨#[116, 104, 101, 110]⟩, ⟨#[101, 108, 115, 101]⟩] (l.map piecesT)))) := by
  intro W v L hb hw hM
  have HE := Lib.hid D.env
  have HG := Lib.hid D.env.hg
  have HG1 := Lib.hid hw.lt
  have HM := Lib.hid hM
  have HD := Lib.hid (DSt.init hb hw a)
  have HS1 := Lib.hid D.name
  have HS2 := Lib.hid D.arg
  have HS3 := Lib.hid D.exn
  have HKC := Lib.hid D.hkids
  have HLN := Lib.hid (D.len (m := 3) (by simp [hk, kidsI]))
  clear D hb hw hM
  show Calls _ _ _ _ _
  have e3 : (a.kind == 3) = false := by simp [hk]
  have e4 : (a.kind == 4) = false := by simp [hk]
  have e5 : (a.kind == 5) = false := by simp [hk]
  have e7 : (a.kind == 7) = false := by simp [hk]
  have e6 : (a.kind == 6) = false := by simp [hk]
  have e8 : (a.kind == 8) = false := by simp [hk]
  have e9 : (a.kind == 9) = false := by simp [hk]
  have e10 : (a.kind == 10) = false := by simp [hk]
  have e14 : (a.kind == 14) = true := by simp [hk]
  have HKD := Lib.hid hk
  clear hk
  go_enter Tryz.func59, Tryz.ntmps59
  go_upto_region 1 with fail
  generalize hW0 : W.alloc (boxA a) = W0 at *
  clear hW0
  obtain ⟨c0, c1, c2, c3, c4, c5, c6, c7, c8, c9, c10, c11, c12, c13, c14, c15, c16, c17, c18⟩ := HD.out.box.all
  go_wp2_with (first
    | (refine wpList_load_row rfl 31 _ rfl W.heap.size rfl 31 _ (0, 0) _ HD.out.box.blk Tryz.underlying31 rfl (by kernel_rfl) ?_)
    | (go_at_call 57; refine (put_cs HE.out HD.out.below HD.out.wr _ (by omega) _ (by simp [strsOf, strOf, encS]) (by rfl) _ _ (by simp) (by simp [strsOf, strOf, HS1.out, HS2.out, HS3.out] <;> decide) (by first | exact HM.out | (have := HM.out; simp only [strsOf, strOf, List.map_cons, List.map_nil, List.length_append] at this ⊢; omega))).mono ?_; rintro e w8 ⟨rfl, v8, hw8, ht8⟩; have HD := Lib.hid (HD.out.step HG.out HG1.out hw8 ht8); clear hw8 ht8 c0 c1 c2 c3 c4 c5 c6 c7 c8 c9 c10 c11 c12 c13 c14 c15 c16 c17 c18; obtain ⟨c0, c1, c2, c3, c4, c5, c6, c7, c8, c9, c10, c11, c12, c13, c14, c15, c16, c17, c18⟩ := HD.out.box.all)
    | (go_at_call 77; refine (HKC.out _ _ _ HD.out.below HD.out.wr _ (by omega) _ (by simp [strsOf, strOf, encS]) (by rfl) _ _ (by simp) (by simp [strsOf, strOf, HS1.out, HS2.out, HS3.out] <;> decide) (by simp [HLN.out]) (by first | exact HM.out | (have := HM.out; simp only [strsOf, strOf, List.map_cons, List.map_nil, List.length_append] at this ⊢; omega))).mono ?_; rintro e w8 ⟨rfl, v8, hw8, ht8⟩; have HD := Lib.hid (HD.out.step HG.out HG1.out hw8 ht8); clear hw8 ht8 c0 c1 c2 c3 c4 c5 c6 c7 c8 c9 c10 c11 c12 c13 c14 c15 c16 c17 c18; obtain ⟨c0, c1, c2, c3, c4, c5, c6, c7, c8, c9, c10, c11, c12, c13, c14, c15, c16, c17, c18⟩ := HD.out.box.all))
  go_end0
  refine ⟨rfl, _, ?_, HD.out.wrote⟩
  have := HD.out.wr
  first
    | exact this
    | (simp only [strsOf, strOf, List.map_cons, List.map_nil, List.append_assoc] at this ⊢
       exact this)

set_option maxHeartbeats 2000000 in
theorem inner_4 {w0 : World} {g : Nat} {a : AH} {l : List PA} (D : DN w0 g a l) (hk : a.kind = 4) : PutsAt w0 g 59 #[.pointer (some ⟨g, 0, none⟩), aggT a] (wordsP [⟨#[102, 115, 116]⟩] ++ (wordsP (kidsP [] (l.map piecesT)))) := by
  intro W v L hb hw hM
  have HE := Lib.hid D.env
  have HG := Lib.hid D.env.hg
  have HG1 := Lib.hid hw.lt
  have HM := Lib.hid hM
  have HD := Lib.hid (DSt.init hb hw a)
  have HS1 := Lib.hid D.name
  have HS2 := Lib.hid D.arg
  have HS3 := Lib.hid D.exn
  have HK0 := Lib.hid D.hkids0
  have hln := D.len (m := 1) (by simp [hk, kidsI])
  clear D hb hw hM
  show Calls _ _ _ _ _
  have hu8 : IntKind.u8.wrap (a.kind - 4) = 0 := by rw [hk]; exact IntWalk.u8_in _ (by omega)
  have e3 : (a.kind == 3) = false := by simp [hk]
  have e4 : (a.kind == 4) = true := by simp [hk]
  have e5 : (a.kind == 5) = false := by simp [hk]
  have e7 : (a.kind == 7) = false := by simp [hk]
  have e6 : (a.kind == 6) = false := by simp [hk]
  have e8 : (a.kind == 8) = false := by simp [hk]
  have e9 : (a.kind == 9) = false := by simp [hk]
  have e10 : (a.kind == 10) = false := by simp [hk]
  have e14 : (a.kind == 14) = false := by simp [hk]
  have HKD := Lib.hid hk
  clear hk
  go_enter Tryz.func59, Tryz.ntmps59
  go_upto_region 1 with fail
  generalize hW0 : W.alloc (boxA a) = W0 at *
  clear hW0
  obtain ⟨c0, c1, c2, c3, c4, c5, c6, c7, c8, c9, c10, c11, c12, c13, c14, c15, c16, c17, c18⟩ := HD.out.box.all
  have c0' := (HD.out.below' ((Below.refl _ _).alloc (Nat.le_refl _) (.cells #[.string ⟨#[102, 115, 116]⟩, .string ⟨#[115, 110, 100]⟩, .string ⟨#[]⟩, .string ⟨#[33]⟩] 9))).box.c 0 _ rfl
  go_wp2_with (first
    | (refine wpList_load_row rfl 31 _ rfl W.heap.size rfl 31 _ (0, 0) _ HD.out.box.blk Tryz.underlying31 rfl (by kernel_rfl) ?_)
    | (go_at_call 57; refine (put_cs HE.out (HD.out.below' ((Below.refl _ _).alloc (Nat.le_refl _) _)).below (HD.out.below' ((Below.refl _ _).alloc (Nat.le_refl _) _)).wr _ (by omega) _ (by simp [strsOf, strOf, encS]) (by rfl) _ _ (by simp) (by simp [strsOf, strOf, HS1.out, HS2.out, HS3.out] <;> decide) (by first | exact HM.out | (have := HM.out; simp only [strsOf, strOf, List.map_cons, List.map_nil, List.length_append] at this ⊢; omega))).mono ?_; rintro e w8 ⟨rfl, v8, hw8, ht8⟩; have HD := Lib.hid ((HD.out.below' ((Below.refl _ _).alloc (Nat.le_refl _) _)).step HG.out HG1.out hw8 ht8); clear hw8 ht8 c0 c1 c2 c3 c4 c5 c6 c7 c8 c9 c10 c11 c12 c13 c14 c15 c16 c17 c18; obtain ⟨c0, c1, c2, c3, c4, c5, c6, c7, c8, c9, c10, c11, c12, c13, c14, c15, c16, c17, c18⟩ := HD.out.box.all)
    | (go_at_call 77; refine (HK0.out _ _ _ HD.out.below HD.out.wr (by omega) (by first | exact HM.out | (have := HM.out; simp only [strsOf, strOf, List.map_cons, List.map_nil, List.length_append] at this ⊢; omega))).mono ?_; rintro e w8 ⟨rfl, v8, hw8, ht8⟩; have HD := Lib.hid (HD.out.step HG.out HG1.out hw8 ht8); clear hw8 ht8 c0 c1 c2 c3 c4 c5 c6 c7 c8 c9 c10 c11 c12 c13 c14 c15 c16 c17 c18; obtain ⟨c0, c1, c2, c3, c4, c5, c6, c7, c8, c9, c10, c11, c12, c13, c14, c15, c16, c17, c18⟩ := HD.out.box.all))
  go_end0
  refine ⟨rfl, _, ?_, HD.out.wrote⟩
  have := HD.out.wr
  first
    | exact this
    | (simp only [strsOf, strOf, List.map_cons, List.map_nil, List.append_assoc] at this ⊢
       exact this)

set_option maxHeartbeats 2000000 in
theorem inner_5 {w0 : World} {g : Nat} {a : AH} {l : List PA} (D : DN w0 g a l) (hk : a.kind = 5) : PutsAt w0 g 59 #[.pointer (some ⟨g, 0, none⟩), aggT a] (wordsP [⟨#[115, 110, 100]⟩] ++ (wordsP (kidsP [] (l.map piecesT)))) := by
  intro W v L hb hw hM
  have HE := Lib.hid D.env
  have HG := Lib.hid D.env.hg
  have HG1 := Lib.hid hw.lt
  have HM := Lib.hid hM
  have HD := Lib.hid (DSt.init hb hw a)
  have HS1 := Lib.hid D.name
  have HS2 := Lib.hid D.arg
  have HS3 := Lib.hid D.exn
  have HK0 := Lib.hid D.hkids0
  have hln := D.len (m := 1) (by simp [hk, kidsI])
  clear D hb hw hM
  show Calls _ _ _ _ _
  have hu8 : IntKind.u8.wrap (a.kind - 4) = 1 := by rw [hk]; exact IntWalk.u8_in _ (by omega)
  have e3 : (a.kind == 3) = false := by simp [hk]
  have e4 : (a.kind == 4) = false := by simp [hk]
  have e5 : (a.kind == 5) = true := by simp [hk]
  have e7 : (a.kind == 7) = false := by simp [hk]
  have e6 : (a.kind == 6) = false := by simp [hk]
  have e8 : (a.kind == 8) = false := by simp [hk]
  have e9 : (a.kind == 9) = false := by simp [hk]
  have e10 : (a.kind == 10) = false := by simp [hk]
  have e14 : (a.kind == 14) = false := by simp [hk]
  have HKD := Lib.hid hk
  clear hk
  go_enter Tryz.func59, Tryz.ntmps59
  go_upto_region 1 with fail
  generalize hW0 : W.alloc (boxA a) = W0 at *
  clear hW0
  obtain ⟨c0, c1, c2, c3, c4, c5, c6, c7, c8, c9, c10, c11, c12, c13, c14, c15, c16, c17, c18⟩ := HD.out.box.all
  have c0' := (HD.out.below' ((Below.refl _ _).alloc (Nat.le_refl _) (.cells #[.string ⟨#[102, 115, 116]⟩, .string ⟨#[115, 110, 100]⟩, .string ⟨#[]⟩, .string ⟨#[33]⟩] 9))).box.c 0 _ rfl
  go_wp2_with (first
    | (refine wpList_load_row rfl 31 _ rfl W.heap.size rfl 31 _ (0, 0) _ HD.out.box.blk Tryz.underlying31 rfl (by kernel_rfl) ?_)
    | (go_at_call 57; refine (put_cs HE.out (HD.out.below' ((Below.refl _ _).alloc (Nat.le_refl _) _)).below (HD.out.below' ((Below.refl _ _).alloc (Nat.le_refl _) _)).wr _ (by omega) _ (by simp [strsOf, strOf, encS]) (by rfl) _ _ (by simp) (by simp [strsOf, strOf, HS1.out, HS2.out, HS3.out] <;> decide) (by first | exact HM.out | (have := HM.out; simp only [strsOf, strOf, List.map_cons, List.map_nil, List.length_append] at this ⊢; omega))).mono ?_; rintro e w8 ⟨rfl, v8, hw8, ht8⟩; have HD := Lib.hid ((HD.out.below' ((Below.refl _ _).alloc (Nat.le_refl _) _)).step HG.out HG1.out hw8 ht8); clear hw8 ht8 c0 c1 c2 c3 c4 c5 c6 c7 c8 c9 c10 c11 c12 c13 c14 c15 c16 c17 c18; obtain ⟨c0, c1, c2, c3, c4, c5, c6, c7, c8, c9, c10, c11, c12, c13, c14, c15, c16, c17, c18⟩ := HD.out.box.all)
    | (go_at_call 77; refine (HK0.out _ _ _ HD.out.below HD.out.wr (by omega) (by first | exact HM.out | (have := HM.out; simp only [strsOf, strOf, List.map_cons, List.map_nil, List.length_append] at this ⊢; omega))).mono ?_; rintro e w8 ⟨rfl, v8, hw8, ht8⟩; have HD := Lib.hid (HD.out.step HG.out HG1.out hw8 ht8); clear hw8 ht8 c0 c1 c2 c3 c4 c5 c6 c7 c8 c9 c10 c11 c12 c13 c14 c15 c16 c17 c18; obtain ⟨c0, c1, c2, c3, c4, c5, c6, c7, c8, c9, c10, c11, c12, c13, c14, c15, c16, c17, c18⟩ := HD.out.box.all))
  go_end0
  refine ⟨rfl, _, ?_, HD.out.wrote⟩
  have := HD.out.wr
  first
    | exact this
    | (simp only [strsOf, strOf, List.map_cons, List.map_nil, List.append_assoc] at this ⊢
       exact this)

set_option maxHeartbeats 2000000 in
theorem inner_7 {w0 : World} {g : Nat} {a : AH} {l : List PA} (D : DN w0 g a l) (hk : a.kind = 7) : PutsAt w0 g 59 #[.pointer (some ⟨g, 0, none⟩), aggT a] (wordsP [⟨#[33]⟩] ++ (wordsP (kidsP [] (l.map piecesT)))) := by
  intro W v L hb hw hM
  have HE := Lib.hid D.env
  have HG := Lib.hid D.env.hg
  have HG1 := Lib.hid hw.lt
  have HM := Lib.hid hM
  have HD := Lib.hid (DSt.init hb hw a)
  have HS1 := Lib.hid D.name
  have HS2 := Lib.hid D.arg
  have HS3 := Lib.hid D.exn
  have HK0 := Lib.hid D.hkids0
  have hln := D.len (m := 1) (by simp [hk, kidsI])
  clear D hb hw hM
  show Calls _ _ _ _ _
  have hu8 : IntKind.u8.wrap (a.kind - 4) = 3 := by rw [hk]; exact IntWalk.u8_in _ (by omega)
  have e3 : (a.kind == 3) = false := by simp [hk]
  have e4 : (a.kind == 4) = false := by simp [hk]
  have e5 : (a.kind == 5) = false := by simp [hk]
  have e7 : (a.kind == 7) = true := by simp [hk]
  have e6 : (a.kind == 6) = false := by simp [hk]
  have e8 : (a.kind == 8) = false := by simp [hk]
  have e9 : (a.kind == 9) = false := by simp [hk]
  have e10 : (a.kind == 10) = false := by simp [hk]
  have e14 : (a.kind == 14) = false := by simp [hk]
  have HKD := Lib.hid hk
  clear hk
  go_enter Tryz.func59, Tryz.ntmps59
  go_upto_region 1 with fail
  generalize hW0 : W.alloc (boxA a) = W0 at *
  clear hW0
  obtain ⟨c0, c1, c2, c3, c4, c5, c6, c7, c8, c9, c10, c11, c12, c13, c14, c15, c16, c17, c18⟩ := HD.out.box.all
  have c0' := (HD.out.below' ((Below.refl _ _).alloc (Nat.le_refl _) (.cells #[.string ⟨#[102, 115, 116]⟩, .string ⟨#[115, 110, 100]⟩, .string ⟨#[]⟩, .string ⟨#[33]⟩] 9))).box.c 0 _ rfl
  go_wp2_with (first
    | (refine wpList_load_row rfl 31 _ rfl W.heap.size rfl 31 _ (0, 0) _ HD.out.box.blk Tryz.underlying31 rfl (by kernel_rfl) ?_)
    | (go_at_call 57; refine (put_cs HE.out (HD.out.below' ((Below.refl _ _).alloc (Nat.le_refl _) _)).below (HD.out.below' ((Below.refl _ _).alloc (Nat.le_refl _) _)).wr _ (by omega) _ (by simp [strsOf, strOf, encS]) (by rfl) _ _ (by simp) (by simp [strsOf, strOf, HS1.out, HS2.out, HS3.out] <;> decide) (by first | exact HM.out | (have := HM.out; simp only [strsOf, strOf, List.map_cons, List.map_nil, List.length_append] at this ⊢; omega))).mono ?_; rintro e w8 ⟨rfl, v8, hw8, ht8⟩; have HD := Lib.hid ((HD.out.below' ((Below.refl _ _).alloc (Nat.le_refl _) _)).step HG.out HG1.out hw8 ht8); clear hw8 ht8 c0 c1 c2 c3 c4 c5 c6 c7 c8 c9 c10 c11 c12 c13 c14 c15 c16 c17 c18; obtain ⟨c0, c1, c2, c3, c4, c5, c6, c7, c8, c9, c10, c11, c12, c13, c14, c15, c16, c17, c18⟩ := HD.out.box.all)
    | (go_at_call 77; refine (HK0.out _ _ _ HD.out.below HD.out.wr (by omega) (by first | exact HM.out | (have := HM.out; simp only [strsOf, strOf, List.map_cons, List.map_nil, List.length_append] at this ⊢; omega))).mono ?_; rintro e w8 ⟨rfl, v8, hw8, ht8⟩; have HD := Lib.hid (HD.out.step HG.out HG1.out hw8 ht8); clear hw8 ht8 c0 c1 c2 c3 c4 c5 c6 c7 c8 c9 c10 c11 c12 c13 c14 c15 c16 c17 c18; obtain ⟨c0, c1, c2, c3, c4, c5, c6, c7, c8, c9, c10, c11, c12, c13, c14, c15, c16, c17, c18⟩ := HD.out.box.all))
  go_end0
  refine ⟨rfl, _, ?_, HD.out.wrote⟩
  have := HD.out.wr
  first
    | exact this
    | (simp only [strsOf, strOf, List.map_cons, List.map_nil, List.append_assoc] at this ⊢
       exact this)

set_option maxHeartbeats 2000000 in
theorem binder_11 {w0 : World} {g : Nat} {a : AH} {l : List PA} (D : DN w0 g a l) (hk : a.kind = 11) : PutsAt w0 g 79 #[.pointer (some ⟨g, 0, none⟩), aggT a] (wordsP [⟨#[102, 110]⟩, a.arg] ++ (wordsP [⟨#[58]⟩, textT a.ty.er] ++ (wordsP [⟨#[33]⟩, textA (effL a.eff)] ++ (wordsP [⟨#[61, 62]⟩] ++ (wordsP (kidsP [] (l.map piecesT)) ++ ((wordsP [⟨#[64]⟩] ++ wordsP [decB a.rho]))))))) := by
  intro W v L hb hw hM
  have HE := Lib.hid D.env
  have HG := Lib.hid D.env.hg
  have HG1 := Lib.hid hw.lt
  have HM := Lib.hid hM
  have HD := Lib.hid (DSt.init hb hw a)
  have HS1 := Lib.hid D.name
  have HS2 := Lib.hid D.arg
  have HS3 := Lib.hid D.exn
  have HTX := Lib.hid (D.hty (by simp [hk, inB]))
  have HEF := Lib.hid D.heff
  have HK0 := Lib.hid D.hkids0
  have hln := D.len (m := 1) (by simp [hk, kidsI])
  have HAT := Lib.hid D.hat
  clear D hb hw hM
  show Calls _ _ _ _ _
  have HTR := HTX
  have e11 : (a.kind == 11) = true := by simp [hk]
  have e12 : (a.kind == 12) = false := by simp [hk]
  have e13 : (a.kind == 13) = false := by simp [hk]
  have e15 : (a.kind == 15) = false := by simp [hk]
  have e16 : (a.kind == 16) = false := by simp [hk]
  have e17 : (a.kind == 17) = false := by simp [hk]
  have e18 : (a.kind == 18) = false := by simp [hk]
  have HKD := Lib.hid hk
  clear hk
  go_enter Tryz.func79, Tryz.ntmps79
  go_upto_region 1 with fail
  generalize hW0 : W.alloc (boxA a) = W0 at *
  clear hW0
  obtain ⟨c0, c1, c2, c3, c4, c5, c6, c7, c8, c9, c10, c11, c12, c13, c14, c15, c16, c17, c18⟩ := HD.out.box.all
  go_wp2_with (first
    | (refine wpList_load_row rfl 31 _ rfl W.heap.size rfl 31 _ (0, 0) _ HD.out.box.blk Tryz.underlying31 rfl (by kernel_rfl) ?_)
    | (go_at_call 57; refine (put_cs HE.out HD.out.below HD.out.wr _ (by omega) _ (by simp [strsOf, strOf, encS]) (by rfl) _ _ (by simp) (by simp [strsOf, strOf, HS1.out, HS2.out, HS3.out] <;> decide) (by first | exact HM.out | (have := HM.out; simp only [strsOf, strOf, List.map_cons, List.map_nil, List.length_append] at this ⊢; omega))).mono ?_; rintro e w8 ⟨rfl, v8, hw8, ht8⟩; have HD := Lib.hid (HD.out.step HG.out HG1.out hw8 ht8); clear hw8 ht8 c0 c1 c2 c3 c4 c5 c6 c7 c8 c9 c10 c11 c12 c13 c14 c15 c16 c17 c18; obtain ⟨c0, c1, c2, c3, c4, c5, c6, c7, c8, c9, c10, c11, c12, c13, c14, c15, c16, c17, c18⟩ := HD.out.box.all)
    | (go_at_call 97; refine (HTX.out _ _ _ HD.out.below HD.out.wr (by first | exact HM.out | (have := HM.out; simp only [strsOf, strOf, List.map_cons, List.map_nil, List.length_append] at this ⊢; omega))).mono ?_; clear HTX; have HTX := HTR; rintro e w8 ⟨rfl, v8, hw8, ht8⟩; have HD := Lib.hid (HD.out.step HG.out HG1.out hw8 ht8); clear hw8 ht8 c0 c1 c2 c3 c4 c5 c6 c7 c8 c9 c10 c11 c12 c13 c14 c15 c16 c17 c18; obtain ⟨c0, c1, c2, c3, c4, c5, c6, c7, c8, c9, c10, c11, c12, c13, c14, c15, c16, c17, c18⟩ := HD.out.box.all)
    | (go_at_call 98; refine (HEF.out _ _ _ HD.out.below HD.out.wr (by first | exact HM.out | (have := HM.out; simp only [strsOf, strOf, List.map_cons, List.map_nil, List.length_append] at this ⊢; omega))).mono ?_; rintro e w8 ⟨rfl, v8, hw8, ht8⟩; have HD := Lib.hid (HD.out.step HG.out HG1.out hw8 ht8); clear hw8 ht8 c0 c1 c2 c3 c4 c5 c6 c7 c8 c9 c10 c11 c12 c13 c14 c15 c16 c17 c18; obtain ⟨c0, c1, c2, c3, c4, c5, c6, c7, c8, c9, c10, c11, c12, c13, c14, c15, c16, c17, c18⟩ := HD.out.box.all)
    | (go_at_call 77; refine (HK0.out _ _ _ HD.out.below HD.out.wr (by omega) (by first | exact HM.out | (have := HM.out; simp only [strsOf, strOf, List.map_cons, List.map_nil, List.length_append] at this ⊢; omega))).mono ?_; rintro e w8 ⟨rfl, v8, hw8, ht8⟩; have HD := Lib.hid (HD.out.step HG.out HG1.out hw8 ht8); clear hw8 ht8 c0 c1 c2 c3 c4 c5 c6 c7 c8 c9 c10 c11 c12 c13 c14 c15 c16 c17 c18; obtain ⟨c0, c1, c2, c3, c4, c5, c6, c7, c8, c9, c10, c11, c12, c13, c14, c15, c16, c17, c18⟩ := HD.out.box.all)
    | (go_at_call 78; refine (HAT.out _ _ _ HD.out.below HD.out.wr (by first | exact HM.out | (have := HM.out; simp only [strsOf, strOf, List.map_cons, List.map_nil, List.length_append] at this ⊢; omega))).mono ?_; rintro e w8 ⟨rfl, v8, hw8, ht8⟩; have HD := Lib.hid (HD.out.step HG.out HG1.out hw8 ht8); clear hw8 ht8 c0 c1 c2 c3 c4 c5 c6 c7 c8 c9 c10 c11 c12 c13 c14 c15 c16 c17 c18; obtain ⟨c0, c1, c2, c3, c4, c5, c6, c7, c8, c9, c10, c11, c12, c13, c14, c15, c16, c17, c18⟩ := HD.out.box.all))
  go_end0
  refine ⟨rfl, _, ?_, HD.out.wrote⟩
  have := HD.out.wr
  first
    | exact this
    | (simp only [strsOf, strOf, List.map_cons, List.map_nil, List.append_assoc] at this ⊢
       exact this)

set_option maxHeartbeats 2000000 in
theorem binder_12 {w0 : World} {g : Nat} {a : AH} {l : List PA} (D : DN w0 g a l) (hk : a.kind = 12) : PutsAt w0 g 79 #[.pointer (some ⟨g, 0, none⟩), aggT a] (wordsP [⟨#[108, 101, 116]⟩, a.name, ⟨#[61]⟩] ++ (wordsP (kidsP [⟨#[105, 110]⟩] (l.map piecesT)))) := by
  intro W v L hb hw hM
  have HE := Lib.hid D.env
  have HG := Lib.hid D.env.hg
  have HG1 := Lib.hid hw.lt
  have HM := Lib.hid hM
  have HD := Lib.hid (DSt.init hb hw a)
  have HS1 := Lib.hid D.name
  have HS2 := Lib.hid D.arg
  have HS3 := Lib.hid D.exn
  have HKC := Lib.hid D.hkids
  have HLN := Lib.hid (D.len (m := 2) (by simp [hk, kidsI]))
  clear D hb hw hM
  show Calls _ _ _ _ _
  have e11 : (a.kind == 11) = false := by simp [hk]
  have e12 : (a.kind == 12) = true := by simp [hk]
  have e13 : (a.kind == 13) = false := by simp [hk]
  have e15 : (a.kind == 15) = false := by simp [hk]
  have e16 : (a.kind == 16) = false := by simp [hk]
  have e17 : (a.kind == 17) = false := by simp [hk]
  have e18 : (a.kind == 18) = false := by simp [hk]
  have HKD := Lib.hid hk
  clear hk
  go_enter Tryz.func79, Tryz.ntmps79
  go_upto_region 1 with fail
  generalize hW0 : W.alloc (boxA a) = W0 at *
  clear hW0
  obtain ⟨c0, c1, c2, c3, c4, c5, c6, c7, c8, c9, c10, c11, c12, c13, c14, c15, c16, c17, c18⟩ := HD.out.box.all
  go_wp2_with (first
    | (refine wpList_load_row rfl 31 _ rfl W.heap.size rfl 31 _ (0, 0) _ HD.out.box.blk Tryz.underlying31 rfl (by kernel_rfl) ?_)
    | (go_at_call 57; refine (put_cs HE.out HD.out.below HD.out.wr _ (by omega) _ (by simp [strsOf, strOf, encS]) (by rfl) _ _ (by simp) (by simp [strsOf, strOf, HS1.out, HS2.out, HS3.out] <;> decide) (by first | exact HM.out | (have := HM.out; simp only [strsOf, strOf, List.map_cons, List.map_nil, List.length_append] at this ⊢; omega))).mono ?_; rintro e w8 ⟨rfl, v8, hw8, ht8⟩; have HD := Lib.hid (HD.out.step HG.out HG1.out hw8 ht8); clear hw8 ht8 c0 c1 c2 c3 c4 c5 c6 c7 c8 c9 c10 c11 c12 c13 c14 c15 c16 c17 c18; obtain ⟨c0, c1, c2, c3, c4, c5, c6, c7, c8, c9, c10, c11, c12, c13, c14, c15, c16, c17, c18⟩ := HD.out.box.all)
    | (go_at_call 77; refine (HKC.out _ _ _ HD.out.below HD.out.wr _ (by omega) _ (by simp [strsOf, strOf, encS]) (by rfl) _ _ (by simp) (by simp [strsOf, strOf, HS1.out, HS2.out, HS3.out] <;> decide) (by simp [HLN.out]) (by first | exact HM.out | (have := HM.out; simp only [strsOf, strOf, List.map_cons, List.map_nil, List.length_append] at this ⊢; omega))).mono ?_; rintro e w8 ⟨rfl, v8, hw8, ht8⟩; have HD := Lib.hid (HD.out.step HG.out HG1.out hw8 ht8); clear hw8 ht8 c0 c1 c2 c3 c4 c5 c6 c7 c8 c9 c10 c11 c12 c13 c14 c15 c16 c17 c18; obtain ⟨c0, c1, c2, c3, c4, c5, c6, c7, c8, c9, c10, c11, c12, c13, c14, c15, c16, c17, c18⟩ := HD.out.box.all))
  go_end0
  refine ⟨rfl, _, ?_, HD.out.wrote⟩
  have := HD.out.wr
  first
    | exact this
    | (simp only [strsOf, strOf, List.map_cons, List.map_nil, List.append_assoc] at this ⊢
       exact this)

set_option maxHeartbeats 2000000 in
theorem binder_15 {w0 : World} {g : Nat} {a : AH} {l : List PA} (D : DN w0 g a l) (hk : a.kind = 15) : PutsAt w0 g 79 #[.pointer (some ⟨g, 0, none⟩), aggT a] (wordsP [⟨#[114, 97, 105, 115, 101]⟩, a.exn] ++ (wordsP (kidsP [] (l.map piecesT)) ++ (wordsP [⟨#[58]⟩, textT a.ty.er]))) := by
  intro W v L hb hw hM
  have HE := Lib.hid D.env
  have HG := Lib.hid D.env.hg
  have HG1 := Lib.hid hw.lt
  have HM := Lib.hid hM
  have HD := Lib.hid (DSt.init hb hw a)
  have HS1 := Lib.hid D.name
  have HS2 := Lib.hid D.arg
  have HS3 := Lib.hid D.exn
  have HK0 := Lib.hid D.hkids0
  have hln := D.len (m := 1) (by simp [hk, kidsI])
  have HTX := Lib.hid (D.hty (by simp [hk, inB]))
  clear D hb hw hM
  show Calls _ _ _ _ _
  have HTR := HTX
  have e11 : (a.kind == 11) = false := by simp [hk]
  have e12 : (a.kind == 12) = false := by simp [hk]
  have e13 : (a.kind == 13) = false := by simp [hk]
  have e15 : (a.kind == 15) = true := by simp [hk]
  have e16 : (a.kind == 16) = false := by simp [hk]
  have e17 : (a.kind == 17) = false := by simp [hk]
  have e18 : (a.kind == 18) = false := by simp [hk]
  have HKD := Lib.hid hk
  clear hk
  go_enter Tryz.func79, Tryz.ntmps79
  go_upto_region 1 with fail
  generalize hW0 : W.alloc (boxA a) = W0 at *
  clear hW0
  obtain ⟨c0, c1, c2, c3, c4, c5, c6, c7, c8, c9, c10, c11, c12, c13, c14, c15, c16, c17, c18⟩ := HD.out.box.all
  go_wp2_with (first
    | (refine wpList_load_row rfl 31 _ rfl W.heap.size rfl 31 _ (0, 0) _ HD.out.box.blk Tryz.underlying31 rfl (by kernel_rfl) ?_)
    | (go_at_call 57; refine (put_cs HE.out HD.out.below HD.out.wr _ (by omega) _ (by simp [strsOf, strOf, encS]) (by rfl) _ _ (by simp) (by simp [strsOf, strOf, HS1.out, HS2.out, HS3.out] <;> decide) (by first | exact HM.out | (have := HM.out; simp only [strsOf, strOf, List.map_cons, List.map_nil, List.length_append] at this ⊢; omega))).mono ?_; rintro e w8 ⟨rfl, v8, hw8, ht8⟩; have HD := Lib.hid (HD.out.step HG.out HG1.out hw8 ht8); clear hw8 ht8 c0 c1 c2 c3 c4 c5 c6 c7 c8 c9 c10 c11 c12 c13 c14 c15 c16 c17 c18; obtain ⟨c0, c1, c2, c3, c4, c5, c6, c7, c8, c9, c10, c11, c12, c13, c14, c15, c16, c17, c18⟩ := HD.out.box.all)
    | (go_at_call 77; refine (HK0.out _ _ _ HD.out.below HD.out.wr (by omega) (by first | exact HM.out | (have := HM.out; simp only [strsOf, strOf, List.map_cons, List.map_nil, List.length_append] at this ⊢; omega))).mono ?_; rintro e w8 ⟨rfl, v8, hw8, ht8⟩; have HD := Lib.hid (HD.out.step HG.out HG1.out hw8 ht8); clear hw8 ht8 c0 c1 c2 c3 c4 c5 c6 c7 c8 c9 c10 c11 c12 c13 c14 c15 c16 c17 c18; obtain ⟨c0, c1, c2, c3, c4, c5, c6, c7, c8, c9, c10, c11, c12, c13, c14, c15, c16, c17, c18⟩ := HD.out.box.all)
    | (go_at_call 97; refine (HTX.out _ _ _ HD.out.below HD.out.wr (by first | exact HM.out | (have := HM.out; simp only [strsOf, strOf, List.map_cons, List.map_nil, List.length_append] at this ⊢; omega))).mono ?_; clear HTX; have HTX := HTR; rintro e w8 ⟨rfl, v8, hw8, ht8⟩; have HD := Lib.hid (HD.out.step HG.out HG1.out hw8 ht8); clear hw8 ht8 c0 c1 c2 c3 c4 c5 c6 c7 c8 c9 c10 c11 c12 c13 c14 c15 c16 c17 c18; obtain ⟨c0, c1, c2, c3, c4, c5, c6, c7, c8, c9, c10, c11, c12, c13, c14, c15, c16, c17, c18⟩ := HD.out.box.all))
  go_end0
  refine ⟨rfl, _, ?_, HD.out.wrote⟩
  have := HD.out.wr
  first
    | exact this
    | (simp only [strsOf, strOf, List.map_cons, List.map_nil, List.append_assoc] at this ⊢
       exact this)

set_option maxHeartbeats 2000000 in
theorem binder_17 {w0 : World} {g : Nat} {a : AH} {l : List PA} (D : DN w0 g a l) (hk : a.kind = 17) : PutsAt w0 g 79 #[.pointer (some ⟨g, 0, none⟩), aggT a] (wordsP [⟨#[114, 101, 103, 105, 111, 110]⟩] ++ (wordsP [decB a.rho] ++ (wordsP [⟨#[105, 110]⟩] ++ (wordsP (kidsP [] (l.map piecesT)))))) := by
  intro W v L hb hw hM
  have HE := Lib.hid D.env
  have HG := Lib.hid D.env.hg
  have HG1 := Lib.hid hw.lt
  have HM := Lib.hid hM
  have HD := Lib.hid (DSt.init hb hw a)
  have HS1 := Lib.hid D.name
  have HS2 := Lib.hid D.arg
  have HS3 := Lib.hid D.exn
  have HNR := Lib.hid D.hnum
  have HK0 := Lib.hid D.hkids0
  have hln := D.len (m := 1) (by simp [hk, kidsI])
  clear D hb hw hM
  show Calls _ _ _ _ _
  have e11 : (a.kind == 11) = false := by simp [hk]
  have e12 : (a.kind == 12) = false := by simp [hk]
  have e13 : (a.kind == 13) = false := by simp [hk]
  have e15 : (a.kind == 15) = false := by simp [hk]
  have e16 : (a.kind == 16) = false := by simp [hk]
  have e17 : (a.kind == 17) = true := by simp [hk]
  have e18 : (a.kind == 18) = false := by simp [hk]
  have HKD := Lib.hid hk
  clear hk
  go_enter Tryz.func79, Tryz.ntmps79
  go_upto_region 1 with fail
  generalize hW0 : W.alloc (boxA a) = W0 at *
  clear hW0
  obtain ⟨c0, c1, c2, c3, c4, c5, c6, c7, c8, c9, c10, c11, c12, c13, c14, c15, c16, c17, c18⟩ := HD.out.box.all
  go_wp2_with (first
    | (refine wpList_load_row rfl 31 _ rfl W.heap.size rfl 31 _ (0, 0) _ HD.out.box.blk Tryz.underlying31 rfl (by kernel_rfl) ?_)
    | (go_at_call 57; refine (put_cs HE.out HD.out.below HD.out.wr _ (by omega) _ (by simp [strsOf, strOf, encS]) (by rfl) _ _ (by simp) (by simp [strsOf, strOf, HS1.out, HS2.out, HS3.out] <;> decide) (by first | exact HM.out | (have := HM.out; simp only [strsOf, strOf, List.map_cons, List.map_nil, List.length_append] at this ⊢; omega))).mono ?_; rintro e w8 ⟨rfl, v8, hw8, ht8⟩; have HD := Lib.hid (HD.out.step HG.out HG1.out hw8 ht8); clear hw8 ht8 c0 c1 c2 c3 c4 c5 c6 c7 c8 c9 c10 c11 c12 c13 c14 c15 c16 c17 c18; obtain ⟨c0, c1, c2, c3, c4, c5, c6, c7, c8, c9, c10, c11, c12, c13, c14, c15, c16, c17, c18⟩ := HD.out.box.all)
    | (go_at_call 96; refine (HNR.out _ _ _ HD.out.below HD.out.wr (by first | exact HM.out | (have := HM.out; simp only [strsOf, strOf, List.map_cons, List.map_nil, List.length_append] at this ⊢; omega))).mono ?_; rintro e w8 ⟨rfl, v8, hw8, ht8⟩; have HD := Lib.hid (HD.out.step HG.out HG1.out hw8 ht8); clear hw8 ht8 c0 c1 c2 c3 c4 c5 c6 c7 c8 c9 c10 c11 c12 c13 c14 c15 c16 c17 c18; obtain ⟨c0, c1, c2, c3, c4, c5, c6, c7, c8, c9, c10, c11, c12, c13, c14, c15, c16, c17, c18⟩ := HD.out.box.all)
    | (go_at_call 77; refine (HK0.out _ _ _ HD.out.below HD.out.wr (by omega) (by first | exact HM.out | (have := HM.out; simp only [strsOf, strOf, List.map_cons, List.map_nil, List.length_append] at this ⊢; omega))).mono ?_; rintro e w8 ⟨rfl, v8, hw8, ht8⟩; have HD := Lib.hid (HD.out.step HG.out HG1.out hw8 ht8); clear hw8 ht8 c0 c1 c2 c3 c4 c5 c6 c7 c8 c9 c10 c11 c12 c13 c14 c15 c16 c17 c18; obtain ⟨c0, c1, c2, c3, c4, c5, c6, c7, c8, c9, c10, c11, c12, c13, c14, c15, c16, c17, c18⟩ := HD.out.box.all))
  go_end0
  refine ⟨rfl, _, ?_, HD.out.wrote⟩
  have := HD.out.wr
  first
    | exact this
    | (simp only [strsOf, strOf, List.map_cons, List.map_nil, List.append_assoc] at this ⊢
       exact this)

set_option maxHeartbeats 2000000 in
theorem binder_18 {w0 : World} {g : Nat} {a : AH} {l : List PA} (D : DN w0 g a l) (hk : a.kind = 18) : PutsAt w0 g 79 #[.pointer (some ⟨g, 0, none⟩), aggT a] (wordsP [a.name] ++ ((wordsP [⟨#[91]⟩] ++ (wordsP (a.rhos.map decB) ++ wordsP [⟨#[93]⟩])) ++ (wordsP [⟨#[33]⟩, textA (effL a.eff)] ++ ((wordsP [⟨#[64]⟩] ++ wordsP [decB a.rho]))))) := by
  intro W v L hb hw hM
  have HE := Lib.hid D.env
  have HG := Lib.hid D.env.hg
  have HG1 := Lib.hid hw.lt
  have HM := Lib.hid hM
  have HD := Lib.hid (DSt.init hb hw a)
  have HS1 := Lib.hid D.name
  have HS2 := Lib.hid D.arg
  have HS3 := Lib.hid D.exn
  have HRH := Lib.hid D.hrhos
  have HEF := Lib.hid D.heff
  have HAT := Lib.hid D.hat
  clear D hb hw hM
  show Calls _ _ _ _ _
  have e11 : (a.kind == 11) = false := by simp [hk]
  have e12 : (a.kind == 12) = false := by simp [hk]
  have e13 : (a.kind == 13) = false := by simp [hk]
  have e15 : (a.kind == 15) = false := by simp [hk]
  have e16 : (a.kind == 16) = false := by simp [hk]
  have e17 : (a.kind == 17) = false := by simp [hk]
  have e18 : (a.kind == 18) = true := by simp [hk]
  have HKD := Lib.hid hk
  clear hk
  go_enter Tryz.func79, Tryz.ntmps79
  go_upto_region 1 with fail
  generalize hW0 : W.alloc (boxA a) = W0 at *
  clear hW0
  obtain ⟨c0, c1, c2, c3, c4, c5, c6, c7, c8, c9, c10, c11, c12, c13, c14, c15, c16, c17, c18⟩ := HD.out.box.all
  go_wp2_with (first
    | (refine wpList_load_row rfl 31 _ rfl W.heap.size rfl 31 _ (0, 0) _ HD.out.box.blk Tryz.underlying31 rfl (by kernel_rfl) ?_)
    | (go_at_call 57; refine (put_cs HE.out HD.out.below HD.out.wr _ (by omega) _ (by simp [strsOf, strOf, encS]) (by rfl) _ _ (by simp) (by simp [strsOf, strOf, HS1.out, HS2.out, HS3.out] <;> decide) (by first | exact HM.out | (have := HM.out; simp only [strsOf, strOf, List.map_cons, List.map_nil, List.length_append] at this ⊢; omega))).mono ?_; rintro e w8 ⟨rfl, v8, hw8, ht8⟩; have HD := Lib.hid (HD.out.step HG.out HG1.out hw8 ht8); clear hw8 ht8 c0 c1 c2 c3 c4 c5 c6 c7 c8 c9 c10 c11 c12 c13 c14 c15 c16 c17 c18; obtain ⟨c0, c1, c2, c3, c4, c5, c6, c7, c8, c9, c10, c11, c12, c13, c14, c15, c16, c17, c18⟩ := HD.out.box.all)
    | (go_at_call 100; refine (HRH.out _ _ _ HD.out.below HD.out.wr (by first | exact HM.out | (have := HM.out; simp only [strsOf, strOf, List.map_cons, List.map_nil, List.length_append] at this ⊢; omega))).mono ?_; rintro e w8 ⟨rfl, v8, hw8, ht8⟩; have HD := Lib.hid (HD.out.step HG.out HG1.out hw8 ht8); clear hw8 ht8 c0 c1 c2 c3 c4 c5 c6 c7 c8 c9 c10 c11 c12 c13 c14 c15 c16 c17 c18; obtain ⟨c0, c1, c2, c3, c4, c5, c6, c7, c8, c9, c10, c11, c12, c13, c14, c15, c16, c17, c18⟩ := HD.out.box.all)
    | (go_at_call 98; refine (HEF.out _ _ _ HD.out.below HD.out.wr (by first | exact HM.out | (have := HM.out; simp only [strsOf, strOf, List.map_cons, List.map_nil, List.length_append] at this ⊢; omega))).mono ?_; rintro e w8 ⟨rfl, v8, hw8, ht8⟩; have HD := Lib.hid (HD.out.step HG.out HG1.out hw8 ht8); clear hw8 ht8 c0 c1 c2 c3 c4 c5 c6 c7 c8 c9 c10 c11 c12 c13 c14 c15 c16 c17 c18; obtain ⟨c0, c1, c2, c3, c4, c5, c6, c7, c8, c9, c10, c11, c12, c13, c14, c15, c16, c17, c18⟩ := HD.out.box.all)
    | (go_at_call 78; refine (HAT.out _ _ _ HD.out.below HD.out.wr (by first | exact HM.out | (have := HM.out; simp only [strsOf, strOf, List.map_cons, List.map_nil, List.length_append] at this ⊢; omega))).mono ?_; rintro e w8 ⟨rfl, v8, hw8, ht8⟩; have HD := Lib.hid (HD.out.step HG.out HG1.out hw8 ht8); clear hw8 ht8 c0 c1 c2 c3 c4 c5 c6 c7 c8 c9 c10 c11 c12 c13 c14 c15 c16 c17 c18; obtain ⟨c0, c1, c2, c3, c4, c5, c6, c7, c8, c9, c10, c11, c12, c13, c14, c15, c16, c17, c18⟩ := HD.out.box.all))
  go_end0
  refine ⟨rfl, _, ?_, HD.out.wrote⟩
  have := HD.out.wr
  first
    | exact this
    | (simp only [strsOf, strOf, List.map_cons, List.map_nil, List.append_assoc] at this ⊢
       exact this)

set_option maxHeartbeats 2000000 in
theorem binder_13 {w0 : World} {g : Nat} {a : AH} {l : List PA} (D : DN w0 g a l) (hk : a.kind = 13) {ws : List ByteArray} (hB : PutsAt w0 g 99 #[.pointer (some ⟨g, 0, none⟩), aggT a] ws) : PutsAt w0 g 79 #[.pointer (some ⟨g, 0, none⟩), aggT a] (ws) := by
  intro W v L hb hw hM
  have HE := Lib.hid D.env
  have HG := Lib.hid D.env.hg
  have HG1 := Lib.hid hw.lt
  have HM := Lib.hid hM
  have HD := Lib.hid (DSt.init hb hw a)
  have HS1 := Lib.hid D.name
  have HS2 := Lib.hid D.arg
  have HS3 := Lib.hid D.exn
  have HLR := Lib.hid hB
  clear D hb hw hM
  show Calls _ _ _ _ _
  have e11 : (a.kind == 11) = false := by simp [hk]
  have e12 : (a.kind == 12) = false := by simp [hk]
  have e13 : (a.kind == 13) = true := by simp [hk]
  have e15 : (a.kind == 15) = false := by simp [hk]
  have e16 : (a.kind == 16) = false := by simp [hk]
  have e17 : (a.kind == 17) = false := by simp [hk]
  have e18 : (a.kind == 18) = false := by simp [hk]
  have HKD := Lib.hid hk
  clear hk
  go_enter Tryz.func79, Tryz.ntmps79
  go_upto_region 1 with fail
  generalize hW0 : W.alloc (boxA a) = W0 at *
  clear hW0
  obtain ⟨c0, c1, c2, c3, c4, c5, c6, c7, c8, c9, c10, c11, c12, c13, c14, c15, c16, c17, c18⟩ := HD.out.box.all
  go_wp2_with (first
    | (refine wpList_load_row rfl 31 _ rfl W.heap.size rfl 31 _ (0, 0) _ HD.out.box.blk Tryz.underlying31 rfl (by kernel_rfl) ?_)
    | (go_at_call 99; refine (HLR.out _ _ _ HD.out.below HD.out.wr (by first | exact HM.out | (have := HM.out; simp only [strsOf, strOf, List.map_cons, List.map_nil, List.length_append] at this ⊢; omega))).mono ?_; rintro e w8 ⟨rfl, v8, hw8, ht8⟩; have HD := Lib.hid (HD.out.step HG.out HG1.out hw8 ht8); clear hw8 ht8 c0 c1 c2 c3 c4 c5 c6 c7 c8 c9 c10 c11 c12 c13 c14 c15 c16 c17 c18; obtain ⟨c0, c1, c2, c3, c4, c5, c6, c7, c8, c9, c10, c11, c12, c13, c14, c15, c16, c17, c18⟩ := HD.out.box.all))
  go_end0
  refine ⟨rfl, _, ?_, HD.out.wrote⟩
  have := HD.out.wr
  first
    | exact this
    | (simp only [strsOf, strOf, List.map_cons, List.map_nil, List.append_assoc] at this ⊢
       exact this)
end Go.Proofs.YtdlbjngpohkglaaGreatDoor
end
