/- Part 33 of the texts: We, Ln, Dt, Du, Jn. -/
import Derived.Test.YtdlbjngpohkglaaGreatDoorG27
import Derived.Test.YtdlbjngpohkglaaGreatDoorG28
import Derived.Test.YtdlbjngpohkglaaGreatDoorG29
import Derived.Test.YtdlbjngpohkglaaGreatDoorG30
import Derived.Test.YtdlbjngpohkglaaGreatDoorG31
import Derived.Test.YtdlbjngpohkglaaGreatDoorG32
section
set_option linter.unusedVariables false
set_option maxRecDepth 100000
set_option linter.unusedSimpArgs false
namespace Go.Proofs.YtdlbjngpohkglaaGreatDoor
open Go.RowKit

theorem effTx_of {w0 : World} {a : AH} (hT : Tab w0) (ho : AH.Own w0 a) (hg : greatB a.eff = false) : EffTx w0 a (textA (effL a.eff)) := by
  intro W hW
  have := effect_Text_any a.ep a.en a.ec a.eff W ho.eff.len (by have := ho.eff.len; have := greatB_len' hg; omega) (ho.eff.below hW).row (fun x hx _ _ => digOK_of (ho.eok x hx).r0 (ho.eok x hx).r1 (hT.below hW)) (textOne_size hg ho.eok)
  exact this
theorem tyTx_of {w0 : World} {t : PT} (hT : Tab w0) (hl : LR.lies w0 t) (hs : SmallT t.er 100) (hm : mayT t.er = true) : TyTx w0 t (textT t.er) ∧ (textT t.er).size ≤ 4000000 := by
  have h1 := text_le2 t hl hs.effs
  have h2 : t.size ≤ 100 := by have := hs.size; rw [← Rose.size_map RH.plain t]; exact this
  have h3 : (textT t.er).size ≤ 4000000 := by omega
  refine ⟨fun W hW => ?_, h3⟩
  have := rtype_Text_any (LR.lies_below hW t hl) (hT.below hW) hs.effs (by omega)
  unfold textR at this
  rw [hm] at this
  exact this
theorem dn_of {w0 : World} {g : Nat} (hE : DEnv w0 g) {a : AH} {l : List PA} (hN : NodeA w0 a l) (hs : SmallN a) (hok : NodeOk a) (hf : ∀ x ∈ l, TermAt w0 g x) : DN w0 g a l where
  env := hE
  node := hN
  kids := hf
  name := by have := hs.name; omega
  arg := by have := hs.arg; omega
  exn := by have := hs.exn; omega
  len := fun {m} h => by
    have h1 := hok.kids
    rw [h] at h1
    have h2 := hN.kids.len
    omega
  op := hok.op
  heff := eff_any hE a (effTx_of hE.tab hN.own hs.eff) (by have := textA_le2 hs.eff hN.own.eok; omega)
  hty := fun h => by
    obtain ⟨h1, h2⟩ := tyTx_of hE.tab hN.own.ty hs.ty (hok.ty h)
    exact typed_any hE a.ty ⟨#[58]⟩ h1 (by omega) (by decide)
  hres := fun h => by
    obtain ⟨h1, h2⟩ := tyTx_of hE.tab hN.own.res hs.res (hok.res h)
    exact typed_any hE a.res ⟨#[45, 62]⟩ h1 (by omega) (by decide)
theorem wordsP_two (x y : ByteArray) : wordsP [x, y] = wordsP [x] ++ wordsP [y] := by simp [wordsP]
theorem PutsAt.eq {w0 : World} {g : Nat} {f : FuncId} {args : Array Value} {ws ws' : List ByteArray} (h : PutsAt w0 g f args ws) (e : ws' = ws) : PutsAt w0 g f args ws' := by rw [e]; exact h
theorem termAt_of {w0 : World} {g : Nat} {a : AH} {l : List PA} (D : DN w0 g a l) (hs : SmallN a) (hok : NodeOk a) : TermAt w0 g (.node a l) := by
  show PutsAt w0 g _ #[.pointer (some ⟨g, 0, none⟩), aggT a] _
  rw [piecesT_node]
  unfold nodeP
  have hk1 := hok.k1
  have hk2 := hok.k18
  by_cases h1 : a.kind = 1
  · rw [if_pos h1]; exact term_1 D h1
  by_cases h2 : a.kind = 2
  · rw [if_neg h1, if_pos h2]; exact term_2 D h2
  rw [if_neg h1, if_neg h2, wordsP_app, wordsP_app]
  refine term_in D h1 h2 ?_
  unfold innerP
  by_cases h3 : a.kind = 3
  · rw [if_pos h3]; exact (inner_3 D h3).eq (by rw [wordsP_app]; unfold atP; rw [wordsP_two])
  by_cases h4 : a.kind = 4
  · rw [if_neg h3, if_pos h4]; exact (inner_4 D h4).eq (by rw [wordsP_app])
  by_cases h5 : a.kind = 5
  · rw [if_neg h3, if_neg h4, if_pos h5]; exact (inner_5 D h5).eq (by rw [wordsP_app])
  by_cases h7 : a.kind = 7
  · rw [if_neg h3, if_neg h4, if_neg h5, if_pos h7]; exact (inner_7 D h7).eq (by rw [wordsP_app])
  by_cases h6 : a.kind = 6
  · rw [if_neg h3, if_neg h4, if_neg h5, if_neg h7, if_pos h6]; exact (inner_6 D h6).eq (by rw [wordsP_app, wordsP_app]; unfold atP; rw [wordsP_two])
  by_cases h8 : a.kind = 8
  · rw [if_neg h3, if_neg h4, if_neg h5, if_neg h7, if_neg h6, if_pos h8]; exact inner_8 D h8
  by_cases h9 : a.kind = 9
  · rw [if_neg h3, if_neg h4, if_neg h5, if_neg h7, if_neg h6, if_neg h8, if_pos h9]
    obtain ⟨ho1, ho2⟩ := hok.op h9
    obtain ⟨kind, op, at_, n, name, arg, exn, rho, rp, rn, rc, rhos, ep, en, ec, eff, ty, res, kp, kn, kc⟩ := a
    have h9' : kind = 9 := h9
    subst h9'
    have ho1 : 1 ≤ op := ho1
    have ho2 : op ≤ 5 := ho2
    rcases (by omega : op = 1 ∨ op = 2 ∨ op = 3 ∨ op = 4 ∨ op = 5) with rfl | rfl | rfl | rfl | rfl
    · exact inner_9_1 D
    · exact inner_9_2 D
    · exact inner_9_3 D
    · exact inner_9_4 D
    · exact inner_9_5 D
  by_cases h10 : a.kind = 10
  · rw [if_neg h3, if_neg h4, if_neg h5, if_neg h7, if_neg h6, if_neg h8, if_neg h9, if_pos h10]; exact inner_10 D h10
  by_cases h14 : a.kind = 14
  · rw [if_neg h3, if_neg h4, if_neg h5, if_neg h7, if_neg h6, if_neg h8, if_neg h9, if_neg h10, if_pos h14]; exact (inner_14 D h14).eq (by rw [wordsP_app])
  rw [if_neg h3, if_neg h4, if_neg h5, if_neg h7, if_neg h6, if_neg h8, if_neg h9, if_neg h10, if_neg h14]
  refine inner_bd D h3 h4 h5 h7 h6 h8 h9 h10 h14 ?_
  unfold binderP
  by_cases h11 : a.kind = 11
  · rw [if_pos h11]; exact (binder_11 D h11).eq (by simp only [wordsP_app]; unfold typedP effP atP; rw [wordsP_two ⟨#[64]⟩])
  by_cases h12 : a.kind = 12
  · rw [if_neg h11, if_pos h12]; exact (binder_12 D h12).eq (by rw [wordsP_app])
  by_cases h13 : a.kind = 13
  · rw [if_neg h11, if_neg h12, if_pos h13]
    have hlen : l.length = 2 := D.len (by rw [if_neg (by omega), if_neg (by omega), h13]; rfl)
    obtain ⟨x, y, rfl⟩ : ∃ x y, l = [x, y] := by match l, hlen with | [y, z], _ => exact ⟨y, z, rfl⟩
    obtain ⟨x0, m0⟩ := x
    obtain ⟨x1, m1⟩ := y
    exact (binder_13 D h13 (letrec_13 D h13)).eq (by simp only [wordsP_app]; unfold typedP effP atP rhosP; simp only [wordsP_app]; rw [wordsP_two ⟨#[64]⟩]; rfl)
  by_cases h15 : a.kind = 15
  · rw [if_neg h11, if_neg h12, if_neg h13, if_pos h15]; exact (binder_15 D h15).eq (by simp only [wordsP_app]; unfold typedP; rfl)
  by_cases h16 : a.kind = 16
  · rw [if_neg h11, if_neg h12, if_neg h13, if_neg h15, if_pos h16]
    refine (binder_16 D h16 ?_).eq (by rw [wordsP_app])
    have h1 := joinB_le [⟨#[119, 105, 116, 104]⟩, a.exn, a.arg, ⟨#[61, 62]⟩]
    have h2 := hs.exn
    have h3 := hs.arg
    have z1 : (⟨#[119, 105, 116, 104]⟩ : ByteArray).size = 4 := rfl
    have z2 : (⟨#[61, 62]⟩ : ByteArray).size = 2 := rfl
    simp only [List.map_cons, List.map_nil, List.sum_cons, List.sum_nil, List.length_cons, List.length_nil] at h1
    omega
  by_cases h17 : a.kind = 17
  · rw [if_neg h11, if_neg h12, if_neg h13, if_neg h15, if_neg h16, if_pos h17]; exact (binder_17 D h17).eq (by simp only [wordsP_app])
  have h18 : a.kind = 18 := by omega
  rw [if_neg h11, if_neg h12, if_neg h13, if_neg h15, if_neg h16, if_neg h17, if_pos h18]
  exact (binder_18 D h18).eq (by simp only [wordsP_app]; unfold effP atP rhosP; simp only [wordsP_app]; rw [wordsP_two ⟨#[64]⟩])
theorem mayA_node (a : AH) (l : List PA) : mayA (.node a l) = (node13 a && l.all mayA) := by
  unfold mayA
  rw [Rose.nodes_node, List.all_cons, List.all_flatten, List.all_map]
  rfl
theorem smallNs_kids {a : AH} {l : List PA} (h : SmallNs (.node a l)) : SmallN a ∧ ∀ x ∈ l, SmallNs x := by
  refine ⟨h a (by rw [Rose.nodes_node]; simp), fun x hx b hb => h b ?_⟩
  rw [Rose.nodes_node]
  exact List.mem_cons_of_mem _ (List.mem_flatten.2 ⟨_, List.mem_map_of_mem hx, hb⟩)
theorem termAt_any {w0 : World} {g : Nat} (hE : DEnv w0 g) (t : PA) : LA.lies w0 t → SmallNs t → mayA t = true → TermAt w0 g t := by
  refine Rose.ind (P := fun (t : PA) => LA.lies w0 t → SmallNs t → mayA t = true → TermAt w0 g t) (fun a l ih hl hs hm => ?_) t
  have hN := nodeA hl
  rw [mayA_node, Bool.and_eq_true, List.all_eq_true] at hm
  obtain ⟨hs1, hs2⟩ := smallNs_kids hs
  have hok := node_ok hm.1 hN.own.rhos.len
  exact termAt_of (dn_of hE hN hs1 hok (fun x hx => ih x hx (hN.each x hx) (hs2 x hx) (hm.2 x hx))) hs1 hok
end Go.Proofs.YtdlbjngpohkglaaGreatDoor
end
section
set_option linter.unusedVariables false
set_option maxRecDepth 100000
set_option linter.unusedSimpArgs false
namespace Go.Proofs.YtdlbjngpohkglaaGreatDoor
open Go.RowKit

theorem kidsP_le (bt : List ByteArray) (ks : List (List ByteArray)) (h3 : ks.length ≤ 3) (h : lensP bt ≤ 1000) : lensP (kidsP bt ks) ≤ 3000 + (ks.map lensP).sum := by
  have h1 := kidsP_len bt ks
  have h2 : ks.length * lensP bt ≤ 3 * 1000 := Nat.mul_le_mul h3 h
  omega
theorem getD2_le (ks : List (List ByteArray)) : lensP (ks.getD 0 []) + lensP (ks.getD 1 []) ≤ (ks.map lensP).sum := by
  match ks with
  | [] => simp [lensP]
  | [x] => simp [lensP]
  | x :: y :: l => simp
theorem lensP_map_dec : ∀ l : List Int, (∀ z ∈ l, inI z) → lensP (l.map decB) ≤ 22 * l.length
  | [], _ => by simp [lensP]
  | z :: l, h => by
    have h1 := lensP_map_dec l (fun y hy => h y (List.mem_cons_of_mem _ hy))
    have h2 := decB_size z (h z (by simp)).1 (h z (by simp)).2
    rw [List.map_cons, lensP_cons, List.length_cons]
    omega
/-- what bounds a node's own pieces -/
structure NodeSz (a : AH) : Prop where
  name : a.name.size ≤ 100
  arg : a.arg.size ≤ 100
  exn : a.exn.size ≤ 100
  rho : (decB a.rho).size ≤ 21
  n : (decB a.n).size ≤ 21
  rhos : lensP (a.rhos.map decB) ≤ 1100
  eff : (textA (effL a.eff)).size ≤ 30000
  ty : (textT a.ty.er).size ≤ 4000000
  res : (textT a.res.er).size ≤ 4000000
set_option maxHeartbeats 4000000 in
theorem lens_node (a : AH) (hz : NodeSz a) (ks : List (List ByteArray)) (h3 : ks.length ≤ 3) : lensP (nodeP a ks) ≤ 10000000 + (ks.map lensP).sum := by
  obtain ⟨y1, y2, y3, y4, y5, y6, y7, y8, y9⟩ := hz
  have z0 : (⟨#[40]⟩ : ByteArray).size = 1 := rfl
  have z1 : (⟨#[41]⟩ : ByteArray).size = 1 := rfl
  have z2 : (⟨#[64]⟩ : ByteArray).size = 1 := rfl
  have z3 : (⟨#[91]⟩ : ByteArray).size = 1 := rfl
  have z4 : (⟨#[93]⟩ : ByteArray).size = 1 := rfl
  have z5 : (⟨#[33]⟩ : ByteArray).size = 1 := rfl
  have z6 : (⟨#[44]⟩ : ByteArray).size = 1 := rfl
  have z7 : (⟨#[102, 115, 116]⟩ : ByteArray).size = 3 := rfl
  have z8 : (⟨#[115, 110, 100]⟩ : ByteArray).size = 3 := rfl
  have z9 : (⟨#[114, 101, 102]⟩ : ByteArray).size = 3 := rfl
  have z10 : (⟨#[58, 61]⟩ : ByteArray).size = 2 := rfl
  have z11 : (⟨#[]⟩ : ByteArray).size = 0 := rfl
  have z12 : (⟨#[105, 102]⟩ : ByteArray).size = 2 := rfl
  have z13 : (⟨#[116, 104, 101, 110]⟩ : ByteArray).size = 4 := rfl
  have z14 : (⟨#[101, 108, 115, 101]⟩ : ByteArray).size = 4 := rfl
  have z15 : (⟨#[102, 110]⟩ : ByteArray).size = 2 := rfl
  have z16 : (⟨#[58]⟩ : ByteArray).size = 1 := rfl
  have z17 : (⟨#[61, 62]⟩ : ByteArray).size = 2 := rfl
  have z18 : (⟨#[108, 101, 116]⟩ : ByteArray).size = 3 := rfl
  have z19 : (⟨#[61]⟩ : ByteArray).size = 1 := rfl
  have z20 : (⟨#[105, 110]⟩ : ByteArray).size = 2 := rfl
  have z21 : (⟨#[108, 101, 116, 114, 101, 99]⟩ : ByteArray).size = 6 := rfl
  have z22 : (⟨#[45, 62]⟩ : ByteArray).size = 2 := rfl
  have z23 : (⟨#[114, 97, 105, 115, 101]⟩ : ByteArray).size = 5 := rfl
  have z24 : (⟨#[116, 114, 121]⟩ : ByteArray).size = 3 := rfl
  have z25 : (⟨#[114, 101, 103, 105, 111, 110]⟩ : ByteArray).size = 6 := rfl
  have z26 : (⟨#[119, 105, 116, 104]⟩ : ByteArray).size = 4 := rfl
  have z27 : (⟨#[43]⟩ : ByteArray).size = 1 := rfl
  have z28 : (⟨#[45]⟩ : ByteArray).size = 1 := rfl
  have z29 : (⟨#[42]⟩ : ByteArray).size = 1 := rfl
  have z30 : (⟨#[60]⟩ : ByteArray).size = 1 := rfl
  have q0 := kidsP_le [⟨#[44]⟩] ks h3 (by decide)
  have q1 := kidsP_le [] ks h3 (by decide)
  have q2 := kidsP_le [⟨#[58, 61]⟩] ks h3 (by decide)
  have q3 := kidsP_le [⟨#[]⟩] ks h3 (by decide)
  have q4 := kidsP_le [⟨#[116, 104, 101, 110]⟩, ⟨#[101, 108, 115, 101]⟩] ks h3 (by decide)
  have q5 := kidsP_le [⟨#[105, 110]⟩] ks h3 (by decide)
  have qs : lensP (kidsP [signB a.op] ks) ≤ 3000 + (ks.map lensP).sum := kidsP_le _ ks h3 (by
    rw [lensP_cons, lensP_nil]
    have : (signB a.op).size = 1 := by unfold signB; split <;> (try split) <;> (try split) <;> (try split) <;> rfl
    omega)
  have qj : lensP (kidsP [joinB [⟨#[119, 105, 116, 104]⟩, a.exn, a.arg, ⟨#[61, 62]⟩]] ks) ≤ 3000 + (ks.map lensP).sum := kidsP_le _ ks h3 (by
    rw [lensP_cons, lensP_nil]
    have h1 := joinB_le [⟨#[119, 105, 116, 104]⟩, a.exn, a.arg, ⟨#[61, 62]⟩]
    simp only [List.map_cons, List.map_nil, List.sum_cons, List.sum_nil, List.length_cons, List.length_nil] at h1
    omega)
  have g2 := getD2_le ks
  unfold nodeP
  split
  · simp only [lensP_cons, lensP_nil]; omega
  split
  · simp only [lensP_cons, lensP_nil]; omega
  unfold innerP
  repeat' (split; (simp only [lensP_app, lensP_cons, lensP_nil, atP]; omega))
  unfold binderP
  repeat' (split; (simp only [lensP_app, lensP_cons, lensP_nil, atP, typedP, effP, rhosP]; omega))
  simp only [lensP_app, lensP_cons, lensP_nil]
  omega
theorem nodeSz_of {w0 : World} {a : AH} (ho : AH.Own w0 a) (hs : SmallN a) : NodeSz a where
  name := hs.name
  arg := hs.arg
  exn := hs.exn
  rho := decB_size _ ho.rho.1 ho.rho.2
  n := decB_size _ ho.n.1 ho.n.2
  rhos := by have h1 := lensP_map_dec a.rhos ho.rok; have h2 := ho.rhos.len; have h3 := hs.rhos; omega
  eff := textA_le2 hs.eff ho.eok
  ty := by
    have h1 := text_le2 a.ty ho.ty hs.ty.effs
    have h2 : a.ty.size ≤ 100 := by have := hs.ty.size; rw [← Rose.size_map RH.plain a.ty]; exact this
    omega
  res := by
    have h1 := text_le2 a.res ho.res hs.res.effs
    have h2 : a.res.size ≤ 100 := by have := hs.res.size; rw [← Rose.size_map RH.plain a.res]; exact this
    omega
theorem lens_term {w0 : World} (t : PA) : LA.lies w0 t → SmallNs t → mayA t = true → lensP (piecesT t) ≤ 10000000 * t.size := by
  refine Rose.ind (P := fun (t : PA) => LA.lies w0 t → SmallNs t → mayA t = true → lensP (piecesT t) ≤ 10000000 * t.size) (fun a l ih hl hs hm => ?_) t
  have hN := nodeA hl
  rw [mayA_node, Bool.and_eq_true, List.all_eq_true] at hm
  obtain ⟨hs1, hs2⟩ := smallNs_kids hs
  have hok := node_ok hm.1 hN.own.rhos.len
  have hkl : (l.map piecesT).length ≤ 3 := by
    have h1 := hok.kids
    have h2 := kidsI_le (if a.kind = 17 then 4 else if a.kind = 18 then 1 else a.kind)
    have h3 := hN.kids.len
    rw [List.length_map]
    omega
  have h1 := lens_node a (nodeSz_of hN.own hs1) (l.map piecesT) hkl
  have h2 := sum_le_mul (fun t => lensP (piecesT t)) Rose.size 10000000 l (fun x hx => ih x hx (hN.each x hx) (hs2 x hx) (hm.2 x hx))
  rw [piecesT_node, Rose.size_node]
  rw [List.map_map] at h1
  have h3 : (l.map (lensP ∘ piecesT)).sum = (l.map (fun t => lensP (piecesT t))).sum := rfl
  omega
end Go.Proofs.YtdlbjngpohkglaaGreatDoor
end
section
set_option linter.unusedVariables false
set_option maxRecDepth 100000
set_option linter.unusedSimpArgs false
namespace Go.Proofs.YtdlbjngpohkglaaGreatDoor
open Go.RowKit

/-- a term's words; none, if it may not be -/
def wordsT (t : PA) : List ByteArray := if mayA t then wordsP (piecesT t) else []
theorem ret_val' {a b : Value} (h : a = b) : Ending.returned a = .returned b := by rw [h]
theorem piecesT_ne (t : PA) : wordsP (piecesT t) ≠ [] := by
  obtain ⟨a, l⟩ := t
  rw [piecesT_node]
  have h : ∀ (s : ByteArray) (r : List ByteArray), wordsP (s :: r) ≠ [] := fun s r h => by
    have : wordsP (s :: r) = spl s ++ wordsP r := by simp [wordsP]
    rw [this] at h
    exact spl_ne s (List.append_eq_nil_iff.1 h).1
  unfold nodeP
  split
  · exact h _ _
  split
  · exact h _ _
  · exact h _ _
/-- what a call on a term wants -/
structure TEnv (w : World) (t : PA) : Prop where
  lies : LA.lies w t
  small : SmallNs t
  size : t.size ≤ 1000
  vr : Vr w
  tab : Tab w
theorem TEnv.below {w w' : World} {t : PA} (h : TEnv w t) (hb : Below w.heap.size w w') : TEnv w' t := ⟨LA.lies_below hb t h.lies, h.small, h.size, h.vr.below hb, h.tab.below hb⟩
theorem TEnv.len {w : World} {t : PA} (h : TEnv w t) (hm : mayA t = true) : lensP (piecesT t) ≤ 10000000000 := by
  have h1 := lens_term t h.lies h.small hm
  have h2 := h.size
  omega
theorem TEnv.words {w : World} {t : PA} (h : TEnv w t) (hm : mayA t = true) : (wordsP (piecesT t)).length ≤ 10000000000 := Nat.le_trans (wordsP_len _) (h.len hm)
set_option maxHeartbeats 2000000 in
theorem text_any {w : World} {t : PA} (hT : TEnv w t) :
    Calls Tryz.prog 23 #[aggT t.head] w fun e w' => ∃ p n c, e = .returned (.slice p n c) ∧ IsRow encS 1 w' p n c (wordsT t) ∧ Below w.heap.size w w' := by
  have HB := Lib.hid ((Below.refl w.heap.size w).alloc (Nat.le_refl _) (boxA t.head))
  have HBX := Lib.hid (boxA_new w t.head)
  have HTE := Lib.hid (hT.below HB.out)
  have HMAY := Lib.hid (aterm_May_any t HTE.out.lies HTE.out.small HTE.out.size HTE.out.vr)
  clear hT
  cases hm : mayA t with
  | false =>
    rw [hm] at HMAY
    have HW : Hid (wordsT t = []) := by show _ = _; unfold wordsT; rw [hm]; rfl
    clear hm
    go_enter Tryz.func23, Tryz.ntmps23
    go_wp2_with (first
      | (refine wpList_load_row rfl 31 _ rfl w.heap.size rfl 31 _ (0, 0) _ HBX.out.blk Tryz.underlying31 rfl (by kernel_rfl) ?_)
      | (go_at_call 41; refine HMAY.out.mono ?_; rintro e w2 ⟨rfl, hb⟩; have HB2 := Lib.hid (HB.out.trans (hb.mono HB.out.size)); clear hb))
    go_ret
    exact ⟨_, _, _, rfl, by rw [HW.out]; exact IsRow.none _ _ _, HB2.out⟩
  | true =>
    rw [hm] at HMAY
    have HW : Hid (wordsT t = wordsP (piecesT t)) := by show _ = _; unfold wordsT; rw [hm]; rfl
    have HMT := Lib.hid hm
    clear hm
    go_enter Tryz.func23, Tryz.ntmps23
    go_upto_region 3 with (first
      | (refine wpList_load_row rfl 31 _ rfl w.heap.size rfl 31 _ (0, 0) _ HBX.out.blk Tryz.underlying31 rfl (by kernel_rfl) ?_)
      | (go_at_call 41; refine HMAY.out.mono ?_; rintro e w2 ⟨rfl, hb⟩; have HB2 := Lib.hid (HB.out.trans (hb.mono HB.out.size)); have HTE2 := Lib.hid (HTE.out.below hb); have HBX2 := Lib.hid (HBX.out.below hb); clear hb))
    have hb3 : Below w2.heap.size w2 (w2.alloc (.cells #[.slice none 0 0] 65)) := (Below.refl _ _).alloc (Nat.le_refl _) _
    have HBX3 := Lib.hid (HBX2.out.below hb3)
    have HB3 := Lib.hid hb3
    have HWR : Hid (WrS w2.heap.size [] (w2.alloc (.cells #[.slice none 0 0] 65)) (.slice none 0 0)) := Lib.hid ⟨heap_alloc_new w2 _, OwnE.nil _ _ _ _ _⟩
    have HTA := Lib.hid (termAt_any ⟨Nat.le_refl _, HTE2.out.vr, HTE2.out.tab⟩ t HTE2.out.lies HTE2.out.small HMT.out _ _ _ hb3 HWR.out (by have := HTE2.out.words HMT.out; simp only [List.length_nil]; omega))
    clear hb3
    go_wp2_with (first
      | (refine wpList_load_row rfl 31 _ rfl w.heap.size rfl 31 _ (0, 0) _ HBX3.out.blk Tryz.underlying31 rfl (by kernel_rfl) ?_)
      | (go_at_call 42; refine HTA.out.mono ?_; rintro e w4 ⟨rfl, v4, hw4, ht4⟩; have HW4 := Lib.hid hw4; have HT4 := Lib.hid ht4; clear hw4 ht4; obtain ⟨x0, x1⟩ := HW4.out.cells))
    go_ret
    obtain ⟨p, c, hv, hrow⟩ := HW4.out.own.isRow encS_len (by omega)
    rw [List.nil_append] at hv hrow
    exact ⟨p, _, c, ret_val' hv, by rw [HW.out]; exact hrow, HB2.out.trans ((HT4.out.under HB3.out (Nat.le_refl _) (fun b hb => (HWR.out.from b hb).1)).mono HB2.out.size)⟩
end Go.Proofs.YtdlbjngpohkglaaGreatDoor
end
section
set_option linter.unusedVariables false
set_option maxRecDepth 100000
set_option linter.unusedSimpArgs false
namespace Go.Proofs.YtdlbjngpohkglaaGreatDoor
open Go.RowKit

/-- strings.Join of a row with a word -/
theorem join_row {w : World} {p : Option Addr} {n c : Nat} {l : List ByteArray} (h : IsRow encS 1 w p n c l) (hn : l ≠ []) (hm : n ≤ 100000000000) (hs : (joinB l).size ≤ 140737488355328) :
    Calls Tryz.prog 24 #[.slice p n c, .string ⟨#[32]⟩] w fun e w' => e = .returned (.string (joinB l)) ∧ Below w.heap.size w w' := by
  have hl := h.len
  have hp : 0 < l.length := by
    cases l with
    | nil => exact absurd rfl hn
    | cons x r => simp
  obtain ⟨bk, o, rfl, hbk, hcells⟩ := h.row.at hp
  have hc := Tryz.strings_Join bk o c l ⟨#[32]⟩ w (fun j x hx => by simpa [encS] using hcells j x hx 0 _ rfl) hbk (by omega) (by have := h.le; omega) (by rw [joinB_size] at hs; exact hs)
  rw [hl] at hc
  exact hc
theorem joinB_spl (l : List ByteArray) : joinB (wordsP l) = joinB l := joinW_spl l
theorem joinB_lens (l : List ByteArray) : (joinB l).size ≤ lensP l := by
  have h := joinB_le l
  have e : lensP l = (l.map ByteArray.size).sum + l.length := by
    induction l with
    | nil => rfl
    | cons x l ih =>
      rw [lensP_cons, ih (joinB_le l), List.map_cons, List.sum_cons, List.length_cons]
      omega
  omega
/-- a term's text -/
def textOf (t : PA) : ByteArray := joinB (piecesT t)
/-- what Term answers -/
def termR (t : PA) : Value := .tuple #[.string (if mayA t then textOf t else ⟨#[]⟩), .int .i64 (if mayA t then 0 else 1)]
set_option maxHeartbeats 2000000 in
theorem Term_any {w : World} {t : PA} (hT : TEnv w t) :
    Calls Tryz.prog 11 #[aggT t.head] w fun e w' => e = .returned (termR t) ∧ Below w.heap.size w w' := by
  have HB := Lib.hid ((Below.refl w.heap.size w).alloc (Nat.le_refl _) (boxA t.head))
  have HBX := Lib.hid (boxA_new w t.head)
  have HTE := Lib.hid (hT.below HB.out)
  have HTX := Lib.hid (text_any HTE.out)
  clear hT
  go_enter Tryz.func11, Tryz.ntmps11
  go_upto_region 2 with (first
    | (refine wpList_load_row rfl 31 _ rfl w.heap.size rfl 31 _ (0, 0) _ HBX.out.blk Tryz.underlying31 rfl (by kernel_rfl) ?_)
    | (go_at_call 23; refine HTX.out.mono ?_; rintro e w2 ⟨p, n, c, rfl, hr, hb⟩; have HB2 := Lib.hid (HB.out.trans (hb.mono HB.out.size)); have HR := Lib.hid hr; clear hb hr))
  have hmx := HR.out.max
  have hln := HR.out.len
  cases hm : mayA t with
  | false =>
    have hw : wordsT t = [] := by unfold wordsT; rw [hm]; rfl
    have hv : Hid (termR t = .tuple #[.string ⟨#[]⟩, .int .i64 1]) := by show _ = _; unfold termR; rw [hm]; rfl
    rw [hw] at hln
    obtain rfl : n = 0 := by simpa using hln.symm
    clear hln hmx hm
    go_wp2_with fail
    go_ret2
    exact ⟨ret_val' hv.out.symm, HB2.out⟩
  | true =>
    have hw : wordsT t = wordsP (piecesT t) := by unfold wordsT; rw [hm]; rfl
    have hv : Hid (termR t = .tuple #[.string (joinB (wordsP (piecesT t))), .int .i64 0]) := by show _ = _; unfold termR textOf; rw [hm, joinB_spl]; rfl
    have hlen := HTE.out.words hm
    have hle := HTE.out.len hm
    have hjs : (joinB (wordsP (piecesT t))).size ≤ 140737488355328 := by rw [joinB_spl]; have := joinB_lens (piecesT t); omega
    rw [hw] at hln HR
    have hne := piecesT_ne t
    have hn0 : n ≠ 0 := by
      intro e
      rw [e] at hln
      exact hne (List.eq_nil_of_length_eq_zero hln)
    have HJ := Lib.hid (join_row HR.out hne (by omega) hjs)
    have hb0 : ((n : Int) == 0) = false := by simpa using hn0
    clear hln hmx hm hne hn0
    go_wp2_with (go_at_call 24; refine HJ.out.mono ?_; rintro e w3 ⟨rfl, hb⟩; have HB3 := Lib.hid (HB2.out.trans (hb.mono HB2.out.size)); clear hb)
    go_ret2
    exact ⟨ret_val' hv.out.symm, HB3.out⟩
/-- how many words are one of some -/
def countW (ws bw : List ByteArray) : Nat := (ws.filter (fun s => bw.any (fun y => decide (y = s)))).length
theorem countW_take {ws bw : List ByteArray} {k : Nat} {s : ByteArray} (h : ws[k]? = some s) : countW (ws.take (k + 1)) bw = countW (ws.take k) bw + (if bw.any (fun y => decide (y = s)) then 1 else 0) := by
  unfold countW
  rw [take_succ_get h, List.filter_append, List.length_append]
  cases hb : bw.any (fun y => decide (y = s)) <;> simp [hb]
theorem countW_le (ws bw : List ByteArray) : countW ws bw ≤ ws.length := List.length_filter_le _ _
theorem containsS_any {w : World} {p : Option Addr} {n c : Nat} {bw : List ByteArray} (h : IsRow encS 1 w p n c bw) (s : ByteArray) :
    Calls Tryz.prog 28 #[.slice p n c, .string s] w fun e w' => e = .returned (.bool (bw.any (fun y => decide (y = s)))) ∧ w' = w := by
  have hln := h.len
  have hmx := h.max
  rcases h.row with h0 | ⟨b, o, hp, hb, hc⟩
  · subst h0
    obtain rfl : n = 0 := by simpa using hln.symm
    exact Tryz.slices_Contains_string_empty p c s w
  · subst hp
    refine (Tryz.slices_Contains_string b o n c bw s w (by omega) hmx (fun j hj => ?_)).mono ?_
    · have := hc j (bw[j]) (List.getElem?_eq_getElem hj) 0 (.string bw[j]) rfl
      rw [List.getD_eq_getElem?_getD, List.getElem?_eq_getElem hj]
      simpa using this
    · rintro e w' ⟨rfl, rfl⟩
      rw [List.take_of_length_le (by omega)]
      refine ⟨?_, rfl⟩
      have e : Lib.containsS bw s = bw.any (fun y => decide (y = s)) := by
        rw [Bool.eq_iff_iff, Lib.containsS_iff, List.any_eq_true]
        simp
      rw [e]
set_option maxHeartbeats 2000000 in
theorem Count_any {w : World} {t : PA} (hT : TEnv w t) {p : Option Addr} {n c : Nat} {bw : List ByteArray} (hbw : IsRow encS 1 w p n c bw) :
    Calls Tryz.prog 16 #[aggT t.head, .slice p n c] w fun e w' => e = .returned (.int .i64 (countW (wordsT t) bw)) ∧ Below w.heap.size w w' := by
  have HB := Lib.hid ((Below.refl w.heap.size w).alloc (Nat.le_refl _) (boxA t.head))
  have HBX := Lib.hid (boxA_new w t.head)
  have HTE := Lib.hid (hT.below HB.out)
  have HTX := Lib.hid (text_any HTE.out)
  have HBW := Lib.hid hbw
  have HLW : Hid ((wordsT t).length ≤ 10000000000) := by
    show _ ≤ _
    unfold wordsT
    cases hm : mayA t with
    | false => simp
    | true => exact HTE.out.words hm
  clear hT hbw
  go_enter Tryz.func16, Tryz.ntmps16
  go_upto_region 2 with fail
  go_upto_region 3 with (first
    | (refine wpList_load_row rfl 31 _ rfl w.heap.size rfl 31 _ (0, 0) _ HBX.out.blk Tryz.underlying31 rfl (by kernel_rfl) ?_)
    | (go_at_call 23; refine HTX.out.mono ?_; rintro e w2 ⟨q, m, d, rfl, hr, hb⟩; have HB2 := Lib.hid (HB.out.trans (hb.mono HB.out.size)); have HR := Lib.hid hr; have hmx := hr.max; clear hb hr))
  go_loopw [5, 7, 11] (fun u _ i wr => ∃ k : Nat, k ≤ m ∧ i = .int .i64 k ∧ u = .int .i64 (countW ((wordsT t).take k) bw) ∧ wr = w2) (fun _ _ i _ => m - (intOf i).toNat)
  case atStart => exact ⟨0, by omega, rfl, rfl, rfl⟩
  case round =>
    obtain ⟨k, hk, rfl, rfl, rfl⟩ := hrel
    by_cases hlt : k < m
    · obtain ⟨s, hx⟩ := get_of_lt (l := wordsT t) (j := k) (by rw [HR.out.len]; exact hlt)
      obtain ⟨b, o, rfl, d0⟩ := HR.out.row.str hx
      have HCT := Lib.hid (countW_take (bw := bw) hx)
      have hcl := countW_le ((wordsT t).take k) bw
      have htl : ((wordsT t).take k).length ≤ k := by rw [List.length_take]; omega
      have hmm : m ≤ 10000000000 := by have := HR.out.len; have := HLW.out; omega
      have HC := Lib.hid (containsS_any (HBW.out.below HB2.out) s)
      clear hx
      cases hq : bw.any (fun y => decide (y = s)) with
      | false =>
        rw [hq] at HC HCT
        clear hq
        go_wp2_with (go_at_call 28; refine HC.out.mono ?_; rintro e w3 ⟨rfl, rfl⟩)
        go_roundw
        case rel => exact ⟨k + 1, by omega, by go_num, by rw [HCT.out]; rfl, trivial⟩
        case measure => simp [intOf]; omega
      | true =>
        rw [hq] at HC HCT
        clear hq
        have hwr : IntKind.i64.wrap ((countW ((wordsT t).take k) bw : Int) + 1) = (countW ((wordsT t).take k) bw : Int) + 1 := IntWalk.i64_in _ (by omega)
        go_wp2_with (go_at_call 28; refine HC.out.mono ?_; rintro e w3 ⟨rfl, rfl⟩)
        go_roundw
        case rel => exact ⟨k + 1, by omega, by go_num, by rw [HCT.out]; simp, trivial⟩
        case measure => simp [intOf]; omega
    · have hkm : k = m := by omega
      have hfull : (wordsT t).take k = wordsT t := take_full (by rw [HR.out.len, hkm]; exact Nat.le_refl _)
      rw [hfull]
      go_wp2_with fail
      go_ret
      exact ⟨rfl, HB2.out⟩
end Go.Proofs.YtdlbjngpohkglaaGreatDoor
end
section
set_option linter.unusedVariables false
set_option maxRecDepth 100000
set_option linter.unusedSimpArgs false
namespace Go.Proofs.YtdlbjngpohkglaaGreatDoor
open Go.RowKit

theorem app_data (a b : ByteArray) : (a ++ b).data.toList = a.data.toList ++ b.data.toList := by
  rw [ByteArray.data_append, Array.toList_append]
theorem joinB_data (l : List ByteArray) : (joinB l).data.toList = Lib.join (l.map (·.data.toList)) [32] := rfl
theorem joinB_one (x : ByteArray) : joinB [x] = x := by
  apply ba_ext
  rw [joinB_data]
  exact Lib.join_one _ _
theorem joinB_app (a b : List ByteArray) (ha : a ≠ []) (hb : b ≠ []) : joinB (a ++ b) = joinB a ++ (⟨#[32]⟩ ++ joinB b) := by
  apply ba_ext
  rw [joinB_data, app_data, app_data, joinB_data, joinB_data, List.map_append, join32_app _ _ (by simpa using ha) (by simpa using hb)]
  rfl
theorem joinB_cons (x : ByteArray) (l : List ByteArray) (hl : l ≠ []) : joinB (x :: l) = x ++ (⟨#[32]⟩ ++ joinB l) := by
  have := joinB_app [x] l (by simp) hl
  rwa [joinB_one] at this
theorem piecesT_ne' (t : PA) : piecesT t ≠ [] := fun h => piecesT_ne t (by rw [h]; rfl)
/-- the text of a term with a region around it -/
theorem region_text (a : AH) (t : PA) (h : a.kind = 17) : textOf (.node a [t]) = ⟨#[40, 32, 114, 101, 103, 105, 111, 110, 32]⟩ ++ decB a.rho ++ ⟨#[32, 105, 110, 32]⟩ ++ textOf t ++ ⟨#[32, 41]⟩ := by
  have hp : piecesT (.node a [t]) = ⟨#[40]⟩ :: ⟨#[114, 101, 103, 105, 111, 110]⟩ :: decB a.rho :: ⟨#[105, 110]⟩ :: (piecesT t ++ [⟨#[41]⟩]) := by
    rw [piecesT_node]
    unfold nodeP innerP binderP
    simp [h, kidsP, kidsTo, betw]
  unfold textOf
  rw [hp, joinB_cons _ _ (by simp), joinB_cons _ _ (by simp), joinB_cons _ _ (by simp), joinB_cons _ _ (by simp [piecesT_ne']), joinB_app _ _ (piecesT_ne' t) (by simp), joinB_one]
  apply ba_ext
  simp [app_data]
end Go.Proofs.YtdlbjngpohkglaaGreatDoor
end
