/- Part 42 of the texts: Am, We, Ln. -/
import Derived.Test.YtdlbjngpohkglaaGreatDoorG41
import Derived.Test.YtdlbjngpohkglaaGreatDoorG26
import Derived.Test.YtdlbjngpohkglaaGreatDoorG34
import Derived.Test.YtdlbjngpohkglaaGreatDoorG35
import Derived.Test.YtdlbjngpohkglaaGreatDoorG36
import Derived.Test.YtdlbjngpohkglaaGreatDoorG38
import Derived.Test.YtdlbjngpohkglaaGreatDoorG40
section
set_option linter.unusedVariables false
set_option maxRecDepth 100000
set_option linter.unusedSimpArgs false
namespace Go.Proofs.YtdlbjngpohkglaaGreatDoor
open Go.RowKit

set_option maxHeartbeats 1000000 in
theorem aterm_Size1_any (a : AH) (b : Nat) (z : Int) (W : World) (h : IntBlk b z W) :
    Calls Tryz.prog 68 #[aggT a, .pointer (some ⟨b, 0, none⟩)] W fun e w' => e = .returned (.bool (plus1 a z).1) ∧ IntBlk b (plus1 a z).2 w' ∧ W.grownBy w' (some b) := by
  have HA := Lib.hid (h.below ((Below.refl _ _).alloc (Nat.le_refl _) (boxA a)))
  obtain ⟨q0, qf⟩ := HA.out.cells
  obtain ⟨Z, hZ⟩ : ∃ Z, IntKind.i64.wrap (z + 1) = Z := ⟨_, rfl⟩
  have HZ : Hid ((plus1 a z).2 = Z) := hZ
  clear h
  go_enter Tryz.func68, Tryz.ntmps68
  go_wp2_with fail
  go_ret
  refine ⟨rfl, ?_⟩
  rw [HZ.out]
  exact ⟨HA.out.set Z, (World.grownBy_alloc W _ _).trans (grown_setCell1 _ _ _ _)⟩
theorem fvA_Size {w0 : World} {b : Nat} (hb : w0.heap.size ≤ b) : FvA w0 (some b) 68 #[.pointer (some ⟨b, 0, none⟩)] (IntBlk b) (fun _ => True) plus1 where
  eg := fun args w => rfl
  hb := fun b' h => by injection h with h; omega
  lt := fun b' h s W hi => by injection h with h; rw [← h]; exact hi.lt
  inv := fun s W W' hi hbl => hi.below hbl
  call := fun a s W _ _ hi => aterm_Size1_any a b s W hi
set_option maxHeartbeats 1000000 in
theorem aterm_Size_any {w : World} {p : Option Addr} {n c : Nat} {l : List PA} (hr : RowTA w p n c l) {m : Nat} (hm : (nodesL l).length = m) (h3 : m ≤ 1000000) :
    Calls Tryz.prog 54 #[.slice p n c] w fun e w' => e = .returned (.int .i64 m) ∧ Below w.heap.size w w' := by
  have HE := Lib.hid (aterm_each_any (fvA_Size (w0 := w) (b := w.heap.size) (Nat.le_refl _)) l p n c hr (fun _ _ => trivial))
  have HP : Hid (stepAll plus1 (nodesL l) 0 = (true, (m : Int))) := by
    show _ = _
    rw [plus1_all (nodesL l) 0 (by omega) (by omega), hm]
    congr 1
    omega
  have HI : Hid (IntBlk w.heap.size 0 (w.alloc (.cells #[.int .i64 0] 3))) := heap_alloc_new w _
  have HB := Lib.hid ((Below.refl w.heap.size w).alloc (Nat.le_refl _) (.cells #[.int .i64 0] 3))
  have HG := Lib.hid (World.grownBy_alloc w (.cells #[.int .i64 0] 3) (some w.heap.size))
  clear hr hm
  go_enter Tryz.func54, Tryz.ntmps54
  go_wp2_with (go_at_call 55; refine (HE.out 0 _ HB.out HI.out).mono ?_; rw [HP.out]; rintro e w2 ⟨rfl, hi2, hg2⟩; obtain ⟨q0, qf⟩ := hi2.cells; have HG2 := Lib.hid (HG.out.trans hg2); clear hi2 hg2)
  go_ret
  exact ⟨rfl, held_under HG2.out (Nat.le_refl _) (fun b hb => by injection hb with hb; omega)⟩
/-- a row made of one term -/
theorem rowTA_made {w : World} {t : PA} (hl : LA.lies w t) (e : TypeId) (gs : Nat) (hgs : w.heap.size = gs) : RowTA (w.alloc (.cells #[.int .u8 t.head.kind, .int .u8 t.head.op, .int .i64 t.head.at_, .int .i64 t.head.n, .string t.head.name, .string t.head.arg, .string t.head.exn, .int .i64 t.head.rho, .slice t.head.rp t.head.rn t.head.rc, .slice t.head.ep t.head.en t.head.ec, .int .u8 t.head.ty.head.kind, .int .i64 t.head.ty.head.rho, .slice t.head.ty.head.ep t.head.ty.head.en t.head.ty.head.ec, .slice t.head.ty.head.kp t.head.ty.head.kn t.head.ty.head.kc, .int .u8 t.head.res.head.kind, .int .i64 t.head.res.head.rho, .slice t.head.res.head.ep t.head.res.head.en t.head.res.head.ec, .slice t.head.res.head.kp t.head.res.head.kn t.head.res.head.kc, .slice t.head.kp t.head.kn t.head.kc] e)) (some ⟨gs, 0, none⟩) 1 1 [t] := by
  subst hgs
  refine ⟨row_made LAlen (by omega) w e [t] 1 _ ?_ rfl (by decide), fun x hx => ?_⟩
  · simp [Laid.encT, LA, encAH]
  · have : x = t := by simpa using hx
    subst this
    exact LA.lies_below ((Below.refl _ w).alloc (Nat.le_refl _) _) x hl
/-- what each node of a term that lies is good for -/
theorem nodes_own {w : World} (t : PA) : LA.lies w t → ∀ a ∈ Rose.nodes t, AH.Own w a ∧ a.kn ≤ t.size := by
  refine Rose.ind (P := fun (t : PA) => LA.lies w t → ∀ a ∈ Rose.nodes t, AH.Own w a ∧ a.kn ≤ t.size) (fun a l ih hl x hx => ?_) t
  have hN := nodeA hl
  rw [Rose.nodes_node, List.mem_cons] at hx
  rw [Rose.size_node]
  rcases hx with rfl | hx
  · refine ⟨hN.own, ?_⟩
    have h1 := kidsA_le l
    have h2 := hN.kids.len
    omega
  · rw [List.mem_flatten] at hx
    obtain ⟨m, hm, hx⟩ := hx
    obtain ⟨y, hy, rfl⟩ := List.mem_map.1 hm
    obtain ⟨h1, h2⟩ := ih y hy (hN.each y hy) x hx
    have h3 : y.size ≤ (l.map Rose.size).sum := le_sum_of_mem (List.mem_map_of_mem hy)
    exact ⟨h1, by omega⟩
def nodeU (a : AH) (_ : Unit) : Bool × Unit := (node13 a, ())
theorem stepAll_nodeU : ∀ l : List AH, (stepAll nodeU l ()).1 = l.all node13
  | [] => rfl
  | a :: l => by
    show (if (node13 a) = true then stepAll nodeU l () else (false, ())).1 = _
    rw [List.all_cons]
    cases h : node13 a
    · rfl
    · rw [if_pos rfl, stepAll_nodeU l]; rfl
theorem fvA_node {w0 : World} (hv : Vr w0) : FvA w0 none 56 #[] (fun (_ : Unit) _ => True) (fun a => AH.Own w0 a ∧ SmallN a ∧ a.kn ≤ 1000000) nodeU where
  eg := fun args w => rfl
  hb := fun b' h => by cases h
  lt := fun b' h => by cases h
  inv := fun _ _ _ _ _ => trivial
  call := fun a s W ok hb _ => by
    refine (aterm_node_any a (LA.below ok.1 hb) ok.2.1 ok.2.2 (hv.below hb)).mono ?_
    rintro e w' ⟨rfl, hb'⟩
    exact ⟨rfl, trivial, hb'.os, hb'.tape, hb'.output, hb'.size, fun k hk _ => hb'.block k hk⟩
/-- may a term be? -/
def mayA (t : PA) : Bool := (Rose.nodes t).all node13
set_option maxHeartbeats 4000000 in
theorem aterm_May_any (t : PA) {w : World} (hl : LA.lies w t) (hs : SmallNs t) (hz : t.size ≤ 1000) (hv : Vr w) :
    Calls Tryz.prog 41 #[aggT t.head] w fun e w' => e = .returned (.bool (mayA t)) ∧ Below w.heap.size w w' := by
  have HB := Lib.hid ((Below.refl w.heap.size w).alloc (Nat.le_refl _) (boxA t.head))
  have HBX := Lib.hid (boxA_new w t.head)
  have HV := Lib.hid hv
  have HROW := Lib.hid (fun (W : World) (hb : Below w.heap.size w W) (e : TypeId) (gs : Nat) (h : W.heap.size = gs) => rowTA_made (LA.lies_below hb t hl) e gs h)
  have hlen : (nodesL [t]).length = t.size := by simp [nodesL, nodes_length]
  have HSA : Hid ((stepAll nodeU (nodesL [t]) ()).1 = mayA t) := by
    show _ = _
    rw [stepAll_nodeU]; simp [nodesL, mayA]
  have HOK := Lib.hid (fun (W : World) (hb : Below w.heap.size w W) (a : AH) (ha : a ∈ nodesL [t]) => (show AH.Own W a ∧ SmallN a ∧ a.kn ≤ 1000000 by
    have ha' : a ∈ Rose.nodes t := by simpa [nodesL] using ha
    obtain ⟨h1, h2⟩ := nodes_own t hl a ha'
    exact ⟨LA.below h1 hb, hs a ha', by omega⟩))
  have hle : decide ((t.size : Int) ≤ 40000) = true := by simp; omega
  have HLEN := Lib.hid hlen
  clear hl hs hv hlen
  go_enter Tryz.func41, Tryz.ntmps41
  go_wp2_with (first
    | (refine wpList_load_row rfl 31 _ rfl w.heap.size rfl 31 _ (0, 0) _ HBX.out.blk Tryz.underlying31 rfl (by kernel_rfl) ?_)
    | (refine wpList_load_midG (by rfl) 31 _ rfl w.heap.size 0 rfl [.int .u8 t.head.kind, .int .u8 t.head.op, .int .i64 t.head.at_, .int .i64 t.head.n, .string t.head.name, .string t.head.arg, .string t.head.exn, .int .i64 t.head.rho, .slice t.head.rp t.head.rn t.head.rc, .slice t.head.ep t.head.en t.head.ec, .int .u8 t.head.ty.head.kind, .int .i64 t.head.ty.head.rho, .slice t.head.ty.head.ep t.head.ty.head.en t.head.ty.head.ec, .slice t.head.ty.head.kp t.head.ty.head.kn t.head.ty.head.kc, .int .u8 t.head.res.head.kind, .int .i64 t.head.res.head.rho, .slice t.head.res.head.ep t.head.res.head.en t.head.res.head.ec, .slice t.head.res.head.kp t.head.res.head.kn t.head.res.head.kc, .slice t.head.kp t.head.kn t.head.kc] _ HBX.out.range Tryz.underlying31 rfl (by kernel_rfl) ?_)
    | (go_at_call 54; refine (aterm_Size_any (HROW.out _ HB.out _ _ (by simp)) HLEN.out (by omega)).mono ?_; rintro e w2 ⟨rfl, hb⟩; have HB2 := Lib.hid ((HB.out.alloc HB.out.size _).trans (hb.mono (HB.out.alloc HB.out.size _).size)); have HBX := Lib.hid ((HBX.out.below ((Below.refl _ _).alloc (Nat.le_refl _) _)).below hb); clear hb)
    | (go_at_call 55; refine (aterm_each_any (fvA_node (HV.out.below (HB2.out.alloc HB2.out.size _))) [t] _ _ _ (HROW.out _ HB2.out _ _ (by simp)) (fun a ha => HOK.out _ (HB2.out.alloc HB2.out.size _) a ha) () _ (Below.refl _ _) trivial).mono ?_; rw [HSA.out]; rintro e w3 ⟨rfl, _, hg3⟩; have HB3 := Lib.hid (held_under hg3 (Nat.le_refl _) (fun b h => by cases h)); clear hg3))
  go_ret
  exact ⟨rfl, HB2.out.trans (((Below.refl _ w2).alloc (Nat.le_refl _) _ |>.trans (HB3.out.mono (by simp))).mono HB2.out.size)⟩
end Go.Proofs.YtdlbjngpohkglaaGreatDoor
end
section
set_option linter.unusedVariables false
set_option maxRecDepth 100000
set_option linter.unusedSimpArgs false
namespace Go.Proofs.YtdlbjngpohkglaaGreatDoor
open Go.RowKit

theorem effTx_of {w0 : World} {a : AH} (hT : Tab w0) (ho : AH.Own w0 a) (hg : greatB a.eff = false) : EffTx w0 a (textA (effL a.eff)) := by
  intro W hW
  have := effect_Text_any a.ep a.en a.ec a.eff W ho.eff.len (by have := ho.eff.len; have := greatB_len' hg; omega) (ho.eff.below hW).row (fun x hx _ _ => digOK_of (ho.eok x hx).r0 (ho.eok x hx).r1 (hT.below hW)) (textOne_size hg ho.eok)
  exact this
theorem tyTx_of {w0 : World} {t : PT} (hT : Tab w0) (hl : LR.lies w0 t) (hs : SmallT t.er 100) (hm : mayT t.er = true) : TyTx w0 t (textT t.er) ∧ (textT t.er).size ≤ 4000000 := by
  have h1 := text_le2 t hl hs.effs
  have h2 : t.size ≤ 100 := by have := hs.size; rw [← Rose.size_map RH.plain t]; exact this
  have h3 : (textT t.er).size ≤ 4000000 := by omega
  refine ⟨fun W hW => ?_, h3⟩
  have := rtype_Text_any (LR.lies_below hW t hl) (hT.below hW) hs.effs (by omega)
  unfold textR at this
  rw [hm] at this
  exact this
theorem dn_of {w0 : World} {g : Nat} (hE : DEnv w0 g) {a : AH} {l : List PA} (hN : NodeA w0 a l) (hs : SmallN a) (hok : NodeOk a) (hf : ∀ x ∈ l, TermAt w0 g x) : DN w0 g a l where
  env := hE
  node := hN
  kids := hf
  name := by have := hs.name; omega
  arg := by have := hs.arg; omega
  exn := by have := hs.exn; omega
  len := fun {m} h => by
    have h1 := hok.kids
    rw [h] at h1
    have h2 := hN.kids.len
    omega
  op := hok.op
  heff := eff_any hE a (effTx_of hE.tab hN.own hs.eff) (by have := textA_le2 hs.eff hN.own.eok; omega)
  hty := fun h => by
    obtain ⟨h1, h2⟩ := tyTx_of hE.tab hN.own.ty hs.ty (hok.ty h)
    exact typed_any hE a.ty ⟨#[58]⟩ h1 (by omega) (by decide)
  hres := fun h => by
    obtain ⟨h1, h2⟩ := tyTx_of hE.tab hN.own.res hs.res (hok.res h)
    exact typed_any hE a.res ⟨#[45, 62]⟩ h1 (by omega) (by decide)
theorem wordsP_two (x y : ByteArray) : wordsP [x, y] = wordsP [x] ++ wordsP [y] := by simp [wordsP]
theorem PutsAt.eq {w0 : World} {g : Nat} {f : FuncId} {args : Array Value} {ws ws' : List ByteArray} (h : PutsAt w0 g f args ws) (e : ws' = ws) : PutsAt w0 g f args ws' := by rw [e]; exact h
theorem termAt_of {w0 : World} {g : Nat} {a : AH} {l : List PA} (D : DN w0 g a l) (hs : SmallN a) (hok : NodeOk a) : TermAt w0 g (.node a l) := by
  show PutsAt w0 g _ #[.pointer (some ⟨g, 0, none⟩), aggT a] _
  rw [piecesT_node]
  unfold nodeP
  have hk1 := hok.k1
  have hk2 := hok.k18
  by_cases h1 : a.kind = 1
  · rw [if_pos h1]; exact term_1 D h1
  by_cases h2 : a.kind = 2
  · rw [if_neg h1, if_pos h2]; exact term_2 D h2
  rw [if_neg h1, if_neg h2, wordsP_app, wordsP_app]
  refine term_in D h1 h2 ?_
  unfold innerP
  by_cases h3 : a.kind = 3
  · rw [if_pos h3]; exact (inner_3 D h3).eq (by rw [wordsP_app]; unfold atP; rw [wordsP_two])
  by_cases h4 : a.kind = 4
  · rw [if_neg h3, if_pos h4]; exact (inner_4 D h4).eq (by rw [wordsP_app])
  by_cases h5 : a.kind = 5
  · rw [if_neg h3, if_neg h4, if_pos h5]; exact (inner_5 D h5).eq (by rw [wordsP_app])
  by_cases h7 : a.kind = 7
  · rw [if_neg h3, if_neg h4, if_neg h5, if_pos h7]; exact (inner_7 D h7).eq (by rw [wordsP_app])
  by_cases h6 : a.kind = 6
  · rw [if_neg h3, if_neg h4, if_neg h5, if_neg h7, if_pos h6]; exact (inner_6 D h6).eq (by rw [wordsP_app, wordsP_app]; unfold atP; rw [wordsP_two])
  by_cases h8 : a.kind = 8
  · rw [if_neg h3, if_neg h4, if_neg h5, if_neg h7, if_neg h6, if_pos h8]; exact inner_8 D h8
  by_cases h9 : a.kind = 9
  · rw [if_neg h3, if_neg h4, if_neg h5, if_neg h7, if_neg h6, if_neg h8, if_pos h9]
    obtain ⟨ho1, ho2⟩ := hok.op h9
    obtain ⟨kind, op, at_, n, name, arg, exn, rho, rp, rn, rc, rhos, ep, en, ec, eff, ty, res, kp, kn, kc⟩ := a
    have h9' : kind = 9 := h9
    subst h9'
    have ho1 : 1 ≤ op := ho1
    have ho2 : op ≤ 5 := ho2
    rcases (by omega : op = 1 ∨ op = 2 ∨ op = 3 ∨ op = 4 ∨ op = 5) with rfl | rfl | rfl | rfl | rfl
    · exact inner_9_1 D
    · exact inner_9_2 D
    · exact inner_9_3 D
    · exact inner_9_4 D
    · exact inner_9_5 D
  by_cases h10 : a.kind = 10
  · rw [if_neg h3, if_neg h4, if_neg h5, if_neg h7, if_neg h6, if_neg h8, if_neg h9, if_pos h10]; exact inner_10 D h10
  by_cases h14 : a.kind = 14
  · rw [if_neg h3, if_neg h4, if_neg h5, if_neg h7, if_neg h6, if_neg h8, if_neg h9, if_neg h10, if_pos h14]; exact (inner_14 D h14).eq (by rw [wordsP_app])
  rw [if_neg h3, if_neg h4, if_neg h5, if_neg h7, if_neg h6, if_neg h8, if_neg h9, if_neg h10, if_neg h14]
  refine inner_bd D h3 h4 h5 h7 h6 h8 h9 h10 h14 ?_
  unfold binderP
  by_cases h11 : a.kind = 11
  · rw [if_pos h11]; exact (binder_11 D h11).eq (by simp only [wordsP_app]; unfold typedP effP atP; rw [wordsP_two ⟨#[64]⟩])
  by_cases h12 : a.kind = 12
  · rw [if_neg h11, if_pos h12]; exact (binder_12 D h12).eq (by rw [wordsP_app])
  by_cases h13 : a.kind = 13
  · rw [if_neg h11, if_neg h12, if_pos h13]
    have hlen : l.length = 2 := D.len (by rw [if_neg (by omega), if_neg (by omega), h13]; rfl)
    obtain ⟨x, y, rfl⟩ : ∃ x y, l = [x, y] := by match l, hlen with | [y, z], _ => exact ⟨y, z, rfl⟩
    obtain ⟨x0, m0⟩ := x
    obtain ⟨x1, m1⟩ := y
    exact (binder_13 D h13 (letrec_13 D h13)).eq (by simp only [wordsP_app]; unfold typedP effP atP rhosP; simp only [wordsP_app]; rw [wordsP_two ⟨#[64]⟩]; rfl)
  by_cases h15 : a.kind = 15
  · rw [if_neg h11, if_neg h12, if_neg h13, if_pos h15]; exact (binder_15 D h15).eq (by simp only [wordsP_app]; unfold typedP; rfl)
  by_cases h16 : a.kind = 16
  · rw [if_neg h11, if_neg h12, if_neg h13, if_neg h15, if_pos h16]
    refine (binder_16 D h16 ?_).eq (by rw [wordsP_app])
    have h1 := joinB_le [⟨#[119, 105, 116, 104]⟩, a.exn, a.arg, ⟨#[61, 62]⟩]
    have h2 := hs.exn
    have h3 := hs.arg
    have z1 : (⟨#[119, 105, 116, 104]⟩ : ByteArray).size = 4 := rfl
    have z2 : (⟨#[61, 62]⟩ : ByteArray).size = 2 := rfl
    simp only [List.map_cons, List.map_nil, List.sum_cons, List.sum_nil, List.length_cons, List.length_nil] at h1
    omega
  by_cases h17 : a.kind = 17
  · rw [if_neg h11, if_neg h12, if_neg h13, if_neg h15, if_neg h16, if_pos h17]; exact (binder_17 D h17).eq (by simp only [wordsP_app])
  have h18 : a.kind = 18 := by omega
  rw [if_neg h11, if_neg h12, if_neg h13, if_neg h15, if_neg h16, if_neg h17, if_pos h18]
  exact (binder_18 D h18).eq (by simp only [wordsP_app]; unfold effP atP rhosP; simp only [wordsP_app]; rw [wordsP_two ⟨#[64]⟩])
theorem mayA_node (a : AH) (l : List PA) : mayA (.node a l) = (node13 a && l.all mayA) := by
  unfold mayA
  rw [Rose.nodes_node, List.all_cons, List.all_flatten, List.all_map]
  rfl
theorem smallNs_kids {a : AH} {l : List PA} (h : SmallNs (.node a l)) : SmallN a ∧ ∀ x ∈ l, SmallNs x := by
  refine ⟨h a (by rw [Rose.nodes_node]; simp), fun x hx b hb => h b ?_⟩
  rw [Rose.nodes_node]
  exact List.mem_cons_of_mem _ (List.mem_flatten.2 ⟨_, List.mem_map_of_mem hx, hb⟩)
theorem termAt_any {w0 : World} {g : Nat} (hE : DEnv w0 g) (t : PA) : LA.lies w0 t → SmallNs t → mayA t = true → TermAt w0 g t := by
  refine Rose.ind (P := fun (t : PA) => LA.lies w0 t → SmallNs t → mayA t = true → TermAt w0 g t) (fun a l ih hl hs hm => ?_) t
  have hN := nodeA hl
  rw [mayA_node, Bool.and_eq_true, List.all_eq_true] at hm
  obtain ⟨hs1, hs2⟩ := smallNs_kids hs
  have hok := node_ok hm.1 hN.own.rhos.len
  exact termAt_of (dn_of hE hN hs1 hok (fun x hx => ih x hx (hN.each x hx) (hs2 x hx) (hm.2 x hx))) hs1 hok
end Go.Proofs.YtdlbjngpohkglaaGreatDoor
end
section
set_option linter.unusedVariables false
set_option maxRecDepth 100000
set_option linter.unusedSimpArgs false
namespace Go.Proofs.YtdlbjngpohkglaaGreatDoor
open Go.RowKit

theorem kidsP_le (bt : List ByteArray) (ks : List (List ByteArray)) (h3 : ks.length ≤ 3) (h : lensP bt ≤ 1000) : lensP (kidsP bt ks) ≤ 3000 + (ks.map lensP).sum := by
  have h1 := kidsP_len bt ks
  have h2 : ks.length * lensP bt ≤ 3 * 1000 := Nat.mul_le_mul h3 h
  omega
theorem getD2_le (ks : List (List ByteArray)) : lensP (ks.getD 0 []) + lensP (ks.getD 1 []) ≤ (ks.map lensP).sum := by
  match ks with
  | [] => simp [lensP]
  | [x] => simp [lensP]
  | x :: y :: l => simp
theorem lensP_map_dec : ∀ l : List Int, (∀ z ∈ l, inI z) → lensP (l.map decB) ≤ 22 * l.length
  | [], _ => by simp [lensP]
  | z :: l, h => by
    have h1 := lensP_map_dec l (fun y hy => h y (List.mem_cons_of_mem _ hy))
    have h2 := decB_size z (h z (by simp)).1 (h z (by simp)).2
    rw [List.map_cons, lensP_cons, List.length_cons]
    omega
/-- what bounds a node's own pieces -/
structure NodeSz (a : AH) : Prop where
  name : a.name.size ≤ 100
  arg : a.arg.size ≤ 100
  exn : a.exn.size ≤ 100
  rho : (decB a.rho).size ≤ 21
  n : (decB a.n).size ≤ 21
  rhos : lensP (a.rhos.map decB) ≤ 1100
  eff : (textA (effL a.eff)).size ≤ 30000
  ty : (textT a.ty.er).size ≤ 4000000
  res : (textT a.res.er).size ≤ 4000000
set_option maxHeartbeats 4000000 in
theorem lens_node (a : AH) (hz : NodeSz a) (ks : List (List ByteArray)) (h3 : ks.length ≤ 3) : lensP (nodeP a ks) ≤ 10000000 + (ks.map lensP).sum := by
  obtain ⟨y1, y2, y3, y4, y5, y6, y7, y8, y9⟩ := hz
  have z0 : (⟨#[40]⟩ : ByteArray).size = 1 := rfl
  have z1 : (⟨#[41]⟩ : ByteArray).size = 1 := rfl
  have z2 : (⟨#[64]⟩ : ByteArray).size = 1 := rfl
  have z3 : (⟨#[91]⟩ : ByteArray).size = 1 := rfl
  have z4 : (⟨#[93]⟩ : ByteArray).size = 1 := rfl
  have z5 : (⟨#[33]⟩ : ByteArray).size = 1 := rfl
  have z6 : (⟨#[44]⟩ : ByteArray).size = 1 := rfl
  have z7 : (⟨#[102, 115, 116]⟩ : ByteArray).size = 3 := rfl
  have z8 : (⟨#[115, 110, 100]⟩ : ByteArray).size = 3 := rfl
  have z9 : (⟨#[114, 101, 102]⟩ : ByteArray).size = 3 := rfl
  have z10 : (⟨#[58, 61]⟩ : ByteArray).size = 2 := rfl
  have z11 : (⟨#[]⟩ : ByteArray).size = 0 := rfl
  have z12 : (⟨#[105, 102]⟩ : ByteArray).size = 2 := rfl
  have z13 : (⟨#[116, 104, 101, 110]⟩ : ByteArray).size = 4 := rfl
  have z14 : (⟨#[101, 108, 115, 101]⟩ : ByteArray).size = 4 := rfl
  have z15 : (⟨#[102, 110]⟩ : ByteArray).size = 2 := rfl
  have z16 : (⟨#[58]⟩ : ByteArray).size = 1 := rfl
  have z17 : (⟨#[61, 62]⟩ : ByteArray).size = 2 := rfl
  have z18 : (⟨#[108, 101, 116]⟩ : ByteArray).size = 3 := rfl
  have z19 : (⟨#[61]⟩ : ByteArray).size = 1 := rfl
  have z20 : (⟨#[105, 110]⟩ : ByteArray).size = 2 := rfl
  have z21 : (⟨#[108, 101, 116, 114, 101, 99]⟩ : ByteArray).size = 6 := rfl
  have z22 : (⟨#[45, 62]⟩ : ByteArray).size = 2 := rfl
  have z23 : (⟨#[114, 97, 105, 115, 101]⟩ : ByteArray).size = 5 := rfl
  have z24 : (⟨#[116, 114, 121]⟩ : ByteArray).size = 3 := rfl
  have z25 : (⟨#[114, 101, 103, 105, 111, 110]⟩ : ByteArray).size = 6 := rfl
  have z26 : (⟨#[119, 105, 116, 104]⟩ : ByteArray).size = 4 := rfl
  have z27 : (⟨#[43]⟩ : ByteArray).size = 1 := rfl
  have z28 : (⟨#[45]⟩ : ByteArray).size = 1 := rfl
  have z29 : (⟨#[42]⟩ : ByteArray).size = 1 := rfl
  have z30 : (⟨#[60]⟩ : ByteArray).size = 1 := rfl
  have q0 := kidsP_le [⟨#[44]⟩] ks h3 (by decide)
  have q1 := kidsP_le [] ks h3 (by decide)
  have q2 := kidsP_le [⟨#[58, 61]⟩] ks h3 (by decide)
  have q3 := kidsP_le [⟨#[]⟩] ks h3 (by decide)
  have q4 := kidsP_le [⟨#[116, 104, 101, 110]⟩, ⟨#[101, 108, 115, 101]⟩] ks h3 (by decide)
  have q5 := kidsP_le [⟨#[105, 110]⟩] ks h3 (by decide)
  have qs : lensP (kidsP [signB a.op] ks) ≤ 3000 + (ks.map lensP).sum := kidsP_le _ ks h3 (by
    rw [lensP_cons, lensP_nil]
    have : (signB a.op).size = 1 := by unfold signB; split <;> (try split) <;> (try split) <;> (try split) <;> rfl
    omega)
  have qj : lensP (kidsP [joinB [⟨#[119, 105, 116, 104]⟩, a.exn, a.arg, ⟨#[61, 62]⟩]] ks) ≤ 3000 + (ks.map lensP).sum := kidsP_le _ ks h3 (by
    rw [lensP_cons, lensP_nil]
    have h1 := joinB_le [⟨#[119, 105, 116, 104]⟩, a.exn, a.arg, ⟨#[61, 62]⟩]
    simp only [List.map_cons, List.map_nil, List.sum_cons, List.sum_nil, List.length_cons, List.length_nil] at h1
    omega)
  have g2 := getD2_le ks
  unfold nodeP
  split
  · simp only [lensP_cons, lensP_nil]; omega
  split
  · simp only [lensP_cons, lensP_nil]; omega
  unfold innerP
  repeat' (split; (simp only [lensP_app, lensP_cons, lensP_nil, atP]; omega))
  unfold binderP
  repeat' (split; (simp only [lensP_app, lensP_cons, lensP_nil, atP, typedP, effP, rhosP]; omega))
  simp only [lensP_app, lensP_cons, lensP_nil]
  omega
theorem nodeSz_of {w0 : World} {a : AH} (ho : AH.Own w0 a) (hs : SmallN a) : NodeSz a where
  name := hs.name
  arg := hs.arg
  exn := hs.exn
  rho := decB_size _ ho.rho.1 ho.rho.2
  n := decB_size _ ho.n.1 ho.n.2
  rhos := by have h1 := lensP_map_dec a.rhos ho.rok; have h2 := ho.rhos.len; have h3 := hs.rhos; omega
  eff := textA_le2 hs.eff ho.eok
  ty := by
    have h1 := text_le2 a.ty ho.ty hs.ty.effs
    have h2 : a.ty.size ≤ 100 := by have := hs.ty.size; rw [← Rose.size_map RH.plain a.ty]; exact this
    omega
  res := by
    have h1 := text_le2 a.res ho.res hs.res.effs
    have h2 : a.res.size ≤ 100 := by have := hs.res.size; rw [← Rose.size_map RH.plain a.res]; exact this
    omega
theorem lens_term {w0 : World} (t : PA) : LA.lies w0 t → SmallNs t → mayA t = true → lensP (piecesT t) ≤ 10000000 * t.size := by
  refine Rose.ind (P := fun (t : PA) => LA.lies w0 t → SmallNs t → mayA t = true → lensP (piecesT t) ≤ 10000000 * t.size) (fun a l ih hl hs hm => ?_) t
  have hN := nodeA hl
  rw [mayA_node, Bool.and_eq_true, List.all_eq_true] at hm
  obtain ⟨hs1, hs2⟩ := smallNs_kids hs
  have hok := node_ok hm.1 hN.own.rhos.len
  have hkl : (l.map piecesT).length ≤ 3 := by
    have h1 := hok.kids
    have h2 := kidsI_le (if a.kind = 17 then 4 else if a.kind = 18 then 1 else a.kind)
    have h3 := hN.kids.len
    rw [List.length_map]
    omega
  have h1 := lens_node a (nodeSz_of hN.own hs1) (l.map piecesT) hkl
  have h2 := sum_le_mul (fun t => lensP (piecesT t)) Rose.size 10000000 l (fun x hx => ih x hx (hN.each x hx) (hs2 x hx) (hm.2 x hx))
  rw [piecesT_node, Rose.size_node]
  rw [List.map_map] at h1
  have h3 : (l.map (lensP ∘ piecesT)).sum = (l.map (fun t => lensP (piecesT t))).sum := rfl
  omega
end Go.Proofs.YtdlbjngpohkglaaGreatDoor
end
