/- Part 28 of the texts: Wo. -/
import Derived.Test.YtdlbjngpohkglaaGreatDoorG26
import Derived.Deep.RegionHeld3
import Derived.Deep.MidRow
import Derived.Test.YtdlbjngpohkglaaGreatDoorG25
section
set_option linter.unusedVariables false
set_option maxRecDepth 100000
set_option linter.unusedSimpArgs false
namespace Go.Proofs.YtdlbjngpohkglaaGreatDoor
open Go.RowKit

/-- strings.Join of a new row -/
theorem join_cs (W : World) (l : List ByteArray) (cs : Array Value) (n : Nat) (hn : l.length = n) (hcs : cs.toList = l.flatMap encS) (gs : Nat) (hgs : W.heap.size = gs) (h0 : 0 < n) (hm : n ≤ 1000) (hs : (joinB l).size ≤ 140737488355328) :
    Calls Tryz.prog 24 #[.slice (some ⟨gs, 0, none⟩) n n, .string ⟨#[32]⟩] (W.alloc (.cells cs 9)) fun e w' => e = .returned (.string (joinB l)) ∧ Below (W.alloc (.cells cs 9)).heap.size (W.alloc (.cells cs 9)) w' := by
  subst hgs
  refine join_own (own_made encS_len W 0 9 l n cs ?_ hn (by unfold maxLen; omega) (Nat.zero_le _)) h0 (by omega) hs
  rw [← hcs]
set_option maxHeartbeats 2000000 in
theorem binder_16 {w0 : World} {g : Nat} {a : AH} {l : List PA} (D : DN w0 g a l) (hk : a.kind = 16) (hj : (joinB [⟨#[119, 105, 116, 104]⟩, a.exn, a.arg, ⟨#[61, 62]⟩]).size < 4294967281) : PutsAt w0 g 79 #[.pointer (some ⟨g, 0, none⟩), aggT a] (wordsP [⟨#[116, 114, 121]⟩] ++ wordsP (kidsP [joinB [⟨#[119, 105, 116, 104]⟩, a.exn, a.arg, ⟨#[61, 62]⟩]] (l.map piecesT))) := by
  intro W v L hb hw hM
  have HE := Lib.hid D.env
  have HG := Lib.hid D.env.hg
  have HG1 := Lib.hid hw.lt
  have HM := Lib.hid hM
  have HD := Lib.hid (DSt.init hb hw a)
  have HKC := Lib.hid D.hkids
  have HLN := Lib.hid (D.len (m := 2) (by simp [hk, kidsI]))
  have HJL := Lib.hid hj
  have HJZ : Hid ((joinB [⟨#[119, 105, 116, 104]⟩, a.exn, a.arg, ⟨#[61, 62]⟩]).size ≤ 140737488355328) := Lib.hid (by omega)
  clear D hb hw hM hj
  show Calls _ _ _ _ _
  have e11 : (a.kind == 11) = false := by simp [hk]
  have e12 : (a.kind == 12) = false := by simp [hk]
  have e13 : (a.kind == 13) = false := by simp [hk]
  have e15 : (a.kind == 15) = false := by simp [hk]
  have e16 : (a.kind == 16) = true := by simp [hk]
  have e17 : (a.kind == 17) = false := by simp [hk]
  have e18 : (a.kind == 18) = false := by simp [hk]
  have HKD := Lib.hid hk
  clear hk
  go_enter Tryz.func79, Tryz.ntmps79
  go_upto_region 1 with fail
  generalize hW0 : W.alloc (boxA a) = W0 at *
  clear hW0
  obtain ⟨c0, c1, c2, c3, c4, c5, c6, c7, c8, c9, c10, c11, c12, c13, c14, c15, c16, c17, c18⟩ := HD.out.box.all
  go_upto_region 20 with (go_at_call 57; refine (put_cs HE.out HD.out.below HD.out.wr _ (by omega) _ (by simp [strsOf, strOf, encS]) (by rfl) _ _ (by simp) (by simp [strsOf, strOf] <;> decide) (by have := HM.out; simp only [strsOf, strOf, List.map_cons, List.map_nil, List.length_append] at this ⊢; omega)).mono ?_; rintro e w8 ⟨rfl, v8, hw8, ht8⟩; have HD := Lib.hid (HD.out.step HG.out HG1.out hw8 ht8); clear hw8 ht8 c0 c1 c2 c3 c4 c5 c6 c7 c8 c9 c10 c11 c12 c13 c14 c15 c16 c17 c18; obtain ⟨c0, c1, c2, c3, c4, c5, c6, c7, c8, c9, c10, c11, c12, c13, c14, c15, c16, c17, c18⟩ := HD.out.box.all)
  have HSS : Hid (∀ W', Below w8.heap.size w8 W' → W'.cell? ⟨W.heap.size, 5, none⟩ = some (.string a.arg) ∧ W'.cell? ⟨W.heap.size, 6, none⟩ = some (.string a.exn) ∧ W'.rangeAt W.heap.size 0 [.int .u8 a.kind, .int .u8 a.op, .int .i64 a.at_, .int .i64 a.n, .string a.name, .string a.arg, .string a.exn, .int .i64 a.rho, .slice a.rp a.rn a.rc, .slice a.ep a.en a.ec, .int .u8 a.ty.head.kind, .int .i64 a.ty.head.rho, .slice a.ty.head.ep a.ty.head.en a.ty.head.ec, .slice a.ty.head.kp a.ty.head.kn a.ty.head.kc, .int .u8 a.res.head.kind, .int .i64 a.res.head.rho, .slice a.res.head.ep a.res.head.en a.res.head.ec, .slice a.res.head.kp a.res.head.kn a.res.head.kc, .slice a.kp a.kn a.kc]) := Lib.hid (fun W' h => ⟨(HD.out.below' h).box.c 5 _ rfl, (HD.out.below' h).box.c 6 _ rfl, (HD.out.below' h).box.range⟩)
  clear c0 c1 c2 c3 c4 c5 c6 c7 c8 c9 c10 c11 c12 c13 c14 c15 c16 c17 c18
  refine wp_region_noPanic ?_
  refine wp_region_held_drew (S := fun W' => W'.cell? ⟨W.heap.size, 5, none⟩ = some (.string a.arg) ∧ W'.cell? ⟨W.heap.size, 6, none⟩ = some (.string a.exn) ∧ W'.rangeAt W.heap.size 0 [.int .u8 a.kind, .int .u8 a.op, .int .i64 a.at_, .int .i64 a.n, .string a.name, .string a.arg, .string a.exn, .int .i64 a.rho, .slice a.rp a.rn a.rc, .slice a.ep a.en a.ec, .int .u8 a.ty.head.kind, .int .i64 a.ty.head.rho, .slice a.ty.head.ep a.ty.head.en a.ty.head.ec, .slice a.ty.head.kp a.ty.head.kn a.ty.head.kc, .int .u8 a.res.head.kind, .int .i64 a.res.head.rho, .slice a.res.head.ep a.res.head.en a.res.head.ec, .slice a.res.head.kp a.res.head.kn a.res.head.kc, .slice a.kp a.kn a.kc]) (by kernel_rfl) ?_ (fun hHeld => ?_)
  · (try dsimp only); first | exact HSS.out _ (bel_drew _) | exact HSS.out _ (bel_alloc (bel_drew _) _) | exact HSS.out _ HBJ.out | exact HSS.out _ (bel_alloc HBJ.out _) | exact ⟨HD8.out.box.c 5 _ rfl, HD8.out.box.c 6 _ rfl, HD8.out.box.range⟩
  refine wpAnyH_take (i := 0) (oi := _) (v := ?_) rfl (by kernel_rfl) (by kernel_rfl) (by kernel_rfl) (fun _ _ _ h => h) (Or.inl ⟨by rfl, ?_⟩) (by assumption) ?_
  rotate_left
  · intro w hSw; (try dsimp only at hSw); obtain ⟨hSc, hSd, hSr⟩ := hSw; clear hSr; go_simp; try with_reducible rfl
  try simp only [Act.put, List.setIfInBounds_toArray, List.set_cons_zero, List.set_cons_succ]
  refine wpAnyH_take (i := 1) (oi := _) (v := .agg ([.int .u8 a.kind, .int .u8 a.op, .int .i64 a.at_, .int .i64 a.n, .string a.name, .string a.arg, .string a.exn, .int .i64 a.rho, .slice a.rp a.rn a.rc, .slice a.ep a.en a.ec, .int .u8 a.ty.head.kind, .int .i64 a.ty.head.rho, .slice a.ty.head.ep a.ty.head.en a.ty.head.ec, .slice a.ty.head.kp a.ty.head.kn a.ty.head.kc, .int .u8 a.res.head.kind, .int .i64 a.res.head.rho, .slice a.res.head.ep a.res.head.en a.res.head.ec, .slice a.res.head.kp a.res.head.kn a.res.head.kc, .slice a.kp a.kn a.kc] : List Value).toArray) rfl (by kernel_rfl) (by kernel_rfl) (by kernel_rfl) (fun _ _ _ h => h) (yieldsIf_load_mid (by rfl) 31 _ rfl W.heap.size 0 rfl _ _ (fun W' h => h.2.2) Tryz.underlying31 rfl (by kernel_rfl)) (by assumption) ?_
  try simp only [Act.put, List.setIfInBounds_toArray, List.set_cons_zero, List.set_cons_succ]
  refine wpAnyH_take (i := 2) (oi := _) (v := ?_) rfl (by kernel_rfl) (by kernel_rfl) (by kernel_rfl) (fun _ _ _ h => h) (Or.inl ⟨by rfl, ?_⟩) (by assumption) ?_
  rotate_left
  · intro w hSw; (try dsimp only at hSw); obtain ⟨hSc, hSd, hSr⟩ := hSw; clear hSr; go_simp; try with_reducible rfl
  try simp only [Act.put, List.setIfInBounds_toArray, List.set_cons_zero, List.set_cons_succ]
  refine wpAnyH_take (i := 3) (oi := _) (v := ?_) rfl (by kernel_rfl) (by kernel_rfl) (by kernel_rfl) (fun _ _ _ h => h) (Or.inl ⟨by rfl, ?_⟩) (by assumption) ?_
  rotate_left
  · intro w hSw; (try dsimp only at hSw); obtain ⟨hSc, hSd, hSr⟩ := hSw; clear hSr; go_simp; try with_reducible rfl
  try simp only [Act.put, List.setIfInBounds_toArray, List.set_cons_zero, List.set_cons_succ]
  refine wpAnyH_take (i := 4) (oi := _) (v := ?_) rfl (by kernel_rfl) (by kernel_rfl) (by kernel_rfl) (fun _ _ _ h => h) (Or.inl ⟨by rfl, ?_⟩) (by assumption) ?_
  rotate_left
  · intro w hSw; (try dsimp only at hSw); obtain ⟨hSc, hSd, hSr⟩ := hSw; clear hSr; go_simp; try with_reducible rfl
  try simp only [Act.put, List.setIfInBounds_toArray, List.set_cons_zero, List.set_cons_succ]
  refine wpAnyH_take (i := 5) (oi := _) (v := ?_) rfl (by kernel_rfl) (by kernel_rfl) (by kernel_rfl) (fun _ _ _ h => h) (Or.inl ⟨by rfl, ?_⟩) (by assumption) ?_
  rotate_left
  · intro w hSw; (try dsimp only at hSw); obtain ⟨hSc, hSd, hSr⟩ := hSw; clear hSr; go_simp; try with_reducible rfl
  try simp only [Act.put, List.setIfInBounds_toArray, List.set_cons_zero, List.set_cons_succ]
  refine wpAnyH_take (i := 6) (oi := _) (v := ?_) rfl (by kernel_rfl) (by kernel_rfl) (by kernel_rfl) (fun _ _ _ h => h) (Or.inl ⟨by rfl, ?_⟩) (by assumption) ?_
  rotate_left
  · intro w hSw; (try dsimp only at hSw); obtain ⟨hSc, hSd, hSr⟩ := hSw; clear hSr; go_simp; try with_reducible rfl
  try simp only [Act.put, List.setIfInBounds_toArray, List.set_cons_zero, List.set_cons_succ]
  refine wpAnyH_take (i := 7) (oi := _) (v := ?_) rfl (by kernel_rfl) (by kernel_rfl) (by kernel_rfl) (fun _ _ _ h => h) (Or.inl ⟨by rfl, ?_⟩) (by assumption) ?_
  rotate_left
  · intro w hSw; (try dsimp only at hSw); obtain ⟨hSc, hSd, hSr⟩ := hSw; clear hSr; go_simp; try with_reducible rfl
  try simp only [Act.put, List.setIfInBounds_toArray, List.set_cons_zero, List.set_cons_succ]
  refine wpAnyH_ready (rs := [8]) (by kernel_rfl) (by simp) ?_
  refine AllReadyH.cons (o := _) rfl (fun K hK => ?_) AllReadyH.nil
  go_simp
  refine hK.out _ _ ?_ (fun hNew => ?_)
  · (try dsimp only); first | exact HSS.out _ (bel_drew _) | exact HSS.out _ (bel_alloc (bel_drew _) _) | exact HSS.out _ HBJ.out | exact HSS.out _ (bel_alloc HBJ.out _) | exact ⟨HD8.out.box.c 5 _ rfl, HD8.out.box.c 6 _ rfl, HD8.out.box.range⟩
  clear hHeld hK K
  have hHeld := hNew
  clear hNew
  try simp only [Act.put, List.setIfInBounds_toArray, List.set_cons_zero, List.set_cons_succ]
  refine wpAnyH_ready (rs := [9]) (by kernel_rfl) (by simp) ?_
  refine AllReadyH.cons (o := _) rfl (fun K hK => ?_) AllReadyH.nil
  go_simp
  go_at_call 24
  refine (join_cs w8.drew [⟨#[119, 105, 116, 104]⟩, a.exn, a.arg, ⟨#[61, 62]⟩] _ 4 rfl (by simp [encS]) _ (by simp) (by omega) (by omega) HJZ.out).mono ?_
  rintro e wj ⟨rfl, hbj⟩
  have HBJ : Hid (Below w8.heap.size w8 wj) := Lib.hid (bel_step (bel_alloc (bel_drew w8) _) hbj)
  clear hbj
  try go_wp2_with fail
  refine hK.out _ _ ?_ (fun hNew => ?_)
  · (try dsimp only); first | exact HSS.out _ (bel_drew _) | exact HSS.out _ (bel_alloc (bel_drew _) _) | exact HSS.out _ HBJ.out | exact HSS.out _ (bel_alloc HBJ.out _) | exact ⟨HD8.out.box.c 5 _ rfl, HD8.out.box.c 6 _ rfl, HD8.out.box.range⟩
  clear hHeld hK K
  have hHeld := hNew
  clear hNew
  try simp only [Act.put, List.setIfInBounds_toArray, List.set_cons_zero, List.set_cons_succ]
  refine wpAnyH_ready (rs := [10]) (by kernel_rfl) (by simp) ?_
  refine AllReadyH.cons (o := _) rfl (fun K hK => ?_) AllReadyH.nil
  go_simp
  refine hK.out _ _ ?_ (fun hNew => ?_)
  · (try dsimp only); first | exact HSS.out _ (bel_drew _) | exact HSS.out _ (bel_alloc (bel_drew _) _) | exact HSS.out _ HBJ.out | exact HSS.out _ (bel_alloc HBJ.out _) | exact ⟨HD8.out.box.c 5 _ rfl, HD8.out.box.c 6 _ rfl, HD8.out.box.range⟩
  clear hHeld hK K
  have hHeld := hNew
  clear hNew
  try simp only [Act.put, List.setIfInBounds_toArray, List.set_cons_zero, List.set_cons_succ]
  refine wpAnyH_ready (rs := [11]) (by kernel_rfl) (by simp) ?_
  refine AllReadyH.cons (o := _) rfl (fun K hK => ?_) AllReadyH.nil
  go_simp
  go_at_call 77
  refine (HKC.out _ _ _ (HD.out.below' HBJ.out).below (HD.out.below' HBJ.out).wr _ (by omega) _ (by simp [strsOf, strOf, encS]) (by rfl) _ _ (by simp) (by simpa [strsOf, strOf] using HJL.out) (by simp [HLN.out]) (by have := HM.out; simp only [strsOf, strOf, List.map_cons, List.map_nil, List.length_append] at this ⊢; omega)).mono ?_
  rintro e w9 ⟨rfl, v9, hw9, ht9⟩
  have HD8 := Lib.hid ((HD.out.below' HBJ.out).step HG.out HG1.out hw9 ht9)
  clear hw9 ht9
  try go_wp2_with fail
  refine hK.out _ _ ?_ (fun hNew => ?_)
  · (try dsimp only); first | exact HSS.out _ (bel_drew _) | exact HSS.out _ (bel_alloc (bel_drew _) _) | exact HSS.out _ HBJ.out | exact HSS.out _ (bel_alloc HBJ.out _) | exact ⟨HD8.out.box.c 5 _ rfl, HD8.out.box.c 6 _ rfl, HD8.out.box.range⟩
  clear hHeld hK K
  have hHeld := hNew
  clear hNew
  try simp only [Act.put, List.setIfInBounds_toArray, List.set_cons_zero, List.set_cons_succ]
  refine wpAnyH_done (by kernel_rfl) ?_ _
  refine NoPanic.normal ?_
  go_wp2_with fail
  go_end0
  refine ⟨rfl, _, ?_, HD8.out.wrote⟩
  have := HD8.out.wr
  simp only [strsOf, strOf, List.map_cons, List.map_nil, List.append_assoc] at this ⊢
  exact this
set_option maxHeartbeats 4000000 in
theorem inner_9_1 {w0 : World} {g : Nat} {at_ n rho : Int} {name arg exn : ByteArray} {rp ep kp : Option Addr} {rn rc en ec kn kc : Nat} {rhos : List Int} {eff : List Atom} {ty res : PT} {l : List PA} (D : DN w0 g ⟨9, 1, at_, n, name, arg, exn, rho, rp, rn, rc, rhos, ep, en, ec, eff, ty, res, kp, kn, kc⟩ l) :
    PutsAt w0 g 59 #[.pointer (some ⟨g, 0, none⟩), aggT ⟨9, 1, at_, n, name, arg, exn, rho, rp, rn, rc, rhos, ep, en, ec, eff, ty, res, kp, kn, kc⟩] (wordsP (kidsP [⟨#[43]⟩] (l.map piecesT))) := by
  intro W v L hb hw hM
  have HE := Lib.hid D.env
  have HG := Lib.hid D.env.hg
  have HG1 := Lib.hid hw.lt
  have HM := Lib.hid hM
  have HD := Lib.hid (DSt.init hb hw ⟨9, 1, at_, n, name, arg, exn, rho, rp, rn, rc, rhos, ep, en, ec, eff, ty, res, kp, kn, kc⟩)
  have HKC := Lib.hid D.hkids
  have HLN := Lib.hid (D.len (m := 2) rfl)
  clear D hb hw hM
  show Calls _ _ _ _ _
  go_enter Tryz.func59, Tryz.ntmps59
  go_upto_region 1 with fail
  generalize hW0 : W.alloc (boxA ⟨9, 1, at_, n, name, arg, exn, rho, rp, rn, rc, rhos, ep, en, ec, eff, ty, res, kp, kn, kc⟩) = W0 at *
  clear hW0
  obtain ⟨c0, c1, c2, c3, c4, c5, c6, c7, c8, c9, c10, c11, c12, c13, c14, c15, c16, c17, c18⟩ := HD.out.box.all
  dsimp only at c0 c1 c2 c3 c4 c5 c6 c7 c8 c9 c10 c11 c12 c13 c14 c15 c16 c17 c18
  go_upto_region 18 with fail
  have hu : IntKind.u8.wrap 0 = 0 := by rfl
  have hx : (⟨#[43, 45, 42, 60, 61]⟩ : ByteArray).extract 0 1 = ⟨#[43]⟩ := by rfl
  have HSS : Hid (∀ W', Below W0.heap.size W0 W' → W'.cell? ⟨W.heap.size, 1, none⟩ = some (.int .u8 1) ∧ W'.rangeAt W.heap.size 0 [.int .u8 9, .int .u8 1, .int .i64 at_, .int .i64 n, .string name, .string arg, .string exn, .int .i64 rho, .slice rp rn rc, .slice ep en ec, .int .u8 ty.head.kind, .int .i64 ty.head.rho, .slice ty.head.ep ty.head.en ty.head.ec, .slice ty.head.kp ty.head.kn ty.head.kc, .int .u8 res.head.kind, .int .i64 res.head.rho, .slice res.head.ep res.head.en res.head.ec, .slice res.head.kp res.head.kn res.head.kc, .slice kp kn kc]) := Lib.hid (fun W' h => ⟨(HD.out.below' h).box.c 1 _ rfl, (HD.out.below' h).box.range⟩)
  clear c0 c1 c2 c3 c4 c5 c6 c7 c8 c9 c10 c11 c12 c13 c14 c15 c16 c17 c18
  refine wp_region_noPanic ?_
  refine wp_region_held_drew (S := fun W' => W'.cell? ⟨W.heap.size, 1, none⟩ = some (.int .u8 1) ∧ W'.rangeAt W.heap.size 0 [.int .u8 9, .int .u8 1, .int .i64 at_, .int .i64 n, .string name, .string arg, .string exn, .int .i64 rho, .slice rp rn rc, .slice ep en ec, .int .u8 ty.head.kind, .int .i64 ty.head.rho, .slice ty.head.ep ty.head.en ty.head.ec, .slice ty.head.kp ty.head.kn ty.head.kc, .int .u8 res.head.kind, .int .i64 res.head.rho, .slice res.head.ep res.head.en res.head.ec, .slice res.head.kp res.head.kn res.head.kc, .slice kp kn kc]) (by kernel_rfl) ?_ (fun hHeld => ?_)
  · (try dsimp only); first | exact HSS.out _ (bel_drew _) | exact HSS.out _ (bel_alloc (bel_drew _) _) | exact ⟨HD8.out.box.c 1 _ rfl, HD8.out.box.range⟩
  refine wpAnyH_take (i := 0) (oi := _) (v := ?_) rfl (by kernel_rfl) (by kernel_rfl) (by kernel_rfl) (fun _ _ _ h => h) (Or.inl ⟨by rfl, ?_⟩) (by assumption) ?_
  rotate_left
  · intro w hSw; (try dsimp only at hSw); obtain ⟨hSc, hSr⟩ := hSw; clear hSr; go_simp; try with_reducible rfl
  try simp only [Act.put, List.setIfInBounds_toArray, List.set_cons_zero, List.set_cons_succ]
  refine wpAnyH_take (i := 1) (oi := _) (v := .agg ([.int .u8 9, .int .u8 1, .int .i64 at_, .int .i64 n, .string name, .string arg, .string exn, .int .i64 rho, .slice rp rn rc, .slice ep en ec, .int .u8 ty.head.kind, .int .i64 ty.head.rho, .slice ty.head.ep ty.head.en ty.head.ec, .slice ty.head.kp ty.head.kn ty.head.kc, .int .u8 res.head.kind, .int .i64 res.head.rho, .slice res.head.ep res.head.en res.head.ec, .slice res.head.kp res.head.kn res.head.kc, .slice kp kn kc] : List Value).toArray) rfl (by kernel_rfl) (by kernel_rfl) (by kernel_rfl) (fun _ _ _ h => h) (yieldsIf_load_mid (by rfl) 31 _ rfl W.heap.size 0 rfl _ _ (fun W' h => h.2) Tryz.underlying31 rfl (by kernel_rfl)) (by assumption) ?_
  try simp only [Act.put, List.setIfInBounds_toArray, List.set_cons_zero, List.set_cons_succ]
  refine wpAnyH_take (i := 2) (oi := _) (v := ?_) rfl (by kernel_rfl) (by kernel_rfl) (by kernel_rfl) (fun _ _ _ h => h) (Or.inl ⟨by rfl, ?_⟩) (by assumption) ?_
  rotate_left
  · intro w hSw; (try dsimp only at hSw); obtain ⟨hSc, hSr⟩ := hSw; clear hSr; go_simp; try with_reducible rfl
  try simp only [Act.put, List.setIfInBounds_toArray, List.set_cons_zero, List.set_cons_succ]
  refine wpAnyH_take (i := 3) (oi := _) (v := ?_) rfl (by kernel_rfl) (by kernel_rfl) (by kernel_rfl) (fun _ _ _ h => h) (Or.inl ⟨by rfl, ?_⟩) (by assumption) ?_
  rotate_left
  · intro w hSw; (try dsimp only at hSw); obtain ⟨hSc, hSr⟩ := hSw; clear hSr; go_simp; try with_reducible rfl
  try simp only [Act.put, List.setIfInBounds_toArray, List.set_cons_zero, List.set_cons_succ]
  refine wpAnyH_take (i := 4) (oi := _) (v := ?_) rfl (by kernel_rfl) (by kernel_rfl) (by kernel_rfl) (fun _ _ _ h => h) (Or.inl ⟨by rfl, ?_⟩) (by assumption) ?_
  rotate_left
  · intro w hSw; (try dsimp only at hSw); obtain ⟨hSc, hSr⟩ := hSw; clear hSr; go_simp; try with_reducible rfl
  try simp only [Act.put, List.setIfInBounds_toArray, List.set_cons_zero, List.set_cons_succ]
  refine wpAnyH_take (i := 5) (oi := _) (v := ?_) rfl (by kernel_rfl) (by kernel_rfl) (by kernel_rfl) (fun _ _ _ h => h) (Or.inl ⟨by rfl, ?_⟩) (by assumption) ?_
  rotate_left
  · intro w hSw; (try dsimp only at hSw); obtain ⟨hSc, hSr⟩ := hSw; clear hSr; go_simp; try with_reducible rfl
  try simp only [Act.put, List.setIfInBounds_toArray, List.set_cons_zero, List.set_cons_succ]
  refine wpAnyH_take (i := 6) (oi := _) (v := ?_) rfl (by kernel_rfl) (by kernel_rfl) (by kernel_rfl) (fun _ _ _ h => h) (Or.inl ⟨by rfl, ?_⟩) (by assumption) ?_
  rotate_left
  · intro w hSw; (try dsimp only at hSw); obtain ⟨hSc, hSr⟩ := hSw; clear hSr; go_simp; try with_reducible rfl
  try simp only [Act.put, List.setIfInBounds_toArray, List.set_cons_zero, List.set_cons_succ]
  refine wpAnyH_take (i := 7) (oi := _) (v := ?_) rfl (by kernel_rfl) (by kernel_rfl) (by kernel_rfl) (fun _ _ _ h => h) (Or.inl ⟨by rfl, ?_⟩) (by assumption) ?_
  rotate_left
  · intro w hSw; (try dsimp only at hSw); obtain ⟨hSc, hSr⟩ := hSw; clear hSr; go_simp; try with_reducible rfl
  try simp only [Act.put, List.setIfInBounds_toArray, List.set_cons_zero, List.set_cons_succ]
  refine wpAnyH_take (i := 8) (oi := _) (v := ?_) rfl (by kernel_rfl) (by kernel_rfl) (by kernel_rfl) (fun _ _ _ h => h) (Or.inl ⟨by rfl, ?_⟩) (by assumption) ?_
  rotate_left
  · intro w hSw; (try dsimp only at hSw); obtain ⟨hSc, hSr⟩ := hSw; clear hSr; go_simp; try with_reducible rfl
  try simp only [Act.put, List.setIfInBounds_toArray, List.set_cons_zero, List.set_cons_succ]
  refine wpAnyH_take (i := 9) (oi := _) (v := ?_) rfl (by kernel_rfl) (by kernel_rfl) (by kernel_rfl) (fun _ _ _ h => h) (Or.inl ⟨by rfl, ?_⟩) (by assumption) ?_
  rotate_left
  · intro w hSw; (try dsimp only at hSw); obtain ⟨hSc, hSr⟩ := hSw; clear hSr; go_simp; try with_reducible rfl
  try simp only [Act.put, List.setIfInBounds_toArray, List.set_cons_zero, List.set_cons_succ]
  refine wpAnyH_ready (rs := [10]) (by kernel_rfl) (by simp) ?_
  refine AllReadyH.cons (o := _) rfl (fun K hK => ?_) AllReadyH.nil
  go_simp
  refine hK.out _ _ ?_ (fun hNew => ?_)
  · (try dsimp only); first | exact HSS.out _ (bel_drew _) | exact HSS.out _ (bel_alloc (bel_drew _) _) | exact ⟨HD8.out.box.c 1 _ rfl, HD8.out.box.range⟩
  clear hHeld hK K
  have hHeld := hNew
  clear hNew
  try simp only [Act.put, List.setIfInBounds_toArray, List.set_cons_zero, List.set_cons_succ]
  refine wpAnyH_ready (rs := [11]) (by kernel_rfl) (by simp) ?_
  refine AllReadyH.cons (o := _) rfl (fun K hK => ?_) AllReadyH.nil
  go_simp
  go_at_call 77
  refine (HKC.out _ _ _ (HD.out.below' (bel_drew W0)).below (HD.out.below' (bel_drew W0)).wr _ (by omega) _ (by simp [strsOf, strOf, encS]) (by rfl) _ _ (by simp) (by simp [strsOf, strOf]; try decide) (by simp [HLN.out]) (by exact HM.out)).mono ?_
  rintro e w8 ⟨rfl, v8, hw8, ht8⟩
  have HD8 := Lib.hid ((HD.out.below' (bel_drew W0)).step HG.out HG1.out hw8 ht8)
  clear hw8 ht8
  try go_wp2_with fail
  refine hK.out _ _ ?_ (fun hNew => ?_)
  · (try dsimp only); first | exact HSS.out _ (bel_drew _) | exact HSS.out _ (bel_alloc (bel_drew _) _) | exact ⟨HD8.out.box.c 1 _ rfl, HD8.out.box.range⟩
  clear hHeld hK K
  have hHeld := hNew
  clear hNew
  try simp only [Act.put, List.setIfInBounds_toArray, List.set_cons_zero, List.set_cons_succ]
  refine wpAnyH_done (by kernel_rfl) ?_ _
  refine NoPanic.normal ?_
  go_wp2_with fail
  go_end0
  exact ⟨rfl, _, HD8.out.wr, HD8.out.wrote⟩
set_option maxHeartbeats 4000000 in
theorem inner_9_2 {w0 : World} {g : Nat} {at_ n rho : Int} {name arg exn : ByteArray} {rp ep kp : Option Addr} {rn rc en ec kn kc : Nat} {rhos : List Int} {eff : List Atom} {ty res : PT} {l : List PA} (D : DN w0 g ⟨9, 2, at_, n, name, arg, exn, rho, rp, rn, rc, rhos, ep, en, ec, eff, ty, res, kp, kn, kc⟩ l) :
    PutsAt w0 g 59 #[.pointer (some ⟨g, 0, none⟩), aggT ⟨9, 2, at_, n, name, arg, exn, rho, rp, rn, rc, rhos, ep, en, ec, eff, ty, res, kp, kn, kc⟩] (wordsP (kidsP [⟨#[45]⟩] (l.map piecesT))) := by
  intro W v L hb hw hM
  have HE := Lib.hid D.env
  have HG := Lib.hid D.env.hg
  have HG1 := Lib.hid hw.lt
  have HM := Lib.hid hM
  have HD := Lib.hid (DSt.init hb hw ⟨9, 2, at_, n, name, arg, exn, rho, rp, rn, rc, rhos, ep, en, ec, eff, ty, res, kp, kn, kc⟩)
  have HKC := Lib.hid D.hkids
  have HLN := Lib.hid (D.len (m := 2) rfl)
  clear D hb hw hM
  show Calls _ _ _ _ _
  go_enter Tryz.func59, Tryz.ntmps59
  go_upto_region 1 with fail
  generalize hW0 : W.alloc (boxA ⟨9, 2, at_, n, name, arg, exn, rho, rp, rn, rc, rhos, ep, en, ec, eff, ty, res, kp, kn, kc⟩) = W0 at *
  clear hW0
  obtain ⟨c0, c1, c2, c3, c4, c5, c6, c7, c8, c9, c10, c11, c12, c13, c14, c15, c16, c17, c18⟩ := HD.out.box.all
  dsimp only at c0 c1 c2 c3 c4 c5 c6 c7 c8 c9 c10 c11 c12 c13 c14 c15 c16 c17 c18
  go_upto_region 18 with fail
  have hu : IntKind.u8.wrap 1 = 1 := by rfl
  have hx : (⟨#[43, 45, 42, 60, 61]⟩ : ByteArray).extract 1 2 = ⟨#[45]⟩ := by rfl
  have HSS : Hid (∀ W', Below W0.heap.size W0 W' → W'.cell? ⟨W.heap.size, 1, none⟩ = some (.int .u8 2) ∧ W'.rangeAt W.heap.size 0 [.int .u8 9, .int .u8 2, .int .i64 at_, .int .i64 n, .string name, .string arg, .string exn, .int .i64 rho, .slice rp rn rc, .slice ep en ec, .int .u8 ty.head.kind, .int .i64 ty.head.rho, .slice ty.head.ep ty.head.en ty.head.ec, .slice ty.head.kp ty.head.kn ty.head.kc, .int .u8 res.head.kind, .int .i64 res.head.rho, .slice res.head.ep res.head.en res.head.ec, .slice res.head.kp res.head.kn res.head.kc, .slice kp kn kc]) := Lib.hid (fun W' h => ⟨(HD.out.below' h).box.c 1 _ rfl, (HD.out.below' h).box.range⟩)
  clear c0 c1 c2 c3 c4 c5 c6 c7 c8 c9 c10 c11 c12 c13 c14 c15 c16 c17 c18
  refine wp_region_noPanic ?_
  refine wp_region_held_drew (S := fun W' => W'.cell? ⟨W.heap.size, 1, none⟩ = some (.int .u8 2) ∧ W'.rangeAt W.heap.size 0 [.int .u8 9, .int .u8 2, .int .i64 at_, .int .i64 n, .string name, .string arg, .string exn, .int .i64 rho, .slice rp rn rc, .slice ep en ec, .int .u8 ty.head.kind, .int .i64 ty.head.rho, .slice ty.head.ep ty.head.en ty.head.ec, .slice ty.head.kp ty.head.kn ty.head.kc, .int .u8 res.head.kind, .int .i64 res.head.rho, .slice res.head.ep res.head.en res.head.ec, .slice res.head.kp res.head.kn res.head.kc, .slice kp kn kc]) (by kernel_rfl) ?_ (fun hHeld => ?_)
  · (try dsimp only); first | exact HSS.out _ (bel_drew _) | exact HSS.out _ (bel_alloc (bel_drew _) _) | exact ⟨HD8.out.box.c 1 _ rfl, HD8.out.box.range⟩
  refine wpAnyH_take (i := 0) (oi := _) (v := ?_) rfl (by kernel_rfl) (by kernel_rfl) (by kernel_rfl) (fun _ _ _ h => h) (Or.inl ⟨by rfl, ?_⟩) (by assumption) ?_
  rotate_left
  · intro w hSw; (try dsimp only at hSw); obtain ⟨hSc, hSr⟩ := hSw; clear hSr; go_simp; try with_reducible rfl
  try simp only [Act.put, List.setIfInBounds_toArray, List.set_cons_zero, List.set_cons_succ]
  refine wpAnyH_take (i := 1) (oi := _) (v := .agg ([.int .u8 9, .int .u8 2, .int .i64 at_, .int .i64 n, .string name, .string arg, .string exn, .int .i64 rho, .slice rp rn rc, .slice ep en ec, .int .u8 ty.head.kind, .int .i64 ty.head.rho, .slice ty.head.ep ty.head.en ty.head.ec, .slice ty.head.kp ty.head.kn ty.head.kc, .int .u8 res.head.kind, .int .i64 res.head.rho, .slice res.head.ep res.head.en res.head.ec, .slice res.head.kp res.head.kn res.head.kc, .slice kp kn kc] : List Value).toArray) rfl (by kernel_rfl) (by kernel_rfl) (by kernel_rfl) (fun _ _ _ h => h) (yieldsIf_load_mid (by rfl) 31 _ rfl W.heap.size 0 rfl _ _ (fun W' h => h.2) Tryz.underlying31 rfl (by kernel_rfl)) (by assumption) ?_
  try simp only [Act.put, List.setIfInBounds_toArray, List.set_cons_zero, List.set_cons_succ]
  refine wpAnyH_take (i := 2) (oi := _) (v := ?_) rfl (by kernel_rfl) (by kernel_rfl) (by kernel_rfl) (fun _ _ _ h => h) (Or.inl ⟨by rfl, ?_⟩) (by assumption) ?_
  rotate_left
  · intro w hSw; (try dsimp only at hSw); obtain ⟨hSc, hSr⟩ := hSw; clear hSr; go_simp; try with_reducible rfl
  try simp only [Act.put, List.setIfInBounds_toArray, List.set_cons_zero, List.set_cons_succ]
  refine wpAnyH_take (i := 3) (oi := _) (v := ?_) rfl (by kernel_rfl) (by kernel_rfl) (by kernel_rfl) (fun _ _ _ h => h) (Or.inl ⟨by rfl, ?_⟩) (by assumption) ?_
  rotate_left
  · intro w hSw; (try dsimp only at hSw); obtain ⟨hSc, hSr⟩ := hSw; clear hSr; go_simp; try with_reducible rfl
  try simp only [Act.put, List.setIfInBounds_toArray, List.set_cons_zero, List.set_cons_succ]
  refine wpAnyH_take (i := 4) (oi := _) (v := ?_) rfl (by kernel_rfl) (by kernel_rfl) (by kernel_rfl) (fun _ _ _ h => h) (Or.inl ⟨by rfl, ?_⟩) (by assumption) ?_
  rotate_left
  · intro w hSw; (try dsimp only at hSw); obtain ⟨hSc, hSr⟩ := hSw; clear hSr; go_simp; try with_reducible rfl
  try simp only [Act.put, List.setIfInBounds_toArray, List.set_cons_zero, List.set_cons_succ]
  refine wpAnyH_take (i := 5) (oi := _) (v := ?_) rfl (by kernel_rfl) (by kernel_rfl) (by kernel_rfl) (fun _ _ _ h => h) (Or.inl ⟨by rfl, ?_⟩) (by assumption) ?_
  rotate_left
  · intro w hSw; (try dsimp only at hSw); obtain ⟨hSc, hSr⟩ := hSw; clear hSr; go_simp; try with_reducible rfl
  try simp only [Act.put, List.setIfInBounds_toArray, List.set_cons_zero, List.set_cons_succ]
  refine wpAnyH_take (i := 6) (oi := _) (v := ?_) rfl (by kernel_rfl) (by kernel_rfl) (by kernel_rfl) (fun _ _ _ h => h) (Or.inl ⟨by rfl, ?_⟩) (by assumption) ?_
  rotate_left
  · intro w hSw; (try dsimp only at hSw); obtain ⟨hSc, hSr⟩ := hSw; clear hSr; go_simp; try with_reducible rfl
  try simp only [Act.put, List.setIfInBounds_toArray, List.set_cons_zero, List.set_cons_succ]
  refine wpAnyH_take (i := 7) (oi := _) (v := ?_) rfl (by kernel_rfl) (by kernel_rfl) (by kernel_rfl) (fun _ _ _ h => h) (Or.inl ⟨by rfl, ?_⟩) (by assumption) ?_
  rotate_left
  · intro w hSw; (try dsimp only at hSw); obtain ⟨hSc, hSr⟩ := hSw; clear hSr; go_simp; try with_reducible rfl
  try simp only [Act.put, List.setIfInBounds_toArray, List.set_cons_zero, List.set_cons_succ]
  refine wpAnyH_take (i := 8) (oi := _) (v := ?_) rfl (by kernel_rfl) (by kernel_rfl) (by kernel_rfl) (fun _ _ _ h => h) (Or.inl ⟨by rfl, ?_⟩) (by assumption) ?_
  rotate_left
  · intro w hSw; (try dsimp only at hSw); obtain ⟨hSc, hSr⟩ := hSw; clear hSr; go_simp; try with_reducible rfl
  try simp only [Act.put, List.setIfInBounds_toArray, List.set_cons_zero, List.set_cons_succ]
  refine wpAnyH_take (i := 9) (oi := _) (v := ?_) rfl (by kernel_rfl) (by kernel_rfl) (by kernel_rfl) (fun _ _ _ h => h) (Or.inl ⟨by rfl, ?_⟩) (by assumption) ?_
  rotate_left
  · intro w hSw; (try dsimp only at hSw); obtain ⟨hSc, hSr⟩ := hSw; clear hSr; go_simp; try with_reducible rfl
  try simp only [Act.put, List.setIfInBounds_toArray, List.set_cons_zero, List.set_cons_succ]
  refine wpAnyH_ready (rs := [10]) (by kernel_rfl) (by simp) ?_
  refine AllReadyH.cons (o := _) rfl (fun K hK => ?_) AllReadyH.nil
  go_simp
  refine hK.out _ _ ?_ (fun hNew => ?_)
  · (try dsimp only); first | exact HSS.out _ (bel_drew _) | exact HSS.out _ (bel_alloc (bel_drew _) _) | exact ⟨HD8.out.box.c 1 _ rfl, HD8.out.box.range⟩
  clear hHeld hK K
  have hHeld := hNew
  clear hNew
  try simp only [Act.put, List.setIfInBounds_toArray, List.set_cons_zero, List.set_cons_succ]
  refine wpAnyH_ready (rs := [11]) (by kernel_rfl) (by simp) ?_
  refine AllReadyH.cons (o := _) rfl (fun K hK => ?_) AllReadyH.nil
  go_simp
  go_at_call 77
  refine (HKC.out _ _ _ (HD.out.below' (bel_drew W0)).below (HD.out.below' (bel_drew W0)).wr _ (by omega) _ (by simp [strsOf, strOf, encS]) (by rfl) _ _ (by simp) (by simp [strsOf, strOf]; try decide) (by simp [HLN.out]) (by exact HM.out)).mono ?_
  rintro e w8 ⟨rfl, v8, hw8, ht8⟩
  have HD8 := Lib.hid ((HD.out.below' (bel_drew W0)).step HG.out HG1.out hw8 ht8)
  clear hw8 ht8
  try go_wp2_with fail
  refine hK.out _ _ ?_ (fun hNew => ?_)
  · (try dsimp only); first | exact HSS.out _ (bel_drew _) | exact HSS.out _ (bel_alloc (bel_drew _) _) | exact ⟨HD8.out.box.c 1 _ rfl, HD8.out.box.range⟩
  clear hHeld hK K
  have hHeld := hNew
  clear hNew
  try simp only [Act.put, List.setIfInBounds_toArray, List.set_cons_zero, List.set_cons_succ]
  refine wpAnyH_done (by kernel_rfl) ?_ _
  refine NoPanic.normal ?_
  go_wp2_with fail
  go_end0
  exact ⟨rfl, _, HD8.out.wr, HD8.out.wrote⟩
set_option maxHeartbeats 4000000 in
theorem inner_9_3 {w0 : World} {g : Nat} {at_ n rho : Int} {name arg exn : ByteArray} {rp ep kp : Option Addr} {rn rc en ec kn kc : Nat} {rhos : List Int} {eff : List Atom} {ty res : PT} {l : List PA} (D : DN w0 g ⟨9, 3, at_, n, name, arg, exn, rho, rp, rn, rc, rhos, ep, en, ec, eff, ty, res, kp, kn, kc⟩ l) :
    PutsAt w0 g 59 #[.pointer (some ⟨g, 0, none⟩), aggT ⟨9, 3, at_, n, name, arg, exn, rho, rp, rn, rc, rhos, ep, en, ec, eff, ty, res, kp, kn, kc⟩] (wordsP (kidsP [⟨#[42]⟩] (l.map piecesT))) := by
  intro W v L hb hw hM
  have HE := Lib.hid D.env
  have HG := Lib.hid D.env.hg
  have HG1 := Lib.hid hw.lt
  have HM := Lib.hid hM
  have HD := Lib.hid (DSt.init hb hw ⟨9, 3, at_, n, name, arg, exn, rho, rp, rn, rc, rhos, ep, en, ec, eff, ty, res, kp, kn, kc⟩)
  have HKC := Lib.hid D.hkids
  have HLN := Lib.hid (D.len (m := 2) rfl)
  clear D hb hw hM
  show Calls _ _ _ _ _
  go_enter Tryz.func59, Tryz.ntmps59
  go_upto_region 1 with fail
  generalize hW0 : W.alloc (boxA ⟨9, 3, at_, n, name, arg, exn, rho, rp, rn, rc, rhos, ep, en, ec, eff, ty, res, kp, kn, kc⟩) = W0 at *
  clear hW0
  obtain ⟨c0, c1, c2, c3, c4, c5, c6, c7, c8, c9, c10, c11, c12, c13, c14, c15, c16, c17, c18⟩ := HD.out.box.all
  dsimp only at c0 c1 c2 c3 c4 c5 c6 c7 c8 c9 c10 c11 c12 c13 c14 c15 c16 c17 c18
  go_upto_region 18 with fail
  have hu : IntKind.u8.wrap 2 = 2 := by rfl
  have hx : (⟨#[43, 45, 42, 60, 61]⟩ : ByteArray).extract 2 3 = ⟨#[42]⟩ := by rfl
  have HSS : Hid (∀ W', Below W0.heap.size W0 W' → W'.cell? ⟨W.heap.size, 1, none⟩ = some (.int .u8 3) ∧ W'.rangeAt W.heap.size 0 [.int .u8 9, .int .u8 3, .int .i64 at_, .int .i64 n, .string name, .string arg, .string exn, .int .i64 rho, .slice rp rn rc, .slice ep en ec, .int .u8 ty.head.kind, .int .i64 ty.head.rho, .slice ty.head.ep ty.head.en ty.head.ec, .slice ty.head.kp ty.head.kn ty.head.kc, .int .u8 res.head.kind, .int .i64 res.head.rho, .slice res.head.ep res.head.en res.head.ec, .slice res.head.kp res.head.kn res.head.kc, .slice kp kn kc]) := Lib.hid (fun W' h => ⟨(HD.out.below' h).box.c 1 _ rfl, (HD.out.below' h).box.range⟩)
  clear c0 c1 c2 c3 c4 c5 c6 c7 c8 c9 c10 c11 c12 c13 c14 c15 c16 c17 c18
  refine wp_region_noPanic ?_
  refine wp_region_held_drew (S := fun W' => W'.cell? ⟨W.heap.size, 1, none⟩ = some (.int .u8 3) ∧ W'.rangeAt W.heap.size 0 [.int .u8 9, .int .u8 3, .int .i64 at_, .int .i64 n, .string name, .string arg, .string exn, .int .i64 rho, .slice rp rn rc, .slice ep en ec, .int .u8 ty.head.kind, .int .i64 ty.head.rho, .slice ty.head.ep ty.head.en ty.head.ec, .slice ty.head.kp ty.head.kn ty.head.kc, .int .u8 res.head.kind, .int .i64 res.head.rho, .slice res.head.ep res.head.en res.head.ec, .slice res.head.kp res.head.kn res.head.kc, .slice kp kn kc]) (by kernel_rfl) ?_ (fun hHeld => ?_)
  · (try dsimp only); first | exact HSS.out _ (bel_drew _) | exact HSS.out _ (bel_alloc (bel_drew _) _) | exact ⟨HD8.out.box.c 1 _ rfl, HD8.out.box.range⟩
  refine wpAnyH_take (i := 0) (oi := _) (v := ?_) rfl (by kernel_rfl) (by kernel_rfl) (by kernel_rfl) (fun _ _ _ h => h) (Or.inl ⟨by rfl, ?_⟩) (by assumption) ?_
  rotate_left
  · intro w hSw; (try dsimp only at hSw); obtain ⟨hSc, hSr⟩ := hSw; clear hSr; go_simp; try with_reducible rfl
  try simp only [Act.put, List.setIfInBounds_toArray, List.set_cons_zero, List.set_cons_succ]
  refine wpAnyH_take (i := 1) (oi := _) (v := .agg ([.int .u8 9, .int .u8 3, .int .i64 at_, .int .i64 n, .string name, .string arg, .string exn, .int .i64 rho, .slice rp rn rc, .slice ep en ec, .int .u8 ty.head.kind, .int .i64 ty.head.rho, .slice ty.head.ep ty.head.en ty.head.ec, .slice ty.head.kp ty.head.kn ty.head.kc, .int .u8 res.head.kind, .int .i64 res.head.rho, .slice res.head.ep res.head.en res.head.ec, .slice res.head.kp res.head.kn res.head.kc, .slice kp kn kc] : List Value).toArray) rfl (by kernel_rfl) (by kernel_rfl) (by kernel_rfl) (fun _ _ _ h => h) (yieldsIf_load_mid (by rfl) 31 _ rfl W.heap.size 0 rfl _ _ (fun W' h => h.2) Tryz.underlying31 rfl (by kernel_rfl)) (by assumption) ?_
  try simp only [Act.put, List.setIfInBounds_toArray, List.set_cons_zero, List.set_cons_succ]
  refine wpAnyH_take (i := 2) (oi := _) (v := ?_) rfl (by kernel_rfl) (by kernel_rfl) (by kernel_rfl) (fun _ _ _ h => h) (Or.inl ⟨by rfl, ?_⟩) (by assumption) ?_
  rotate_left
  · intro w hSw; (try dsimp only at hSw); obtain ⟨hSc, hSr⟩ := hSw; clear hSr; go_simp; try with_reducible rfl
  try simp only [Act.put, List.setIfInBounds_toArray, List.set_cons_zero, List.set_cons_succ]
  refine wpAnyH_take (i := 3) (oi := _) (v := ?_) rfl (by kernel_rfl) (by kernel_rfl) (by kernel_rfl) (fun _ _ _ h => h) (Or.inl ⟨by rfl, ?_⟩) (by assumption) ?_
  rotate_left
  · intro w hSw; (try dsimp only at hSw); obtain ⟨hSc, hSr⟩ := hSw; clear hSr; go_simp; try with_reducible rfl
  try simp only [Act.put, List.setIfInBounds_toArray, List.set_cons_zero, List.set_cons_succ]
  refine wpAnyH_take (i := 4) (oi := _) (v := ?_) rfl (by kernel_rfl) (by kernel_rfl) (by kernel_rfl) (fun _ _ _ h => h) (Or.inl ⟨by rfl, ?_⟩) (by assumption) ?_
  rotate_left
  · intro w hSw; (try dsimp only at hSw); obtain ⟨hSc, hSr⟩ := hSw; clear hSr; go_simp; try with_reducible rfl
  try simp only [Act.put, List.setIfInBounds_toArray, List.set_cons_zero, List.set_cons_succ]
  refine wpAnyH_take (i := 5) (oi := _) (v := ?_) rfl (by kernel_rfl) (by kernel_rfl) (by kernel_rfl) (fun _ _ _ h => h) (Or.inl ⟨by rfl, ?_⟩) (by assumption) ?_
  rotate_left
  · intro w hSw; (try dsimp only at hSw); obtain ⟨hSc, hSr⟩ := hSw; clear hSr; go_simp; try with_reducible rfl
  try simp only [Act.put, List.setIfInBounds_toArray, List.set_cons_zero, List.set_cons_succ]
  refine wpAnyH_take (i := 6) (oi := _) (v := ?_) rfl (by kernel_rfl) (by kernel_rfl) (by kernel_rfl) (fun _ _ _ h => h) (Or.inl ⟨by rfl, ?_⟩) (by assumption) ?_
  rotate_left
  · intro w hSw; (try dsimp only at hSw); obtain ⟨hSc, hSr⟩ := hSw; clear hSr; go_simp; try with_reducible rfl
  try simp only [Act.put, List.setIfInBounds_toArray, List.set_cons_zero, List.set_cons_succ]
  refine wpAnyH_take (i := 7) (oi := _) (v := ?_) rfl (by kernel_rfl) (by kernel_rfl) (by kernel_rfl) (fun _ _ _ h => h) (Or.inl ⟨by rfl, ?_⟩) (by assumption) ?_
  rotate_left
  · intro w hSw; (try dsimp only at hSw); obtain ⟨hSc, hSr⟩ := hSw; clear hSr; go_simp; try with_reducible rfl
  try simp only [Act.put, List.setIfInBounds_toArray, List.set_cons_zero, List.set_cons_succ]
  refine wpAnyH_take (i := 8) (oi := _) (v := ?_) rfl (by kernel_rfl) (by kernel_rfl) (by kernel_rfl) (fun _ _ _ h => h) (Or.inl ⟨by rfl, ?_⟩) (by assumption) ?_
  rotate_left
  · intro w hSw; (try dsimp only at hSw); obtain ⟨hSc, hSr⟩ := hSw; clear hSr; go_simp; try with_reducible rfl
  try simp only [Act.put, List.setIfInBounds_toArray, List.set_cons_zero, List.set_cons_succ]
  refine wpAnyH_take (i := 9) (oi := _) (v := ?_) rfl (by kernel_rfl) (by kernel_rfl) (by kernel_rfl) (fun _ _ _ h => h) (Or.inl ⟨by rfl, ?_⟩) (by assumption) ?_
  rotate_left
  · intro w hSw; (try dsimp only at hSw); obtain ⟨hSc, hSr⟩ := hSw; clear hSr; go_simp; try with_reducible rfl
  try simp only [Act.put, List.setIfInBounds_toArray, List.set_cons_zero, List.set_cons_succ]
  refine wpAnyH_ready (rs := [10]) (by kernel_rfl) (by simp) ?_
  refine AllReadyH.cons (o := _) rfl (fun K hK => ?_) AllReadyH.nil
  go_simp
  refine hK.out _ _ ?_ (fun hNew => ?_)
  · (try dsimp only); first | exact HSS.out _ (bel_drew _) | exact HSS.out _ (bel_alloc (bel_drew _) _) | exact ⟨HD8.out.box.c 1 _ rfl, HD8.out.box.range⟩
  clear hHeld hK K
  have hHeld := hNew
  clear hNew
  try simp only [Act.put, List.setIfInBounds_toArray, List.set_cons_zero, List.set_cons_succ]
  refine wpAnyH_ready (rs := [11]) (by kernel_rfl) (by simp) ?_
  refine AllReadyH.cons (o := _) rfl (fun K hK => ?_) AllReadyH.nil
  go_simp
  go_at_call 77
  refine (HKC.out _ _ _ (HD.out.below' (bel_drew W0)).below (HD.out.below' (bel_drew W0)).wr _ (by omega) _ (by simp [strsOf, strOf, encS]) (by rfl) _ _ (by simp) (by simp [strsOf, strOf]; try decide) (by simp [HLN.out]) (by exact HM.out)).mono ?_
  rintro e w8 ⟨rfl, v8, hw8, ht8⟩
  have HD8 := Lib.hid ((HD.out.below' (bel_drew W0)).step HG.out HG1.out hw8 ht8)
  clear hw8 ht8
  try go_wp2_with fail
  refine hK.out _ _ ?_ (fun hNew => ?_)
  · (try dsimp only); first | exact HSS.out _ (bel_drew _) | exact HSS.out _ (bel_alloc (bel_drew _) _) | exact ⟨HD8.out.box.c 1 _ rfl, HD8.out.box.range⟩
  clear hHeld hK K
  have hHeld := hNew
  clear hNew
  try simp only [Act.put, List.setIfInBounds_toArray, List.set_cons_zero, List.set_cons_succ]
  refine wpAnyH_done (by kernel_rfl) ?_ _
  refine NoPanic.normal ?_
  go_wp2_with fail
  go_end0
  exact ⟨rfl, _, HD8.out.wr, HD8.out.wrote⟩
set_option maxHeartbeats 4000000 in
theorem inner_9_4 {w0 : World} {g : Nat} {at_ n rho : Int} {name arg exn : ByteArray} {rp ep kp : Option Addr} {rn rc en ec kn kc : Nat} {rhos : List Int} {eff : List Atom} {ty res : PT} {l : List PA} (D : DN w0 g ⟨9, 4, at_, n, name, arg, exn, rho, rp, rn, rc, rhos, ep, en, ec, eff, ty, res, kp, kn, kc⟩ l) :
    PutsAt w0 g 59 #[.pointer (some ⟨g, 0, none⟩), aggT ⟨9, 4, at_, n, name, arg, exn, rho, rp, rn, rc, rhos, ep, en, ec, eff, ty, res, kp, kn, kc⟩] (wordsP (kidsP [⟨#[60]⟩] (l.map piecesT))) := by
  intro W v L hb hw hM
  have HE := Lib.hid D.env
  have HG := Lib.hid D.env.hg
  have HG1 := Lib.hid hw.lt
  have HM := Lib.hid hM
  have HD := Lib.hid (DSt.init hb hw ⟨9, 4, at_, n, name, arg, exn, rho, rp, rn, rc, rhos, ep, en, ec, eff, ty, res, kp, kn, kc⟩)
  have HKC := Lib.hid D.hkids
  have HLN := Lib.hid (D.len (m := 2) rfl)
  clear D hb hw hM
  show Calls _ _ _ _ _
  go_enter Tryz.func59, Tryz.ntmps59
  go_upto_region 1 with fail
  generalize hW0 : W.alloc (boxA ⟨9, 4, at_, n, name, arg, exn, rho, rp, rn, rc, rhos, ep, en, ec, eff, ty, res, kp, kn, kc⟩) = W0 at *
  clear hW0
  obtain ⟨c0, c1, c2, c3, c4, c5, c6, c7, c8, c9, c10, c11, c12, c13, c14, c15, c16, c17, c18⟩ := HD.out.box.all
  dsimp only at c0 c1 c2 c3 c4 c5 c6 c7 c8 c9 c10 c11 c12 c13 c14 c15 c16 c17 c18
  go_upto_region 18 with fail
  have hu : IntKind.u8.wrap 3 = 3 := by rfl
  have hx : (⟨#[43, 45, 42, 60, 61]⟩ : ByteArray).extract 3 4 = ⟨#[60]⟩ := by rfl
  have HSS : Hid (∀ W', Below W0.heap.size W0 W' → W'.cell? ⟨W.heap.size, 1, none⟩ = some (.int .u8 4) ∧ W'.rangeAt W.heap.size 0 [.int .u8 9, .int .u8 4, .int .i64 at_, .int .i64 n, .string name, .string arg, .string exn, .int .i64 rho, .slice rp rn rc, .slice ep en ec, .int .u8 ty.head.kind, .int .i64 ty.head.rho, .slice ty.head.ep ty.head.en ty.head.ec, .slice ty.head.kp ty.head.kn ty.head.kc, .int .u8 res.head.kind, .int .i64 res.head.rho, .slice res.head.ep res.head.en res.head.ec, .slice res.head.kp res.head.kn res.head.kc, .slice kp kn kc]) := Lib.hid (fun W' h => ⟨(HD.out.below' h).box.c 1 _ rfl, (HD.out.below' h).box.range⟩)
  clear c0 c1 c2 c3 c4 c5 c6 c7 c8 c9 c10 c11 c12 c13 c14 c15 c16 c17 c18
  refine wp_region_noPanic ?_
  refine wp_region_held_drew (S := fun W' => W'.cell? ⟨W.heap.size, 1, none⟩ = some (.int .u8 4) ∧ W'.rangeAt W.heap.size 0 [.int .u8 9, .int .u8 4, .int .i64 at_, .int .i64 n, .string name, .string arg, .string exn, .int .i64 rho, .slice rp rn rc, .slice ep en ec, .int .u8 ty.head.kind, .int .i64 ty.head.rho, .slice ty.head.ep ty.head.en ty.head.ec, .slice ty.head.kp ty.head.kn ty.head.kc, .int .u8 res.head.kind, .int .i64 res.head.rho, .slice res.head.ep res.head.en res.head.ec, .slice res.head.kp res.head.kn res.head.kc, .slice kp kn kc]) (by kernel_rfl) ?_ (fun hHeld => ?_)
  · (try dsimp only); first | exact HSS.out _ (bel_drew _) | exact HSS.out _ (bel_alloc (bel_drew _) _) | exact ⟨HD8.out.box.c 1 _ rfl, HD8.out.box.range⟩
  refine wpAnyH_take (i := 0) (oi := _) (v := ?_) rfl (by kernel_rfl) (by kernel_rfl) (by kernel_rfl) (fun _ _ _ h => h) (Or.inl ⟨by rfl, ?_⟩) (by assumption) ?_
  rotate_left
  · intro w hSw; (try dsimp only at hSw); obtain ⟨hSc, hSr⟩ := hSw; clear hSr; go_simp; try with_reducible rfl
  try simp only [Act.put, List.setIfInBounds_toArray, List.set_cons_zero, List.set_cons_succ]
  refine wpAnyH_take (i := 1) (oi := _) (v := .agg ([.int .u8 9, .int .u8 4, .int .i64 at_, .int .i64 n, .string name, .string arg, .string exn, .int .i64 rho, .slice rp rn rc, .slice ep en ec, .int .u8 ty.head.kind, .int .i64 ty.head.rho, .slice ty.head.ep ty.head.en ty.head.ec, .slice ty.head.kp ty.head.kn ty.head.kc, .int .u8 res.head.kind, .int .i64 res.head.rho, .slice res.head.ep res.head.en res.head.ec, .slice res.head.kp res.head.kn res.head.kc, .slice kp kn kc] : List Value).toArray) rfl (by kernel_rfl) (by kernel_rfl) (by kernel_rfl) (fun _ _ _ h => h) (yieldsIf_load_mid (by rfl) 31 _ rfl W.heap.size 0 rfl _ _ (fun W' h => h.2) Tryz.underlying31 rfl (by kernel_rfl)) (by assumption) ?_
  try simp only [Act.put, List.setIfInBounds_toArray, List.set_cons_zero, List.set_cons_succ]
  refine wpAnyH_take (i := 2) (oi := _) (v := ?_) rfl (by kernel_rfl) (by kernel_rfl) (by kernel_rfl) (fun _ _ _ h => h) (Or.inl ⟨by rfl, ?_⟩) (by assumption) ?_
  rotate_left
  · intro w hSw; (try dsimp only at hSw); obtain ⟨hSc, hSr⟩ := hSw; clear hSr; go_simp; try with_reducible rfl
  try simp only [Act.put, List.setIfInBounds_toArray, List.set_cons_zero, List.set_cons_succ]
  refine wpAnyH_take (i := 3) (oi := _) (v := ?_) rfl (by kernel_rfl) (by kernel_rfl) (by kernel_rfl) (fun _ _ _ h => h) (Or.inl ⟨by rfl, ?_⟩) (by assumption) ?_
  rotate_left
  · intro w hSw; (try dsimp only at hSw); obtain ⟨hSc, hSr⟩ := hSw; clear hSr; go_simp; try with_reducible rfl
  try simp only [Act.put, List.setIfInBounds_toArray, List.set_cons_zero, List.set_cons_succ]
  refine wpAnyH_take (i := 4) (oi := _) (v := ?_) rfl (by kernel_rfl) (by kernel_rfl) (by kernel_rfl) (fun _ _ _ h => h) (Or.inl ⟨by rfl, ?_⟩) (by assumption) ?_
  rotate_left
  · intro w hSw; (try dsimp only at hSw); obtain ⟨hSc, hSr⟩ := hSw; clear hSr; go_simp; try with_reducible rfl
  try simp only [Act.put, List.setIfInBounds_toArray, List.set_cons_zero, List.set_cons_succ]
  refine wpAnyH_take (i := 5) (oi := _) (v := ?_) rfl (by kernel_rfl) (by kernel_rfl) (by kernel_rfl) (fun _ _ _ h => h) (Or.inl ⟨by rfl, ?_⟩) (by assumption) ?_
  rotate_left
  · intro w hSw; (try dsimp only at hSw); obtain ⟨hSc, hSr⟩ := hSw; clear hSr; go_simp; try with_reducible rfl
  try simp only [Act.put, List.setIfInBounds_toArray, List.set_cons_zero, List.set_cons_succ]
  refine wpAnyH_take (i := 6) (oi := _) (v := ?_) rfl (by kernel_rfl) (by kernel_rfl) (by kernel_rfl) (fun _ _ _ h => h) (Or.inl ⟨by rfl, ?_⟩) (by assumption) ?_
  rotate_left
  · intro w hSw; (try dsimp only at hSw); obtain ⟨hSc, hSr⟩ := hSw; clear hSr; go_simp; try with_reducible rfl
  try simp only [Act.put, List.setIfInBounds_toArray, List.set_cons_zero, List.set_cons_succ]
  refine wpAnyH_take (i := 7) (oi := _) (v := ?_) rfl (by kernel_rfl) (by kernel_rfl) (by kernel_rfl) (fun _ _ _ h => h) (Or.inl ⟨by rfl, ?_⟩) (by assumption) ?_
  rotate_left
  · intro w hSw; (try dsimp only at hSw); obtain ⟨hSc, hSr⟩ := hSw; clear hSr; go_simp; try with_reducible rfl
  try simp only [Act.put, List.setIfInBounds_toArray, List.set_cons_zero, List.set_cons_succ]
  refine wpAnyH_take (i := 8) (oi := _) (v := ?_) rfl (by kernel_rfl) (by kernel_rfl) (by kernel_rfl) (fun _ _ _ h => h) (Or.inl ⟨by rfl, ?_⟩) (by assumption) ?_
  rotate_left
  · intro w hSw; (try dsimp only at hSw); obtain ⟨hSc, hSr⟩ := hSw; clear hSr; go_simp; try with_reducible rfl
  try simp only [Act.put, List.setIfInBounds_toArray, List.set_cons_zero, List.set_cons_succ]
  refine wpAnyH_take (i := 9) (oi := _) (v := ?_) rfl (by kernel_rfl) (by kernel_rfl) (by kernel_rfl) (fun _ _ _ h => h) (Or.inl ⟨by rfl, ?_⟩) (by assumption) ?_
  rotate_left
  · intro w hSw; (try dsimp only at hSw); obtain ⟨hSc, hSr⟩ := hSw; clear hSr; go_simp; try with_reducible rfl
  try simp only [Act.put, List.setIfInBounds_toArray, List.set_cons_zero, List.set_cons_succ]
  refine wpAnyH_ready (rs := [10]) (by kernel_rfl) (by simp) ?_
  refine AllReadyH.cons (o := _) rfl (fun K hK => ?_) AllReadyH.nil
  go_simp
  refine hK.out _ _ ?_ (fun hNew => ?_)
  · (try dsimp only); first | exact HSS.out _ (bel_drew _) | exact HSS.out _ (bel_alloc (bel_drew _) _) | exact ⟨HD8.out.box.c 1 _ rfl, HD8.out.box.range⟩
  clear hHeld hK K
  have hHeld := hNew
  clear hNew
  try simp only [Act.put, List.setIfInBounds_toArray, List.set_cons_zero, List.set_cons_succ]
  refine wpAnyH_ready (rs := [11]) (by kernel_rfl) (by simp) ?_
  refine AllReadyH.cons (o := _) rfl (fun K hK => ?_) AllReadyH.nil
  go_simp
  go_at_call 77
  refine (HKC.out _ _ _ (HD.out.below' (bel_drew W0)).below (HD.out.below' (bel_drew W0)).wr _ (by omega) _ (by simp [strsOf, strOf, encS]) (by rfl) _ _ (by simp) (by simp [strsOf, strOf]; try decide) (by simp [HLN.out]) (by exact HM.out)).mono ?_
  rintro e w8 ⟨rfl, v8, hw8, ht8⟩
  have HD8 := Lib.hid ((HD.out.below' (bel_drew W0)).step HG.out HG1.out hw8 ht8)
  clear hw8 ht8
  try go_wp2_with fail
  refine hK.out _ _ ?_ (fun hNew => ?_)
  · (try dsimp only); first | exact HSS.out _ (bel_drew _) | exact HSS.out _ (bel_alloc (bel_drew _) _) | exact ⟨HD8.out.box.c 1 _ rfl, HD8.out.box.range⟩
  clear hHeld hK K
  have hHeld := hNew
  clear hNew
  try simp only [Act.put, List.setIfInBounds_toArray, List.set_cons_zero, List.set_cons_succ]
  refine wpAnyH_done (by kernel_rfl) ?_ _
  refine NoPanic.normal ?_
  go_wp2_with fail
  go_end0
  exact ⟨rfl, _, HD8.out.wr, HD8.out.wrote⟩
set_option maxHeartbeats 4000000 in
theorem inner_9_5 {w0 : World} {g : Nat} {at_ n rho : Int} {name arg exn : ByteArray} {rp ep kp : Option Addr} {rn rc en ec kn kc : Nat} {rhos : List Int} {eff : List Atom} {ty res : PT} {l : List PA} (D : DN w0 g ⟨9, 5, at_, n, name, arg, exn, rho, rp, rn, rc, rhos, ep, en, ec, eff, ty, res, kp, kn, kc⟩ l) :
    PutsAt w0 g 59 #[.pointer (some ⟨g, 0, none⟩), aggT ⟨9, 5, at_, n, name, arg, exn, rho, rp, rn, rc, rhos, ep, en, ec, eff, ty, res, kp, kn, kc⟩] (wordsP (kidsP [⟨#[61]⟩] (l.map piecesT))) := by
  intro W v L hb hw hM
  have HE := Lib.hid D.env
  have HG := Lib.hid D.env.hg
  have HG1 := Lib.hid hw.lt
  have HM := Lib.hid hM
  have HD := Lib.hid (DSt.init hb hw ⟨9, 5, at_, n, name, arg, exn, rho, rp, rn, rc, rhos, ep, en, ec, eff, ty, res, kp, kn, kc⟩)
  have HKC := Lib.hid D.hkids
  have HLN := Lib.hid (D.len (m := 2) rfl)
  clear D hb hw hM
  show Calls _ _ _ _ _
  go_enter Tryz.func59, Tryz.ntmps59
  go_upto_region 1 with fail
  generalize hW0 : W.alloc (boxA ⟨9, 5, at_, n, name, arg, exn, rho, rp, rn, rc, rhos, ep, en, ec, eff, ty, res, kp, kn, kc⟩) = W0 at *
  clear hW0
  obtain ⟨c0, c1, c2, c3, c4, c5, c6, c7, c8, c9, c10, c11, c12, c13, c14, c15, c16, c17, c18⟩ := HD.out.box.all
  dsimp only at c0 c1 c2 c3 c4 c5 c6 c7 c8 c9 c10 c11 c12 c13 c14 c15 c16 c17 c18
  go_upto_region 18 with fail
  have hu : IntKind.u8.wrap 4 = 4 := by rfl
  have hx : (⟨#[43, 45, 42, 60, 61]⟩ : ByteArray).extract 4 5 = ⟨#[61]⟩ := by rfl
  have HSS : Hid (∀ W', Below W0.heap.size W0 W' → W'.cell? ⟨W.heap.size, 1, none⟩ = some (.int .u8 5) ∧ W'.rangeAt W.heap.size 0 [.int .u8 9, .int .u8 5, .int .i64 at_, .int .i64 n, .string name, .string arg, .string exn, .int .i64 rho, .slice rp rn rc, .slice ep en ec, .int .u8 ty.head.kind, .int .i64 ty.head.rho, .slice ty.head.ep ty.head.en ty.head.ec, .slice ty.head.kp ty.head.kn ty.head.kc, .int .u8 res.head.kind, .int .i64 res.head.rho, .slice res.head.ep res.head.en res.head.ec, .slice res.head.kp res.head.kn res.head.kc, .slice kp kn kc]) := Lib.hid (fun W' h => ⟨(HD.out.below' h).box.c 1 _ rfl, (HD.out.below' h).box.range⟩)
  clear c0 c1 c2 c3 c4 c5 c6 c7 c8 c9 c10 c11 c12 c13 c14 c15 c16 c17 c18
  refine wp_region_noPanic ?_
  refine wp_region_held_drew (S := fun W' => W'.cell? ⟨W.heap.size, 1, none⟩ = some (.int .u8 5) ∧ W'.rangeAt W.heap.size 0 [.int .u8 9, .int .u8 5, .int .i64 at_, .int .i64 n, .string name, .string arg, .string exn, .int .i64 rho, .slice rp rn rc, .slice ep en ec, .int .u8 ty.head.kind, .int .i64 ty.head.rho, .slice ty.head.ep ty.head.en ty.head.ec, .slice ty.head.kp ty.head.kn ty.head.kc, .int .u8 res.head.kind, .int .i64 res.head.rho, .slice res.head.ep res.head.en res.head.ec, .slice res.head.kp res.head.kn res.head.kc, .slice kp kn kc]) (by kernel_rfl) ?_ (fun hHeld => ?_)
  · (try dsimp only); first | exact HSS.out _ (bel_drew _) | exact HSS.out _ (bel_alloc (bel_drew _) _) | exact ⟨HD8.out.box.c 1 _ rfl, HD8.out.box.range⟩
  refine wpAnyH_take (i := 0) (oi := _) (v := ?_) rfl (by kernel_rfl) (by kernel_rfl) (by kernel_rfl) (fun _ _ _ h => h) (Or.inl ⟨by rfl, ?_⟩) (by assumption) ?_
  rotate_left
  · intro w hSw; (try dsimp only at hSw); obtain ⟨hSc, hSr⟩ := hSw; clear hSr; go_simp; try with_reducible rfl
  try simp only [Act.put, List.setIfInBounds_toArray, List.set_cons_zero, List.set_cons_succ]
  refine wpAnyH_take (i := 1) (oi := _) (v := .agg ([.int .u8 9, .int .u8 5, .int .i64 at_, .int .i64 n, .string name, .string arg, .string exn, .int .i64 rho, .slice rp rn rc, .slice ep en ec, .int .u8 ty.head.kind, .int .i64 ty.head.rho, .slice ty.head.ep ty.head.en ty.head.ec, .slice ty.head.kp ty.head.kn ty.head.kc, .int .u8 res.head.kind, .int .i64 res.head.rho, .slice res.head.ep res.head.en res.head.ec, .slice res.head.kp res.head.kn res.head.kc, .slice kp kn kc] : List Value).toArray) rfl (by kernel_rfl) (by kernel_rfl) (by kernel_rfl) (fun _ _ _ h => h) (yieldsIf_load_mid (by rfl) 31 _ rfl W.heap.size 0 rfl _ _ (fun W' h => h.2) Tryz.underlying31 rfl (by kernel_rfl)) (by assumption) ?_
  try simp only [Act.put, List.setIfInBounds_toArray, List.set_cons_zero, List.set_cons_succ]
  refine wpAnyH_take (i := 2) (oi := _) (v := ?_) rfl (by kernel_rfl) (by kernel_rfl) (by kernel_rfl) (fun _ _ _ h => h) (Or.inl ⟨by rfl, ?_⟩) (by assumption) ?_
  rotate_left
  · intro w hSw; (try dsimp only at hSw); obtain ⟨hSc, hSr⟩ := hSw; clear hSr; go_simp; try with_reducible rfl
  try simp only [Act.put, List.setIfInBounds_toArray, List.set_cons_zero, List.set_cons_succ]
  refine wpAnyH_take (i := 3) (oi := _) (v := ?_) rfl (by kernel_rfl) (by kernel_rfl) (by kernel_rfl) (fun _ _ _ h => h) (Or.inl ⟨by rfl, ?_⟩) (by assumption) ?_
  rotate_left
  · intro w hSw; (try dsimp only at hSw); obtain ⟨hSc, hSr⟩ := hSw; clear hSr; go_simp; try with_reducible rfl
  try simp only [Act.put, List.setIfInBounds_toArray, List.set_cons_zero, List.set_cons_succ]
  refine wpAnyH_take (i := 4) (oi := _) (v := ?_) rfl (by kernel_rfl) (by kernel_rfl) (by kernel_rfl) (fun _ _ _ h => h) (Or.inl ⟨by rfl, ?_⟩) (by assumption) ?_
  rotate_left
  · intro w hSw; (try dsimp only at hSw); obtain ⟨hSc, hSr⟩ := hSw; clear hSr; go_simp; try with_reducible rfl
  try simp only [Act.put, List.setIfInBounds_toArray, List.set_cons_zero, List.set_cons_succ]
  refine wpAnyH_take (i := 5) (oi := _) (v := ?_) rfl (by kernel_rfl) (by kernel_rfl) (by kernel_rfl) (fun _ _ _ h => h) (Or.inl ⟨by rfl, ?_⟩) (by assumption) ?_
  rotate_left
  · intro w hSw; (try dsimp only at hSw); obtain ⟨hSc, hSr⟩ := hSw; clear hSr; go_simp; try with_reducible rfl
  try simp only [Act.put, List.setIfInBounds_toArray, List.set_cons_zero, List.set_cons_succ]
  refine wpAnyH_take (i := 6) (oi := _) (v := ?_) rfl (by kernel_rfl) (by kernel_rfl) (by kernel_rfl) (fun _ _ _ h => h) (Or.inl ⟨by rfl, ?_⟩) (by assumption) ?_
  rotate_left
  · intro w hSw; (try dsimp only at hSw); obtain ⟨hSc, hSr⟩ := hSw; clear hSr; go_simp; try with_reducible rfl
  try simp only [Act.put, List.setIfInBounds_toArray, List.set_cons_zero, List.set_cons_succ]
  refine wpAnyH_take (i := 7) (oi := _) (v := ?_) rfl (by kernel_rfl) (by kernel_rfl) (by kernel_rfl) (fun _ _ _ h => h) (Or.inl ⟨by rfl, ?_⟩) (by assumption) ?_
  rotate_left
  · intro w hSw; (try dsimp only at hSw); obtain ⟨hSc, hSr⟩ := hSw; clear hSr; go_simp; try with_reducible rfl
  try simp only [Act.put, List.setIfInBounds_toArray, List.set_cons_zero, List.set_cons_succ]
  refine wpAnyH_take (i := 8) (oi := _) (v := ?_) rfl (by kernel_rfl) (by kernel_rfl) (by kernel_rfl) (fun _ _ _ h => h) (Or.inl ⟨by rfl, ?_⟩) (by assumption) ?_
  rotate_left
  · intro w hSw; (try dsimp only at hSw); obtain ⟨hSc, hSr⟩ := hSw; clear hSr; go_simp; try with_reducible rfl
  try simp only [Act.put, List.setIfInBounds_toArray, List.set_cons_zero, List.set_cons_succ]
  refine wpAnyH_take (i := 9) (oi := _) (v := ?_) rfl (by kernel_rfl) (by kernel_rfl) (by kernel_rfl) (fun _ _ _ h => h) (Or.inl ⟨by rfl, ?_⟩) (by assumption) ?_
  rotate_left
  · intro w hSw; (try dsimp only at hSw); obtain ⟨hSc, hSr⟩ := hSw; clear hSr; go_simp; try with_reducible rfl
  try simp only [Act.put, List.setIfInBounds_toArray, List.set_cons_zero, List.set_cons_succ]
  refine wpAnyH_ready (rs := [10]) (by kernel_rfl) (by simp) ?_
  refine AllReadyH.cons (o := _) rfl (fun K hK => ?_) AllReadyH.nil
  go_simp
  refine hK.out _ _ ?_ (fun hNew => ?_)
  · (try dsimp only); first | exact HSS.out _ (bel_drew _) | exact HSS.out _ (bel_alloc (bel_drew _) _) | exact ⟨HD8.out.box.c 1 _ rfl, HD8.out.box.range⟩
  clear hHeld hK K
  have hHeld := hNew
  clear hNew
  try simp only [Act.put, List.setIfInBounds_toArray, List.set_cons_zero, List.set_cons_succ]
  refine wpAnyH_ready (rs := [11]) (by kernel_rfl) (by simp) ?_
  refine AllReadyH.cons (o := _) rfl (fun K hK => ?_) AllReadyH.nil
  go_simp
  go_at_call 77
  refine (HKC.out _ _ _ (HD.out.below' (bel_drew W0)).below (HD.out.below' (bel_drew W0)).wr _ (by omega) _ (by simp [strsOf, strOf, encS]) (by rfl) _ _ (by simp) (by simp [strsOf, strOf]; try decide) (by simp [HLN.out]) (by exact HM.out)).mono ?_
  rintro e w8 ⟨rfl, v8, hw8, ht8⟩
  have HD8 := Lib.hid ((HD.out.below' (bel_drew W0)).step HG.out HG1.out hw8 ht8)
  clear hw8 ht8
  try go_wp2_with fail
  refine hK.out _ _ ?_ (fun hNew => ?_)
  · (try dsimp only); first | exact HSS.out _ (bel_drew _) | exact HSS.out _ (bel_alloc (bel_drew _) _) | exact ⟨HD8.out.box.c 1 _ rfl, HD8.out.box.range⟩
  clear hHeld hK K
  have hHeld := hNew
  clear hNew
  try simp only [Act.put, List.setIfInBounds_toArray, List.set_cons_zero, List.set_cons_succ]
  refine wpAnyH_done (by kernel_rfl) ?_ _
  refine NoPanic.normal ?_
  go_wp2_with fail
  go_end0
  exact ⟨rfl, _, HD8.out.wr, HD8.out.wrote⟩
end Go.Proofs.YtdlbjngpohkglaaGreatDoor
end
