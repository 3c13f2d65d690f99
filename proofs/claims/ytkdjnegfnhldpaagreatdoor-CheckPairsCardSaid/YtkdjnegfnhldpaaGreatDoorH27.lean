/- Part 27: If, Ig, Ih, Rn. -/
import Derived.Test.YtkdjnegfnhldpaaGreatDoorH26
import Derived.Test.YtkdjnegfnhldpaaGreatDoorH22
import Derived.Test.YtkdjnegfnhldpaaGreatDoorH01
set_option linter.unusedVariables false
set_option maxRecDepth 100000
set_option linter.unusedSimpArgs false
namespace Go.Proofs.YtkdjnegfnhldpaaGreatDoor
open Go.Lib (hid)
section
open Go.RowKit
theorem step_store_ins {P : Program} {ops : Array Oper} {o : Oper} {act : Act} {K : Act → World → Prop} {Q : Exit → Act → World → Prop} {E : Prop} (hgd : o.guard = none) (ty : TypeId) (x y : Operand) (ho : o.op = .store ty x y)
    {w W : World} {a : AH} {u v : Value} (h : InS w a u v W) (cells : Array Value) (hx : act.eval x = .pointer (some ⟨w.heap.size + 2, 0, none⟩)) (hy : act.eval y = .agg cells) (hi : (P.info? ty).map (·.size) = some cells.size) (h5 : cells.size = 2) (h1 : cells.all (·.oneCell') = true)
    (hK : K (act.put o.dst undef) (W.setRow (w.heap.size + 2) cells)) : if Region.wanted o (yielded ops act.tmps) = true then Oper.wp P o act W K Q else E := by
  obtain ⟨cs, e1, e2⟩ := h.res
  rw [if_pos (by simp [Region.wanted, hgd])]
  exact wp_store_row ty x y ho (w.heap.size + 2) cells hx hy 84 cs e2 hi (by omega) h1 hK
set_option maxHeartbeats 4000000 in
theorem inner_let1 {w0 w : World} {S : Nat → Prop} {a : AH} {p q : Option Addr} {n c m mc rc : Nat} {env : List BV} {rhos : List Int} (hE : EnvAt w0 w S p n c env) (hq : IsRow encN 1 w q m mc rhos) (ha : AH.Own w a) (ha0 : AH.Own w0 a) (hS : ∀ b, w.heap.size ≤ b → S b) (hty : ∀ b ∈ usesR a.ty, S b) (hn : n ≤ 900000) (hm : m ≤ 900000) {b o : Nat} {x : RV} (hres : ResAt w S (some ⟨b, o, none⟩) 1 rc [x]) (hk : a.kind = 12) :
    Calls Tryz.prog 98 #[.agg #[.slice p n c, .slice q m mc], aggT a, .int .i64 1, .slice (some ⟨b, o, none⟩) 1 rc] w (OutI w0 w S n m (innerE (erE env) a.plain 1 (erL [x])) (innerR rhos a.plain 1)) := by
  have HX := hid (ins_new w a (.slice p n c) (.slice q m mc))
  have HE := hid hE
  have HQ := hid hq
  have HA := hid ha
  have HA0 := hid ha0
  have HS := hid hS
  have HT := hid hty
  have hc0 := HX.out.b.b1.c 0 _ rfl
  have HRS := hid hres
  have e11 : (a.kind == 11) = false := by simp [hk]
  have e12 : (a.kind == 12) = true := by simp [hk]
  have HRE : Hid (innerE (erE env) a.plain 1 (erL [x]) = erE env ++ [⟨a.name, x.ty.er, none⟩]) := by
    show _ = _
    unfold innerE
    simp [show a.plain.kind = 12 from hk]
    try first | rfl | exact ⟨rfl, rfl⟩
  have HRR : Hid (innerR rhos a.plain 1 = rhos) := by
    show _ = _
    unfold innerR
    simp [show a.plain.kind = 12 from hk]
  rw [HRE.out, HRR.out]
  clear hE hq ha ha0 hS hty hk hres
  go_enter Tryz.func98, Tryz.ntmps98
  go_upto_region 4 with fail
  clear hc0
  generalize (((w.alloc (.cells #[.slice p n c, .slice q m mc] 84)).alloc (boxA a)).alloc (.cells #[.slice none 0 0, .slice none 0 0] 84)) = W1 at *
  refine wp_region_held_drew (S := fun W' => InS w a (.slice p n c) (.slice q m mc) W') (by kernel_rfl) ?_ (fun hHeld => ?_)
  · exact HX.out.drew
  refine tk (i := 0) (oi := ⟨some 32, _, _, _, _, none⟩) (v := .agg ([.slice p n c, .slice q m mc] : List Value).toArray) rfl (yieldsIf_load_mid (by rfl) 84 _ rfl w.heap.size 0 rfl _ _ (fun W' hSw => hSw.b.r0) Tryz.underlying84 rfl (by kernel_rfl)) ?_
  try simp only [Act.put, zA, zB, zC]
  refine tk (i := 1) (oi := ⟨some 33, _, _, _, _, none⟩) (v := ?_) rfl (Or.inl ⟨by rfl, ?_⟩) ?_
  rotate_left; · intro w h; go_simp; try with_reducible rfl
  try simp only [Act.put, zA, zB, zC]
  refine tk (i := 2) (oi := ⟨some 34, _, _, _, _, none⟩) (v := ?_) rfl (Or.inl ⟨by rfl, ?_⟩) ?_
  rotate_left; · intro w h; go_simp; try with_reducible rfl
  try simp only [Act.put, zA, zB, zC]
  refine tk (i := 3) (oi := ⟨some 35, _, _, _, _, none⟩) (v := ?_) rfl (Or.inl ⟨by rfl, ?_⟩) ?_
  rotate_left
  · intro w hSw; (try dsimp only at hSw); have q4 := hSw.b.b1.c 4 _ rfl; go_simp; try with_reducible rfl
  try simp only [Act.put, zA, zB, zC]
  refine tk (i := 4) (oi := ⟨some 36, _, _, _, _, none⟩) (v := ?_) rfl (Or.inl ⟨by rfl, ?_⟩) ?_
  rotate_left; · intro w h; go_simp; try with_reducible rfl
  try simp only [Act.put, zA, zB, zC]
  refine tk (i := 5) (oi := ⟨some 37, _, _, _, _, none⟩) (v := ?_) rfl (Or.inl ⟨by rfl, ?_⟩) ?_
  rotate_left; · intro w h; go_simp; try with_reducible rfl
  try simp only [Act.put, zA, zB, zC]
  refine tk (i := 6) (oi := ⟨some 38, _, _, _, _, none⟩) (v := ?_) rfl (Or.inl ⟨by rfl, ?_⟩) ?_
  rotate_left; · intro w h; go_simp; try with_reducible rfl
  try simp only [Act.put, zA, zB, zC]
  refine tk (i := 7) (oi := ⟨some 39, _, _, _, _, none⟩) (v := .agg ([.int .u8 x.ty.head.kind, .int .i64 x.ty.head.rho, .slice x.ty.head.ep x.ty.head.en x.ty.head.ec, .slice x.ty.head.kp x.ty.head.kn x.ty.head.kc] : List Value).toArray) rfl (yieldsIf_load_mid (by rfl) 28 _ rfl b o rfl _ _ (fun W' hSw => rv_ty0 (HRS.out.row.below hSw.below)) Tryz.underlying28 rfl (by kernel_rfl)) ?_
  try simp only [Act.put, zA, zB, zC]
  refine tk (i := 8) (oi := ⟨some 40, _, _, _, _, none⟩) (v := ?_) rfl (Or.inl ⟨by rfl, ?_⟩) ?_
  rotate_left; · intro w h; go_simp; try with_reducible rfl
  try simp only [Act.put, zA, zB, zC]
  refine wpAnyH_ready (rs := [9]) (by kernel_rfl) (by simp) ?_
  refine AllReadyH.cons (o := ⟨some 41, _, _, _, _, none⟩) rfl (fun K hK => ?_) AllReadyH.nil
  go_simp
  refine hK.out _ _ ?_ (fun hNew => ?_)
  · (try dsimp only); exact hHeld.alloc _
  clear hHeld hK K; have hHeld := hNew; clear hNew
  try simp only [Act.put, zA, zB, zC]
  refine wpAnyH_ready (rs := [10]) (by kernel_rfl) (by simp) ?_
  refine AllReadyH.cons (o := ⟨some 42, _, _, _, _, none⟩) rfl (fun K hK => ?_) AllReadyH.nil
  go_simp
  have hsz := hHeld.size
  go_at_call 139
  refine (scope_with_any (HE.out.row.below hHeld.below) q m mc ((row_made encBV_len (by omega) W1 145 [⟨a.name, x.ty, none⟩] 1 _ rfl rfl (by decide)).below (bel_drew _)) (by omega)).mono ?_
  rintro e w5 ⟨p', c', rfl, hrow, hb, hwh⟩
  have HR5 := hid hrow
  have HB5 := hid hb
  have HF5 : Hid (∀ ad, p' = some ad → w.heap.size + 3 ≤ ad.block) := fun ad hp => by
      rcases hwh with ⟨h1, _⟩ | h1
      · cases h1
      · exact Nat.le_trans hsz (h1 ad hp)
  clear hrow hwh hsz
  try go_wp2_with fail
  refine hK.out _ _ ?_ (fun hNew => ?_)
  · (try dsimp only); exact hHeld.step hb
  clear hHeld hK K; have hHeld := hNew; clear hNew
  try simp only [Act.put, zA, zB, zC]
  refine wpAnyH_ready (rs := [11]) (by kernel_rfl) (by simp) ?_
  refine AllReadyH.cons (o := ⟨none, _, _, _, _, none⟩) rfl (fun K hK => ?_) AllReadyH.nil
  have HX9 := hid hHeld
  refine step_store_ins rfl _ _ _ (by rfl) hHeld #[.slice p' (n + 1) c', .slice q m mc] (by rfl) (by rfl) (by kernel_rfl) rfl (by simp [Value.oneCell']) ?_
  refine hK.out _ _ ?_ (fun hNew => ?_)
  · (try dsimp only); exact hHeld.store rfl
  clear hHeld hK K; have hHeld := hNew; clear hNew
  try simp only [Act.put, zA, zB, zC]
  refine wpAnyH_done (by kernel_rfl) ?_ _
  clear hHeld
  go_wp2_with fail
  refine bodyPost_ret (results_cell_row rfl _ _ _ _ _ _ _ rfl (HX9.out.heap _) Tryz.underlying84 rfl (by kernel_rfl)) rfl ?_
  refine in_out HX9.out HS.out HR5.out (fun _ ad hp => ?_) (fun z hz => ?_) (by simp [erE, BV.er]) (HQ.out.below HX9.out.below) (fun hl ad hp => ?_) (by omega) (by omega)
  · have := HF5.out ad hp
    omega
  · rcases List.mem_append.1 hz with hz | hz
    · have ho := (HE.out.each z hz)
      refine ⟨(ho.below HX9.out.below).weak (fun x hx => .inl ⟨lies_uses _ ho.ty x hx, ho.uses x hx⟩), fun a' g e => ?_⟩
      have := (ho.fn a' g e).2.2
      omega
    · rw [List.mem_singleton] at hz
      subst hz
      have hx := HRS.out.each x (by simp)
      exact ⟨⟨LR.lies_below HX9.out.below _ hx.ty, fun z hz => .inl ⟨lies_uses _ hx.ty z hz, hx.uses z hz⟩, fun a' g e => (nomatch e), HA.out.name⟩, fun a' g e => (nomatch e)⟩
  · have := rowE_lt HQ.out.row hl hp
    omega
end
section
open Go.RowKit
set_option maxHeartbeats 4000000 in
theorem inner_letrec0 {w0 w : World} {S : Nat → Prop} {a : AH} {p q r : Option Addr} {n c m mc rn rc : Nat} {env : List BV} {rhos : List Int} {acc : List RV} (hE : EnvAt w0 w S p n c env) (hq : IsRow encN 1 w q m mc rhos) (ha : AH.Own w a) (ha0 : AH.Own w0 a) (hS : ∀ b, w.heap.size ≤ b → S b) (hty : ∀ b ∈ usesR a.ty, S b) (hn : n ≤ 900000) (hm : m ≤ 900000) (hrn : a.rn ≤ 50) (hk : a.kind = 13) :
    Calls Tryz.prog 98 #[.agg #[.slice p n c, .slice q m mc], aggT a, .int .i64 0, .slice r rn rc] w (OutI w0 w S n m (innerE (erE env) a.plain 0 (erL acc)) (innerR rhos a.plain 0)) := by
  have HX := hid (ins_new w a (.slice p n c) (.slice q m mc))
  have HE := hid hE
  have HQ := hid hq
  have HA := hid ha
  have HA0 := hid ha0
  have HS := hid hS
  have HT := hid hty
  have hc0 := HX.out.b.b1.c 0 _ rfl
  have e11 : (a.kind == 11) = false := by simp [hk]
  have e12 : (a.kind == 12) = false := by simp [hk]
  have e13 : (a.kind == 13) = true := by simp [hk]
  have HRE : Hid (innerE (erE env) a.plain 0 (erL acc) = erE env ++ [⟨a.name, tZero, some a.plain⟩, ⟨a.arg, a.ty.er, none⟩]) := by
    show _ = _
    unfold innerE
    simp [show a.plain.kind = 13 from hk]
    try first | rfl | exact ⟨rfl, rfl⟩ | exact ⟨rfl, rfl, rfl⟩
  have HRR : Hid (innerR rhos a.plain 0 = rhos ++ a.rhos) := by
    show _ = _
    unfold innerR
    simp [show a.plain.kind = 13 from hk]
    try rfl
  rw [HRE.out, HRR.out]
  clear hE hq ha ha0 hS hty hk
  go_enter Tryz.func98, Tryz.ntmps98
  go_upto_region 6 with fail
  clear hc0
  generalize (((w.alloc (.cells #[.slice p n c, .slice q m mc] 84)).alloc (boxA a)).alloc (.cells #[.slice none 0 0, .slice none 0 0] 84)) = W1 at *
  refine wp_region_held_drew (S := fun W' => InS w a (.slice p n c) (.slice q m mc) W') (by kernel_rfl) ?_ (fun hHeld => ?_)
  · exact HX.out.drew
  refine tk (i := 0) (oi := ⟨some 52, _, _, _, _, none⟩) (v := .agg ([.slice p n c, .slice q m mc] : List Value).toArray) rfl (yieldsIf_load_mid (by rfl) 84 _ rfl w.heap.size 0 rfl _ _ (fun W' hSw => hSw.b.r0) Tryz.underlying84 rfl (by kernel_rfl)) ?_
  try simp only [Act.put, zA, zB, zC]
  refine tk (i := 1) (oi := ⟨some 53, _, _, _, _, none⟩) (v := ?_) rfl (Or.inl ⟨by rfl, ?_⟩) ?_
  rotate_left; · intro w h; go_simp; try with_reducible rfl
  try simp only [Act.put, zA, zB, zC]
  refine tk (i := 2) (oi := ⟨some 54, _, _, _, _, none⟩) (v := ?_) rfl (Or.inl ⟨by rfl, ?_⟩) ?_
  rotate_left
  · intro w hSw; (try dsimp only at hSw); have q8 := hSw.b.b1.c 8 _ rfl; go_simp; try with_reducible rfl
  try simp only [Act.put, zA, zB, zC]
  refine tk (i := 4) (oi := ⟨some 56, _, _, _, _, none⟩) (v := ?_) rfl (Or.inl ⟨by rfl, ?_⟩) ?_
  rotate_left; · intro w h; go_simp; try with_reducible rfl
  try simp only [Act.put, zA, zB, zC]
  refine tk (i := 5) (oi := ⟨some 57, _, _, _, _, none⟩) (v := ?_) rfl (Or.inl ⟨by rfl, ?_⟩) ?_
  rotate_left; · intro w h; go_simp; try with_reducible rfl
  try simp only [Act.put, zA, zB, zC]
  refine tk (i := 6) (oi := ⟨some 58, _, _, _, _, none⟩) (v := ?_) rfl (Or.inl ⟨by rfl, ?_⟩) ?_
  rotate_left
  · intro w hSw; (try dsimp only at hSw); have q4 := hSw.b.b1.c 4 _ rfl; go_simp; try with_reducible rfl
  try simp only [Act.put, zA, zB, zC]
  refine tk (i := 7) (oi := ⟨some 59, _, _, _, _, none⟩) (v := ?_) rfl (Or.inl ⟨by rfl, ?_⟩) ?_
  rotate_left; · intro w h; go_simp; try with_reducible rfl
  try simp only [Act.put, zA, zB, zC]
  refine tk (i := 8) (oi := ⟨some 60, _, _, _, _, none⟩) (v := ?_) rfl (Or.inl ⟨by rfl, ?_⟩) ?_
  rotate_left; · intro w h; go_simp; try with_reducible rfl
  try simp only [Act.put, zA, zB, zC]
  refine tk (i := 9) (oi := ⟨some 61, _, _, _, _, none⟩) (v := ?_) rfl (Or.inl ⟨by rfl, ?_⟩) ?_
  rotate_left; · intro w h; go_simp; try with_reducible rfl
  try simp only [Act.put, zA, zB, zC]
  refine tk (i := 10) (oi := ⟨some 62, _, _, _, _, none⟩) (v := ?_) rfl (Or.inl ⟨by rfl, ?_⟩) ?_
  rotate_left; · intro w h; go_simp; try with_reducible rfl
  try simp only [Act.put, zA, zB, zC]
  refine tk (i := 11) (oi := ⟨some 63, _, _, _, _, none⟩) (v := ?_) rfl (Or.inl ⟨by rfl, ?_⟩) ?_
  rotate_left
  · intro w hSw; (try dsimp only at hSw); have q5 := hSw.b.b1.c 5 _ rfl; go_simp; try with_reducible rfl
  try simp only [Act.put, zA, zB, zC]
  refine tk (i := 12) (oi := ⟨some 64, _, _, _, _, none⟩) (v := ?_) rfl (Or.inl ⟨by rfl, ?_⟩) ?_
  rotate_left; · intro w h; go_simp; try with_reducible rfl
  try simp only [Act.put, zA, zB, zC]
  refine tk (i := 13) (oi := ⟨some 65, _, _, _, _, none⟩) (v := .agg ([.int .u8 a.ty.head.kind, .int .i64 a.ty.head.rho, .slice a.ty.head.ep a.ty.head.en a.ty.head.ec, .slice a.ty.head.kp a.ty.head.kn a.ty.head.kc] : List Value).toArray) rfl (yieldsIf_load_mid (by rfl) 28 _ rfl (w.heap.size + 1) 10 rfl _ _ (fun W' hSw => range_part' hSw.b.b1 10 4 rfl) Tryz.underlying28 rfl (by kernel_rfl)) ?_
  try simp only [Act.put, zA, zB, zC]
  refine tk (i := 14) (oi := ⟨some 66, _, _, _, _, none⟩) (v := ?_) rfl (Or.inl ⟨by rfl, ?_⟩) ?_
  rotate_left; · intro w h; go_simp; try with_reducible rfl
  try simp only [Act.put, zA, zB, zC]
  refine wpAnyH_ready (rs := [3, 15]) (by kernel_rfl) (by simp) ?_
  refine AllReadyH.cons (o := ⟨some 55, _, _, _, _, none⟩) rfl (fun K hK => ?_) (AllReadyH.cons (o := ⟨some 67, _, _, _, _, none⟩) rfl (fun K hK => ?_) AllReadyH.nil)
  · skip
    go_simp
    have hsz := hHeld.size
    go_at_call 131
    refine (scope_open_any (HQ.out.below hHeld.below) p n c (HA.out.rhos.below hHeld.below) (by omega)).mono ?_
    rintro e w3 ⟨q', qc', rfl, hrow, hb, hwh⟩
    have HR3 := hid hrow
    have HB3 := hid hb
    have HF3 : Hid ((a.rhos = [] ∧ q' = q) ∨ ∀ ad, q' = some ad → w.heap.size + 3 ≤ ad.block) := by
        rcases hwh with h1 | h1
        · exact .inl h1
        · exact .inr (fun ad hp => Nat.le_trans hsz (h1 ad hp))
    clear hrow hwh hsz
    try go_wp2_with fail
    refine hK.out _ _ ?_ (fun hNew => ?_)
    · (try dsimp only); exact hHeld.step hb
    clear hHeld hK K; have hHeld := hNew; clear hNew
    try simp only [Act.put, zA, zB, zC]
    refine wpAnyH_ready (rs := [15]) (by kernel_rfl) (by simp) ?_
    refine AllReadyH.cons (o := ⟨some 67, _, _, _, _, none⟩) rfl (fun K hK => ?_) AllReadyH.nil
    go_simp
    have HAR : Hid (IsRow encBV 6 (w3.alloc (.cells #[.string a.name, .int .u8 0, .int .i64 0, .slice none 0 0, .slice none 0 0, .pointer (some ⟨w.heap.size + 1, 0, none⟩), .string a.arg, .int .u8 a.ty.head.kind, .int .i64 a.ty.head.rho, .slice a.ty.head.ep a.ty.head.en a.ty.head.ec, .slice a.ty.head.kp a.ty.head.kn a.ty.head.kc, .pointer none] 145)) (some ⟨w3.heap.size, 0, none⟩) 2 2 [⟨a.name, (.node ⟨0, 0, none, 0, 0, [], none, 0, 0⟩ []), some (a, w.heap.size + 1)⟩, ⟨a.arg, a.ty, none⟩]) := row_made encBV_len (by omega) w3 145 [⟨a.name, (.node ⟨0, 0, none, 0, 0, [], none, 0, 0⟩ []), some (a, w.heap.size + 1)⟩, ⟨a.arg, a.ty, none⟩] 2 _ rfl rfl (by decide)
    have HQ9 : Hid (Below w3.heap.size w3 (w3.alloc (.cells #[.string a.name, .int .u8 0, .int .i64 0, .slice none 0 0, .slice none 0 0, .pointer (some ⟨w.heap.size + 1, 0, none⟩), .string a.arg, .int .u8 a.ty.head.kind, .int .i64 a.ty.head.rho, .slice a.ty.head.ep a.ty.head.en a.ty.head.ec, .slice a.ty.head.kp a.ty.head.kn a.ty.head.kc, .pointer none] 145))) := bel_alloc (Below.refl _ _) _
    refine hK.out _ _ ?_ (fun hNew => ?_)
    · (try dsimp only); exact hHeld.alloc _
    clear hHeld hK K; have hHeld := hNew; clear hNew
    try simp only [Act.put, zA, zB, zC]
    refine wpAnyH_ready (rs := [16]) (by kernel_rfl) (by simp) ?_
    refine AllReadyH.cons (o := ⟨some 68, _, _, _, _, none⟩) rfl (fun K hK => ?_) AllReadyH.nil
    go_simp
    have hsz := hHeld.size
    go_at_call 139
    refine (scope_with_any (HE.out.row.below hHeld.below) q' (m + a.rn) qc' (HAR.out) (by omega)).mono ?_
    rintro e w5 ⟨p', c', rfl, hrow, hb, hwh⟩
    have HR5 := hid hrow
    have HB5 := hid hb
    have HF5 : Hid (∀ ad, p' = some ad → w.heap.size + 3 ≤ ad.block) := fun ad hp => by
        rcases hwh with ⟨h1, _⟩ | h1
        · cases h1
        · exact Nat.le_trans hsz (h1 ad hp)
    clear hrow hwh hsz
    try go_wp2_with fail
    refine hK.out _ _ ?_ (fun hNew => ?_)
    · (try dsimp only); exact hHeld.step hb
    clear hHeld hK K; have hHeld := hNew; clear hNew
    try simp only [Act.put, zA, zB, zC]
    refine wpAnyH_ready (rs := [17]) (by kernel_rfl) (by simp) ?_
    refine AllReadyH.cons (o := ⟨none, _, _, _, _, none⟩) rfl (fun K hK => ?_) AllReadyH.nil
    have HX9 := hid hHeld
    refine step_store_ins rfl _ _ _ (by rfl) hHeld #[.slice p' (n + 2) c', .slice q' (m + a.rn) qc'] (by rfl) (by rfl) (by kernel_rfl) rfl (by simp [Value.oneCell']) ?_
    refine hK.out _ _ ?_ (fun hNew => ?_)
    · (try dsimp only); exact hHeld.store rfl
    clear hHeld hK K; have hHeld := hNew; clear hNew
    try simp only [Act.put, zA, zB, zC]
    refine wpAnyH_done (by kernel_rfl) ?_ _
    clear hHeld
    go_wp2_with fail
    refine bodyPost_ret (results_cell_row rfl _ _ _ _ _ _ _ rfl (HX9.out.heap _) Tryz.underlying84 rfl (by kernel_rfl)) rfl ?_
    refine in_out HX9.out HS.out HR5.out (fun _ ad hp => ?_) (fun z hz => ?_) (by simp [erE, BV.er]; rfl) ((HR3.out.below HQ9.out).below HB5.out) (fun hl ad hp => ?_) (by omega) (by omega)
    · have := HF5.out ad hp
      omega
    · rcases List.mem_append.1 hz with hz | hz
      · have ho := (HE.out.each z hz)
        refine ⟨(ho.below HX9.out.below).weak (fun x hx => .inl ⟨lies_uses _ ho.ty x hx, ho.uses x hx⟩), fun a' g e => ?_⟩
        have := (ho.fn a' g e).2.2
        omega
      · simp only [List.mem_cons, List.not_mem_nil, or_false] at hz
        rcases hz with rfl | rfl
        · exact ⟨⟨(bv_tzero w5 (Si w S)).1, (bv_tzero w5 (Si w S)).2, fun a' g e => (by cases e; exact ⟨⟨fun i v hv => HX9.out.b.b1.c (0 + i) v (by simpa using hv)⟩, HA0.out, by have := HX9.out.size; omega⟩), HA.out.name⟩, fun a' g e => (by cases e; omega)⟩
        · exact ⟨⟨LR.lies_below HX9.out.below _ HA.out.ty, fun x hx => .inl ⟨lies_uses _ HA.out.ty x hx, HT.out x hx⟩, fun a' g e => (nomatch e), HA.out.arg⟩, fun a' g e => (nomatch e)⟩
    · rcases HF3.out with ⟨h0, h1⟩ | h1
      · have hl2 : rhos ≠ [] := by intro h2; apply hl; rw [h2, h0]; rfl
        have := rowE_lt HQ.out.row hl2 (h1 ▸ hp)
        omega
      · have := h1 ad hp
        omega
  · skip
    go_simp
    refine hK.out _ _ ?_ (fun hNew => ?_)
    · (try dsimp only); exact hHeld.alloc _
    clear hHeld hK K; have hHeld := hNew; clear hNew
    try simp only [Act.put, zA, zB, zC]
    refine wpAnyH_ready (rs := [3]) (by kernel_rfl) (by simp) ?_
    refine AllReadyH.cons (o := ⟨some 55, _, _, _, _, none⟩) rfl (fun K hK => ?_) AllReadyH.nil
    go_simp
    have hsz := hHeld.size
    go_at_call 131
    refine (scope_open_any (HQ.out.below hHeld.below) p n c (HA.out.rhos.below hHeld.below) (by omega)).mono ?_
    rintro e w3 ⟨q', qc', rfl, hrow, hb, hwh⟩
    have HR3 := hid hrow
    have HB3 := hid hb
    have HF3 : Hid ((a.rhos = [] ∧ q' = q) ∨ ∀ ad, q' = some ad → w.heap.size + 3 ≤ ad.block) := by
        rcases hwh with h1 | h1
        · exact .inl h1
        · exact .inr (fun ad hp => Nat.le_trans hsz (h1 ad hp))
    have HAR := hid (((row_made encBV_len (by omega) W1 145 [⟨a.name, (.node ⟨0, 0, none, 0, 0, [], none, 0, 0⟩ []), some (a, w.heap.size + 1)⟩, ⟨a.arg, a.ty, none⟩] 2 _ rfl rfl (by decide)).below (bel_drew _)).below hb)
    have HQ9 := hid (Below.refl w3.heap.size w3)
    clear hrow hwh hsz
    try go_wp2_with fail
    refine hK.out _ _ ?_ (fun hNew => ?_)
    · (try dsimp only); exact hHeld.step hb
    clear hHeld hK K; have hHeld := hNew; clear hNew
    try simp only [Act.put, zA, zB, zC]
    refine wpAnyH_ready (rs := [16]) (by kernel_rfl) (by simp) ?_
    refine AllReadyH.cons (o := ⟨some 68, _, _, _, _, none⟩) rfl (fun K hK => ?_) AllReadyH.nil
    go_simp
    have hsz := hHeld.size
    go_at_call 139
    refine (scope_with_any (HE.out.row.below hHeld.below) q' (m + a.rn) qc' (HAR.out) (by omega)).mono ?_
    rintro e w5 ⟨p', c', rfl, hrow, hb, hwh⟩
    have HR5 := hid hrow
    have HB5 := hid hb
    have HF5 : Hid (∀ ad, p' = some ad → w.heap.size + 3 ≤ ad.block) := fun ad hp => by
        rcases hwh with ⟨h1, _⟩ | h1
        · cases h1
        · exact Nat.le_trans hsz (h1 ad hp)
    clear hrow hwh hsz
    try go_wp2_with fail
    refine hK.out _ _ ?_ (fun hNew => ?_)
    · (try dsimp only); exact hHeld.step hb
    clear hHeld hK K; have hHeld := hNew; clear hNew
    try simp only [Act.put, zA, zB, zC]
    refine wpAnyH_ready (rs := [17]) (by kernel_rfl) (by simp) ?_
    refine AllReadyH.cons (o := ⟨none, _, _, _, _, none⟩) rfl (fun K hK => ?_) AllReadyH.nil
    have HX9 := hid hHeld
    refine step_store_ins rfl _ _ _ (by rfl) hHeld #[.slice p' (n + 2) c', .slice q' (m + a.rn) qc'] (by rfl) (by rfl) (by kernel_rfl) rfl (by simp [Value.oneCell']) ?_
    refine hK.out _ _ ?_ (fun hNew => ?_)
    · (try dsimp only); exact hHeld.store rfl
    clear hHeld hK K; have hHeld := hNew; clear hNew
    try simp only [Act.put, zA, zB, zC]
    refine wpAnyH_done (by kernel_rfl) ?_ _
    clear hHeld
    go_wp2_with fail
    refine bodyPost_ret (results_cell_row rfl _ _ _ _ _ _ _ rfl (HX9.out.heap _) Tryz.underlying84 rfl (by kernel_rfl)) rfl ?_
    refine in_out HX9.out HS.out HR5.out (fun _ ad hp => ?_) (fun z hz => ?_) (by simp [erE, BV.er]; rfl) ((HR3.out.below HQ9.out).below HB5.out) (fun hl ad hp => ?_) (by omega) (by omega)
    · have := HF5.out ad hp
      omega
    · rcases List.mem_append.1 hz with hz | hz
      · have ho := (HE.out.each z hz)
        refine ⟨(ho.below HX9.out.below).weak (fun x hx => .inl ⟨lies_uses _ ho.ty x hx, ho.uses x hx⟩), fun a' g e => ?_⟩
        have := (ho.fn a' g e).2.2
        omega
      · simp only [List.mem_cons, List.not_mem_nil, or_false] at hz
        rcases hz with rfl | rfl
        · exact ⟨⟨(bv_tzero w5 (Si w S)).1, (bv_tzero w5 (Si w S)).2, fun a' g e => (by cases e; exact ⟨⟨fun i v hv => HX9.out.b.b1.c (0 + i) v (by simpa using hv)⟩, HA0.out, by have := HX9.out.size; omega⟩), HA.out.name⟩, fun a' g e => (by cases e; omega)⟩
        · exact ⟨⟨LR.lies_below HX9.out.below _ HA.out.ty, fun x hx => .inl ⟨lies_uses _ HA.out.ty x hx, HT.out x hx⟩, fun a' g e => (nomatch e), HA.out.arg⟩, fun a' g e => (nomatch e)⟩
    · rcases HF3.out with ⟨h0, h1⟩ | h1
      · have hl2 : rhos ≠ [] := by intro h2; apply hl; rw [h2, h0]; rfl
        have := rowE_lt HQ.out.row hl2 (h1 ▸ hp)
        omega
      · have := h1 ad hp
        omega
end
section
open Go.RowKit
theorem inner_any {w0 w : World} {S : Nat → Prop} {a : AH} {p q r : Option Addr} {n c m mc rn rc : Nat} {env : List BV} {rhos : List Int} {acc : List RV} (i : Nat) (hE : EnvAt w0 w S p n c env) (hq : IsRow encN 1 w q m mc rhos) (ha : AH.Own w a) (ha0 : AH.Own w0 a) (hS : ∀ b, w.heap.size ≤ b → S b) (hty : ∀ b ∈ usesR a.ty, S b) (hn : n ≤ 900000) (hm : m ≤ 900000)
    (hrn : a.rn ≤ 50) (hres : ResAt w S r rn rc acc) (hacc : a.kind = 12 → i = 1 → acc.length = 1) :
    Calls Tryz.prog 98 #[.agg #[.slice p n c, .slice q m mc], aggT a, .int .i64 (i : Int), .slice r rn rc] w (OutI w0 w S n m (innerE (erE env) a.plain i (erL acc)) (innerR rhos a.plain i)) := by
  have e : ((i : Int)).toNat = i := Int.toNat_natCast i
  have h0 : (0 : Int) ≤ (i : Int) := Int.natCast_nonneg i
  by_cases k11 : a.kind = 11
  · have := inner_fn (r := r) (rn := rn) (rc := rc) (acc := acc) (i := (i : Int)) hE hq ha ha0 hS hty hn hm k11
    rwa [e] at this
  by_cases k12 : a.kind = 12
  · by_cases hi : i = 1
    · subst hi
      have hl := hacc k12 rfl
      match acc, hres, hl with
      | [x], hres, _ =>
        obtain ⟨b, o, hp, _⟩ := hres.row.row.elem (j := 0) (x := x) rfl
        subst hp
        obtain rfl : rn = 1 := hres.row.len.symm
        exact inner_let1 hE hq ha ha0 hS hty hn hm hres k12
    · have := inner_let0 (r := r) (rn := rn) (rc := rc) (acc := acc) (i := (i : Int)) hE hq ha ha0 hS hty hn hm k12 h0 (by omega)
      rwa [e] at this
  by_cases k13 : a.kind = 13
  · by_cases hi : i = 0
    · subst hi
      exact inner_letrec0 hE hq ha ha0 hS hty hn hm hrn k13
    · have := inner_letrec (r := r) (rn := rn) (rc := rc) (acc := acc) (i := (i : Int)) hE hq ha ha0 hS hty hn hm k13 h0 (by omega)
      rwa [e] at this
  by_cases k16 : a.kind = 16
  · by_cases hi : i = 1
    · have := inner_handle (r := r) (rn := rn) (rc := rc) (acc := acc) (i := (i : Int)) hE hq ha ha0 hS hty hn hm k16 (by omega)
      rwa [e] at this
    · have := inner_handle0 (r := r) (rn := rn) (rc := rc) (acc := acc) (i := (i : Int)) hE hq ha ha0 hS hty hn hm k16 h0 (by omega)
      rwa [e] at this
  by_cases k17 : a.kind = 17
  · have := inner_region (r := r) (rn := rn) (rc := rc) (acc := acc) (i := (i : Int)) hE hq ha ha0 hS hty hn hm k17
    rwa [e] at this
  · have := inner_plain (r := r) (rn := rn) (rc := rc) (acc := acc) (i := (i : Int)) hE hq ha ha0 hS hty hn hm k11 k12 k13 k16 k17
    rwa [e] at this
end
section
open Go.RowKit
set_option maxHeartbeats 8000000 in
theorem rule_pair {w : World} {S : Nat → Prop} {a : AH} {b o c : Nat} {x y : RV} (h : RlIn w S a (some ⟨b, o, none⟩) 2 c [x, y]) (hk : a.kind = 3) : Calls Tryz.prog 99 #[aggT a, .slice (some ⟨b, o, none⟩) 2 c] w (OutC w S (ruleP a.plain (erL [x, y]))) := by
  have HX := hid (rls_new w a)
  have HH := hid h
  have hsum := h.sum
  have e3 : (a.kind == 3) = true := by simp [hk]
  have hc0 := HX.out.box.c 0 _ rfl
  have HRU : Hid (ruleP a.plain (erL [x, y]) = .ok (tyP 2 a.rho [] [x.ty.er, y.ty.er], allE (erL [x, y]) [aPut a.rho])) := by
    show _ = _
    unfold ruleP
    simp [show a.plain.kind = 3 from hk]
    try first | rfl | exact ⟨rfl, rfl⟩
  rw [HRU.out]
  clear h hk
  go_enter Tryz.func99, Tryz.ntmps99
  go_upto_region 4 with fail
  clear hc0 e3
  generalize (w.alloc (.cells #[.int .u8 a.kind, .int .u8 a.op, .int .i64 a.at_, .int .i64 a.n, .string a.name, .string a.arg, .string a.exn, .int .i64 a.rho, .slice a.rp a.rn a.rc, .slice a.ep a.en a.ec, .int .u8 a.ty.head.kind, .int .i64 a.ty.head.rho, .slice a.ty.head.ep a.ty.head.en a.ty.head.ec, .slice a.ty.head.kp a.ty.head.kn a.ty.head.kc, .int .u8 a.res.head.kind, .int .i64 a.res.head.rho, .slice a.res.head.ep a.res.head.en a.res.head.ec, .slice a.res.head.kp a.res.head.kn a.res.head.kc, .slice a.kp a.kn a.kc] 31)).alloc (.cells #[.int .u8 0, .int .i64 0, .slice none 0 0, .slice none 0 0, .slice none 0 0] 81) = W1 at *
  refine wp_region_held_drew (S := fun W' => RlS w a W') (by kernel_rfl) ?_ (fun hHeld => ?_)
  · exact HX.out.drew
  refine tk (i := 0) (oi := ⟨some 13, _, _, _, _, none⟩) (v := ?_) rfl (Or.inl ⟨by rfl, ?_⟩) ?_
  rotate_left; · intro w h; go_simp; try with_reducible rfl
  try simp only [Act.put, zA, zB, zC]
  refine tk (i := 1) (oi := ⟨some 14, _, _, _, _, none⟩) (v := ?_) rfl (Or.inl ⟨by rfl, ?_⟩) ?_
  rotate_left
  · intro w hSw; (try dsimp only at hSw); have q7 := hSw.box.c 7 _ rfl; go_simp; try with_reducible rfl
  try simp only [Act.put, zA, zB, zC]
  refine tk (i := 2) (oi := ⟨some 15, _, _, _, _, none⟩) (v := ?_) rfl (Or.inl ⟨by rfl, ?_⟩) ?_
  rotate_left; · intro w h; go_simp; try with_reducible rfl
  try simp only [Act.put, zA, zB, zC]
  refine tk (i := 3) (oi := ⟨some 16, _, _, _, _, none⟩) (v := ?_) rfl (Or.inl ⟨by rfl, ?_⟩) ?_
  rotate_left; · intro w h; go_simp; try with_reducible rfl
  try simp only [Act.put, zA, zB, zC]
  refine tk (i := 4) (oi := ⟨some 17, _, _, _, _, none⟩) (v := ?_) rfl (Or.inl ⟨by rfl, ?_⟩) ?_
  rotate_left; · intro w h; go_simp; try with_reducible rfl
  try simp only [Act.put, zA, zB, zC]
  refine tk (i := 5) (oi := ⟨some 18, _, _, _, _, none⟩) (v := .agg ([.int .u8 x.ty.head.kind, .int .i64 x.ty.head.rho, .slice x.ty.head.ep x.ty.head.en x.ty.head.ec, .slice x.ty.head.kp x.ty.head.kn x.ty.head.kc] : List Value).toArray) rfl (yieldsIf_load_mid (by rfl) 28 _ rfl b o rfl _ _ (fun W' hSw => rv_ty0 (HH.out.res.row.below hSw.below)) Tryz.underlying28 rfl (by kernel_rfl)) ?_
  try simp only [Act.put, zA, zB, zC]
  refine tk (i := 6) (oi := ⟨some 19, _, _, _, _, none⟩) (v := ?_) rfl (Or.inl ⟨by rfl, ?_⟩) ?_
  rotate_left; · intro w h; go_simp; try with_reducible rfl
  try simp only [Act.put, zA, zB, zC]
  refine tk (i := 7) (oi := ⟨some 20, _, _, _, _, none⟩) (v := ?_) rfl (Or.inl ⟨by rfl, ?_⟩) ?_
  rotate_left; · intro w h; go_simp; try with_reducible rfl
  try simp only [Act.put, zA, zB, zC]
  refine tk (i := 8) (oi := ⟨some 21, _, _, _, _, none⟩) (v := ?_) rfl (Or.inl ⟨by rfl, ?_⟩) ?_
  rotate_left; · intro w h; go_simp; try with_reducible rfl
  try simp only [Act.put, zA, zB, zC]
  refine tk (i := 9) (oi := ⟨some 22, _, _, _, _, none⟩) (v := .agg ([.int .u8 y.ty.head.kind, .int .i64 y.ty.head.rho, .slice y.ty.head.ep y.ty.head.en y.ty.head.ec, .slice y.ty.head.kp y.ty.head.kn y.ty.head.kc] : List Value).toArray) rfl (yieldsIf_load_mid (by rfl) 28 _ rfl b (o + 5) rfl _ _ (fun W' hSw => rv_ty1 (HH.out.res.row.below hSw.below)) Tryz.underlying28 rfl (by kernel_rfl)) ?_
  try simp only [Act.put, zA, zB, zC]
  refine tk (i := 12) (oi := ⟨some 25, _, _, _, _, none⟩) (v := ?_) rfl (Or.inl ⟨by rfl, ?_⟩) ?_
  rotate_left; · intro w h; go_simp; try with_reducible rfl
  try simp only [Act.put, zA, zB, zC]
  refine tk (i := 13) (oi := ⟨some 26, _, _, _, _, none⟩) (v := ?_) rfl (Or.inl ⟨by rfl, ?_⟩) ?_
  rotate_left; · intro w h; go_simp; try with_reducible rfl
  try simp only [Act.put, zA, zB, zC]
  refine tk (i := 14) (oi := ⟨some 27, _, _, _, _, none⟩) (v := ?_) rfl (Or.inl ⟨by rfl, ?_⟩) ?_
  rotate_left
  · intro w hSw; (try dsimp only at hSw); have q7 := hSw.box.c 7 _ rfl; go_simp; try with_reducible rfl
  try simp only [Act.put, zA, zB, zC]
  refine wpAnyH_ready (rs := [10]) (by kernel_rfl) (by simp) ?_
  refine AllReadyH.cons (o := ⟨some 23, _, _, _, _, none⟩) rfl (fun K hK => ?_) AllReadyH.nil
  go_simp
  refine hK.out _ _ ?_ (fun hNew => ?_)
  · (try dsimp only); exact hHeld.alloc _
  clear hHeld hK K; have hHeld := hNew; clear hNew
  try simp only [Act.put, zA, zB, zC]
  refine wpAnyH_ready (rs := [11]) (by kernel_rfl) (by simp) ?_
  refine AllReadyH.cons (o := ⟨some 24, _, _, _, _, none⟩) rfl (fun K hK => ?_) AllReadyH.nil
  go_simp
  go_at_call 136
  refine (check_of_any 2 a.rho (IsRow.none encA 3 _) (by omega) (some ⟨W1.heap.size, 0, none⟩) 2 2).mono ?_
  rintro e w2 ⟨q, m, qc, rfl, hrow, hfar, hb⟩
  have HR2 : Hid (IsRow encA 3 w2 q m qc []) := hrow
  have HT2 : Hid (RowT w2 (some ⟨W1.heap.size, 0, none⟩) 2 2 [x.ty, y.ty]) := ((rowT_two (LR.lies_below HX.out.below _ (HH.out.res.each x (by simp)).ty) (LR.lies_below HX.out.below _ (HH.out.res.each y (by simp)).ty) 28).below (bel_drew _)).below hb
  clear hrow hfar
  try go_wp2_with fail
  refine hK.out _ _ ?_ (fun hNew => ?_)
  · (try dsimp only); exact hHeld.step hb
  clear hHeld hK K; have hHeld := hNew; clear hNew
  try simp only [Act.put, zA, zB, zC]
  refine wpAnyH_ready (rs := [15]) (by kernel_rfl) (by simp) ?_
  refine AllReadyH.cons (o := ⟨some 28, _, _, _, _, none⟩) rfl (fun K hK => ?_) AllReadyH.nil
  go_simp
  go_at_call 138
  refine (check_put_any a.rho _).mono ?_
  rintro e w3 ⟨rfl, hb⟩
  have HB3 := hid hb
  try go_wp2_with fail
  refine hK.out _ _ ?_ (fun hNew => ?_)
  · (try dsimp only); exact hHeld.step hb
  clear hHeld hK K; have hHeld := hNew; clear hNew
  try simp only [Act.put, zA, zB, zC]
  refine wpAnyH_ready (rs := [16]) (by kernel_rfl) (by simp) ?_
  refine AllReadyH.cons (o := ⟨some 29, _, _, _, _, none⟩) rfl (fun K hK => ?_) AllReadyH.nil
  go_simp
  refine hK.out _ _ ?_ (fun hNew => ?_)
  · (try dsimp only); exact hHeld.alloc _
  clear hHeld hK K; have hHeld := hNew; clear hNew
  try simp only [Act.put, zA, zB, zC]
  refine wpAnyH_ready (rs := [17]) (by kernel_rfl) (by simp) ?_
  refine AllReadyH.cons (o := ⟨some 30, _, _, _, _, none⟩) rfl (fun K hK => ?_) AllReadyH.nil
  go_simp
  go_at_call 140
  refine (check_all_any (HH.out.res.row.below hHeld.below) (fun r hr => ((HH.out.res.each r hr).below hHeld.below).eff) (atomRow w3 (aPut a.rho)) (by decide) (by omega)).mono ?_
  rintro e w5 ⟨v5, k5, rfl, hown5, hb⟩
  obtain ⟨q5, c5, rfl, hrow5⟩ := OwnE.isRow encA_len (by omega) hown5
  have hfar5 := (fun ad hp => by subst hp; exact OwnE.from hown5 ad.block rfl : ∀ ad, q5 = some ad → (w3.alloc (.cells #[.int .u8 (aPut a.rho).kind, .int .i64 (aPut a.rho).rho, .string (aPut a.rho).exn] 59)).heap.size ≤ ad.block)
  have HR5 := hid hrow5
  have HF5 := hid hfar5
  have HB5 := hid hb
  clear hown5 hrow5 hfar5
  try go_wp2_with fail
  refine hK.out _ _ ?_ (fun hNew => ?_)
  · (try dsimp only); exact hHeld.step hb
  clear hHeld hK K; have hHeld := hNew; clear hNew
  try simp only [Act.put, zA, zB, zC]
  refine tk (i := 18) (oi := ⟨some 31, _, _, _, _, none⟩) (v := ?_) rfl (Or.inl ⟨by rfl, ?_⟩) ?_
  rotate_left; · intro w h; go_simp; try with_reducible rfl
  try simp only [Act.put, zA, zB, zC]
  refine wpAnyH_ready (rs := [19]) (by kernel_rfl) (by simp) ?_
  refine AllReadyH.cons (o := ⟨none, _, _, _, _, none⟩) rfl (fun K hK => ?_) AllReadyH.nil
  have HX9 := hid hHeld
  refine step_store_res rfl _ _ _ (by rfl) hHeld #[.int .u8 2, .int .i64 a.rho, .slice q m qc, .slice (some ⟨W1.heap.size, 0, none⟩) 2 2, .slice q5 k5 c5] (by rfl) (by rfl) (by kernel_rfl) rfl (by simp [Value.oneCell']) ?_
  refine hK.out _ _ ?_ (fun hNew => ?_)
  · (try dsimp only); exact hHeld.store rfl
  clear hHeld hK K; have hHeld := hNew; clear hNew
  try simp only [Act.put, zA, zB, zC]
  refine wpAnyH_done (by kernel_rfl) ?_ _
  clear hHeld
  go_wp2_with fail
  refine bodyPost_ret (results_cell_row rfl _ _ _ _ _ _ _ rfl (HX9.out.heap _) Tryz.underlying81 rfl (by kernel_rfl)) rfl ?_
  have hown := HH.out.own
  have hb35 : Below w2.heap.size w2 w5 := bel_step (bel_alloc HB3.out _) HB5.out
  have hs1 := HX.out.size
  refine out_of (y := ⟨.node ⟨2, a.rho, q, m, qc, [], some ⟨W1.heap.size, 0, none⟩, 2, 2⟩ [x.ty, y.ty], q5, k5, c5, allE (erL [x, y]) [aPut a.rho]⟩) HX9.out HH.out.new ⟨pair_lies (by decide) hown.rho (HR2.out.below hb35) (fun x hx => (nomatch hx)) (HT2.out.below hb35), ?_, HR5.out, allE_ok (fun r hr => (HH.out.res.each r hr).eok) (fun z hz => by rw [List.mem_singleton] at hz; subst hz; exact okAt_put hown.rho.1 hown.rho.2), fun _ ad hp => .inr ?_⟩ rfl
  · have hr := res_sn HH.out.res (Below.refl _ _)
    exact pair_uses (hr.each x (by simp)).uses (hr.each y (by simp)).uses (.inr hs1) (fun h => absurd rfl h)
  · have h1 := HF5.out ad hp
    have h2 := HB3.out.size
    have h3 := HT2.out
    simp only [World.size_alloc] at h1
    have h4 : W1.heap.size ≤ w2.heap.size := by
      obtain ⟨b', o', e1, e2, _⟩ := HT2.out.kid (j := 0) rfl
      cases e1; omega
    omega
set_option maxHeartbeats 8000000 in
theorem rule_ref {w : World} {S : Nat → Prop} {a : AH} {b o c : Nat} {x : RV} (h : RlIn w S a (some ⟨b, o, none⟩) 1 c [x]) (hk : a.kind = 6) : Calls Tryz.prog 99 #[aggT a, .slice (some ⟨b, o, none⟩) 1 c] w (OutC w S (ruleP a.plain (erL [x]))) := by
  have HX := hid (rls_new w a)
  have HH := hid h
  have hsum := h.sum
  have e3 : (a.kind == 3) = false := by simp [hk]
  have e4 : (a.kind == 4) = false := by simp [hk]
  have e5 : (a.kind == 5) = false := by simp [hk]
  have e6 : (a.kind == 6) = true := by simp [hk]
  have hc0 := HX.out.box.c 0 _ rfl
  have HRU : Hid (ruleP a.plain (erL [x]) = .ok (tyP 3 a.rho [] [x.ty.er], allE (erL [x]) [aPut a.rho])) := by
    show _ = _
    unfold ruleP
    simp [show a.plain.kind = 6 from hk]
    try first | rfl | exact ⟨rfl, rfl⟩
  rw [HRU.out]
  clear h hk
  go_enter Tryz.func99, Tryz.ntmps99
  go_upto_region 10 with fail
  clear hc0 e3 e4 e5 e6
  generalize (w.alloc (.cells #[.int .u8 a.kind, .int .u8 a.op, .int .i64 a.at_, .int .i64 a.n, .string a.name, .string a.arg, .string a.exn, .int .i64 a.rho, .slice a.rp a.rn a.rc, .slice a.ep a.en a.ec, .int .u8 a.ty.head.kind, .int .i64 a.ty.head.rho, .slice a.ty.head.ep a.ty.head.en a.ty.head.ec, .slice a.ty.head.kp a.ty.head.kn a.ty.head.kc, .int .u8 a.res.head.kind, .int .i64 a.res.head.rho, .slice a.res.head.ep a.res.head.en a.res.head.ec, .slice a.res.head.kp a.res.head.kn a.res.head.kc, .slice a.kp a.kn a.kc] 31)).alloc (.cells #[.int .u8 0, .int .i64 0, .slice none 0 0, .slice none 0 0, .slice none 0 0] 81) = W1 at *
  refine wp_region_held_drew (S := fun W' => RlS w a W') (by kernel_rfl) ?_ (fun hHeld => ?_)
  · exact HX.out.drew
  refine tk (i := 0) (oi := ⟨some 64, _, _, _, _, none⟩) (v := ?_) rfl (Or.inl ⟨by rfl, ?_⟩) ?_
  rotate_left; · intro w h; go_simp; try with_reducible rfl
  try simp only [Act.put, zA, zB, zC]
  refine tk (i := 1) (oi := ⟨some 65, _, _, _, _, none⟩) (v := ?_) rfl (Or.inl ⟨by rfl, ?_⟩) ?_
  rotate_left
  · intro w hSw; (try dsimp only at hSw); have q7 := hSw.box.c 7 _ rfl; go_simp; try with_reducible rfl
  try simp only [Act.put, zA, zB, zC]
  refine tk (i := 2) (oi := ⟨some 66, _, _, _, _, none⟩) (v := ?_) rfl (Or.inl ⟨by rfl, ?_⟩) ?_
  rotate_left; · intro w h; go_simp; try with_reducible rfl
  try simp only [Act.put, zA, zB, zC]
  refine tk (i := 3) (oi := ⟨some 67, _, _, _, _, none⟩) (v := ?_) rfl (Or.inl ⟨by rfl, ?_⟩) ?_
  rotate_left; · intro w h; go_simp; try with_reducible rfl
  try simp only [Act.put, zA, zB, zC]
  refine tk (i := 4) (oi := ⟨some 68, _, _, _, _, none⟩) (v := ?_) rfl (Or.inl ⟨by rfl, ?_⟩) ?_
  rotate_left; · intro w h; go_simp; try with_reducible rfl
  try simp only [Act.put, zA, zB, zC]
  refine tk (i := 5) (oi := ⟨some 69, _, _, _, _, none⟩) (v := .agg ([.int .u8 x.ty.head.kind, .int .i64 x.ty.head.rho, .slice x.ty.head.ep x.ty.head.en x.ty.head.ec, .slice x.ty.head.kp x.ty.head.kn x.ty.head.kc] : List Value).toArray) rfl (yieldsIf_load_mid (by rfl) 28 _ rfl b o rfl _ _ (fun W' hSw => rv_ty0 (HH.out.res.row.below hSw.below)) Tryz.underlying28 rfl (by kernel_rfl)) ?_
  try simp only [Act.put, zA, zB, zC]
  refine tk (i := 8) (oi := ⟨some 72, _, _, _, _, none⟩) (v := ?_) rfl (Or.inl ⟨by rfl, ?_⟩) ?_
  rotate_left; · intro w h; go_simp; try with_reducible rfl
  try simp only [Act.put, zA, zB, zC]
  refine tk (i := 9) (oi := ⟨some 73, _, _, _, _, none⟩) (v := ?_) rfl (Or.inl ⟨by rfl, ?_⟩) ?_
  rotate_left; · intro w h; go_simp; try with_reducible rfl
  try simp only [Act.put, zA, zB, zC]
  refine tk (i := 10) (oi := ⟨some 74, _, _, _, _, none⟩) (v := ?_) rfl (Or.inl ⟨by rfl, ?_⟩) ?_
  rotate_left
  · intro w hSw; (try dsimp only at hSw); have q7 := hSw.box.c 7 _ rfl; go_simp; try with_reducible rfl
  try simp only [Act.put, zA, zB, zC]
  refine wpAnyH_ready (rs := [6]) (by kernel_rfl) (by simp) ?_
  refine AllReadyH.cons (o := ⟨some 70, _, _, _, _, none⟩) rfl (fun K hK => ?_) AllReadyH.nil
  go_simp
  refine hK.out _ _ ?_ (fun hNew => ?_)
  · (try dsimp only); exact hHeld.alloc _
  clear hHeld hK K; have hHeld := hNew; clear hNew
  try simp only [Act.put, zA, zB, zC]
  refine wpAnyH_ready (rs := [7]) (by kernel_rfl) (by simp) ?_
  refine AllReadyH.cons (o := ⟨some 71, _, _, _, _, none⟩) rfl (fun K hK => ?_) AllReadyH.nil
  go_simp
  go_at_call 136
  refine (check_of_any 3 a.rho (IsRow.none encA 3 _) (by omega) (some ⟨W1.heap.size, 0, none⟩) 1 1).mono ?_
  rintro e w2 ⟨q, m, qc, rfl, hrow, hfar, hb⟩
  have HR2 : Hid (IsRow encA 3 w2 q m qc []) := hrow
  have HT2 : Hid (RowT w2 (some ⟨W1.heap.size, 0, none⟩) 1 1 [x.ty]) := ((rowT_made (LR.lies_below HX.out.below _ (HH.out.res.each x (by simp)).ty) 28).below (bel_drew _)).below hb
  clear hrow hfar
  try go_wp2_with fail
  refine hK.out _ _ ?_ (fun hNew => ?_)
  · (try dsimp only); exact hHeld.step hb
  clear hHeld hK K; have hHeld := hNew; clear hNew
  try simp only [Act.put, zA, zB, zC]
  refine wpAnyH_ready (rs := [11]) (by kernel_rfl) (by simp) ?_
  refine AllReadyH.cons (o := ⟨some 75, _, _, _, _, none⟩) rfl (fun K hK => ?_) AllReadyH.nil
  go_simp
  go_at_call 138
  refine (check_put_any a.rho _).mono ?_
  rintro e w3 ⟨rfl, hb⟩
  have HB3 := hid hb
  try go_wp2_with fail
  refine hK.out _ _ ?_ (fun hNew => ?_)
  · (try dsimp only); exact hHeld.step hb
  clear hHeld hK K; have hHeld := hNew; clear hNew
  try simp only [Act.put, zA, zB, zC]
  refine wpAnyH_ready (rs := [12]) (by kernel_rfl) (by simp) ?_
  refine AllReadyH.cons (o := ⟨some 76, _, _, _, _, none⟩) rfl (fun K hK => ?_) AllReadyH.nil
  go_simp
  refine hK.out _ _ ?_ (fun hNew => ?_)
  · (try dsimp only); exact hHeld.alloc _
  clear hHeld hK K; have hHeld := hNew; clear hNew
  try simp only [Act.put, zA, zB, zC]
  refine wpAnyH_ready (rs := [13]) (by kernel_rfl) (by simp) ?_
  refine AllReadyH.cons (o := ⟨some 77, _, _, _, _, none⟩) rfl (fun K hK => ?_) AllReadyH.nil
  go_simp
  go_at_call 140
  refine (check_all_any (HH.out.res.row.below hHeld.below) (fun r hr => ((HH.out.res.each r hr).below hHeld.below).eff) (atomRow w3 (aPut a.rho)) (by decide) (by omega)).mono ?_
  rintro e w5 ⟨v5, k5, rfl, hown5, hb⟩
  obtain ⟨q5, c5, rfl, hrow5⟩ := OwnE.isRow encA_len (by omega) hown5
  have hfar5 := (fun ad hp => by subst hp; exact OwnE.from hown5 ad.block rfl : ∀ ad, q5 = some ad → (w3.alloc (.cells #[.int .u8 (aPut a.rho).kind, .int .i64 (aPut a.rho).rho, .string (aPut a.rho).exn] 59)).heap.size ≤ ad.block)
  have HR5 := hid hrow5
  have HF5 := hid hfar5
  have HB5 := hid hb
  clear hown5 hrow5 hfar5
  try go_wp2_with fail
  refine hK.out _ _ ?_ (fun hNew => ?_)
  · (try dsimp only); exact hHeld.step hb
  clear hHeld hK K; have hHeld := hNew; clear hNew
  try simp only [Act.put, zA, zB, zC]
  refine tk (i := 14) (oi := ⟨some 78, _, _, _, _, none⟩) (v := ?_) rfl (Or.inl ⟨by rfl, ?_⟩) ?_
  rotate_left; · intro w h; go_simp; try with_reducible rfl
  try simp only [Act.put, zA, zB, zC]
  refine wpAnyH_ready (rs := [15]) (by kernel_rfl) (by simp) ?_
  refine AllReadyH.cons (o := ⟨none, _, _, _, _, none⟩) rfl (fun K hK => ?_) AllReadyH.nil
  have HX9 := hid hHeld
  refine step_store_res rfl _ _ _ (by rfl) hHeld #[.int .u8 3, .int .i64 a.rho, .slice q m qc, .slice (some ⟨W1.heap.size, 0, none⟩) 1 1, .slice q5 k5 c5] (by rfl) (by rfl) (by kernel_rfl) rfl (by simp [Value.oneCell']) ?_
  refine hK.out _ _ ?_ (fun hNew => ?_)
  · (try dsimp only); exact hHeld.store rfl
  clear hHeld hK K; have hHeld := hNew; clear hNew
  try simp only [Act.put, zA, zB, zC]
  refine wpAnyH_done (by kernel_rfl) ?_ _
  clear hHeld
  go_wp2_with fail
  refine bodyPost_ret (results_cell_row rfl _ _ _ _ _ _ _ rfl (HX9.out.heap _) Tryz.underlying81 rfl (by kernel_rfl)) rfl ?_
  have hown := HH.out.own
  have hb35 : Below w2.heap.size w2 w5 := bel_step (bel_alloc HB3.out _) HB5.out
  have hs1 := HX.out.size
  refine out_of (y := ⟨.node ⟨3, a.rho, q, m, qc, [], some ⟨W1.heap.size, 0, none⟩, 1, 1⟩ [x.ty], q5, k5, c5, allE (erL [x]) [aPut a.rho]⟩) HX9.out HH.out.new ⟨one_lies (by decide) hown.rho (HR2.out.below hb35) (fun x hx => (nomatch hx)) (HT2.out.below hb35), ?_, HR5.out, allE_ok (fun r hr => (HH.out.res.each r hr).eok) (fun z hz => by rw [List.mem_singleton] at hz; subst hz; exact okAt_put hown.rho.1 hown.rho.2), fun _ ad hp => .inr ?_⟩ rfl
  · have hr := res_sn HH.out.res (Below.refl _ _)
    exact one_uses (hr.each x (by simp)).uses (.inr hs1) (fun h => absurd rfl h)
  · have h1 := HF5.out ad hp
    have h2 := HB3.out.size
    simp only [World.size_alloc] at h1
    have h4 : W1.heap.size ≤ w2.heap.size := by
      obtain ⟨b', o', e1, e2, _⟩ := HT2.out.kid (j := 0) rfl
      cases e1; omega
    omega
end
end Go.Proofs.YtkdjnegfnhldpaaGreatDoor
