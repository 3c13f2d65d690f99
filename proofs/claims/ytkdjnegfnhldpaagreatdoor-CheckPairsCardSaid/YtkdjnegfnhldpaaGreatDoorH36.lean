/- Part 36: Kc, Kq, Kr, Ks, Mr, Mk. -/
import Derived.Test.YtkdjnegfnhldpaaGreatDoorH34
import Derived.Test.YtkdjnegfnhldpaaGreatDoorH35
import Derived.Test.YtkdjnegfnhldpaaGreatDoorH26
import Derived.Test.YtkdjnegfnhldpaaGreatDoorH18
import Derived.Test.YtkdjnegfnhldpaaGreatDoorH17
import Derived.Test.YtkdjnegfnhldpaaGreatDoorH01
set_option linter.unusedVariables false
set_option maxRecDepth 100000
set_option linter.unusedSimpArgs false
namespace Go.Proofs.YtkdjnegfnhldpaaGreatDoor
open Go.Lib (hid)
section
open Go.RowKit
theorem ChkIn.later {w0 w W : World} {S : Nat → Prop} {t : PA} {p q : Option Addr} {n c m mc : Nat} {env : List BV} {rhos : List Int} (h : ChkIn w0 w S t p q n c m mc env rhos) (hb : Below w.heap.size w W) (hs : w.heap.size + 3 ≤ W.heap.size) : ChkIn w0 W (Si w S) t p q n c m mc env rhos :=
  ⟨h.old.trans (hb.mono h.old.size), h.lies, h.small, h.good, env_si h.envA hb, h.rhosA.below hb, h.genv, fun b hlt => .inl ⟨Nat.lt_of_lt_of_le hlt h.old.size, h.s0 b hlt⟩, fun b hb' => .inr (by omega), h.hn, h.hm, h.hs⟩
theorem found_any {w0 w : World} {S : Nat → Prop} {a : AH} {l : List PA} {p q : Option Addr} {n c m mc : Nat} {env : List BV} {rhos : List Int} (h : ChkIn w0 w S (.node a l) p q n c m mc env rhos) (ih : ∀ t ∈ l, NodeAt w0 t) :
    Calls Tryz.prog 63 #[.agg #[.slice p n c, .slice q m mc], aggT a] w (OutC w S (foundP (erE env) rhos a.plain (l.map PA.er))) := by
  cases hu : regionsB a.plain rhos with
  | false => exact found_no h hu
  | true =>
    by_cases h2 : a.kind = 2
    · exact found_var h hu h2
    · by_cases h18 : a.kind = 18
      · exact found_inst h hu h18 (fun W hb hs => scope_inst_any (h.later hb hs))
      · exact found_kids h hu h2 h18 ih
theorem nodeAt_any {w0 : World} (t : PA) : NodeAt w0 t := by
  refine Rose.ind (P := fun (t : PA) => NodeAt w0 t) (fun a l ih => ?_) t
  intro w S p q n c m mc env rhos h
  rw [PA.er_node, chk_node]
  have hg := h.good
  rw [PA.er_node] at hg
  exact scope_node_of h.new (fun W hb hs => found_any (h.later hb hs) ih) (fun x hx => found_size hg.head h.genv hx)
end
section
open Go.RowKit
theorem chs_new (w : World) (a : AH) : ChS w a (((((w.alloc (boxA a)).alloc (.cells #[.int .u8 0, .int .i64 0, .slice none 0 0, .slice none 0 0] 28)).alloc (.cells #[.slice none 0 0] 25)).alloc (.cells #[.int .i64 0] 3)).alloc (.cells #[.int .i64 0] 34)) := by
  have e1 := heap_alloc_new (w.alloc (boxA a)) (.cells #[.int .u8 0, .int .i64 0, .slice none 0 0, .slice none 0 0] 28)
  have e2 := heap_alloc_new ((w.alloc (boxA a)).alloc (.cells #[.int .u8 0, .int .i64 0, .slice none 0 0, .slice none 0 0] 28)) (.cells #[.slice none 0 0] 25)
  have e3 := heap_alloc_new (((w.alloc (boxA a)).alloc (.cells #[.int .u8 0, .int .i64 0, .slice none 0 0, .slice none 0 0] 28)).alloc (.cells #[.slice none 0 0] 25)) (.cells #[.int .i64 0] 3)
  have e4 := heap_alloc_new ((((w.alloc (boxA a)).alloc (.cells #[.int .u8 0, .int .i64 0, .slice none 0 0, .slice none 0 0] 28)).alloc (.cells #[.slice none 0 0] 25)).alloc (.cells #[.int .i64 0] 3)) (.cells #[.int .i64 0] 34)
  simp only [World.size_alloc] at e1 e2 e3 e4
  have hb1 : Below w.heap.size w (w.alloc (boxA a)) := (Below.refl _ _).alloc (Nat.le_refl _) _
  have hb2 : ∀ {W : World} (o : Obj), Below W.heap.size W (W.alloc o) := fun o => (Below.refl _ _).alloc (Nat.le_refl _) o
  have hb3 : Below (w.alloc (boxA a)).heap.size (w.alloc (boxA a)) (((((w.alloc (boxA a)).alloc (.cells #[.int .u8 0, .int .i64 0, .slice none 0 0, .slice none 0 0] 28)).alloc (.cells #[.slice none 0 0] 25)).alloc (.cells #[.int .i64 0] 3)).alloc (.cells #[.int .i64 0] 34)) := (((hb2 _).trans ((hb2 _).mono (by simp only [World.size_alloc]; omega))).trans ((hb2 _).mono (by simp only [World.size_alloc]; omega))).trans ((hb2 _).mono (by simp only [World.size_alloc]; omega))
  refine ⟨(boxA_new w a).below hb3, ⟨#[.int .u8 0, .int .i64 0, .slice none 0 0, .slice none 0 0], rfl, ?_⟩, ⟨.slice none 0 0, ?_⟩, ⟨.int .i64 0, ?_⟩, ⟨.int .i64 0, e4⟩, hb1.trans (hb3.mono (by simp only [World.size_alloc]; omega)), by simp only [World.size_alloc]; omega⟩
  · rw [Below.heap_alloc _ _ _ (by simp), Below.heap_alloc _ _ _ (by simp), Below.heap_alloc _ _ _ (by simp)]; exact e1
  · rw [Below.heap_alloc _ _ _ (by simp), Below.heap_alloc _ _ _ (by simp)]; exact e2
  · rw [Below.heap_alloc _ _ _ (by simp)]; exact e3
theorem chs_zero (w : World) (a : AH) : (((((w.alloc (boxA a)).alloc (.cells #[.int .u8 0, .int .i64 0, .slice none 0 0, .slice none 0 0] 28)).alloc (.cells #[.slice none 0 0] 25)).alloc (.cells #[.int .i64 0] 3)).alloc (.cells #[.int .i64 0] 34)).heap[w.heap.size + 1]? = some (.cells #[.int .u8 0, .int .i64 0, .slice none 0 0, .slice none 0 0] 28 (0, 0)) := by
  have e1 := heap_alloc_new (w.alloc (boxA a)) (.cells #[.int .u8 0, .int .i64 0, .slice none 0 0, .slice none 0 0] 28)
  simp only [World.size_alloc] at e1
  rw [Below.heap_alloc _ _ _ (by simp), Below.heap_alloc _ _ _ (by simp), Below.heap_alloc _ _ _ (by simp)]; exact e1
structure ChZ (w W : World) : Prop where
  o : W.heap[w.heap.size + 1]? = some (.cells #[.int .u8 0, .int .i64 0, .slice none 0 0, .slice none 0 0] 28 (0, 0))
  m : W.heap[w.heap.size + 1 + 1]? = some (.cells #[.slice none 0 0] 25 (0, 0))
  at_ : W.heap[w.heap.size + 1 + 1 + 1]? = some (.cells #[.int .i64 0] 3 (0, 0))
  e : W.heap[w.heap.size + 1 + 1 + 1 + 1]? = some (.cells #[.int .i64 0] 34 (0, 0))
theorem ChZ.step {w W W' : World} (h : ChZ w W) (hb : Below W.heap.size W W') : ChZ w W' := ⟨(hb.block _ (lt_heap h.o)).trans h.o, (hb.block _ (lt_heap h.m)).trans h.m, (hb.block _ (lt_heap h.at_)).trans h.at_, (hb.block _ (lt_heap h.e)).trans h.e⟩
theorem chz_new (w : World) (a : AH) : ChZ w (((((w.alloc (boxA a)).alloc (.cells #[.int .u8 0, .int .i64 0, .slice none 0 0, .slice none 0 0] 28)).alloc (.cells #[.slice none 0 0] 25)).alloc (.cells #[.int .i64 0] 3)).alloc (.cells #[.int .i64 0] 34)) := by
  have e1 := heap_alloc_new (w.alloc (boxA a)) (.cells #[.int .u8 0, .int .i64 0, .slice none 0 0, .slice none 0 0] 28)
  have e2 := heap_alloc_new ((w.alloc (boxA a)).alloc (.cells #[.int .u8 0, .int .i64 0, .slice none 0 0, .slice none 0 0] 28)) (.cells #[.slice none 0 0] 25)
  have e3 := heap_alloc_new (((w.alloc (boxA a)).alloc (.cells #[.int .u8 0, .int .i64 0, .slice none 0 0, .slice none 0 0] 28)).alloc (.cells #[.slice none 0 0] 25)) (.cells #[.int .i64 0] 3)
  have e4 := heap_alloc_new ((((w.alloc (boxA a)).alloc (.cells #[.int .u8 0, .int .i64 0, .slice none 0 0, .slice none 0 0] 28)).alloc (.cells #[.slice none 0 0] 25)).alloc (.cells #[.int .i64 0] 3)) (.cells #[.int .i64 0] 34)
  simp only [World.size_alloc] at e1 e2 e3 e4
  refine ⟨?_, ?_, ?_, e4⟩
  · rw [Below.heap_alloc _ _ _ (by simp), Below.heap_alloc _ _ _ (by simp), Below.heap_alloc _ _ _ (by simp)]; exact e1
  · rw [Below.heap_alloc _ _ _ (by simp), Below.heap_alloc _ _ _ (by simp)]; exact e2
  · rw [Below.heap_alloc _ _ _ (by simp)]; exact e3
theorem atoms_far {W : World} {p : Option Addr} {n c g : Nat} {l : List Atom} {cs : Array Value} {t : TypeId} (h : IsRow encA 3 W p n c l) (hl : l ≠ []) (hg : W.heap[g]? = some (.cells cs t (0, 0))) (hno : ∀ (i : Nat) (s : ByteArray), cs[i]? ≠ some (.string s)) {ad : Addr} (hp : p = some ad) : ad.block ≠ g := by
  cases l with
  | nil => exact absurd rfl hl
  | cons x l =>
    obtain ⟨b, o, hp', _, hc⟩ := h.row.elem (j := 0) (x := x) rfl
    rw [hp'] at hp; cases hp
    intro e
    have e' : b = g := e
    subst e'
    have h2 := hc 2 (.string x.exn) rfl
    rw [Lib.cell_of_heap hg] at h2
    exact hno _ _ h2
theorem uses_far {N B E : Nat} {w W : World} (hz : ChZ w W) (hB : w.heap.size + 5 ≤ B) (y : PT) : LR.lies W y → SpanR N B E y → ∀ b ∈ usesR y, b ≠ w.heap.size + 1 ∧ b ≠ w.heap.size + 1 + 1 ∧ b ≠ w.heap.size + 1 + 1 + 1 ∧ b ≠ w.heap.size + 1 + 1 + 1 + 1 := by
  refine Rose.ind (P := fun (y : PT) => LR.lies W y → SpanR N B E y → ∀ b ∈ usesR y, b ≠ w.heap.size + 1 ∧ b ≠ w.heap.size + 1 + 1 ∧ b ≠ w.heap.size + 1 + 1 + 1 ∧ b ≠ w.heap.size + 1 + 1 + 1 + 1) (fun a l ih hl hs b hb => ?_) y
  have hn := nodeIn hl
  have h0 := hs a (by rw [Rose.nodes_node]; simp)
  have n4 : ∀ (i : Nat) (s : ByteArray), (#[.int .u8 0, .int .i64 0, .slice none 0 0, .slice none 0 0] : Array Value)[i]? ≠ some (.string s) := fun i s => by
    match i with
    | 0 => simp
    | 1 => simp
    | 2 => simp
    | 3 => simp
    | i + 4 => simp
  have n1 : ∀ (v : Value), (∀ s, v ≠ .string s) → ∀ (i : Nat) (s : ByteArray), (#[v] : Array Value)[i]? ≠ some (.string s) := fun v hv i s => by
    match i with
    | 0 => simpa using hv s
    | i + 1 => simp
  rcases usesR_cases hb with ⟨_, ad, hp, rfl⟩ | ⟨he, ad, hp, rfl⟩ | ⟨u, hu, hb⟩
  · have := (h0.1 ad hp).1
    omega
  · exact ⟨atoms_far hn.own.eff he hz.o n4 hp, atoms_far hn.own.eff he hz.m (n1 _ (fun s e => (nomatch e))) hp, atoms_far hn.own.eff he hz.at_ (n1 _ (fun s e => (nomatch e))) hp, atoms_far hn.own.eff he hz.e (n1 _ (fun s e => (nomatch e))) hp⟩
  · exact ih u hu (hn.each u hu) (fun x hx => hs x (by rw [Rose.nodes_node, List.mem_cons, List.mem_flatten]; exact .inr ⟨u.nodes, List.mem_map_of_mem hu, hx⟩)) b hb
def CheckOut (r : ChkR) (e : Ending) (w' : World) : Prop :=
  match r with
  | .ok x => ∃ (y : PT) (q : Option Addr) (m qc : Nat), e = .returned (.tuple #[aggR y.head, .slice q m qc, .int .i64 0, .int .i64 0]) ∧ LR.lies w' y ∧ PT.er y = x.1 ∧ IsRow encA 3 w' q m qc x.2
  | .error (z, no) => e = .returned (.tuple #[.agg #[.int .u8 0, .int .i64 0, .slice none 0 0, .slice none 0 0], .slice none 0 0, .int .i64 z, .int .i64 no])
theorem ChR.res {w W : World} {a : AH} {cs : Array Value} {v2 v3 v4 : Value} (h : ChR w a cs v2 v3 v4 W) (h4 : cs.size = 4) :
    (∀ i v, cs[i]? = some v → W.cell? ⟨w.heap.size + 1, i, none⟩ = some v) ∧ W.cell? ⟨w.heap.size + 1 + 1, 0, none⟩ = some v2 ∧ W.cell? ⟨w.heap.size + 1 + 1 + 1, 0, none⟩ = some v3 ∧ W.cell? ⟨w.heap.size + 1 + 1 + 1 + 1, 0, none⟩ = some v4 :=
  ⟨fun i v hv => by rw [Lib.cell_of_heap h.o]; exact hv, (cell1 h.m).1, (cell1 h.at_).1, (cell1 h.e).1⟩
set_option maxHeartbeats 8000000 in
theorem check_arg {w : World} {a : AH} {l : List PA} (hl : LA.lies w (.node a l)) (hs : SmallNs (.node a l)) (hz : (Rose.node a l).size ≤ 1000) (hv : Vr w) (hm : mayA (.node a l) = false) :
    Calls Tryz.prog 12 #[aggT a] w fun e w' => CheckOut (.error (0, 1)) e w' ∧ Below w.heap.size w w' := by
  have HX := hid (chs_new w a)
  have HO := hid (chs_zero w a)
  have HL := hid hl
  have HS := hid hs
  have HV := hid hv
  have HZ := hid hz
  have hmf : ∀ (fn : Fn) (first cap : Array Value) (w : World), (Instr.makeFunc fn first cap).run Tryz.prog w = .ok (.func fn first cap) w := fun _ _ _ _ => rfl
  clear hl hs hv hz
  have HM := hid hm
  clear hm
  go_enter_defers Tryz.func12, Tryz.ntmps12
  go_upto_region 1 with fail
  generalize (((((w.alloc (boxA a)).alloc (.cells #[.int .u8 0, .int .i64 0, .slice none 0 0, .slice none 0 0] 28)).alloc (.cells #[.slice none 0 0] 25)).alloc (.cells #[.int .i64 0] 3)).alloc (.cells #[.int .i64 0] 34)) = W1 at *
  go_upto_region 2 with (first
    | (refine wpList_load_row rfl 31 _ rfl w.heap.size rfl 31 _ (0, 0) _ HX.out.box.blk Tryz.underlying31 rfl (by kernel_rfl) ?_)
    | (go_at_call 35; refine (aterm_May_any (Rose.node a l) (LA.lies_below HX.out.below _ HL.out) HS.out HZ.out (HV.out.below HX.out.below)).mono ?_; rw [HM.out]; rintro e w2 ⟨rfl, hb⟩; have HX2 := hid (HX.out.step hb); have HO2 := hid ((hb.block _ (lt_heap HO.out)).trans HO.out); clear hb))
  have hA := HX2.out.w1 (cs := #[.int .u8 0, .int .i64 0, .slice none 0 0, .slice none 0 0]) rfl
  obtain ⟨v2, h2⟩ := hA.m
  obtain ⟨q2, f2⟩ := cell1 h2
  have hB := hA.wset (b := w.heap.size + 1 + 1) (.inl rfl) (.slice none 0 0)
  obtain ⟨v3, h3⟩ := hB.at_
  obtain ⟨q3, f3⟩ := cell1 h3
  have hC := hB.wset (b := w.heap.size + 1 + 1 + 1) (.inr (.inl rfl)) (.int .i64 0)
  obtain ⟨v4, h4⟩ := hC.e
  obtain ⟨q4, f4⟩ := cell1 h4
  have HR := hid (HX2.out.fill (cs := #[.int .u8 0, .int .i64 0, .slice none 0 0, .slice none 0 0]) rfl (.slice none 0 0) (.int .i64 0) (.int .i64 1))
  clear hA h2 hB h3 hC h4
  go_wp2_with (first
    | (refine wpList_load_row rfl 28 _ rfl (w.heap.size + 1) rfl 28 _ (0, 0) _ HO2.out Tryz.underlying28 rfl (by kernel_rfl) ?_)
    | (refine wpList_store_row rfl 28 _ _ rfl (w.heap.size + 1) #[.int .u8 0, .int .i64 0, .slice none 0 0, .slice none 0 0] rfl rfl 28 _ HO2.out (by kernel_rfl) rfl (by simp [Value.oneCell']) ?_))
  obtain ⟨r1, r2, r3, r4⟩ := HR.out.res rfl
  have r10 := r1 0 _ rfl
  have r11 := r1 1 _ rfl
  have r12 := r1 2 _ rfl
  have r13 := r1 3 _ rfl
  clear r1 q2 q3 q4 f2 f3 f4
  have HB := hid HR.out.below
  unfold bodyPostD
  simp [Leaves, settle, results, Tryz.results12, go_sem, r10, r11, r12, r13, r2, r3, r4]
  exact ⟨rfl, HB.out⟩
set_option maxHeartbeats 8000000 in
theorem check_twice {w : World} {a : AH} {l : List PA} (hl : LA.lies w (.node a l)) (hs : SmallNs (.node a l)) (hz : (Rose.node a l).size ≤ 1000) (hv : Vr w) (hm : mayA (.node a l) = true) {z : Int} (hap : apartP (PA.er (.node a l)) = some z) :
    Calls Tryz.prog 12 #[aggT a] w fun e w' => CheckOut (.error (z, 6)) e w' ∧ Below w.heap.size w w' := by
  have HX := hid (chs_new w a)
  have HO := hid (chs_zero w a)
  have HL := hid hl
  have HS := hid hs
  have HV := hid hv
  have HZ := hid hz
  have hmf : ∀ (fn : Fn) (first cap : Array Value) (w : World), (Instr.makeFunc fn first cap).run Tryz.prog w = .ok (.func fn first cap) w := fun _ _ _ _ => rfl
  clear hl hs hv hz
  have HM := hid hm
  have HAP := hid hap
  clear hm hap
  go_enter_defers Tryz.func12, Tryz.ntmps12
  go_upto_region 1 with fail
  generalize (((((w.alloc (boxA a)).alloc (.cells #[.int .u8 0, .int .i64 0, .slice none 0 0, .slice none 0 0] 28)).alloc (.cells #[.slice none 0 0] 25)).alloc (.cells #[.int .i64 0] 3)).alloc (.cells #[.int .i64 0] 34)) = W1 at *
  go_upto_region 5 with (first
    | (refine wpList_load_row rfl 31 _ rfl w.heap.size rfl 31 _ (0, 0) _ HX.out.box.blk Tryz.underlying31 rfl (by kernel_rfl) ?_)
    | (refine wpList_load_row rfl 31 _ rfl w.heap.size rfl 31 _ (0, 0) _ HX2.out.box.blk Tryz.underlying31 rfl (by kernel_rfl) ?_)
    | (go_at_call 35; refine (aterm_May_any (Rose.node a l) (LA.lies_below HX.out.below _ HL.out) HS.out HZ.out (HV.out.below HX.out.below)).mono ?_; rw [HM.out]; rintro e w2 ⟨rfl, hb⟩; have HX2 := hid (HX.out.step hb); have HO2 := hid ((hb.block _ (lt_heap HO.out)).trans HO.out); clear hb)
    | (go_at_call 36; refine (aterm_Apart_any (t := Rose.node a l) (LA.lies_below HX2.out.below _ HL.out) HS.out HZ.out).mono ?_; rw [HAP.out]; rintro e w3 ⟨he, hb⟩; obtain rfl := he; have HX3 := hid (HX2.out.step hb); have HO3 := hid ((hb.block _ (lt_heap HO2.out)).trans HO2.out); clear hb))
  have hA := HX3.out.w1 (cs := #[.int .u8 0, .int .i64 0, .slice none 0 0, .slice none 0 0]) rfl
  obtain ⟨v2, h2⟩ := hA.m
  obtain ⟨q2, f2⟩ := cell1 h2
  have hB := hA.wset (b := w.heap.size + 1 + 1) (.inl rfl) (.slice none 0 0)
  obtain ⟨v3, h3⟩ := hB.at_
  obtain ⟨q3, f3⟩ := cell1 h3
  have hC := hB.wset (b := w.heap.size + 1 + 1 + 1) (.inr (.inl rfl)) (.int .i64 z)
  obtain ⟨v4, h4⟩ := hC.e
  obtain ⟨q4, f4⟩ := cell1 h4
  have HR := hid (HX3.out.fill (cs := #[.int .u8 0, .int .i64 0, .slice none 0 0, .slice none 0 0]) rfl (.slice none 0 0) (.int .i64 z) (.int .i64 6))
  clear hA h2 hB h3 hC h4
  go_wp2_with (first
    | (refine wpList_load_row rfl 28 _ rfl (w.heap.size + 1) rfl 28 _ (0, 0) _ HO3.out Tryz.underlying28 rfl (by kernel_rfl) ?_)
    | (refine wpList_store_row rfl 28 _ _ rfl (w.heap.size + 1) #[.int .u8 0, .int .i64 0, .slice none 0 0, .slice none 0 0] rfl rfl 28 _ HO3.out (by kernel_rfl) rfl (by simp [Value.oneCell']) ?_))
  obtain ⟨r1, r2, r3, r4⟩ := HR.out.res rfl
  have r10 := r1 0 _ rfl
  have r11 := r1 1 _ rfl
  have r12 := r1 2 _ rfl
  have r13 := r1 3 _ rfl
  clear r1 q2 q3 q4 f2 f3 f4
  have HB := hid HR.out.below
  unfold bodyPostD
  simp [Leaves, settle, results, Tryz.results12, go_sem, r10, r11, r12, r13, r2, r3, r4]
  exact ⟨rfl, HB.out⟩
end
section
open Go.RowKit
structure ChU (w : World) (a : AH) (g : Nat) (y : RV) (W : World) : Prop where
  ch : ChS w a W
  t : W.heap[g]? = some (.cells (cellsRV y) 81 (0, 0))
  g5 : w.heap.size + 5 ≤ g
theorem ChU.step {w W W' : World} {a : AH} {g : Nat} {y : RV} (h : ChU w a g y W) (hb : Below W.heap.size W W') : ChU w a g y W' := ⟨h.ch.step hb, (hb.block _ (lt_heap h.t)).trans h.t, h.g5⟩
theorem ChU.w1 {w W : World} {a : AH} {g : Nat} {y : RV} (h : ChU w a g y W) {cs : Array Value} (hc : cs.size = 4) : ChU w a g y (W.setRow (w.heap.size + 1) cs) := ⟨h.ch.w1 hc, (setRow_other _ _ _ _ (by have := h.g5; omega)).trans h.t, h.g5⟩
theorem ChU.set {w W : World} {a : AH} {g : Nat} {y : RV} (h : ChU w a g y W) {b : Nat} (hb : b = w.heap.size + 1 + 1 ∨ b = w.heap.size + 1 + 1 + 1 ∨ b = w.heap.size + 1 + 1 + 1 + 1) (v : Value) : ChU w a g y (W.setCell ⟨b, 0, none⟩ v) :=
  ⟨h.ch.wset hb v, ((grown_setCell1 W b 0 v).block _ (lt_heap h.t) (fun e => by have := h.g5; injection e with e; omega)).trans h.t, h.g5⟩
set_option maxHeartbeats 8000000 in
theorem check_err {w : World} {a : AH} {l : List PA} (hl : LA.lies w (.node a l)) (hs : SmallNs (.node a l)) (hz : (Rose.node a l).size ≤ 1000) (hv : Vr w) (hm : mayA (.node a l) = true) (hap : apartP (PA.er (.node a l)) = none) {z no : Int} (hr : chk [] [0] (PA.er (.node a l)) = .error (z, no)) :
    Calls Tryz.prog 12 #[aggT a] w fun e w' => CheckOut (.error (z, no)) e w' ∧ Below w.heap.size w w' := by
  have HX := hid (chs_new w a)
  have HO := hid (chs_zero w a)
  have HL := hid hl
  have HS := hid hs
  have HV := hid hv
  have HZ := hid hz
  have hmf : ∀ (fn : Fn) (first cap : Array Value) (w : World), (Instr.makeFunc fn first cap).run Tryz.prog w = .ok (.func fn first cap) w := fun _ _ _ _ => rfl
  clear hl hs hv hz
  have HZ0 := hid (chz_new w a)
  have HM := hid hm
  have HAP := hid hap
  have HG := hid (good_of_may _ HL.out HS.out hm)
  have HR := hid hr
  clear hm hap hr
  go_enter_defers Tryz.func12, Tryz.ntmps12
  go_upto_region 1 with fail
  generalize (((((w.alloc (boxA a)).alloc (.cells #[.int .u8 0, .int .i64 0, .slice none 0 0, .slice none 0 0] 28)).alloc (.cells #[.slice none 0 0] 25)).alloc (.cells #[.int .i64 0] 3)).alloc (.cells #[.int .i64 0] 34)) = W1 at *
  go_upto_region 7 with (first
    | (refine wpList_load_row rfl 31 _ rfl w.heap.size rfl 31 _ (0, 0) _ HX.out.box.blk Tryz.underlying31 rfl (by kernel_rfl) ?_)
    | (refine wpList_load_row rfl 31 _ rfl w.heap.size rfl 31 _ (0, 0) _ HX2.out.box.blk Tryz.underlying31 rfl (by kernel_rfl) ?_)
    | (go_at_call 35; refine (aterm_May_any (Rose.node a l) (LA.lies_below HX.out.below _ HL.out) HS.out HZ.out (HV.out.below HX.out.below)).mono ?_; rw [HM.out]; rintro e w2 ⟨rfl, hb⟩; have HX2 := hid (HX.out.step hb); have HZ2 := hid (HZ0.out.step hb); have HO2 := hid ((hb.block _ (lt_heap HO.out)).trans HO.out); clear hb)
    | (go_at_call 36; refine (aterm_Apart_any (t := Rose.node a l) (LA.lies_below HX2.out.below _ HL.out) HS.out HZ.out).mono ?_; rw [HAP.out]; rintro e w3 ⟨he, hb⟩; obtain rfl := he; have HX3 := hid (HX2.out.step hb); have HZ3 := hid (HZ2.out.step hb); have HO3 := hid ((hb.block _ (lt_heap HO2.out)).trans HO2.out); clear hb))
  have HCI : Hid (ChkIn w (w3.alloc (.cells #[.int .i64 0] 3)) (fun b => b < w.heap.size ∨ w.heap.size + 5 ≤ b) (.node a l) none (some ⟨w3.heap.size, 0, none⟩) 0 0 1 1 [] [0]) := by
    have hb := HX3.out.below.alloc HX3.out.below.size (.cells #[.int .i64 0] 3)
    have hsz := HX3.out.size
    have hz := HZ.out
    exact ⟨hb, HL.out, HS.out, HG.out, ⟨IsRow.none _ _ _, fun b hb => by cases hb⟩, row_made encN_len (by omega) w3 3 [0] 1 _ rfl rfl (by decide), goodEnv_nil, fun b hb => .inl hb, fun b hb => .inr (by simp only [World.size_alloc] at hb; omega), by omega, by omega, by omega⟩
  have HX3A := hid (HX3.out.step ((Below.refl _ _).alloc (Nat.le_refl _) (.cells #[.int .i64 0] 3)))
  have HNA := hid (nodeAt_any (w0 := w) (.node a l) _ _ _ _ _ _ _ _ _ _ HCI.out)
  go_wp2_with (first
    | (refine wpList_load_row rfl 31 _ rfl w.heap.size rfl 31 _ (0, 0) _ HX3A.out.box.blk Tryz.underlying31 rfl (by kernel_rfl) ?_))
  go_at_call 38
  refine HNA.out.mono ?_
  rw [show erE [] = [] from rfl, HR.out]
  rintro e w4 ⟨he, hb⟩
  subst he
  have HX4 := hid ((HX3.out.step ((Below.refl _ _).alloc (Nat.le_refl _) (.cells #[.int .i64 0] 3))).step hb)
  show bodyPostD Tryz.prog Tryz.f12 _ (Exit.panic _) _ _
  unfold bodyPostD
  refine leaves_cons (f := 37) (args := #[.pointer (some ⟨w.heap.size + 1, 0, none⟩), .pointer (some ⟨w.heap.size + 1 + 1, 0, none⟩), .pointer (some ⟨w.heap.size + 1 + 1 + 1, 0, none⟩), .pointer (some ⟨w.heap.size + 1 + 1 + 1 + 1, 0, none⟩)]) (by simp) (by simp [go_sem]) ?_
  refine (check1_catch [] HX4.out).mono ?_
  rintro e u' w5 ⟨rfl, rfl, hR⟩
  obtain ⟨r1, r2, r3, r4⟩ := hR.res rfl
  have r10 := r1 0 _ rfl
  have r11 := r1 1 _ rfl
  have r12 := r1 2 _ rfl
  have r13 := r1 3 _ rfl
  clear r1
  have HB := hid hR.below
  simp [Leaves, settle, results, Tryz.results12, go_sem, r10, r11, r12, r13, r2, r3, r4]
  exact ⟨rfl, HB.out⟩
set_option maxHeartbeats 8000000 in
theorem check_ok {w : World} {a : AH} {l : List PA} (hl : LA.lies w (.node a l)) (hs : SmallNs (.node a l)) (hz : (Rose.node a l).size ≤ 1000) (hv : Vr w) (hm : mayA (.node a l) = true) (hap : apartP (PA.er (.node a l)) = none) {x : TE} (hr : chk [] [0] (PA.er (.node a l)) = .ok x) :
    Calls Tryz.prog 12 #[aggT a] w fun e w' => CheckOut (.ok x) e w' ∧ Below w.heap.size w w' := by
  have HX := hid (chs_new w a)
  have HO := hid (chs_zero w a)
  have HL := hid hl
  have HS := hid hs
  have HV := hid hv
  have HZ := hid hz
  have hmf : ∀ (fn : Fn) (first cap : Array Value) (w : World), (Instr.makeFunc fn first cap).run Tryz.prog w = .ok (.func fn first cap) w := fun _ _ _ _ => rfl
  clear hl hs hv hz
  have HZ0 := hid (chz_new w a)
  have HM := hid hm
  have HAP := hid hap
  have HG := hid (good_of_may _ HL.out HS.out hm)
  have HR := hid hr
  clear hm hap hr
  have hgx := chk_good _ _ _ _ HG.out (fun b hb => by cases hb) HR.out
  have hxs := chk_size _ HR.out
  have HGX := hid hgx
  clear hgx
  go_enter_defers Tryz.func12, Tryz.ntmps12
  go_upto_region 1 with fail
  generalize (((((w.alloc (boxA a)).alloc (.cells #[.int .u8 0, .int .i64 0, .slice none 0 0, .slice none 0 0] 28)).alloc (.cells #[.slice none 0 0] 25)).alloc (.cells #[.int .i64 0] 3)).alloc (.cells #[.int .i64 0] 34)) = W1 at *
  go_upto_region 7 with (first
    | (refine wpList_load_row rfl 31 _ rfl w.heap.size rfl 31 _ (0, 0) _ HX.out.box.blk Tryz.underlying31 rfl (by kernel_rfl) ?_)
    | (refine wpList_load_row rfl 31 _ rfl w.heap.size rfl 31 _ (0, 0) _ HX2.out.box.blk Tryz.underlying31 rfl (by kernel_rfl) ?_)
    | (go_at_call 35; refine (aterm_May_any (Rose.node a l) (LA.lies_below HX.out.below _ HL.out) HS.out HZ.out (HV.out.below HX.out.below)).mono ?_; rw [HM.out]; rintro e w2 ⟨rfl, hb⟩; have HX2 := hid (HX.out.step hb); have HZ2 := hid (HZ0.out.step hb); have HO2 := hid ((hb.block _ (lt_heap HO.out)).trans HO.out); clear hb)
    | (go_at_call 36; refine (aterm_Apart_any (t := Rose.node a l) (LA.lies_below HX2.out.below _ HL.out) HS.out HZ.out).mono ?_; rw [HAP.out]; rintro e w3 ⟨he, hb⟩; obtain rfl := he; have HX3 := hid (HX2.out.step hb); have HZ3 := hid (HZ2.out.step hb); have HO3 := hid ((hb.block _ (lt_heap HO2.out)).trans HO2.out); clear hb))
  have HCI : Hid (ChkIn w (w3.alloc (.cells #[.int .i64 0] 3)) (fun b => b < w.heap.size ∨ w.heap.size + 5 ≤ b) (.node a l) none (some ⟨w3.heap.size, 0, none⟩) 0 0 1 1 [] [0]) := by
    have hb := HX3.out.below.alloc HX3.out.below.size (.cells #[.int .i64 0] 3)
    have hsz := HX3.out.size
    have hz := HZ.out
    exact ⟨hb, HL.out, HS.out, HG.out, ⟨IsRow.none _ _ _, fun b hb => by cases hb⟩, row_made encN_len (by omega) w3 3 [0] 1 _ rfl rfl (by decide), goodEnv_nil, fun b hb => .inl hb, fun b hb => .inr (by simp only [World.size_alloc] at hb; omega), by omega, by omega, by omega⟩
  have HX3A := hid (HX3.out.step ((Below.refl _ _).alloc (Nat.le_refl _) (.cells #[.int .i64 0] 3)))
  have HNA := hid (nodeAt_any (w0 := w) (.node a l) _ _ _ _ _ _ _ _ _ _ HCI.out)
  go_wp2_with (first
    | (refine wpList_load_row rfl 31 _ rfl w.heap.size rfl 31 _ (0, 0) _ HX3A.out.box.blk Tryz.underlying31 rfl (by kernel_rfl) ?_)
    | (go_at_call 38; refine HNA.out.mono ?_; rw [show erE [] = [] from rfl, HR.out]; rintro e W9 ⟨he, hb⟩; obtain ⟨y, rfl, hyx, hy⟩ := he; have HX9 := hid ((HX3.out.step ((Below.refl _ _).alloc (Nat.le_refl _) (.cells #[.int .i64 0] 3))).step hb); have HZ9 := hid ((HZ3.out.step ((Below.refl _ _).alloc (Nat.le_refl _) (.cells #[.int .i64 0] 3))).step hb); have HY := hid hy; have HYX := hid hyx; have HAL := hid (heap_alloc_new W9 (.cells #[.int .u8 0, .int .i64 0, .slice none 0 0, .slice none 0 0, .slice none 0 0] 81)); clear hy hyx hb)
    | (refine wpList_store_row rfl 81 _ _ rfl W9.heap.size (cellsRV y) rfl rfl 81 _ HAL.out (by kernel_rfl) rfl (by simp [Value.oneCell']) ?_; rw [World.setRow_alloc_new]))
  have hb6 : Below W9.heap.size W9 (W9.alloc (.cells (cellsRV y) 81)) := (Below.refl _ _).alloc (Nat.le_refl _) _
  have HT : Hid (ChU w a W9.heap.size y (W9.alloc (.cells (cellsRV y) 81))) := ⟨HX9.out.step hb6, heap_alloc_new W9 _, HX9.out.size⟩
  have HZ6 := hid (HZ9.out.step hb6)
  have HY6 := hid (HY.out.below hb6)
  obtain ⟨g, hg⟩ : ∃ g, W9.heap.size = g := ⟨_, rfl⟩
  rw [hg] at HT ⊢
  generalize (W9.alloc (.cells (cellsRV y) 81)) = W6 at *
  clear hg hb6 HAL HY HX9 HZ9 HNA HCI
  have hyt : PT.er y.ty = x.1 := by rw [← HYX.out]; rfl
  have HYT := hid hyt
  have HSA : Hid (∀ W', Below W6.heap.size W6 W' → SwapAt W6.heap.size none 0 0 [] none 0 0 [] y.ty W') := fun W' hb =>
    swapAt_any ⟨IsRow.none _ _ _, IsRow.none _ _ _, by decide, by decide, fun z hz => (nomatch hz)⟩ y.ty HY6.out.ty (by rw [hyt]; exact HGX.out.effs) (by have h1 := hxs; rw [← hyt, er_size] at h1; omega) W' hb
  clear hyt hxs
  go_upto_region 8 with fail
  refine wp_region_noPanic ?_
  refine wp_region_held_drew (S := fun W' => ChU w a g y W') (by kernel_rfl) ?_ (fun hHeld => ?_)
  · exact HT.out.step (bel_drew W6)
  refine tk (i := 0) (oi := ⟨some 27, _, _, _, _, none⟩) (v := ?_) rfl (Or.inl ⟨by rfl, ?_⟩) ?_
  rotate_left; · intro w h; go_simp; try with_reducible rfl
  try simp only [Act.put, zA, zB, zC]
  refine tk (i := 1) (oi := ⟨some 28, _, _, _, _, none⟩) (v := .agg ([.int .u8 y.ty.head.kind, .int .i64 y.ty.head.rho, .slice y.ty.head.ep y.ty.head.en y.ty.head.ec, .slice y.ty.head.kp y.ty.head.kn y.ty.head.kc] : List Value).toArray) rfl (yieldsIf_load_mid (by rfl) 28 _ rfl g 0 rfl _ _ (fun W' hSw => range_heap hSw.t _ (by intro i v hv; match i, hv with | 0, hv => exact hv | 1, hv => exact hv | 2, hv => exact hv | 3, hv => exact hv)) Tryz.underlying28 rfl (by kernel_rfl)) ?_
  try simp only [Act.put, zA, zB, zC]
  refine tk (i := 3) (oi := ⟨some 30, _, _, _, _, none⟩) (v := ?_) rfl (Or.inl ⟨by rfl, ?_⟩) ?_
  rotate_left; · intro w h; go_simp; try with_reducible rfl
  try simp only [Act.put, zA, zB, zC]
  refine tk (i := 4) (oi := ⟨some 31, _, _, _, _, none⟩) (v := ?_) rfl (Or.inl ⟨by rfl, ?_⟩) ?_
  rotate_left
  · intro w hSw; (try dsimp only at hSw); have q4 : w.cell? ⟨g, 4, none⟩ = some (.slice y.ep y.en y.ec) := (by rw [Lib.cell_of_heap hSw.t]; rfl); go_simp; try with_reducible rfl
  try simp only [Act.put, zA, zB, zC]
  refine wpAnyH_ready (rs := [2]) (by kernel_rfl) (by simp) ?_
  refine AllReadyH.cons (o := ⟨some 29, _, _, _, _, none⟩) rfl (fun K hK => ?_) AllReadyH.nil
  go_simp
  have hsz5 := hHeld.ch.size
  go_at_call 39
  refine (HSA.out _ (bel_drew W6)).mono ?_
  rintro e w5 ⟨⟨y2, rfl, hl2, hs2, he2⟩, hb⟩
  have HU2 : Hid (∀ b ∈ usesR y2, b ≠ w.heap.size + 1 ∧ b ≠ w.heap.size + 1 + 1 ∧ b ≠ w.heap.size + 1 + 1 + 1 ∧ b ≠ w.heap.size + 1 + 1 + 1 + 1) := uses_far (HZ6.out.step (bel_step (bel_drew W6) hb)) hsz5 y2 hl2 hs2
  have HL2 := hid hl2
  have HE2 := hid he2
  have HB5 := hid (bel_step (bel_drew W6) hb)
  have HX5 := hid (hHeld.ch.step hb)
  clear hl2 hs2 he2 hsz5
  try go_wp2_with fail
  refine hK.out _ _ ?_ (fun hNew => ?_)
  · (try dsimp only); exact hHeld.step hb
  clear hHeld hK K; have hHeld := hNew; clear hNew
  try simp only [Act.put, zA, zB, zC]
  refine wpAnyH_ready (rs := [5]) (by kernel_rfl) (by simp) ?_
  refine AllReadyH.cons (o := ⟨none, _, _, _, _, none⟩) rfl (fun K hK => ?_) AllReadyH.nil
  refine step_store4g (by rfl) _ _ _ (by rfl) hHeld.ch.o #[.int .u8 y2.head.kind, .int .i64 y2.head.rho, .slice y2.head.ep y2.head.en y2.head.ec, .slice y2.head.kp y2.head.kn y2.head.kc] (by rfl) (by rfl) rfl (by simp [Value.oneCell']) (by kernel_rfl) ?_
  refine hK.out _ _ ?_ (fun hNew => ?_)
  · (try dsimp only); exact hHeld.w1 rfl
  clear hHeld hK K; have hHeld := hNew; clear hNew
  try simp only [Act.put, zA, zB, zC]
  refine wpAnyH_ready (rs := [6]) (by kernel_rfl) (by simp) ?_
  refine AllReadyH.cons (o := ⟨none, _, _, _, _, none⟩) rfl (fun K hK => ?_) AllReadyH.nil
  obtain ⟨v2, hv2⟩ := hHeld.ch.m
  obtain ⟨q2, f2⟩ := cell1 hv2
  clear hv2
  go_simp
  clear q2 f2
  refine hK.out _ _ ?_ (fun hNew => ?_)
  · (try dsimp only); exact hHeld.set (.inl rfl) _
  clear hHeld hK K; have hHeld := hNew; clear hNew
  try simp only [Act.put, zA, zB, zC]
  refine wpAnyH_ready (rs := [7]) (by kernel_rfl) (by simp) ?_
  refine AllReadyH.cons (o := ⟨none, _, _, _, _, none⟩) rfl (fun K hK => ?_) AllReadyH.nil
  obtain ⟨v3, hv3⟩ := hHeld.ch.at_
  obtain ⟨q3, f3⟩ := cell1 hv3
  clear hv3
  go_simp
  clear q3 f3
  refine hK.out _ _ ?_ (fun hNew => ?_)
  · (try dsimp only); exact hHeld.set (.inr (.inl rfl)) _
  clear hHeld hK K; have hHeld := hNew; clear hNew
  try simp only [Act.put, zA, zB, zC]
  refine wpAnyH_ready (rs := [8]) (by kernel_rfl) (by simp) ?_
  refine AllReadyH.cons (o := ⟨none, _, _, _, _, none⟩) rfl (fun K hK => ?_) AllReadyH.nil
  obtain ⟨v4, hv4⟩ := hHeld.ch.e
  obtain ⟨q4, f4⟩ := cell1 hv4
  clear hv4
  go_simp
  clear q4 f4
  refine hK.out _ _ ?_ (fun hNew => ?_)
  · (try dsimp only); exact hHeld.set (.inr (.inr rfl)) _
  clear hHeld hK K; have hHeld := hNew; clear hNew
  try simp only [Act.put, zA, zB, zC]
  refine wpAnyH_done (by kernel_rfl) ?_ _
  refine NoPanic.normal ?_
  clear hHeld
  go_wp2_with fail
  have HRR := hid (HX5.out.fill (cs := #[.int .u8 y2.head.kind, .int .i64 y2.head.rho, .slice y2.head.ep y2.head.en y2.head.ec, .slice y2.head.kp y2.head.kn y2.head.kc]) rfl (.slice y.ep y.en y.ec) (.int .i64 0) (.int .i64 0))
  show bodyPostD Tryz.prog Tryz.f12 _ _ _ _
  unfold bodyPostD
  refine leaves_cons (f := 37) (args := #[.pointer (some ⟨w.heap.size + 1, 0, none⟩), .pointer (some ⟨w.heap.size + 1 + 1, 0, none⟩), .pointer (some ⟨w.heap.size + 1 + 1 + 1, 0, none⟩), .pointer (some ⟨w.heap.size + 1 + 1 + 1 + 1, 0, none⟩)]) (by simp) (by simp [go_sem]) ?_
  refine (check1_idle _ ⟨_, _, _, _, rfl⟩ _).mono ?_
  rintro e u' w6 ⟨rfl, rfl, rfl⟩
  obtain ⟨r1, r2, r3, r4⟩ := HRR.out.res rfl
  have r10 := r1 0 _ rfl
  have r11 := r1 1 _ rfl
  have r12 := r1 2 _ rfl
  have r13 := r1 3 _ rfl
  clear r1
  have hlies := lies_grownU (grown_setCell1 _ (w.heap.size + 1 + 1 + 1 + 1) 0 (.int .i64 0)) y2 (fun b hb e => by cases e; exact (HU2.out _ hb).2.2.2 rfl) (lies_grownU (grown_setCell1 _ (w.heap.size + 1 + 1 + 1) 0 (.int .i64 0)) y2 (fun b hb e => by cases e; exact (HU2.out _ hb).2.2.1 rfl) (lies_grownU (grown_setCell1 _ (w.heap.size + 1 + 1) 0 (.slice y.ep y.en y.ec)) y2 (fun b hb e => by cases e; exact (HU2.out _ hb).2.1 rfl) (lies_grownU (row_set (W := w5) (r := w.heap.size + 1) (cs := #[.int .u8 y2.head.kind, .int .i64 y2.head.rho, .slice y2.head.ep y2.head.en y2.head.ec, .slice y2.head.kp y2.head.kn y2.head.kc])) y2 (fun b hb e => by cases e; exact (HU2.out _ hb).1 rfl) HL2.out)))
  have hrow : ∀ {W W' : World} {r : Nat}, (r = w.heap.size + 1 ∨ r = w.heap.size + 1 + 1 ∨ r = w.heap.size + 1 + 1 + 1 ∨ r = w.heap.size + 1 + 1 + 1 + 1) → W.grownBy W' (some r) → IsRow encA 3 W y.ep y.en y.ec y.eff → IsRow encA 3 W' y.ep y.en y.ec y.eff := fun hr hg h => row_far h hg (fun hne ad hp => by have h6 := HY6.out.euse hne ad hp; have h7 : ad.block < w.heap.size ∨ w.heap.size + 5 ≤ ad.block := h6; omega)
  have hrow4 := hrow (.inr (.inr (.inr rfl))) (grown_setCell1 _ _ 0 (.int .i64 0)) (hrow (.inr (.inr (.inl rfl))) (grown_setCell1 _ _ 0 (.int .i64 0)) (hrow (.inr (.inl rfl)) (grown_setCell1 _ _ 0 (.slice y.ep y.en y.ec)) (hrow (.inl rfl) (row_set (W := w5) (cs := #[.int .u8 y2.head.kind, .int .i64 y2.head.rho, .slice y2.head.ep y2.head.en y2.head.ec, .slice y2.head.kp y2.head.kn y2.head.kc])) (HY6.out.eff.below HB5.out))))
  have HB := hid HRR.out.below
  have HLI := hid hlies
  have HRW := hid hrow4
  clear hlies hrow hrow4
  simp [Leaves, settle, results, Tryz.results12, go_sem, r10, r11, r12, r13, r2, r3, r4]
  refine ⟨⟨y2, _, _, _, rfl, HLI.out, ?_, ?_⟩, HB.out⟩
  · rw [HE2.out, HYT.out]; exact swapT_nil _ HGX.out.may
  · have h1 : y.eff = x.2 := by rw [← HYX.out]; rfl
    rw [← h1]; exact HRW.out
end
section
open Go.RowKit
def checkR (t : PA) : ChkR := if mayA t then checkA (PA.er t) else .error (0, 1)
theorem check_Check_any {w : World} {t : PA} (hl : LA.lies w t) (hs : SmallNs t) (hz : t.size ≤ 1000) (hv : Vr w) :
    Calls Tryz.prog 12 #[aggT t.head] w fun e w' => CheckOut (checkR t) e w' ∧ Below w.heap.size w w' := by
  obtain ⟨a, l, rfl⟩ : ∃ a l, t = Rose.node a l := ⟨t.head, t.kids, Rose.eta t⟩
  unfold checkR checkA
  cases hm : mayA (Rose.node a l) with
  | false => rw [if_neg Bool.false_ne_true]; exact check_arg hl hs hz hv hm
  | true =>
    rw [if_pos rfl]
    cases hap : apartP (PA.er (Rose.node a l)) with
    | some z => exact check_twice hl hs hz hv hm hap
    | none =>
      dsimp only
      cases hr : chk [] [0] (PA.er (Rose.node a l)) with
      | error e => obtain ⟨z, no⟩ := e; exact check_err hl hs hz hv hm hap hr
      | ok x => exact check_ok hl hs hz hv hm hap hr
end
section
open Go.RowKit
end
section
open Go.RowKit
theorem mayA_node (a : AH) (l : List PA) : mayA (.node a l) = (node13 a && l.all mayA) := by
  unfold mayA
  rw [Rose.nodes_node, List.all_cons, List.all_flatten, List.all_map]
  rfl
def zRH : RH := ⟨0, 0, none, 0, 0, [], none, 0, 0⟩
def zPT : PT := .node zRH []
theorem zPT_lies (W : World) : LR.lies W zPT :=
  NodeIn.lies ⟨⟨IsRow.none _ _ _, (by intro x hx; cases hx), by decide, by decide, by decide, by decide, by decide, by decide, fun _ => rfl⟩, IsRow.none _ _ _, (by intro x hx; cases hx)⟩
abbrev mkA (kind n rho : Int) (kp : Option Addr) (kn kc : Nat) : AH := ⟨kind, 0, 0, n, ⟨#[]⟩, ⟨#[]⟩, ⟨#[]⟩, rho, none, 0, 0, [], none, 0, 0, [], zPT, zPT, kp, kn, kc⟩
theorem mkA_own (W : World) {kind n rho : Int} {kp : Option Addr} {kn kc : Nat} (h0 : 0 ≤ kind) (h1 : kind ≤ 255) (hn : inI n) (hr : inI rho) (hk : kn ≤ 9223372036854775807) (hc : kn ≤ kc) (hp : kp = none → kc = 0) : AH.Own W (mkA kind n rho kp kn kc) :=
  ⟨h0, h1, (show (0 : Int) ≤ 0 by omega), (show (0 : Int) ≤ 255 by omega), ⟨(show (-9223372036854775808 : Int) ≤ 0 by omega), (show (0 : Int) ≤ 9223372036854775807 by omega)⟩, hn, (show 0 ≤ 9223372036854775807 by omega), (show 0 ≤ 9223372036854775807 by omega), (show 0 ≤ 9223372036854775807 by omega), hr, IsRow.none _ _ _, (by intro x hx; cases hx), IsRow.none _ _ _, (by intro x hx; cases hx), zPT_lies W, zPT_lies W, hk, hc, hp⟩
theorem mkA_lies {W : World} {kind n rho : Int} {kp : Option Addr} {kn kc : Nat} {l : List PA} (h0 : 0 ≤ kind) (h1 : kind ≤ 255) (hn : inI n) (hr : inI rho) (hR : RowTA W kp kn kc l) : LA.lies W (.node (mkA kind n rho kp kn kc) l) :=
  NodeA.lies ⟨mkA_own W h0 h1 hn hr hR.row.max hR.row.le hR.row.nil, hR.row, hR.each⟩
theorem mkA_leaf (W : World) {kind n rho : Int} (h0 : 0 ≤ kind) (h1 : kind ≤ 255) (hn : inI n) (hr : inI rho) : LA.lies W (.node (mkA kind n rho none 0 0) []) :=
  mkA_lies h0 h1 hn hr ⟨IsRow.none _ _ _, (by intro x hx; cases hx)⟩
theorem mkA_small (kind n rho : Int) (kp : Option Addr) (kn kc : Nat) : SmallN (mkA kind n rho kp kn kc) :=
  ⟨(show 0 ≤ 100 by omega), (show 0 ≤ 100 by omega), (show 0 ≤ 100 by omega), (show 0 ≤ 50 by omega), rfl, ⟨(show zPT.er.size ≤ 100 by decide), rfl⟩, ⟨(show zPT.er.size ≤ 100 by decide), rfl⟩⟩
theorem rowTA_two {w : World} {x y : PA} (hx : LA.lies w x) (hy : LA.lies w y) (cs : Array Value) (hcs : cs = (LA.encT x ++ LA.encT y).toArray) (e : TypeId) (gs : Nat) (hgs : w.heap.size = gs) : RowTA (w.alloc (.cells cs e)) (some ⟨gs, 0, none⟩) 2 2 [x, y] := by
  subst hgs
  refine ⟨row_made LAlen (by omega) w e [x, y] 2 _ (by simp [hcs]) rfl (by decide), fun z hz => ?_⟩
  have hb : Below w.heap.size w (w.alloc (.cells cs e)) := (Below.refl _ w).alloc (Nat.le_refl _) _
  rcases List.mem_cons.1 hz with rfl | hz
  · exact LA.lies_below hb _ hx
  · rw [List.mem_singleton.1 hz]; exact LA.lies_below hb _ hy
theorem setRow_alloc_at (W : World) (cs vals : Array Value) (e : TypeId) (g : Nat) (h : W.heap.size = g) : (W.alloc (.cells cs e)).setRow g vals = W.alloc (.cells vals e) := by
  subst h; exact World.setRow_alloc_new ..
theorem heap_new_at (W : World) (cs : Array Value) (e : TypeId) (g : Nat) (h : W.heap.size = g) : (W.alloc (.cells cs e)).heap[g]? = some (.cells cs e (0, 0)) := by
  subst h; exact heap_alloc_new W _
theorem vr_ofC {W : World} (h : W.ShapedOpen Tryz.prog) : Vr W := by
  obtain ⟨m, h⟩ := Tryz.laysM146.s1_3 W h
  exact ⟨m, h⟩
theorem mustP_no {b : Bool} {a : LAH} {no z k : Int} {r : ChkR} (hn : no ≠ 0) (hr : ∀ z k, r = .error (z, k) → k ≠ 0) (h : mustP b a no r = .error (z, k)) : k ≠ 0 := by
  unfold mustP errP at h
  cases b with
  | true => exact hr z k h
  | false => simp at h; rw [← h.2]; exact hn
theorem errP_no {a : LAH} {no z k : Int} (hn : no ≠ 0) (h : errP a no = .error (z, k)) : k ≠ 0 := by
  unfold errP at h
  simp at h; rw [← h.2]; exact hn
def NoE (r : ChkR) : Prop := ∀ z k, r = .error (z, k) → k ≠ 0
theorem noE_ok (x : TE) : NoE (.ok x) := fun z k h => (nomatch h)
theorem noE_ite {c : Prop} [Decidable c] {x y : ChkR} (hx : NoE x) (hy : NoE y) : NoE (if c then x else y) := by
  split
  · exact hx
  · exact hy
theorem noE_must {b : Bool} {a : LAH} {no : Int} {r : ChkR} (hn : no ≠ 0) (hr : NoE r) : NoE (mustP b a no r) := fun z k h => mustP_no hn hr h
theorem rule_no {a : LAH} {l : List TE} {z k : Int} (h : ruleP a l = .error (z, k)) : k ≠ 0 := by
  have hN : NoE (ruleP a l) := by
    unfold ruleP bindsP
    dsimp only
    repeat' first
      | exact noE_ok _
      | exact fun z k h => errP_no (by decide) h
      | refine noE_ite ?_ ?_
      | refine noE_must (by decide) ?_
  exact hN z k h
theorem chk_no (t : AT) : ∀ env rhos z k, chk env rhos t = .error (z, k) → k ≠ 0 := by
  refine Rose.ind (P := fun (t : AT) => ∀ env rhos z k, chk env rhos t = .error (z, k) → k ≠ 0) (fun a l ih env rhos z k h => ?_) t
  have hL : ∀ (m : List AT) (i : Nat) (acc : List TE), (∀ t ∈ m, t ∈ l) → ∀ e, chkL env rhos a i acc m = .error e → e.2 ≠ 0 := by
    intro m
    induction m with
    | nil => intro i acc _ e h; rw [chkL_nil] at h; cases h
    | cons t m ihm =>
      intro i acc hm e h
      rw [chkL_cons] at h
      cases hc : chk (innerE env a i acc) (innerR rhos a i) t with
      | error e' =>
        rw [hc] at h
        simp only [Except.error.injEq] at h
        subst h
        exact ih t (hm t (by simp)) _ _ _ _ hc
      | ok r =>
        rw [hc] at h
        exact ihm _ _ (fun u hu => hm u (by simp [hu])) e h
  have hok : ∀ {x : TE} (z k : Int), (Except.ok x : ChkR) = .error (z, k) → k ≠ 0 := fun z k h => (nomatch h)
  have hf : ∀ z k, foundP env rhos a l = .error (z, k) → k ≠ 0 := by
    intro z k h
    unfold foundP at h
    refine mustP_no (by decide) (fun z k h => ?_) h
    split at h
    · unfold varP at h
      split at h
      · exact errP_no (by decide) h
      · exact mustP_no (by decide) hok h
    · split at h
      · unfold instP at h
        split at h
        · exact errP_no (by decide) h
        · split at h
          · exact errP_no (by decide) h
          · exact mustP_no (by decide) (fun z k h => mustP_no (by decide) hok h) h
      · split at h
        · rename_i e he
          simp only [Except.error.injEq] at h
          subst h
          exact hL l 0 [] (fun t h => h) _ he
        · exact rule_no h
  rw [chk_node] at h
  unfold sizeP at h
  split at h
  · exact mustP_no (by decide) hok h
  · rename_i e he
    simp only [Except.error.injEq] at h
    subst h
    exact hf _ _ he
theorem check_no {t : PA} {z k : Int} (h : checkR t = .error (z, k)) : k ≠ 0 := by
  unfold checkR checkA at h
  split at h
  · split at h
    · simp at h; omega
    · exact chk_no _ _ _ _ _ h
  · simp at h; omega
end
end Go.Proofs.YtkdjnegfnhldpaaGreatDoor
