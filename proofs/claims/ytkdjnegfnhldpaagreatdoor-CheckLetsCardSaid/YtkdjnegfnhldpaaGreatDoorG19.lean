/- Part 19 of the texts: Am, Ck, Cp1. -/
import Derived.Test.YtkdjnegfnhldpaaGreatDoorG18
import Derived.Test.YtkdjnegfnhldpaaGreatDoorG15
import Derived.Test.YtkdjnegfnhldpaaGreatDoorG11
import Derived.Test.YtkdjnegfnhldpaaGreatDoorG12
import Derived.Test.YtkdjnegfnhldpaaGreatDoorG17
set_option linter.unusedVariables false
set_option maxRecDepth 100000
set_option linter.unusedSimpArgs false
section
namespace Go.Proofs.YtkdjnegfnhldpaaGreatDoor
open Go.RowKit
set_option maxHeartbeats 1000000 in
theorem aterm_Size1_any (a : AH) (b : Nat) (z : Int) (W : World) (h : IntBlk b z W) :
    Calls Tryz.prog 88 #[aggT a, .pointer (some ⟨b, 0, none⟩)] W fun e w' => e = .returned (.bool (plus1 a z).1) ∧ IntBlk b (plus1 a z).2 w' ∧ W.grownBy w' (some b) := by
  have HA := Lib.hid (h.below ((Below.refl _ _).alloc (Nat.le_refl _) (boxA a)))
  obtain ⟨q0, qf⟩ := HA.out.cells
  obtain ⟨Z, hZ⟩ : ∃ Z, IntKind.i64.wrap (z + 1) = Z := ⟨_, rfl⟩
  have HZ : Hid ((plus1 a z).2 = Z) := hZ
  clear h
  go_enter Tryz.func88, Tryz.ntmps88
  go_wp2_with fail
  go_ret
  refine ⟨rfl, ?_⟩
  rw [HZ.out]
  exact ⟨HA.out.set Z, (World.grownBy_alloc W _ _).trans (grown_setCell1 _ _ _ _)⟩
theorem fvA_Size {w0 : World} {b : Nat} (hb : w0.heap.size ≤ b) : FvA w0 (some b) 88 #[.pointer (some ⟨b, 0, none⟩)] (IntBlk b) (fun _ => True) plus1 where
  eg := fun args w => rfl
  hb := fun b' h => by injection h with h; omega
  lt := fun b' h s W hi => by injection h with h; rw [← h]; exact hi.lt
  inv := fun s W W' hi hbl => hi.below hbl
  call := fun a s W _ _ hi => aterm_Size1_any a b s W hi
set_option maxHeartbeats 1000000 in
theorem aterm_Size_any {w : World} {p : Option Addr} {n c : Nat} {l : List PA} (hr : RowTA w p n c l) {m : Nat} (hm : (nodesL l).length = m) (h3 : m ≤ 1000000) :
    Calls Tryz.prog 58 #[.slice p n c] w fun e w' => e = .returned (.int .i64 m) ∧ Below w.heap.size w w' := by
  have HE := Lib.hid (aterm_each_any (fvA_Size (w0 := w) (b := w.heap.size) (Nat.le_refl _)) l p n c hr (fun _ _ => trivial))
  have HP : Hid (stepAll plus1 (nodesL l) 0 = (true, (m : Int))) := by
    show _ = _
    rw [plus1_all (nodesL l) 0 (by omega) (by omega), hm]
    congr 1
    omega
  have HI : Hid (IntBlk w.heap.size 0 (w.alloc (.cells #[.int .i64 0] 3))) := heap_alloc_new w _
  have HB := Lib.hid ((Below.refl w.heap.size w).alloc (Nat.le_refl _) (.cells #[.int .i64 0] 3))
  have HG := Lib.hid (World.grownBy_alloc w (.cells #[.int .i64 0] 3) (some w.heap.size))
  clear hr hm
  go_enter Tryz.func58, Tryz.ntmps58
  go_wp2_with (go_at_call 59; refine (HE.out 0 _ HB.out HI.out).mono ?_; rw [HP.out]; rintro e w2 ⟨rfl, hi2, hg2⟩; obtain ⟨q0, qf⟩ := hi2.cells; have HG2 := Lib.hid (HG.out.trans hg2); clear hi2 hg2)
  go_ret
  exact ⟨rfl, held_under HG2.out (Nat.le_refl _) (fun b hb => by injection hb with hb; omega)⟩
theorem rowTA_made {w : World} {t : PA} (hl : LA.lies w t) (e : TypeId) (gs : Nat) (hgs : w.heap.size = gs) : RowTA (w.alloc (.cells #[.int .u8 t.head.kind, .int .u8 t.head.op, .int .i64 t.head.at_, .int .i64 t.head.n, .string t.head.name, .string t.head.arg, .string t.head.exn, .int .i64 t.head.rho, .slice t.head.rp t.head.rn t.head.rc, .slice t.head.ep t.head.en t.head.ec, .int .u8 t.head.ty.head.kind, .int .i64 t.head.ty.head.rho, .slice t.head.ty.head.ep t.head.ty.head.en t.head.ty.head.ec, .slice t.head.ty.head.kp t.head.ty.head.kn t.head.ty.head.kc, .int .u8 t.head.res.head.kind, .int .i64 t.head.res.head.rho, .slice t.head.res.head.ep t.head.res.head.en t.head.res.head.ec, .slice t.head.res.head.kp t.head.res.head.kn t.head.res.head.kc, .slice t.head.kp t.head.kn t.head.kc] e)) (some ⟨gs, 0, none⟩) 1 1 [t] := by
  subst hgs
  refine ⟨row_made LAlen (by omega) w e [t] 1 _ ?_ rfl (by decide), fun x hx => ?_⟩
  · simp [Laid.encT, LA, encAH]
  · have : x = t := by simpa using hx
    subst this
    exact LA.lies_below ((Below.refl _ w).alloc (Nat.le_refl _) _) x hl
theorem nodes_own {w : World} (t : PA) : LA.lies w t → ∀ a ∈ Rose.nodes t, AH.Own w a ∧ a.kn ≤ t.size := by
  refine Rose.ind (P := fun (t : PA) => LA.lies w t → ∀ a ∈ Rose.nodes t, AH.Own w a ∧ a.kn ≤ t.size) (fun a l ih hl x hx => ?_) t
  have hN := nodeA hl
  rw [Rose.nodes_node, List.mem_cons] at hx
  rw [Rose.size_node]
  rcases hx with rfl | hx
  · refine ⟨hN.own, ?_⟩
    have h1 := kidsA_le l
    have h2 := hN.kids.len
    omega
  · rw [List.mem_flatten] at hx
    obtain ⟨m, hm, hx⟩ := hx
    obtain ⟨y, hy, rfl⟩ := List.mem_map.1 hm
    obtain ⟨h1, h2⟩ := ih y hy (hN.each y hy) x hx
    have h3 : y.size ≤ (l.map Rose.size).sum := le_sum_of_mem (List.mem_map_of_mem hy)
    exact ⟨h1, by omega⟩
def nodeU (a : AH) (_ : Unit) : Bool × Unit := (node13 a, ())
theorem stepAll_nodeU : ∀ l : List AH, (stepAll nodeU l ()).1 = l.all node13
  | [] => rfl
  | a :: l => by
    show (if (node13 a) = true then stepAll nodeU l () else (false, ())).1 = _
    rw [List.all_cons]
    cases h : node13 a
    · rfl
    · rw [if_pos rfl, stepAll_nodeU l]; rfl
theorem fvA_node {w0 : World} (hv : Vr w0) : FvA w0 none 60 #[] (fun (_ : Unit) _ => True) (fun a => AH.Own w0 a ∧ SmallN a ∧ a.kn ≤ 1000000) nodeU where
  eg := fun args w => rfl
  hb := fun b' h => by cases h
  lt := fun b' h => by cases h
  inv := fun _ _ _ _ _ => trivial
  call := fun a s W ok hb _ => by
    refine (aterm_node_any a (LA.below ok.1 hb) ok.2.1 ok.2.2 (hv.below hb)).mono ?_
    rintro e w' ⟨rfl, hb'⟩
    exact ⟨rfl, trivial, hb'.os, hb'.tape, hb'.output, hb'.size, fun k hk _ => hb'.block k hk⟩
def mayA (t : PA) : Bool := (Rose.nodes t).all node13
set_option maxHeartbeats 4000000 in
theorem aterm_May_any (t : PA) {w : World} (hl : LA.lies w t) (hs : SmallNs t) (hz : t.size ≤ 1000) (hv : Vr w) :
    Calls Tryz.prog 35 #[aggT t.head] w fun e w' => e = .returned (.bool (mayA t)) ∧ Below w.heap.size w w' := by
  have HB := Lib.hid ((Below.refl w.heap.size w).alloc (Nat.le_refl _) (boxA t.head))
  have HBX := Lib.hid (boxA_new w t.head)
  have HV := Lib.hid hv
  have HROW := Lib.hid (fun (W : World) (hb : Below w.heap.size w W) (e : TypeId) (gs : Nat) (h : W.heap.size = gs) => rowTA_made (LA.lies_below hb t hl) e gs h)
  have hlen : (nodesL [t]).length = t.size := by simp [nodesL, nodes_length]
  have HSA : Hid ((stepAll nodeU (nodesL [t]) ()).1 = mayA t) := by
    show _ = _
    rw [stepAll_nodeU]; simp [nodesL, mayA]
  have HOK := Lib.hid (fun (W : World) (hb : Below w.heap.size w W) (a : AH) (ha : a ∈ nodesL [t]) => (show AH.Own W a ∧ SmallN a ∧ a.kn ≤ 1000000 by
    have ha' : a ∈ Rose.nodes t := by simpa [nodesL] using ha
    obtain ⟨h1, h2⟩ := nodes_own t hl a ha'
    exact ⟨LA.below h1 hb, hs a ha', by omega⟩))
  have hle : decide ((t.size : Int) ≤ 40000) = true := by simp; omega
  have HLEN := Lib.hid hlen
  clear hl hs hv hlen
  go_enter Tryz.func35, Tryz.ntmps35
  go_wp2_with (first
    | (refine wpList_load_row rfl 31 _ rfl w.heap.size rfl 31 _ (0, 0) _ HBX.out.blk Tryz.underlying31 rfl (by kernel_rfl) ?_)
    | (refine wpList_load_midG (by rfl) 31 _ rfl w.heap.size 0 rfl [.int .u8 t.head.kind, .int .u8 t.head.op, .int .i64 t.head.at_, .int .i64 t.head.n, .string t.head.name, .string t.head.arg, .string t.head.exn, .int .i64 t.head.rho, .slice t.head.rp t.head.rn t.head.rc, .slice t.head.ep t.head.en t.head.ec, .int .u8 t.head.ty.head.kind, .int .i64 t.head.ty.head.rho, .slice t.head.ty.head.ep t.head.ty.head.en t.head.ty.head.ec, .slice t.head.ty.head.kp t.head.ty.head.kn t.head.ty.head.kc, .int .u8 t.head.res.head.kind, .int .i64 t.head.res.head.rho, .slice t.head.res.head.ep t.head.res.head.en t.head.res.head.ec, .slice t.head.res.head.kp t.head.res.head.kn t.head.res.head.kc, .slice t.head.kp t.head.kn t.head.kc] _ HBX.out.range Tryz.underlying31 rfl (by kernel_rfl) ?_)
    | (go_at_call 58; refine (aterm_Size_any (HROW.out _ HB.out _ _ (by simp)) HLEN.out (by omega)).mono ?_; rintro e w2 ⟨rfl, hb⟩; have HB2 := Lib.hid ((HB.out.alloc HB.out.size _).trans (hb.mono (HB.out.alloc HB.out.size _).size)); have HBX := Lib.hid ((HBX.out.below ((Below.refl _ _).alloc (Nat.le_refl _) _)).below hb); clear hb)
    | (go_at_call 59; refine (aterm_each_any (fvA_node (HV.out.below (HB2.out.alloc HB2.out.size _))) [t] _ _ _ (HROW.out _ HB2.out _ _ (by simp)) (fun a ha => HOK.out _ (HB2.out.alloc HB2.out.size _) a ha) () _ (Below.refl _ _) trivial).mono ?_; rw [HSA.out]; rintro e w3 ⟨rfl, _, hg3⟩; have HB3 := Lib.hid (held_under hg3 (Nat.le_refl _) (fun b h => by cases h)); clear hg3))
  go_ret
  exact ⟨rfl, HB2.out.trans (((Below.refl _ w2).alloc (Nat.le_refl _) _ |>.trans (HB3.out.mono (by simp))).mono HB2.out.size)⟩
end Go.Proofs.YtkdjnegfnhldpaaGreatDoor
end
section
namespace Go.Proofs.YtkdjnegfnhldpaaGreatDoor
open Go.RowKit
structure Bnd where
  name : ByteArray
  ty : RT
  fn : Option LAH
abbrev TE := RT × List Atom
abbrev ChkR := Except (Int × Int) TE
def aGet (r : Int) : Atom := ⟨1, r, ⟨#[]⟩⟩
def aPut (r : Int) : Atom := ⟨2, r, ⟨#[]⟩⟩
def aExn (x : ByteArray) : Atom := ⟨3, 0, x⟩
def tZero : RT := .node ⟨0, 0, []⟩ []
def tInt : RT := .node ⟨1, 0, []⟩ []
def dTE : TE := (tZero, [])
def allE (l : List TE) (more : List Atom) : List Atom := effL (more ++ l.flatMap (·.2))
def sameR (x y : RT) : Bool := Rose.same sameH x y
def errP (a : LAH) (no : Int) : ChkR := .error (a.at_, no)
def mustP (b : Bool) (a : LAH) (no : Int) (r : ChkR) : ChkR := if b then r else errP a no
def scopedB (rhos l : List Int) : Bool := l.all (inN rhos)
def regionsB (a : LAH) (rhos : List Int) : Bool :=
  (decide (a.kind = 17) || inN rhos a.rho) && (!decide (a.kind = 18) || scopedB rhos a.rhos) &&
    (scopedB (if a.kind = 13 then rhos ++ a.rhos else rhos) (rhosOf a.eff) && scopedB (if a.kind = 13 then rhos ++ a.rhos else rhos) (sortI (gathT a.ty ++ gathT a.res)))
def findP (env : List Bnd) (x : ByteArray) : Option Bnd := env.reverse.find? (fun b => decide (b.name = x))
def tyP (k rho : Int) (eff : List Atom) (l : List RT) : RT := .node ⟨k, rho, effL eff⟩ l
def varP (env : List Bnd) (a : LAH) : ChkR :=
  match findP env a.name with
  | none => errP a 4
  | some b => mustP b.fn.isNone a 5 (.ok (b.ty, []))
def instP (env : List Bnd) (a : LAH) : ChkR :=
  match findP env a.name with
  | none => errP a 4
  | some b =>
    match b.fn with
    | none => errP a 5
    | some f => mustP (decide (f.rhos.length = a.rhos.length)) a 5 (mustP (withinB (swL f.rhos a.rhos f.eff) a.eff) a 6
        (.ok (tyP 4 a.rho a.eff [swapT f.rhos a.rhos f.ty, swapT f.rhos a.rhos f.res], effL [aGet f.rho, aPut a.rho])))
def isK (k : Int) (x : TE) : Bool := x.1.head.kind == k
def bindsP (a : LAH) (l : List TE) : ChkR :=
  let x := l.getD 0 dTE
  let y := l.getD 1 dTE
  if a.kind = 11 then mustP (withinB x.2 a.eff) a 6 (.ok (tyP 4 a.rho a.eff [a.ty, x.1], effL [aPut a.rho]))
  else if a.kind = 13 then mustP (sameR x.1 a.res) a 5 (mustP (withinB x.2 a.eff) a 6 (.ok (y.1, allE (l.drop 1) [aPut a.rho])))
  else if a.kind = 16 then mustP (sameR x.1 y.1) a 5 (.ok (x.1, effL (handledL x.2 [a.exn] ++ y.2)))
  else if a.kind = 17 then mustP (!inN (sortI (gathT x.1)) a.rho) a 6 (.ok (x.1, withoutL x.2 [a.rho]))
  else .ok (y.1, allE l [])
def ruleP (a : LAH) (l : List TE) : ChkR :=
  let x := l.getD 0 dTE
  let y := l.getD 1 dTE
  let z := l.getD 2 dTE
  if a.kind = 3 then .ok (tyP 2 a.rho [] [x.1, y.1], allE l [aPut a.rho])
  else if a.kind = 4 ∨ a.kind = 5 then mustP (isK 2 x) a 5 (.ok (x.1.kids.getD (a.kind - 4).toNat tZero, allE l [aGet x.1.head.rho]))
  else if a.kind = 6 then .ok (tyP 3 a.rho [] [x.1], allE l [aPut a.rho])
  else if a.kind = 7 then mustP (isK 3 x) a 5 (.ok (x.1.kids.getD 0 tZero, allE l [aGet x.1.head.rho]))
  else if a.kind = 8 then mustP (isK 3 x && sameR (x.1.kids.getD 0 tZero) y.1) a 5 (.ok (tInt, allE l [aPut x.1.head.rho]))
  else if a.kind = 10 then mustP (isK 4 x && sameR (x.1.kids.getD 0 tZero) y.1) a 5 (.ok (x.1.kids.getD 1 tZero, effL (allE l [aGet x.1.head.rho] ++ x.1.head.eff)))
  else if a.kind = 9 then mustP (l.all (isK 1)) a 5 (.ok (tInt, allE l []))
  else if a.kind = 14 then mustP (isK 1 x && sameR y.1 z.1) a 5 (.ok (y.1, allE l []))
  else if a.kind = 15 then mustP (l.all (isK 1)) a 5 (.ok (a.ty, allE l [aExn a.exn]))
  else if a.kind = 1 then .ok (tInt, allE l [])
  else bindsP a l
def innerE (env : List Bnd) (a : LAH) (i : Nat) (acc : List TE) : List Bnd :=
  if a.kind = 11 then env ++ [⟨a.arg, a.ty, none⟩]
  else if a.kind = 12 ∧ i = 1 then env ++ [⟨a.name, (acc.getD 0 dTE).1, none⟩]
  else if a.kind = 13 ∧ i = 0 then env ++ [⟨a.name, tZero, some a⟩, ⟨a.arg, a.ty, none⟩]
  else if a.kind = 13 then env ++ [⟨a.name, tZero, some a⟩]
  else if a.kind = 16 ∧ i = 1 then env ++ [⟨a.arg, tInt, none⟩]
  else env
def innerR (rhos : List Int) (a : LAH) (i : Nat) : List Int :=
  if a.kind = 13 ∧ i = 0 then rhos ++ a.rhos else if a.kind = 17 then rhos ++ [a.rho] else rhos
def sizeP (a : LAH) (r : ChkR) : ChkR :=
  match r with
  | .ok x => mustP (decide (x.1.size ≤ 500)) a 3 (.ok x)
  | .error e => .error e
mutual
def chk (env : List Bnd) (rhos : List Int) : AT → ChkR
  | .node a l =>
    sizeP a (mustP (regionsB a rhos) a 4 (
      if a.kind = 2 then varP env a
      else if a.kind = 18 then instP env a
      else match chkL env rhos a 0 [] l with
        | .error e => .error e
        | .ok ks => ruleP a ks))
def chkL (env : List Bnd) (rhos : List Int) (a : LAH) (i : Nat) (acc : List TE) : List AT → Except (Int × Int) (List TE)
  | [] => .ok acc
  | t :: l =>
    match chk (innerE env a i acc) (innerR rhos a i) t with
    | .error e => .error e
    | .ok r => chkL env rhos a (i + 1) (acc ++ [r]) l
end
def foundP (env : List Bnd) (rhos : List Int) (a : LAH) (l : List AT) : ChkR :=
  mustP (regionsB a rhos) a 4 (
    if a.kind = 2 then varP env a
    else if a.kind = 18 then instP env a
    else match chkL env rhos a 0 [] l with
      | .error e => .error e
      | .ok ks => ruleP a ks)
theorem chk_node (env : List Bnd) (rhos : List Int) (a : LAH) (l : List AT) : chk env rhos (.node a l) = sizeP a (foundP env rhos a l) := by rw [chk]; rfl
theorem chkL_nil (env : List Bnd) (rhos : List Int) (a : LAH) (i : Nat) (acc : List TE) : chkL env rhos a i acc [] = .ok acc := by rw [chkL]
theorem chkL_cons (env : List Bnd) (rhos : List Int) (a : LAH) (i : Nat) (acc : List TE) (t : AT) (l : List AT) :
    chkL env rhos a i acc (t :: l) = match chk (innerE env a i acc) (innerR rhos a i) t with
    | .error e => .error e
    | .ok r => chkL env rhos a (i + 1) (acc ++ [r]) l := by rw [chkL]
def bindsR (a : LAH) : List Int := if a.kind = 17 then [a.rho] else if a.kind = 13 then a.rhos else []
end Go.Proofs.YtkdjnegfnhldpaaGreatDoor
end
section
namespace Go.Proofs.YtkdjnegfnhldpaaGreatDoor
open Go.RowKit
theorem mustP_ok {b : Bool} {a : LAH} {no : Int} {r : ChkR} {x : TE} : mustP b a no r = .ok x ↔ b = true ∧ r = .ok x := by
  unfold mustP errP
  cases b <;> simp
theorem sizeP_ok {a : LAH} {r : ChkR} {x : TE} : sizeP a r = .ok x ↔ r = .ok x ∧ x.1.size ≤ 500 := by
  unfold sizeP
  cases r with
  | error e => simp
  | ok y =>
    simp only [mustP_ok, decide_eq_true_eq, Except.ok.injEq]
    constructor
    · rintro ⟨h, rfl⟩; exact ⟨rfl, h⟩
    · rintro ⟨rfl, h⟩; exact ⟨h, rfl⟩
theorem chkL_ok {env : List Bnd} {rhos : List Int} {a : LAH} : ∀ (l : List AT) (i : Nat) (acc ks : List TE), chkL env rhos a i acc l = .ok ks →
    ∃ rs, ks = acc ++ rs ∧ rs.length = l.length ∧ ∀ j t, l[j]? = some t → ∃ r, rs[j]? = some r ∧ chk (innerE env a (i + j) (acc ++ rs.take j)) (innerR rhos a (i + j)) t = .ok r
  | [], i, acc, ks, h => by
    rw [chkL_nil] at h; cases h; exact ⟨[], by simp, rfl, fun j t h => by simp at h⟩
  | t :: l, i, acc, ks, h => by
    rw [chkL_cons] at h
    cases hr : chk (innerE env a i acc) (innerR rhos a i) t with
    | error e => rw [hr] at h; cases h
    | ok r =>
      rw [hr] at h
      obtain ⟨rs, rfl, hl, hj⟩ := chkL_ok l (i + 1) (acc ++ [r]) ks h
      refine ⟨r :: rs, by simp, by simp [hl], fun j u hu => ?_⟩
      cases j with
      | zero => simp at hu; subst hu; exact ⟨r, rfl, by simpa using hr⟩
      | succ j =>
        obtain ⟨r', h1, h2⟩ := hj j u (by simpa using hu)
        refine ⟨r', by simpa using h1, ?_⟩
        have e1 : i + (j + 1) = i + 1 + j := by omega
        rw [e1]
        simpa using h2
theorem found_ok {env : List Bnd} {rhos : List Int} {a : LAH} {l : List AT} {x : TE} : foundP env rhos a l = .ok x ↔ regionsB a rhos = true ∧
    ((a.kind = 2 ∧ varP env a = .ok x) ∨ (a.kind = 18 ∧ instP env a = .ok x) ∨ (a.kind ≠ 2 ∧ a.kind ≠ 18 ∧ ∃ ks, chkL env rhos a 0 [] l = .ok ks ∧ ruleP a ks = .ok x)) := by
  unfold foundP
  rw [mustP_ok]
  refine and_congr_right (fun _ => ?_)
  by_cases h2 : a.kind = 2
  · simp [h2]
  · by_cases h18 : a.kind = 18
    · simp [h18]
    · rw [if_neg h2, if_neg h18]
      simp only [h2, h18, false_and, false_or, not_false_eq_true, true_and, ne_eq]
      cases h : chkL env rhos a 0 [] l with
      | error e => simp
      | ok ks => simp
theorem chk_ok {env : List Bnd} {rhos : List Int} {a : LAH} {l : List AT} {x : TE} : chk env rhos (.node a l) = .ok x ↔ foundP env rhos a l = .ok x ∧ x.1.size ≤ 500 := by
  rw [chk_node, sizeP_ok]
theorem scopedB_iff (rhos l : List Int) : scopedB rhos l = true ↔ ∀ z ∈ l, z ∈ rhos := by
  unfold scopedB
  rw [List.all_eq_true]
  exact forall_congr' (fun z => forall_congr' (fun _ => inN_mem' rhos z))
theorem regionsB_iff (a : LAH) (rhos : List Int) : regionsB a rhos = true ↔ (a.kind = 17 ∨ a.rho ∈ rhos) ∧ (a.kind = 18 → ∀ z ∈ a.rhos, z ∈ rhos) ∧
    (∀ z ∈ rhosOf a.eff, z ∈ rhos ∨ a.kind = 13 ∧ z ∈ a.rhos) ∧ (∀ z, z ∈ gathT a.ty ∨ z ∈ gathT a.res → z ∈ rhos ∨ a.kind = 13 ∧ z ∈ a.rhos) := by
  unfold regionsB
  simp only [Bool.and_eq_true, Bool.or_eq_true, decide_eq_true_eq, Bool.not_eq_true', decide_eq_false_iff_not, scopedB_iff, inN_mem']
  have e : ∀ z, (z ∈ (if a.kind = 13 then rhos ++ a.rhos else rhos)) ↔ (z ∈ rhos ∨ a.kind = 13 ∧ z ∈ a.rhos) := fun z => by
    split <;> rename_i h <;> simp [h]
  simp only [e, mem_sortI, List.mem_append]
  constructor
  · rintro ⟨⟨h1, h2⟩, h3, h4⟩
    exact ⟨h1, fun hk => h2.resolve_left (fun h => h hk), h3, h4⟩
  · rintro ⟨h1, h2, h3, h4⟩
    refine ⟨⟨h1, ?_⟩, h3, h4⟩
    by_cases hk : a.kind = 18
    · exact .inr (h2 hk)
    · exact .inl hk
inductive RuleOk (a : LAH) (l : List TE) : TE → Prop where
  | pair (h : a.kind = 3) : RuleOk a l (tyP 2 a.rho [] [(l.getD 0 dTE).1, (l.getD 1 dTE).1], allE l [aPut a.rho])
  | proj (h : a.kind = 4 ∨ a.kind = 5) (ht : isK 2 (l.getD 0 dTE) = true) : RuleOk a l ((l.getD 0 dTE).1.kids.getD (a.kind - 4).toNat tZero, allE l [aGet (l.getD 0 dTE).1.head.rho])
  | ref (h : a.kind = 6) : RuleOk a l (tyP 3 a.rho [] [(l.getD 0 dTE).1], allE l [aPut a.rho])
  | get (h : a.kind = 7) (ht : isK 3 (l.getD 0 dTE) = true) : RuleOk a l ((l.getD 0 dTE).1.kids.getD 0 tZero, allE l [aGet (l.getD 0 dTE).1.head.rho])
  | set (h : a.kind = 8) (ht : isK 3 (l.getD 0 dTE) = true) (hs : sameR ((l.getD 0 dTE).1.kids.getD 0 tZero) (l.getD 1 dTE).1 = true) : RuleOk a l (tInt, allE l [aPut (l.getD 0 dTE).1.head.rho])
  | app (h : a.kind = 10) (ht : isK 4 (l.getD 0 dTE) = true) (hs : sameR ((l.getD 0 dTE).1.kids.getD 0 tZero) (l.getD 1 dTE).1 = true) :
      RuleOk a l ((l.getD 0 dTE).1.kids.getD 1 tZero, effL (allE l [aGet (l.getD 0 dTE).1.head.rho] ++ (l.getD 0 dTE).1.head.eff))
  | op (h : a.kind = 9) (ht : l.all (isK 1) = true) : RuleOk a l (tInt, allE l [])
  | ite (h : a.kind = 14) (ht : isK 1 (l.getD 0 dTE) = true) (hs : sameR (l.getD 1 dTE).1 (l.getD 2 dTE).1 = true) : RuleOk a l ((l.getD 1 dTE).1, allE l [])
  | raise (h : a.kind = 15) (ht : l.all (isK 1) = true) : RuleOk a l (a.ty, allE l [aExn a.exn])
  | num (h : a.kind = 1) : RuleOk a l (tInt, allE l [])
  | fn (h : a.kind = 11) (hw : withinB (l.getD 0 dTE).2 a.eff = true) : RuleOk a l (tyP 4 a.rho a.eff [a.ty, (l.getD 0 dTE).1], effL [aPut a.rho])
  | letrec (h : a.kind = 13) (hs : sameR (l.getD 0 dTE).1 a.res = true) (hw : withinB (l.getD 0 dTE).2 a.eff = true) : RuleOk a l ((l.getD 1 dTE).1, allE (l.drop 1) [aPut a.rho])
  | handle (h : a.kind = 16) (hs : sameR (l.getD 0 dTE).1 (l.getD 1 dTE).1 = true) : RuleOk a l ((l.getD 0 dTE).1, effL (handledL (l.getD 0 dTE).2 [a.exn] ++ (l.getD 1 dTE).2))
  | region (h : a.kind = 17) (hn : inN (sortI (gathT (l.getD 0 dTE).1)) a.rho = false) : RuleOk a l ((l.getD 0 dTE).1, withoutL (l.getD 0 dTE).2 [a.rho])
  | other (h : a.kind ∉ [(1 : Int), 3, 4, 5, 6, 7, 8, 9, 10, 11, 13, 14, 15, 16, 17]) : RuleOk a l ((l.getD 1 dTE).1, allE l [])
theorem ruleP_ok {a : LAH} {l : List TE} {x : TE} : ruleP a l = .ok x ↔ RuleOk a l x := by
  constructor
  · intro h
    unfold ruleP bindsP at h
    dsimp only at h
    by_cases k : a.kind = 3
    · rw [if_pos k] at h; cases h; exact .pair k
    rw [if_neg k] at h
    have k3 := k
    clear k
    by_cases k : a.kind = 4 ∨ a.kind = 5
    · rw [if_pos k] at h; rw [mustP_ok] at h; obtain ⟨h1, h2⟩ := h; cases h2; exact .proj k h1
    rw [if_neg k] at h
    have k45 := k
    clear k
    by_cases k : a.kind = 6
    · rw [if_pos k] at h; cases h; exact .ref k
    rw [if_neg k] at h
    have k6 := k
    clear k
    by_cases k : a.kind = 7
    · rw [if_pos k] at h; rw [mustP_ok] at h; obtain ⟨h1, h2⟩ := h; cases h2; exact .get k h1
    rw [if_neg k] at h
    have k7 := k
    clear k
    by_cases k : a.kind = 8
    · rw [if_pos k] at h; rw [mustP_ok, Bool.and_eq_true] at h; obtain ⟨⟨h1, h3⟩, h2⟩ := h; cases h2; exact .set k h1 h3
    rw [if_neg k] at h
    have k8 := k
    clear k
    by_cases k : a.kind = 10
    · rw [if_pos k] at h; rw [mustP_ok, Bool.and_eq_true] at h; obtain ⟨⟨h1, h3⟩, h2⟩ := h; cases h2; exact .app k h1 h3
    rw [if_neg k] at h
    have k10 := k
    clear k
    by_cases k : a.kind = 9
    · rw [if_pos k] at h; rw [mustP_ok] at h; obtain ⟨h1, h2⟩ := h; cases h2; exact .op k h1
    rw [if_neg k] at h
    have k9 := k
    clear k
    by_cases k : a.kind = 14
    · rw [if_pos k] at h; rw [mustP_ok, Bool.and_eq_true] at h; obtain ⟨⟨h1, h3⟩, h2⟩ := h; cases h2; exact .ite k h1 h3
    rw [if_neg k] at h
    have k14 := k
    clear k
    by_cases k : a.kind = 15
    · rw [if_pos k] at h; rw [mustP_ok] at h; obtain ⟨h1, h2⟩ := h; cases h2; exact .raise k h1
    rw [if_neg k] at h
    have k15 := k
    clear k
    by_cases k : a.kind = 1
    · rw [if_pos k] at h; cases h; exact .num k
    rw [if_neg k] at h
    have k1 := k
    clear k
    by_cases k : a.kind = 11
    · rw [if_pos k] at h; rw [mustP_ok] at h; obtain ⟨h1, h2⟩ := h; cases h2; exact .fn k h1
    rw [if_neg k] at h
    have k11 := k
    clear k
    by_cases k : a.kind = 13
    · rw [if_pos k] at h; rw [mustP_ok, mustP_ok] at h; obtain ⟨h1, h3, h2⟩ := h; cases h2; exact .letrec k h1 h3
    rw [if_neg k] at h
    have k13 := k
    clear k
    by_cases k : a.kind = 16
    · rw [if_pos k] at h; rw [mustP_ok] at h; obtain ⟨h1, h2⟩ := h; cases h2; exact .handle k h1
    rw [if_neg k] at h
    have k16 := k
    clear k
    by_cases k : a.kind = 17
    · rw [if_pos k] at h; rw [mustP_ok] at h; obtain ⟨h1, h2⟩ := h; cases h2; exact .region k (by simpa using h1)
    rw [if_neg k] at h
    have k17 := k
    clear k
    cases h
    refine .other ?_
    simp only [List.mem_cons, List.not_mem_nil, or_false, not_or]
    refine ⟨?_, ?_, ?_, ?_, ?_, ?_, ?_, ?_, ?_, ?_, ?_, ?_, ?_, ?_, ?_⟩ <;> first | assumption | omega
  · intro h
    unfold ruleP bindsP
    cases h with
    | proj k ht =>
      have h3 : a.kind ≠ 3 := by omega
      rw [if_neg h3, if_pos k, mustP_ok]
      exact ⟨ht, rfl⟩
    | other k =>
      simp only [List.mem_cons, List.not_mem_nil, or_false, not_or] at k
      obtain ⟨k1, k3, k4, k5, k6, k7, k8, k9, k10, k11, k13, k14, k15, k16, k17⟩ := k
      simp [k1, k3, k4, k5, k6, k7, k8, k9, k10, k11, k13, k14, k15, k16, k17]
    | _ => simp_all [mustP_ok]
theorem mem_effL (l : List Atom) (x : Atom) : x ∈ effL l ↔ x ∈ l ∧ atomB x = true := by
  rw [mem_sortA, List.mem_filter]
structure RIn (rhos : List Int) (x : TE) : Prop where
  ty : ∀ z ∈ gathT x.1, z ∈ rhos
  eff : ∀ z ∈ rhosOf x.2, z ∈ rhos
theorem gath_tZero : gathT tZero = [0] := rfl
theorem RIn.zero {rhos : List Int} (h0 : (0 : Int) ∈ rhos) : RIn rhos dTE := ⟨fun z hz => by
  have : z = 0 := by simpa [dTE, gath_tZero] using hz
  subst this; exact h0, fun z hz => by simp [dTE, rhosOf, sortI, sortR] at hz⟩
theorem mem_swL {f t : List Int} {l : List Atom} {x : Atom} (h : x ∈ swL f t l) : ∃ y ∈ l, atomB y = true ∧ x = swA f t y ∧ atomB x = true := by
  unfold swL at h
  rw [mem_sortA, List.mem_filter, List.mem_map] at h
  obtain ⟨⟨y, hy, rfl⟩, h2⟩ := h
  rw [mem_sortA, List.mem_filter] at hy
  exact ⟨y, hy.1, hy.2, rfl, h2⟩
structure BIn (rhos : List Int) (b : Bnd) : Prop where
  ty : ∀ z ∈ gathT b.ty, z ∈ rhos
  fn : ∀ f, b.fn = some f → f.rho ∈ rhos ∧ (∀ z ∈ rhosOf f.eff, z ∈ rhos ∨ z ∈ f.rhos) ∧ ∀ z, z ∈ gathT f.ty ∨ z ∈ gathT f.res → z ∈ rhos ∨ z ∈ f.rhos
theorem BIn.mono {rhos rhos' : List Int} {b : Bnd} (h : BIn rhos b) (hr : ∀ z ∈ rhos, z ∈ rhos') : BIn rhos' b :=
  ⟨fun z hz => hr z (h.ty z hz), fun f hf => ⟨hr _ (h.fn f hf).1, fun z hz => ((h.fn f hf).2.1 z hz).imp (hr z) id, fun z hz => ((h.fn f hf).2.2 z hz).imp (hr z) id⟩⟩
theorem findP_mem {env : List Bnd} {x : ByteArray} {b : Bnd} (h : findP env x = some b) : b ∈ env ∧ b.name = x := by
  unfold findP at h
  exact ⟨List.mem_reverse.1 (List.mem_of_find?_eq_some h), by simpa using List.find?_some h⟩
end Go.Proofs.YtkdjnegfnhldpaaGreatDoor
end
