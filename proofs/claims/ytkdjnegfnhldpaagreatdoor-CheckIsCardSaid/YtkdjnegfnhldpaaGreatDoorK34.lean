/- Part 34. -/
import Derived.Test.YtkdjnegfnhldpaaGreatDoorK33
set_option linter.unusedVariables false
set_option maxRecDepth 100000
set_option linter.unusedSimpArgs false
set_option maxHeartbeats 40000000
namespace Go.Proofs.YtkdjnegfnhldpaaGreatDoor
open Go.Proofs.Tryz Go.RowKit
structure FX(w:World)(a:AH)(W:World):Prop where
 box:Fq W w.heap.size a
 res:∃cs:Array Value,cs.size=7∧W.heap[w.heap.size+1]?=some (.cells cs 69 (0,0))
 below:Below w.heap.size w W
 size:w.heap.size+2≤W.heap.size
theorem Dr(w:World)(a:AH):FX w a ((w.alloc (AO a)).alloc (.cells #[.int .u8 0,.int .i64 0,.slice none 0 0,.slice none 0 0,.slice none 0 0,.int .i64 0,.int .i64 0] 69)):=by have e:=heap_alloc_new (w.alloc (AO a)) (.cells #[.int .u8 0,.int .i64 0,.slice none 0 0,.slice none 0 0,.slice none 0 0,.int .i64 0,.int .i64 0] 69);simp only [World.size_alloc] at e;exact⟨(Aa w a).below bA,⟨_,rfl,e⟩,((Below.refl w.heap.size w).alloc (Nat.le_refl _) _).alloc (by simp) _,by simp⟩
theorem FX.step{w W W':World}{a:AH}(h:FX w a W)(hb:Below W.heap.size W W'):FX w a W':=by obtain⟨cs,h1,h2⟩:=h.res;exact⟨h.box.below hb,⟨cs,h1,(hb.block _ (Array.getElem?_eq_some_iff.1 h2).1).trans h2⟩,h.below.trans (hb.mono h.below.size),Nat.le_trans h.size hb.size⟩
theorem FX.alloc{w W:World}{a:AH}(h:FX w a W)(o:Obj):FX w a (W.alloc o):=h.step bA
theorem FX.grown{w W W':World}{a:AH}{r:Option Nat}(h:FX w a W)(hg:W.grownBy W' r)(hr:∀b,r=some b→w.heap.size+2≤b):FX w a W':=by obtain⟨cs,h1,h2⟩:=h.res;have aU:=h.size;have aS:∀k,k<w.heap.size+2→W'.heap[k]?=W.heap[k]?:=fun k hk=>hg.block k (by omega) (fun e=>by have:=hr k e.symm;omega);exact⟨⟨(aS _ (by omega)).trans h.box.blk⟩,⟨cs,h1,(aS _ (by omega)).trans h2⟩,h.below.grown hg h.below.size (fun k e=>by have:=hr k e;omega),Nat.le_trans h.size hg.size⟩
theorem FX.store{w W:World}{a:AH}(h:FX w a W){cs:Array Value}(hc:cs.size=7):FX w a (W.setRow (w.heap.size+1) cs):=by obtain⟨cs',h1,h2⟩:=h.res;exact⟨⟨(setRow_other _ _ _ _ (by omega)).trans h.box.blk⟩,⟨cs,hc,setRow_heap _ _ _ _ _ _ h2⟩,h.below.grown BB h.below.size (fun k e=>by cases e;omega),by have:=h.size;simpa using this⟩
theorem FX.heap{w W:World}{a:AH}(h:FX w a W)(cs:Array Value):(W.setRow (w.heap.size+1) cs).heap[w.heap.size+1]?=some (.cells cs 69 (0,0)):=by obtain⟨cs',_,h2⟩:=h.res;exact setRow_heap _ _ _ _ _ _ h2
theorem FX.fin{w W:World}{a:AH}{S:Nat→Prop}{y:RV}{x:TE}(h:FX w a W)(hS:∀b,w.heap.size≤b→S b)(hy:y.Ok W (Sn w S))(hx:y.er=x):GJ w S (.ok x) (.returned (XN y)) (W.setRow (w.heap.size+1) #[.int .u8 y.ty.head.kind,.int .i64 y.ty.head.rho,.slice y.ty.head.ep y.ty.head.en y.ty.head.ec,.slice y.ty.head.kp y.ty.head.kn y.ty.head.kc,.slice y.ep y.en y.ec,.int .i64 0,.int .i64 0]):=by
 refine⟨⟨y,rfl,hx,(hy.grown BB (fun b e=>by cases e;rintro(⟨h1,_⟩|h1)<;>omega)).weak (fun b _ hb=>?_)⟩,(h.store (cs:=#[.int .u8 y.ty.head.kind,.int .i64 y.ty.head.rho,.slice y.ty.head.ep y.ty.head.en y.ty.head.ec,.slice y.ty.head.kp y.ty.head.kn y.ty.head.kc,.slice y.ep y.en y.ec,.int .i64 0,.int .i64 0]) rfl).below⟩;rcases hb with⟨_,h2⟩|h2
 ·exact h2
 ·exact hS b (by omega)
theorem FX.err{w W:World}{a:AH}{S:Nat→Prop}{z no:Int}(h:FX w a W):GJ w S (.error (z,no)) (.returned (Wp z no)) (W.setRow (w.heap.size+1) #[.int .u8 0,.int .i64 0,.slice none 0 0,.slice none 0 0,.slice none 0 0,.int .i64 z,.int .i64 no]):=⟨rfl,(h.store (cs:=#[.int .u8 0,.int .i64 0,.slice none 0 0,.slice none 0 0,.slice none 0 0,.int .i64 z,.int .i64 no]) rfl).below⟩
theorem L4{P:Program}{ops:Array Oper}{rest:List Oper}{o:Oper}{act:Act}{Q:Exit→Act→World→Prop}(au:o.guard=none)(ty:TypeId)(x y:Operand)(ho:o.op=.store ty x y){w W:World}{a:AH}(h:FX w a W)(cells:Array Value)(hx:act.eval x=.pointer (some ⟨w.heap.size+1,0,none⟩))(hy:act.eval y=.agg cells)(hi:(P.info? ty).map (·.size)=some cells.size)(h5:cells.size=7)(h1:cells.all (·.oneCell')=true)(hK:wpList P ops Q rest (act.put o.dst undef) (W.setRow (w.heap.size+1) cells)):wpList P ops Q (o::rest) act W:=by obtain⟨cs,e1,e2⟩:=h.res;exact wpList_store_row au ty x y ho (w.heap.size+1) cells hx hy 69 cs e2 hi (by omega) h1 hK
theorem N7{P:Program}{ops:Array Oper}{o:Oper}{act:Act}{K:Act→World→Prop}{Q:Exit→Act→World→Prop}{E:Prop}(au:o.guard=none)(ty:TypeId)(x y:Operand)(ho:o.op=.store ty x y){w W:World}{a:AH}(h:FX w a W)(cells:Array Value)(hx:act.eval x=.pointer (some ⟨w.heap.size+1,0,none⟩))(hy:act.eval y=.agg cells)(hi:(P.info? ty).map (·.size)=some cells.size)(h5:cells.size=7)(h1:cells.all (·.oneCell')=true)(hK:K (act.put o.dst undef) (W.setRow (w.heap.size+1) cells)):if Region.wanted o (yielded ops act.tmps)=true then Oper.wp P o act W K Q else E:=by obtain⟨cs,e1,e2⟩:=h.res;rw [if_pos (by simp [Region.wanted,au])];exact wp_store_row ty x y ho (w.heap.size+1) cells hx hy 69 cs e2 hi (by omega) h1 hK
theorem Cy{P:Program}{ops:Array Oper}{o:Oper}{act:Act}{K:Act→World→Prop}{Q:Exit→Act→World→Prop}{E:Prop}(au:o.guard=none)(ty:TypeId)(x y:Operand)(ho:o.op=.store ty x y){W:World}{g:Nat}{t:TypeId}{cs:Array Value}(e2:W.heap[g]?=some (.cells cs t (0,0)))(cells:Array Value)(hx:act.eval x=.pointer (some ⟨g,0,none⟩))(hy:act.eval y=.agg cells)(hi:(P.info? ty).map (·.size)=some cells.size)(h5:cells.size=cs.size)(h1:cells.all (·.oneCell')=true)(hK:K (act.put o.dst undef) (W.setRow g cells)):if Region.wanted o (yielded ops act.tmps)=true then Oper.wp P o act W K Q else E:=by rw [if_pos (by simp [Region.wanted,au])];exact wp_store_row ty x y ho g cells hx hy t cs e2 hi h5.symm h1 hK
structure Pt(w:World)(S:Nat→Prop)(a:AH)(p:Option Addr)(n c:Nat)(l:List RV):Prop where
 own:AH.Own w a
 small:Bl a
 res:Sz w S p n c l
 new:∀b,w.heap.size≤b→S b
 ty:∀b∈A7 a.ty,S b
 sum:(l.map (·.en)).sum≤900000
 good:∀r∈l,BF r.ty.er=true∧BG r.ty.er=true∧r.ty.size≤1000
 node:EJ a.plain l.length
 k2:a.kind≠2
 k18:a.kind≠18
 eff:a.eff≠[]→∀ad,a.ep=some ad→S ad.block
def CN(l:List RV):List AD:=l.flatMap (·.eff)
structure S0(w:World)(a:AH)(u:Value)(el:List AD)(W:World):Prop where
 b:FX w a W
 own:AJ AS 3 W (w.heap.size+2) 59 u el.length el
theorem S0.push{w W W':World}{a:AH}{u v:Value}{el l':List AD}{m:Nat}(h:S0 w a u el W)(aB:AJ AS 3 W' (w.heap.size+2) 59 v (el.length+m) (el++l'))(hm:l'.length=m)(hg:W.grownBy W' u.ownBlock):S0 w a v (el++l') W':=⟨h.b.grown hg (fun b e=>(World.ownsRow.lt h.own b e).1),by rw [List.length_append,hm];exact aB⟩
def Tn(w:World)(S:Nat→Prop)(g:Nat)(u:Value)(b:Nat):Prop:=Sn w S b∧b≠g∧u.ownBlock≠some b
structure MH(w:World)(S:Nat→Prop)(a:AH)(g:Nat)(y:PT)(u:Value)(el:List AD)(W:World):Prop where
 b:FX w a W
 own:AJ AS 3 W (w.heap.size+2) 59 u el.length el
 out:W.heap[g]?=some (.cells (CC y) 28 (0,0))
 hg:w.heap.size+2≤g
 offg:u.ownBlock≠some g
 lies:LR.lies W y
 uses:∀b∈A7 y,Tn w S g u b
section
variable {w W W':World} {S:Nat→Prop} {a:AH} {g:Nat} {y y':PT} {u v:Value} {el l':List AD} {m:Nat}
theorem MH.step(h:MH w S a g y u el W)(hb:Below W.heap.size W W'):MH w S a g y u el W':=⟨h.b.step hb,h.own.below hb,(hb.block _ (AW h.out)).trans h.out,h.hg,h.offg,LR.lies_below hb _ h.lies,h.uses⟩
theorem MH.push(h:MH w S a g y u el W)(aB:AJ AS 3 W' (w.heap.size+2) 59 v (el.length+m) (el++l'))(hm:l'.length=m)(hg:W.grownBy W' u.ownBlock)(hf:∀b,b<W.heap.size→v.ownBlock=some b→u.ownBlock=some b):MH w S a g y v (el++l') W':=⟨h.b.grown hg (fun b e=>(World.ownsRow.lt h.own b e).1),by rw [List.length_append,hm];exact aB,(hg.block g (AW h.out) (fun e=>h.offg e.symm)).trans h.out,h.hg,fun e=>h.offg (hf g (AW h.out) e),Cg hg y (fun b hb e=>(h.uses b hb).2.2 e) h.lies,fun b hb=>⟨(h.uses b hb).1,(h.uses b hb).2.1,fun e=>(h.uses b hb).2.2 (hf b (AN y h.lies b hb) e)⟩⟩
theorem MH.put(h:MH w S a g y u el W)(hl:LR.lies W y')(hu:∀b∈A7 y',Tn w S g u b):MH w S a g y' u el (W.setRow g (CC y')):=⟨h.b.grown BB (fun b e=>by cases e;exact h.hg),h.own.other BB (fun b hb e=>by cases e;exact h.offg hb),setRow_heap _ _ _ _ _ _ h.out,h.hg,h.offg,Cg BB y' (fun b hb e=>(hu b hb).2.1 (by injection e with e;exact e.symm)) hl,hu⟩
theorem MH.tn_old(h:MH w S a g y u el W){b:Nat}(hb:b<w.heap.size)(hs:S b):Tn w S g u b:=⟨.inl ⟨hb,hs⟩,by have:=h.hg;omega,fun e=>by have:=(World.ownsRow.lt h.own b e).1;omega⟩
theorem MH.tn_new(h:MH w S a g y u el W){b:Nat}(hb:W.heap.size≤b):Tn w S g u b:=⟨.inr (by have:=h.b.size;omega),by have:=AW h.out;omega,fun e=>by have:=(World.ownsRow.lt h.own b e).2;omega⟩
theorem MH.new(h:MH w S a g y u el W){q:Option Addr}{k c:Nat}{el':List AD}(hr:AJ AS 3 W (w.heap.size+2) 59 (.slice q k c) k el')(aG:el'.length=k)(hq:∀ad,q=some ad→ad.block≠g∧∀b∈A7 y,ad.block≠b):MH w S a g y (.slice q k c) el' W:=
 ⟨h.b,by rw [aG];exact hr,h.out,h.hg,fun e=>by
  cases q with
  |none=>cases e
  |some ad=>exact(hq ad rfl).1 (Option.some.inj e),h.lies,fun b hb=>⟨(h.uses b hb).1,(h.uses b hb).2.1,fun e=>by
  cases q with
  |none=>cases e
  |some ad=>exact(hq ad rfl).2 b hb (Option.some.inj e)⟩⟩
theorem MH.fin(h:MH w S a g y u el W)(hb:Below W.heap.size W W')(hS:∀b,w.heap.size≤b→S b)(bY:∀x∈el,Cq x){q:Option Addr}{k c:Nat}(hr:FW W.heap.size AS 3 W' q k c (A2 el)):(⟨y,q,k,c,A2 el⟩:RV).Ok W' (Sn w S):=⟨LR.lies_below hb _ h.lies,fun b hb=>(h.uses b hb).1,hr.row,fun x hx=>bY x (by unfold A2 at hx;rw [CV,List.mem_filter] at hx;exact hx.1),fun _ ad hp=>.inr (Nat.le_trans h.b.size (hr.far ad hp))⟩
end
theorem Uc(l:List RV):(Ak l).flatMap (·.2)=CN l:=by unfold Ak CN;rw [List.flatMap_map];rfl
theorem CU(l:List RV)(more:List AD):BO (Ak l) more=A2 (CN l++more):=by unfold BO;rw [Uc];exact MX (fun x hx=>by simp only [List.mem_append];exact Or.comm)
theorem Gd{w:World}{S:Nat→Prop}{l:List RV}(h:∀r∈l,r.Ok w S):(CN l).length=(l.map (·.en)).sum:=by
 induction l with
 |nil=>rfl
 |cons x l ih=>
  have h1:=ih (fun r hr=>h r (by simp [hr]));have h2:=(h x (by simp)).eff.len;simp only [CN,List.flatMap_cons,List.length_append,List.map_cons,List.sum_cons] at h1 ⊢;omega
theorem Cx{l:List RV}{j:Nat}{x:RV}(h:l[j]?=some x):CN (l.take (j+1))=CN (l.take j)++x.eff:=by unfold CN;rw [AI h,List.flatMap_append];simp
theorem Br(l:List RV)(k:Nat):(CN (l.take k)).length≤(CN l).length:=by
 have h:CN l=CN (l.take k)++CN (l.drop k):=by unfold CN;rw [←List.flatMap_append,List.take_append_drop]
 rw [h,List.length_append];omega
theorem II{w:World}{S:Nat→Prop}{l:List RV}(h:∀r∈l,r.Ok w S):∀x∈CN l,Cq x:=fun x hx=>by obtain⟨r,hr,hx⟩:=List.mem_flatMap.1 hx;exact(h r hr).eok x hx
structure Fs(w:World)(a:AH)(g:Nat)(y:PT)(W:World):Prop where
 b:FX w a W
 out:W.heap[g]?=some (.cells (CC y) 28 (0,0))
 hg:w.heap.size+2≤g
theorem Fs.step{w W W':World}{a:AH}{g:Nat}{y:PT}(h:Fs w a g y W)(hb:Below W.heap.size W W'):Fs w a g y W':=⟨h.b.step hb,(hb.block _ (AW h.out)).trans h.out,h.hg⟩
theorem Fs.alloc{w W:World}{a:AH}{g:Nat}{y:PT}(h:Fs w a g y W)(o:Obj):Fs w a g y (W.alloc o):=h.step bA
theorem Fs.store{w W:World}{a:AH}{g:Nat}{y:PT}(h:Fs w a g y W){cs:Array Value}(hc:cs.size=7):Fs w a g y (W.setRow (w.heap.size+1) cs):=⟨h.b.store hc,(setRow_other _ _ _ _ (by have:=h.hg;omega)).trans h.out,h.hg⟩
theorem Tl{l:List AD}{x:AD}:x∈A2 l↔x∈l∧AX x=true:=by unfold A2;rw [CV,List.mem_filter]
theorem Ub(l m:List AD):A2 (A2 l++m)=A2 (l++m):=MX (fun x hx=>by simp only [List.mem_append,Tl,hx,and_true])
theorem LM(l:List AD)(s:List ByteArray):(CP l s).length≤l.length:=by have h:CP l s=A2 (l.filter (fun x=>!DE s x)):=FE _ l;rw [h];exact Nat.le_trans (IF _) (List.length_filter_le _ _)
theorem Pj(l:List AD)(r:List Int):A2 (B6 l r)=B6 l r:=by have h:B6 l r=A2 (l.filter (fun x=>!Ee r x)):=FE _ l;rw [h,OG]
theorem RE(l:List AD)(r:List Int):(B6 l r).length≤l.length:=by have h:B6 l r=A2 (l.filter (fun x=>!Ee r x)):=FE _ l;rw [h];exact Nat.le_trans (IF _) (List.length_filter_le _ _)
theorem Tc{l m:List Int}(h:∀z,z∈l↔z∈m)(x:Int):Du l x=Du m x:=by rw [Bool.eq_iff_iff,Gh,Gh];exact h x
structure UI(w:World)(b o b1 o1 n kc:Nat)(x:RV)(ts:List PT):Prop where
 kids:x.ty.kids=ts
 cell:∀W,Below w.heap.size w W→W.cell? ⟨b,o+3,none⟩=some (.slice (some ⟨b1,o1,none⟩) n kc)
 row:Da w (some ⟨b1,o1,none⟩) n kc ts
theorem UI.at{w:World}{b o b1 o1 n kc:Nat}{x:RV}{ts:List PT}(h:UI w b o b1 o1 n kc x ts){j:Nat}{t:PT}(ht:ts[j]?=some t){W:World}(hb:Below w.heap.size w W):W.rangeAt b1 (o1+j * 4) [.int .u8 t.head.kind,.int .i64 t.head.rho,.slice t.head.ep t.head.en t.head.ec,.slice t.head.kp t.head.kn t.head.kc]:=fun i v hv=>by obtain⟨b',o',hp,_,hc⟩:=(h.row.below hb).row.row.elem ht;cases hp;exact hc i v hv
theorem IP{w:World}{S:Nat→Prop}{a:AH}{b o n c:Nat}{x:RV}{l:List RV}(h:Pt w S a (some ⟨b,o,none⟩) n c (x::l)){k:Int}(hk:x.ty.head.kind=k)(dL:k=2∨k=3∨k=4):∃b1 o1 kc ts,UI w b o b1 o1 ts.length kc x ts∧ts.length=if k=3 then 1 else 2:=by
 have hx:=h.res.each x (by simp);have hm:=(h.good x (by simp)).1;have hn:BK w x.ty.head x.ty.kids:=BD (by rw [←AG.eta];exact hx.ty)
 have aG:x.ty.kids.length=if k=3 then 1 else 2:=by
  rw [AG.eta x.ty,Bj,Bool.and_eq_true] at hm;have h1:=hm.1;unfold Ar at h1;have e:x.ty.head.plain.kind=k:=hk;rcases dL with rfl|rfl|rfl
  ·simp [e] at h1;simp [h1]
  ·simp [e] at h1;simp [h1]
  ·simp [e] at h1;simp [h1]
 have aS:x.ty.kids≠[]:=by intro e;rw [e] at aG;simp at aG;split at aG<;>omega
 have ao:=hn.kids.len;rcases hn.kids.row with h0|⟨b1,o1,hp,_,_⟩
 ·exact absurd h0 aS
 refine⟨b1,o1,x.ty.head.kc,x.ty.kids,⟨rfl,fun W hb=>?_,?_⟩,aG⟩
 ·have h3:=FP (h.res.row.below hb) (j:=0) rfl 3 _ rfl;simp only [Nat.zero_mul,Nat.add_zero] at h3;rw [hp,←ao] at h3;exact h3
 ·have hr:=hn.rowT;rw [hp,←ao] at hr;exact hr
theorem O9{x:PT}{ts:List PT}(h:x.kids=ts){t:PT}(ht:t∈ts){b:Nat}(hb:b∈A7 t):b∈A7 x:=by rw [AG.eta x];exact K7 (by rw [h];exact ht) hb
section
variable {P:Program} {ops:Array Oper} {rest:List Oper} {o:Oper} {act:Act} {Q:Exit→Act→World→Prop} {K:Act→World→Prop} {E:Prop} {ty:TypeId} {x y:Operand} {w W:World} {a:AH}
theorem ru(c:Array Value)(h:FX w a W)(hK:wpList P ops Q rest (act.put o.dst undef) (W.setRow (w.heap.size+1) c))(au:o.guard=none:=by rfl)(ho:o.op=.store ty x y:=by exact rfl)(hx:act.eval x=.pointer (some ⟨w.heap.size+1,0,none⟩):=by exact rfl)(hy:act.eval y=.agg c:=by exact rfl)(hi:(P.info? ty).map (·.size)=some c.size:=by kernel_rfl)(h5:c.size=7:=by exact rfl)(h1:c.all (·.oneCell')=true:=by simp [Value.oneCell']):wpList P ops Q (o::rest) act W:=L4 au ty x y ho h c hx hy hi h5 h1 hK
theorem sr(c:Array Value)(h:FX w a W)(hK:K (act.put o.dst undef) (W.setRow (w.heap.size+1) c))(au:o.guard=none:=by rfl)(ho:o.op=.store ty x y:=by exact rfl)(hx:act.eval x=.pointer (some ⟨w.heap.size+1,0,none⟩):=by exact rfl)(hy:act.eval y=.agg c:=by exact rfl)(hi:(P.info? ty).map (·.size)=some c.size:=by kernel_rfl)(h5:c.size=7:=by exact rfl)(h1:c.all (·.oneCell')=true:=by simp [Value.oneCell']):if Region.wanted o (yielded ops act.tmps)=true then Oper.wp P o act W K Q else E:=N7 au ty x y ho h c hx hy hi h5 h1 hK
theorem I5(z no:Int)(h:FX w a W)(hK:wpList P ops Q rest (act.put o.dst undef) (W.setRow (w.heap.size+1) #[.int .u8 0,.int .i64 0,.slice none 0 0,.slice none 0 0,.slice none 0 0,.int .i64 z,.int .i64 no]))(au:o.guard=none:=by rfl)(ho:o.op=.store ty x y:=by exact rfl)(hx:act.eval x=.pointer (some ⟨w.heap.size+1,0,none⟩):=by exact rfl)(hy:act.eval y=.agg #[.int .u8 0,.int .i64 0,.slice none 0 0,.slice none 0 0,.slice none 0 0,.int .i64 z,.int .i64 no]:=by exact rfl)(hi:(P.info? ty).map (·.size)=some 7:=by kernel_rfl) :wpList P ops Q (o::rest) act W:=ru _ h hK au ho hx hy hi
theorem XV(v:RV)(h:FX w a W)(hK:wpList P ops Q rest (act.put o.dst undef) (W.setRow (w.heap.size+1) #[.int .u8 v.ty.head.kind,.int .i64 v.ty.head.rho,.slice v.ty.head.ep v.ty.head.en v.ty.head.ec,.slice v.ty.head.kp v.ty.head.kn v.ty.head.kc,.slice v.ep v.en v.ec,.int .i64 0,.int .i64 0]))(au:o.guard=none:=by rfl)(ho:o.op=.store ty x y:=by exact rfl)(hx:act.eval x=.pointer (some ⟨w.heap.size+1,0,none⟩):=by exact rfl)(hy:act.eval y=.agg #[.int .u8 v.ty.head.kind,.int .i64 v.ty.head.rho,.slice v.ty.head.ep v.ty.head.en v.ty.head.ec,.slice v.ty.head.kp v.ty.head.kn v.ty.head.kc,.slice v.ep v.en v.ec,.int .i64 0,.int .i64 0]:=by exact rfl)(hi:(P.info? ty).map (·.size)=some 7:=by kernel_rfl) :wpList P ops Q (o::rest) act W:=ru _ h hK au ho hx hy hi
end
structure Js(w0 w:World)(S:Nat→Prop)(t:PA)(p q:Option Addr)(n c m mc:Nat)(env:List BW)(rhos:List Int):Prop where
 old:Below w0.heap.size w0 w
 lies:LA.lies w0 t
 small:BR t
 good:GL (PA.er t)
 envA:I0 w0 w S p n c env
 rhosA:AE Ab 1 w q m mc rhos
 genv:Im (Cv env)
 s0:∀b,b<w0.heap.size→S b
 new:∀b,w.heap.size≤b→S b
 hn:n+2 * t.size≤900000
 hm:m+50 * t.size≤900000
 hs:102 * t.size≤900000
def SU(w0:World)(t:PA):Prop:=∀(w:World) (S:Nat→Prop) (p q:Option Addr) (n c m mc:Nat) (env:List BW) (rhos:List Int),Js w0 w S t p q n c m mc env rhos →
 Calls prog 55 #[.slice p n c,.slice q m mc,Aj t.head] w (GJ w S (chk (Cv env) rhos (PA.er t)))
def Sy(w:World)(S:Nat→Prop)(v:Value)(b:Nat):Prop:=(b<w.heap.size∧S b)∨(w.heap.size+2≤b∧v.ownBlock≠some b)
structure E9(w:World)(S:Nat→Prop)(a:AH)(l:List PA)(env:List Fp)(rhos:List Int)(v:Value)(k:Nat)(rs:List RV)(wr:World):Prop where
 b:FX w a wr
 own:AJ Bt 7 wr (w.heap.size+2) 69 v k rs
 each:∀r∈rs,r.Ok wr (Sy w S v)
 chk:Fa env rhos a.plain 0 [] (l.map PA.er)=Fa env rhos a.plain k (Ak rs) ((l.drop k).map PA.er)
 acc:SQ l rs
theorem E9.row{w:World}{S:Nat→Prop}{a:AH}{l:List PA}{env:List Fp}{rhos:List Int}{v:Value}{k:Nat}{rs:List RV}{wr:World}(h:E9 w S a l env rhos v k rs wr):∃p c,v=.slice p k c∧Sz wr (Sy w S v) p k c rs∧rs.length=k∧∀b,v.ownBlock=some b→w.heap.size+2≤b∧b<wr.heap.size:=by obtain⟨p,c,hv,aD⟩:=AJ.isRow Kl (by omega) h.own;exact⟨p,c,hv,⟨aD,h.each⟩,aD.len,fun b hb=>World.ownsRow.lt h.own b hb⟩
theorem E9.below{w:World}{S:Nat→Prop}{a:AH}{l:List PA}{env:List Fp}{rhos:List Int}{v:Value}{k:Nat}{rs:List RV}{wr wr':World}(h:E9 w S a l env rhos v k rs wr)(hb:Below wr.heap.size wr wr'):E9 w S a l env rhos v k rs wr':=⟨h.b.step hb,h.own.below hb,fun r hr=>(h.each r hr).below hb,h.chk,h.acc⟩
theorem Vh{w:World}{S:Nat→Prop}{v:Value}{W:World}(aU:w.heap.size+2≤W.heap.size)(hv:∀b,v.ownBlock=some b→b<W.heap.size):∀b,W.heap.size≤b→Sy w S v b:=fun b hb=>.inr ⟨by omega,fun e=>by have:=hv b e;omega⟩
theorem Wo{w0 w W:World}{S:Nat→Prop}{v:Value}{p:Option Addr}{n c:Nat}{env:List BW}(h:I0 w0 w S p n c env)(hb:Below w.heap.size w W):I0 w0 W (Sy w S v) p n c env:=⟨h.row.below hb,fun b cw=>((h.each b cw).below hb).weak (fun x hx=>.inl ⟨AN _ (h.each b cw).ty x hx,(h.each b cw).uses x hx⟩)⟩
theorem E9.push{w:World}{S:Nat→Prop}{a:AH}{l:List PA}{env:List Fp}{rhos:List Int}{v v':Value}{k:Nat}{rs:List RV}{W w3:World}{t:PA}{z:RV}{r:TE}(h:E9 w S a l env rhos v k rs W)(ht:l[k]?=some t)(hz:z.Ok W (Sy w S v))(nN:z.er=r)(hc:Go.Proofs.YtkdjnegfnhldpaaGreatDoor.chk (Ac env a.plain k (Ak rs)) (Ad rhos a.plain k) (PA.er t)=.ok r)(au:FT (102 * t.size) r)(aB:AJ Bt 7 w3 (w.heap.size+2) 69 v' (k+1) (rs++[z]))(hg:W.grownBy w3 v.ownBlock)(hf:∀b,b<W.heap.size→v'.ownBlock=some b→v.ownBlock=some b):E9 w S a l env rhos v' (k+1) (rs++[z]) w3:=by
 obtain⟨_,_,_,_,aG,dg⟩:=h.row;refine⟨h.b.grown hg (fun b e=>(dg b e).1),aB,fun u hu=>?_,?_,fun j u q hu hq=>?_⟩
 ·have h1:u.Ok W (Sy w S v):=by
   rcases List.mem_append.1 hu with hu|hu
   ·exact h.each u hu
   ·rw [List.mem_singleton] at hu;subst hu;exact hz
  have h2:u.Ok W (fun b=>Sy w S v b∧Sy w S v' b):=h1.weak (fun b hb hs=>⟨hs,by
   rcases hs with hs|⟨eQ,fa⟩
   ·exact .inl hs
   ·exact .inr ⟨eQ,fun e=>fa (hf b hb e)⟩⟩)
  refine(h2.grown hg (fun b e hs=>?_)).weak (fun b _ hs=>hs.2);rcases hs.1 with⟨hs,_⟩|⟨_,hs⟩
  ·have:=(dg b e).1;omega
  ·exact hs e
 ·have aF:=Bh ht;have hd:l.drop k=t::l.drop (k+1):=by rw [List.drop_eq_getElem_cons aF];congr 1;rw [List.getElem?_eq_getElem aF] at ht;exact Option.some.inj ht
  rw [h.chk,hd,List.map_cons,Fk,hc];show Fa _ _ _ _ (Ak rs++[r]) _=_;congr 1;simp [Ak,nN]
 ·rcases Nat.lt_or_ge j rs.length with hj|hj
  ·rw [List.getElem?_append_left hj] at hq;exact h.acc j u q hu hq
  ·rw [List.getElem?_append_right hj] at hq;have jW:j=k:=by have:=Bh hq;simp at this;omega
   subst jW;rw [aG] at hq;simp at hq;subst hq;rw [ht] at hu;cases hu;rw [nN];exact⟨au,J2 _ hc⟩
theorem E9.stop{w:World}{S:Nat→Prop}{a:AH}{l:List PA}{env:List Fp}{rhos:List Int}{v:Value}{k:Nat}{rs:List RV}{W:World}{t:PA}{e:Int×Int}(h:E9 w S a l env rhos v k rs W)(ht:l[k]?=some t)(hc:Go.Proofs.YtkdjnegfnhldpaaGreatDoor.chk (Ac env a.plain k (Ak rs)) (Ad rhos a.plain k) (PA.er t)=.error e):Fa env rhos a.plain 0 [] (l.map PA.er)=.error e:=by
 have aF:=Bh ht;have hd:l.drop k=t::l.drop (k+1):=by rw [List.drop_eq_getElem_cons aF];congr 1;rw [List.getElem?_eq_getElem aF] at ht;exact Option.some.inj ht
 rw [h.chk,hd,List.map_cons,Fk,hc]
theorem E9.full{w:World}{S:Nat→Prop}{a:AH}{l:List PA}{env:List Fp}{rhos:List Int}{v:Value}{rs:List RV}{W:World}(h:E9 w S a l env rhos v l.length rs W):Fa env rhos a.plain 0 [] (l.map PA.er)=.ok (Ak rs):=by rw [h.chk,List.drop_length];exact Jz _ _ _ _ _
theorem E9.sum{w:World}{S:Nat→Prop}{a:AH}{l:List PA}{env:List Fp}{rhos:List Int}{v:Value}{rs:List RV}{W:World}(h:E9 w S a l env rhos v l.length rs W):(rs.map (·.en)).sum≤102 * (l.map AG.size).sum:=by
 have h1:(rs.map (·.en)).sum=Ed (Ak rs):=by unfold Ed Ak;rw [List.map_map];congr 1;exact List.map_congr_left (fun r hr=>((h.each r hr).eff.len).symm)
 have h2:(l.map AG.size)=((l.map PA.er).map AG.size):=by rw [List.map_map];exact List.map_congr_left (fun t _=>(Ix t).symm)
 obtain⟨_,_,_,_,aG,_⟩:=h.row;rw [h1,h2];refine Pb (by simp [Ak,aG]) (fun j t r ht hr=>?_);rw [List.getElem?_map] at ht;cases hl:l[j]? with
 |none=>rw [hl] at ht;cases ht
 |some u=>
  rw [hl] at ht;cases ht;unfold Ak at hr;rw [List.getElem?_map] at hr;cases hq:rs[j]? with
  |none=>rw [hq] at hr;cases hr
  |some q=>
   rw [hq] at hr;cases hr;rw [Ix];exact(h.acc j u q hl hq).1.len
theorem Js.kid{w0 w:World}{S:Nat→Prop}{a:AH}{l:List PA}{p q:Option Addr}{n c m mc:Nat}{env:List BW}{rhos:List Int}(h:Js w0 w S (.node a l) p q n c m mc env rhos){k:Nat}{t:PA}(ht:l[k]?=some t){v:Value}{rs:List RV}{wr W2:World}(hk:E9 w S a l (Cv env) rhos v k rs wr)(bQ:Below wr.heap.size wr W2){p' q':Option Addr}{n' c' m' c'':Nat}{env':List BW}(hE:I0 w0 W2 (Sy w S v) p' n' c' env')(he:Cv env'=Ac (Cv env) a.plain k (Ak rs))(hq:AE Ab 1 W2 q' m' c'' (Ad rhos a.plain k))(hn:n'≤n+2)(hm:m'≤m+50):Js w0 W2 (Sy w S v) t p' q' n' c' m' c'' env' (Ad rhos a.plain k):=by
 have gD:=List.mem_of_getElem? ht;have hN:=DP h.lies;have aU:t.size+1≤(AG.node a l).size:=by rw [AG.size_node];have:=BN (List.mem_map_of_mem (f:=AG.size) gD);omega
 have hg:=h.good;rw [PA.er_node] at hg;have bR:=hk.b.below.trans (bQ.mono hk.b.below.size);have h1:=h.hn;have h2:=h.hm;have h3:=h.hs;obtain⟨_,_,_,_,aG,aB⟩:=hk.row;refine⟨h.old.trans (bR.mono h.old.size),hN.each t gD,fun x hx=>h.small x (by rw [AG.nodes_node,List.mem_cons,List.mem_flatten];exact .inr ⟨_,List.mem_map_of_mem gD,hx⟩),hg.kid _ (List.mem_map_of_mem gD),hE,hq,?_,fun b hb=>.inl ⟨Nat.lt_of_lt_of_le hb h.old.size,h.s0 b hb⟩,Vh (Nat.le_trans hk.b.size bQ.size) (fun b e=>Nat.lt_of_lt_of_le (aB b e).2 bQ.size),by omega,by omega,by omega⟩;rw [he];refine JC hg.head h.genv (fun eL h1=>?_);subst h1;have aF:=Bh ht;have da:rs[0]?=some (rs[0]'(by omega)):=List.getElem?_eq_getElem _;have lA:=hk.acc 0 _ _ (List.getElem?_eq_getElem (by omega)) da;have e0:(Ak rs).getD 0 Dn=(rs[0]'(by omega)).er:=by rw [List.getD_eq_getElem?_getD];unfold Ak;rw [List.getElem?_map,da];rfl
 rw [e0];exact⟨lA.1.may,lA.1.effs,lA.2⟩
theorem Th{w0 w:World}{S:Nat→Prop}{t:PA}{p q:Option Addr}{n c m mc:Nat}{env:List BW}{rhos:List Int}(h:Js w0 w S t p q n c m mc env rhos){r:TE}(hc:Go.Proofs.YtkdjnegfnhldpaaGreatDoor.chk (Cv env) rhos (PA.er t)=.ok r):FT (102 * t.size) r:=by have:=J0 (PA.er t) (Cv env) rhos r h.good (fun b hb=>(h.genv b hb).1) hc;rwa [Ix] at this
theorem M5{w:World}{S:Nat→Prop}{a:AH}{p q:Option Addr}{n c m mc:Nat}{z no:Int}(ac:no≠0)(hf:∀W,Below w.heap.size w W→w.heap.size+2≤W.heap.size→Calls prog 83 #[.slice p n c,.slice q m mc,Aj a] W (GJ W (Sn w S) (.error (z,no)))):Calls prog 55 #[.slice p n c,.slice q m mc,Aj a] w (GJ w S (.error (z,no))):=by
 have HX:=AA (Dr w a);have HF:=AA hf;have ez:(no==0)=false:=by simp [ac]
 clear hf ac;go_enter func55,ntmps55;go_upto_region 1 with fail;generalize ((w.alloc (AO a)).alloc (.cells #[.int .u8 0,.int .i64 0,.slice none 0 0,.slice none 0 0,.slice none 0 0,.int .i64 0,.int .i64 0] 69))=W1 at *
 go_upto_region 2 with(first
  |(refine lw HX.o.box.blk underlying31 ?_)
  |(go_at_call 83;refine(HF.o _ HX.o.below HX.o.size).mono ?_;rintro e w2 ⟨he,hb⟩;obtain rfl:=he;have ah:=AA (HX.o.step hb);clear hb)
  |(refine sn #[.int .u8 0,.int .i64 0,.slice none 0 0,.slice none 0 0,.slice none 0 0,.int .i64 z,.int .i64 no] ?_))
 have bS:Below w2.heap.size w2 (w2.alloc (.cells #[.int .u8 0,.int .i64 0,.slice none 0 0,.slice none 0 0,.slice none 0 0,.int .i64 z,.int .i64 no] 69)):=bA;have HX:=AA (ah.o.step bS);have HR:=AA (Ap w2 #[.int .u8 0,.int .i64 0,.slice none 0 0,.slice none 0 0,.slice none 0 0,.int .i64 z,.int .i64 no] 69 _ rfl);clear bS
 go_wp2_with (first
  |(refine lw HR.o underlying69 ?_)
  |(refine I5 z no HX.o ?_))
 (try go_wp2_with fail);(try simp only [Exit.inBlock,Exit.then]);refine br (HX.o.heap _) underlying69 ?_;exact HX.o.err
theorem Ns{w:World}{S:Nat→Prop}{a:AH}{p q:Option Addr}{n c m mc:Nat}{x:TE}(ig:∀b,w.heap.size≤b→S b)(aU:x.1.size≤1001)(hf:∀W,Below w.heap.size w W→w.heap.size+2≤W.heap.size→Calls prog 83 #[.slice p n c,.slice q m mc,Aj a] W (GJ W (Sn w S) (.ok x))):Calls prog 55 #[.slice p n c,.slice q m mc,Aj a] w (GJ w S (Hp a.plain (.ok x))):=by
 have HX:=AA (Dr w a);have HF:=AA hf;have bL:=AA ig;obtain⟨u,hu⟩:∃u,decide ((500:Int)<(x.1.size:Int))=u:=⟨_,rfl⟩;have fi:=AA aU;clear hf ig aU;go_enter func55,ntmps55;go_upto_region 1 with fail;generalize ((w.alloc (AO a)).alloc (.cells #[.int .u8 0,.int .i64 0,.slice none 0 0,.slice none 0 0,.slice none 0 0,.int .i64 0,.int .i64 0] 69))=W1 at *
 go_upto_region 2 with(first
  |(refine lw HX.o.box.blk underlying31 ?_)
  |(go_at_call 83;refine(HF.o _ HX.o.below HX.o.size).mono ?_;rintro e w2 ⟨⟨y,rfl,cM,hy⟩,hb⟩;have HY:=AA hy;have dm:=AA cM;clear hy cM;have ah:=AA (HX.o.step hb);clear hb)
  |(refine sn #[.int .u8 y.ty.head.kind,.int .i64 y.ty.head.rho,.slice y.ty.head.ep y.ty.head.en y.ty.head.ec,.slice y.ty.head.kp y.ty.head.kn y.ty.head.kc,.slice y.ep y.en y.ec,.int .i64 0,.int .i64 0] ?_))
 have bS:Below w2.heap.size w2 (w2.alloc (.cells #[.int .u8 y.ty.head.kind,.int .i64 y.ty.head.rho,.slice y.ty.head.ep y.ty.head.en y.ty.head.ec,.slice y.ty.head.kp y.ty.head.kn y.ty.head.kc,.slice y.ep y.en y.ec,.int .i64 0,.int .i64 0] 69)):=bA;have HX:=AA (ah.o.step bS);have HR:=AA (Ap w2 #[.int .u8 y.ty.head.kind,.int .i64 y.ty.head.rho,.slice y.ty.head.ep y.ty.head.en y.ty.head.ec,.slice y.ty.head.kp y.ty.head.kn y.ty.head.kc,.slice y.ep y.en y.ec,.int .i64 0,.int .i64 0] 69 _ rfl);have HY:=AA (HY.o.below bS);have nv:y.ty.size=x.1.size:=by rw [←dm.o];exact(EW y.ty).symm
 have sF:Hd (∀W,Below (w2.alloc (.cells #[.int .u8 y.ty.head.kind,.int .i64 y.ty.head.rho,.slice y.ty.head.ep y.ty.head.en y.ty.head.ec,.slice y.ty.head.kp y.ty.head.kn y.ty.head.kc,.slice y.ep y.en y.ec,.int .i64 0,.int .i64 0] 69)).heap.size (w2.alloc (.cells #[.int .u8 y.ty.head.kind,.int .i64 y.ty.head.rho,.slice y.ty.head.ep y.ty.head.en y.ty.head.ec,.slice y.ty.head.kp y.ty.head.kn y.ty.head.kc,.slice y.ep y.en y.ec,.int .i64 0,.int .i64 0] 69)) W→Calls prog 27 #[Ci y.ty.head] W fun e w'=>e=.returned (.int .i64 (x.1.size:Int))∧Below W.heap.size W w'):=by intro W hb;have h1:=fi.o;have h:=M9 y.ty W (LR.lies_below hb _ HY.o.ty) (by omega);rw [nv] at h;exact h
 clear nv bS;obtain⟨g,hg⟩:∃g,w2.heap.size=g:=⟨_,rfl⟩;rw [hg] at HR ⊢;generalize w2.alloc (.cells #[.int .u8 y.ty.head.kind,.int .i64 y.ty.head.rho,.slice y.ty.head.ep y.ty.head.en y.ty.head.ec,.slice y.ty.head.kp y.ty.head.kn y.ty.head.kc,.slice y.ep y.en y.ec,.int .i64 0,.int .i64 0] 69)=W3 at *
 clear hg;have d6:W3.cell? ⟨g,6,none⟩=some (.int .i64 0):=by rw [Lib.cell_of_heap HR.o];rfl
 go_upto_if 20 with(first
  |(refine NY y.ty (fun j v hj=>by rw [Nat.zero_add,Lib.cell_of_heap HR.o];match j,hj with|0,hj=>exact hj|1,hj=>exact hj|2,hj=>exact hj|3,hj=>exact hj) underlying28 ?_)
  |(go_at_call 27;refine(sF.o _ (Below.refl _ _)).mono ?_;rintro e w4 ⟨rfl,hb⟩;have HX:=AA (HX.o.step hb);have HR:=AA ((hb.block _ (AW HR.o)).trans HR.o);have HY:=AA (HY.o.below hb);clear hb))
 cases u
 ·have cB:x.1.size≤500:=by have h:=of_decide_eq_false hu;omega
  have aN:Hd (Hp a.plain (.ok x)=.ok x):=by show _=_;unfold Hp A4;simp [cB]
  go_wp2_with (first
   |(refine lw HR.o underlying69 ?_)
   |(refine XV y HX.o ?_))
  (try go_wp2_with fail);(try simp only [Exit.inBlock,Exit.then]);refine br (HX.o.heap _) underlying69 ?_;rw [aN.o];exact HX.o.fin bL.o HY.o dm.o
 ·have cB:¬x.1.size≤500:=by have h:=of_decide_eq_true hu;omega
  have aN:Hd (Hp a.plain (.ok x)=.error (a.at_,3)):=by show _=_;unfold Hp A4;simp [cB];rfl
  go_wp2_with (first
   |(refine lw HX.o.box.blk underlying31 ?_)
   |(go_at_call 84;refine(Af a 3).mono ?_;rintro e w7 ⟨rfl,hb⟩;have ab:=AA (HX.o.step hb);clear hb)
   |(refine I5 a.at_ 3 ab.o ?_))
  (try go_wp2_with fail);(try simp only [Exit.inBlock,Exit.then]);refine br (ab.o.heap _) underlying69 ?_;rw [aN.o];exact ab.o.err
end Go.Proofs.YtkdjnegfnhldpaaGreatDoor
