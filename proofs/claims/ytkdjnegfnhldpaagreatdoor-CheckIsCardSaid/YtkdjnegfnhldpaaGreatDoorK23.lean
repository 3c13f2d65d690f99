/- Part 23. -/
import Derived.Maps.OwnSet
import Derived.Test.YtkdjnegfnhldpaaGreatDoorK22
set_option linter.unusedVariables false
set_option maxRecDepth 100000
set_option linter.unusedSimpArgs false
set_option maxHeartbeats 40000000
namespace Go.Proofs.YtkdjnegfnhldpaaGreatDoor
open Go.Proofs.Tryz Go.RowKit
theorem Az{W W':World}{r:Nat}{cs:Array Value}(h:Below W.heap.size W W')(hr:W.heap.size≤r):Below W.heap.size W (W'.setRow r cs):=h.grown BB h.size (fun k e=>by cases e;exact hr)
abbrev Lc:Array Value:=#[.int .u8 0,.int .i64 0,.slice none 0 0,.slice none 0 0]
abbrev CC(y:PT):Array Value:=#[.int .u8 y.head.kind,.int .i64 y.head.rho,.slice y.head.ep y.head.en y.head.ec,.slice y.head.kp y.head.kn y.head.kc]
structure Wj(N B:Nat)(W:World)(g8 g9:Option Nat)(f t:List Int)(x y:PT):Prop where
 lies:LR.lies W y
 span:∀b∈A7 y,b<N∨B≤b
 ne8:∀b∈A7 y,g8≠some b
 ne9:∀b∈A7 y,g9≠some b
 er:PT.er y=Bz f t (PT.er x)
theorem Wj.below{N B:Nat}{W W':World}{g8 g9:Option Nat}{f t:List Int}{x y:PT}(h:Wj N B W g8 g9 f t x y)(hb:Below W.heap.size W W'):Wj N B W' g8 g9 f t x y:=⟨LR.lies_below hb _ h.lies,h.span,h.ne8,h.ne9,h.er⟩
structure Nb(N B:Nat)(W:World)(g8 g9:Option Nat)(f t:List Int)(x1 x2:PT)(y1 y2:Option PT):Prop where
 size:B≤W.heap.size
 old:N≤B
 h8:∀g,g8=some g→B≤g∧W.heap[g]?=some (.cells Lc 28 (0,0))
 h9:∀g,g9=some g→B≤g∧W.heap[g]?=some (.cells Lc 28 (0,0))
 ne:∀g,g8=some g→g9≠some g
 t1:∀y,y1=some y→Wj N B W g8 g9 f t x1 y
 t2:∀y,y2=some y→Wj N B W g8 g9 f t x2 y
theorem T7{N B:Nat}{W:World}{f t:List Int}{x1 x2:PT}(h:B≤W.heap.size)(hN:N≤B):Nb N B W none none f t x1 x2 none none:=⟨h,hN,fun g e=>(nomatch e),fun g e=>(nomatch e),fun g e=>(nomatch e),fun g e=>(nomatch e),fun g e=>(nomatch e)⟩
theorem AW{W:World}{g:Nat}{o:Obj}(h:W.heap[g]?=some o):g<W.heap.size:=(Array.getElem?_eq_some_iff.1 h).1
section
variable {N B:Nat} {W:World} {g8 g9:Option Nat} {f t:List Int} {x1 x2:PT} {y1 y2:Option PT}
theorem Nb.alloc8(h:Nb N B W none g9 f t x1 x2 y1 y2){G:Nat}(hG:G=W.heap.size):Nb N B (W.alloc (.cells Lc 28)) (some G) g9 f t x1 x2 y1 y2:=by
 subst hG;have hb:Below W.heap.size W (W.alloc (.cells Lc 28)):=bA;refine⟨Nat.le_trans h.size hb.size,h.old,fun g e=>?_,fun g e=>?_,fun g e e'=>?_,fun y e=>?_,fun y e=>?_⟩
 ·cases e;exact⟨h.size,heap_alloc_new W _⟩
 ·exact⟨(h.h9 g e).1,(hb.block g (AW (h.h9 g e).2)).trans (h.h9 g e).2⟩
 ·cases e;exact Nat.lt_irrefl _ (AW (h.h9 _ e').2)
 ·have ht:=h.t1 y e;exact⟨LR.lies_below hb _ ht.lies,ht.span,fun b aW e'=>by cases e';exact Nat.lt_irrefl _ (AN _ ht.lies _ aW),ht.ne9,ht.er⟩
 ·have ht:=h.t2 y e;exact⟨LR.lies_below hb _ ht.lies,ht.span,fun b aW e'=>by cases e';exact Nat.lt_irrefl _ (AN _ ht.lies _ aW),ht.ne9,ht.er⟩
theorem Nb.alloc9(h:Nb N B W g8 none f t x1 x2 y1 y2){G:Nat}(hG:G=W.heap.size):Nb N B (W.alloc (.cells Lc 28)) g8 (some G) f t x1 x2 y1 y2:=by
 subst hG;have hb:Below W.heap.size W (W.alloc (.cells Lc 28)):=bA;refine⟨Nat.le_trans h.size hb.size,h.old,fun g e=>?_,fun g e=>?_,fun g e e'=>?_,fun y e=>?_,fun y e=>?_⟩
 ·exact⟨(h.h8 g e).1,(hb.block g (AW (h.h8 g e).2)).trans (h.h8 g e).2⟩
 ·cases e;exact⟨h.size,heap_alloc_new W _⟩
 ·cases e';exact Nat.lt_irrefl _ (AW (h.h8 _ e).2)
 ·have ht:=h.t1 y e;exact⟨LR.lies_below hb _ ht.lies,ht.span,ht.ne8,fun b aW e'=>by cases e';exact Nat.lt_irrefl _ (AN _ ht.lies _ aW),ht.er⟩
 ·have ht:=h.t2 y e;exact⟨LR.lies_below hb _ ht.lies,ht.span,ht.ne8,fun b aW e'=>by cases e';exact Nat.lt_irrefl _ (AN _ ht.lies _ aW),ht.er⟩
theorem Nb.step{w':World}(h:Nb N B W g8 g9 f t x1 x2 y1 y2)(hb:Below W.heap.size W w'):Nb N B w' g8 g9 f t x1 x2 y1 y2:=⟨Nat.le_trans h.size hb.size,h.old,fun g e=>⟨(h.h8 g e).1,(hb.block g (AW (h.h8 g e).2)).trans (h.h8 g e).2⟩,fun g e=>⟨(h.h9 g e).1,(hb.block g (AW (h.h9 g e).2)).trans (h.h9 g e).2⟩,h.ne,fun y e=>(h.t1 y e).below hb,fun y e=>(h.t2 y e).below hb⟩
theorem Nb.out{w':World}{x y:PT}(h:Nb N B W g8 g9 f t x1 x2 y1 y2)(hl:LR.lies w' y)(hs:Dt N W.heap.size w'.heap.size y)(he:PT.er y=Bz f t (PT.er x)):Wj N B w' g8 g9 f t x y:=
 ⟨hl,fun b hb=>(Gm y hs b hb).imp id (Nat.le_trans h.size),fun b hb e=>by
  have h1:=h.h8 b e;have h2:=AW h1.2;have h3:=h.old;rcases Gm y hs b hb with h4|h4<;>omega,fun b hb e=>by
  have h1:=h.h9 b e;have h2:=AW h1.2;have h3:=h.old;rcases Gm y hs b hb with h4|h4<;>omega,he⟩
theorem Nb.call1{w':World}{y:PT}(h:Nb N B W g8 g9 f t x1 x2 none y2)(hb:Below W.heap.size W w')(hl:LR.lies w' y)(hs:Dt N W.heap.size w'.heap.size y)(he:PT.er y=Bz f t (PT.er x1)):Nb N B w' g8 g9 f t x1 x2 (some y) y2:=
 have hh:=h.step hb
 ⟨hh.size,hh.old,hh.h8,hh.h9,hh.ne,fun z e=>by cases e;exact h.out hl hs he,hh.t2⟩
theorem Nb.call2{w':World}{y:PT}(h:Nb N B W g8 g9 f t x1 x2 y1 none)(hb:Below W.heap.size W w')(hl:LR.lies w' y)(hs:Dt N W.heap.size w'.heap.size y)(he:PT.er y=Bz f t (PT.er x2)):Nb N B w' g8 g9 f t x1 x2 y1 (some y):=
 have hh:=h.step hb
 ⟨hh.size,hh.old,hh.h8,hh.h9,hh.ne,hh.t1,fun z e=>by cases e;exact h.out hl hs he⟩
end
structure XM(N B:Nat)(W:World)(g8 g9:Nat)(f t:List Int)(x1 x2 y1 y2:PT):Prop where
 h8:B≤g8∧W.heap[g8]?=some (.cells (CC y1) 28 (0,0))
 h9:B≤g9∧W.heap[g9]?=some (.cells (CC y2) 28 (0,0))
 t1:LR.lies W y1∧(∀b∈A7 y1,b<N∨B≤b)∧PT.er y1=Bz f t (PT.er x1)
 t2:LR.lies W y2∧(∀b∈A7 y2,b<N∨B≤b)∧PT.er y2=Bz f t (PT.er x2)
theorem Nb.fin{N B:Nat}{W:World}{g8 g9:Nat}{f t:List Int}{x1 x2 y1 y2:PT}(h:Nb N B W (some g8) (some g9) f t x1 x2 (some y1) (some y2)):XM N B ((W.setRow g8 (CC y1)).setRow g9 (CC y2)) g8 g9 f t x1 x2 y1 y2:=by have h8:=h.h8 _ rfl;have h9:=h.h9 _ rfl;have aS:g8≠g9:=fun e=>h.ne g8 rfl (by rw [e]);have t1:=h.t1 _ rfl;have t2:=h.t2 _ rfl;have hl:∀x y:PT,Wj N B W (some g8) (some g9) f t x y→LR.lies ((W.setRow g8 (CC y1)).setRow g9 (CC y2)) y:=fun x y ht=>Cg BB y (fun b hb e=>ht.ne9 b hb e) (Cg BB y (fun b hb e=>ht.ne8 b hb e) ht.lies);exact⟨⟨h8.1,(setRow_other _ _ _ _ (fun e=>aS e)).trans (setRow_heap _ _ _ _ _ _ h8.2)⟩,⟨h9.1,setRow_heap _ _ _ _ _ _ ((setRow_other _ _ _ _ (fun e=>aS e.symm)).trans h9.2)⟩,⟨hl _ _ t1,t1.span,t1.er⟩,⟨hl _ _ t2,t2.span,t2.er⟩⟩
theorem XM.step{N B:Nat}{W W':World}{g8 g9:Nat}{f t:List Int}{x1 x2 y1 y2:PT}(h:XM N B W g8 g9 f t x1 x2 y1 y2)(hb:Below W.heap.size W W'):XM N B W' g8 g9 f t x1 x2 y1 y2:=⟨⟨h.h8.1,(hb.block _ (AW h.h8.2)).trans h.h8.2⟩,⟨h.h9.1,(hb.block _ (AW h.h9.2)).trans h.h9.2⟩,⟨LR.lies_below hb _ h.t1.1,h.t1.2⟩,⟨LR.lies_below hb _ h.t2.1,h.t2.2⟩⟩
theorem Aq{P:Program}{ops:Array Oper}{o:Oper}{act:Act}{K:Act→World→Prop}{Q:Exit→Act→World→Prop}{E:Prop}(au:o.guard=none)(ty:TypeId)(x y:Operand)(ho:o.op=.store ty x y){W:World}{g:Nat}(h:W.heap[g]?=some (.cells Lc 28 (0,0)))(z:PT)(hx:act.eval x=.pointer (some ⟨g,0,none⟩))(hy:act.eval y=.agg (CC z))(hi:(P.info? ty).map (·.size)=some 4)(hK:K (act.put o.dst undef) (W.setRow g (CC z))):if Region.wanted o (yielded ops act.tmps)=true then Oper.wp P o act W K Q else E:=by rw [if_pos (by simp [Region.wanted,au])];exact wp_store_row ty x y ho g (CC z) hx hy 28 Lc h hi rfl (by simp [Value.oneCell']) hK
structure UH(w:World)(a:AH)(x y:Value)(g8 g9:Nat)(y1 y2:PT)(W:World):Prop where
 nd:Ka w a x y W
 h8:w.heap.size+3≤g8∧W.heap[g8]?=some (.cells (CC y1) 28 (0,0))
 h9:w.heap.size+3≤g9∧W.heap[g9]?=some (.cells (CC y2) 28 (0,0))
theorem UH.step{w W W':World}{a:AH}{x y:Value}{g8 g9:Nat}{y1 y2:PT}(h:UH w a x y g8 g9 y1 y2 W)(hb:Below W.heap.size W W'):UH w a x y g8 g9 y1 y2 W':=⟨h.nd.step hb,⟨h.h8.1,(hb.block _ (AW h.h8.2)).trans h.h8.2⟩,⟨h.h9.1,(hb.block _ (AW h.h9.2)).trans h.h9.2⟩⟩
theorem UH.alloc{w W:World}{a:AH}{x y:Value}{g8 g9:Nat}{y1 y2:PT}(h:UH w a x y g8 g9 y1 y2 W)(o:Obj):UH w a x y g8 g9 y1 y2 (W.alloc o):=h.step bA
theorem UH.store{w W:World}{a:AH}{x y:Value}{g8 g9:Nat}{y1 y2:PT}(h:UH w a x y g8 g9 y1 y2 W){cs:Array Value}(hc:cs.size=5):UH w a x y g8 g9 y1 y2 (W.setRow (w.heap.size+2) cs):=⟨h.nd.store hc,⟨h.h8.1,(setRow_other _ _ _ _ (by have:=h.h8.1;omega)).trans h.h8.2⟩,⟨h.h9.1,(setRow_other _ _ _ _ (by have:=h.h9.1;omega)).trans h.h9.2⟩⟩
theorem r4{W:World}{g:Nat}{y:PT}(h:W.heap[g]?=some (.cells (CC y) 28 (0,0))):W.rangeAt g 0 [.int .u8 y.head.kind,.int .i64 y.head.rho,.slice y.head.ep y.head.en y.head.ec,.slice y.head.kp y.head.kn y.head.kc]:=G2 h _ (by intro i v hv;match i,hv with|0,hv=>exact hv|1,hv=>exact hv|2,hv=>exact hv|3,hv=>exact hv)
theorem Tf{w0 w:World}{S:Nat→Prop}{a:AH}{l:List PA}{p q:Option Addr}{n c m mc:Nat}{env:List BV}{rhos:List Int}(h:ES w0 w S (.node a l) p q n c m mc env rhos)(dH:EX env a.name=none):Calls prog 97 #[.agg #[.slice p n c,.slice q m mc],Aj a] w (Dd w S (Cm (DZ env) a.plain)):=by
 have HX:=AA (GQ w a (.slice p n c) (.slice q m mc));have HC:=AA h;have HN:=AA (DP h.lies);have cz:Bl a:=h.small a (by rw [AG.nodes_node];exact List.mem_cons_self);have cS:=AA cz;have iA:n≤900000:=by have:=h.hn;omega
 clear cz h;have HF:Hd (∀e,DX env a.name e→e=.returned (.tuple #[Pl,.bool false])):=fun e he=>by unfold DX at he;rw [dH] at he;exact he
 have HR:Hd (Cm (DZ env) a.plain=.error (a.at_,4)):=by show _=_;unfold Cm;rw [show a.plain.name=a.name from rfl,Gg,dH];rfl
 rw [HR.o];clear HR dH;go_enter func97,ntmps97;go_upto_region 1 with fail;generalize (((w.alloc (.cells #[.slice p n c,.slice q m mc] 84)).alloc (AO a)).alloc (.cells #[.int .u8 0,.int .i64 0,.slice none 0 0,.slice none 0 0,.slice none 0 0] 81))=W1 at *
 have c4:=HX.o.b.b1.c 4 _ rfl
 go_upto_region 2 with(first
  |(refine lw HX.o.b.b0 underlying84 ?_)
  |(go_at_call 96;refine(Dj (HC.o.envA.row.below HX.o.below) (by omega) (.slice q m mc) a.name).mono ?_;rintro e w3 ⟨hf,hb⟩;obtain rfl:=HF.o _ hf;have aR:=AA (HX.o.step hb);have cF:=AA (heap_alloc_new w3 (.cells #[.string ⟨#[]⟩,.int .u8 0,.int .i64 0,.slice none 0 0,.slice none 0 0,.pointer none] 145));clear hf hb)
  |(refine sw #[.string ⟨#[]⟩,.int .u8 0,.int .i64 0,.slice none 0 0,.slice none 0 0,.pointer none] cF.o ?_;rw [World.setRow_alloc_new]))
 clear c4;have dK:=AA (aR.o.alloc (.cells #[.string ⟨#[]⟩,.int .u8 0,.int .i64 0,.slice none 0 0,.slice none 0 0,.pointer none] 145));generalize (w3.alloc (.cells #[.string ⟨#[]⟩,.int .u8 0,.int .i64 0,.slice none 0 0,.slice none 0 0,.pointer none] 145))=W4 at *
 go_wp2_with (first
  |(refine lw dK.o.b.b1.blk underlying31 ?_))
 go_at_call 64;refine(Bd a 4 _).mono ?_;rintro e w9 ⟨rfl,hb⟩;exact⟨rfl,rfl,(dK.o.step hb).below⟩
theorem Te{w0 w:World}{S:Nat→Prop}{a:AH}{l:List PA}{p q:Option Addr}{n c m mc:Nat}{env:List BV}{rhos:List Int}(h:ES w0 w S (.node a l) p q n c m mc env rhos){b:BV}(dH:EX env a.name=some b)(fI:b.fn=none):Calls prog 97 #[.agg #[.slice p n c,.slice q m mc],Aj a] w (Dd w S (Cm (DZ env) a.plain)):=by
 have HX:=AA (GQ w a (.slice p n c) (.slice q m mc));have HC:=AA h;have HN:=AA (DP h.lies);have cz:Bl a:=h.small a (by rw [AG.nodes_node];exact List.mem_cons_self);have cS:=AA cz;have iA:n≤900000:=by have:=h.hn;omega
 clear cz h;have HF:Hd (∀e,DX env a.name e→e=.returned (.tuple #[K8 b,.bool true])):=fun e he=>by unfold DX at he;rw [dH] at he;exact he
 have cw:b∈env:=Jb dH;have qz:=AA cw;have fb:=AA (HC.o.envA.each b cw);have oM:=AA fI;have HR:Hd (Cm (DZ env) a.plain=.error (a.at_,5)):=by show _=_;unfold Cm;rw [show a.plain.name=a.name from rfl,Gg,dH];show (match (BV.er b).fn with|none=>_|some f=>_)=_;unfold BV.er;rw [fI];rfl
 rw [HR.o];clear HR fI;clear dH cw;go_enter func97,ntmps97;go_upto_region 1 with fail;generalize (((w.alloc (.cells #[.slice p n c,.slice q m mc] 84)).alloc (AO a)).alloc (.cells #[.int .u8 0,.int .i64 0,.slice none 0 0,.slice none 0 0,.slice none 0 0] 81))=W1 at *
 have c4:=HX.o.b.b1.c 4 _ rfl
 go_upto_region 2 with(first
  |(refine lw HX.o.b.b0 underlying84 ?_)
  |(go_at_call 96;refine(Dj (HC.o.envA.row.below HX.o.below) (by omega) (.slice q m mc) a.name).mono ?_;rintro e w3 ⟨hf,hb⟩;obtain rfl:=HF.o _ hf;have aR:=AA (HX.o.step hb);have cF:=AA (heap_alloc_new w3 (.cells #[.string ⟨#[]⟩,.int .u8 0,.int .i64 0,.slice none 0 0,.slice none 0 0,.pointer none] 145));clear hf hb)
  |(refine sw #[.string b.name,.int .u8 b.ty.head.kind,.int .i64 b.ty.head.rho,.slice b.ty.head.ep b.ty.head.en b.ty.head.ec,.slice b.ty.head.kp b.ty.head.kn b.ty.head.kc,.pointer (b.fn.map (fun x=>⟨x.2,0,none⟩))] cF.o ?_;rw [World.setRow_alloc_new]))
 clear c4;have dK:=AA (aR.o.alloc (.cells #[.string b.name,.int .u8 b.ty.head.kind,.int .i64 b.ty.head.rho,.slice b.ty.head.ep b.ty.head.en b.ty.head.ec,.slice b.ty.head.kp b.ty.head.kn b.ty.head.kc,.pointer (b.fn.map (fun x=>⟨x.2,0,none⟩))] 145));have eA:=AA (heap_alloc_new w3 (.cells #[.string b.name,.int .u8 b.ty.head.kind,.int .i64 b.ty.head.rho,.slice b.ty.head.ep b.ty.head.en b.ty.head.ec,.slice b.ty.head.kp b.ty.head.kn b.ty.head.kc,.pointer (b.fn.map (fun x=>⟨x.2,0,none⟩))] 145));obtain⟨g,hg⟩:∃g,w3.heap.size=g:=⟨_,rfl⟩;rw [hg] at eA ⊢;generalize (w3.alloc (.cells #[.string b.name,.int .u8 b.ty.head.kind,.int .i64 b.ty.head.rho,.slice b.ty.head.ep b.ty.head.en b.ty.head.ec,.slice b.ty.head.kp b.ty.head.kn b.ty.head.kc,.pointer (b.fn.map (fun x=>⟨x.2,0,none⟩))] 145))=W4 at *
 clear hg cF aR
 go_upto_region 3 with(first
  |(refine lw dK.o.b.b1.blk underlying31 ?_)
  |(go_at_call 64;refine(BZ a 4 _).mono ?_;rintro e w5 ⟨rfl,hb⟩;have ck:=AA (dK.o.step hb);have iJ:=AA ((hb.block _ (Array.getElem?_eq_some_iff.1 eA.o).1).trans eA.o);clear hb))
 clear dK eA;have l3:Hd (∀W',Below w5.heap.size w5 W'→W'.cell? ⟨g,5,none⟩=some (.pointer none)):=fun W' hb=>by rw [Lib.cell_of_heap ((hb.block _ (Array.getElem?_eq_some_iff.1 iJ.o).1).trans iJ.o)];show some (Value.pointer (b.fn.map _))=_;rw [oM.o];rfl
 refine rg (fun W'=>Below w5.heap.size w5 W') (AC w5) fun aA=>?_;refine tp 0 21 ?_;refine tp 1 22 ?_ (hy:=fun w aC=>by(try dsimp only at aC);have q5:=l3.o _ aC;go_simp;try with_reducible rfl);refine tp 2 23 ?_;refine tp 3 24 ?_;refine Cz 4 25 3 true ?_;refine Cz 5 26 3 true ?_;refine Cz 6 27 3 true ?_;refine Cz 7 28 3 true ?_;refine Cz 8 29 3 true ?_;refine Cz 9 30 3 true ?_;refine Cz 10 31 3 true ?_;refine Cz 11 32 3 true ?_;refine Cz 12 33 3 true ?_;refine Cz 13 34 3 true ?_;refine tp 14 35 ?_;refine ta 15 36 a (w.heap.size+1) 0 (fun W' aC=>(ck.o.step aC).b.b1.range) ?_;refine tr 16 37 fun K hK=>?_;go_simp;go_at_call 64;refine(Bd a 5 _).mono ?_;rintro e w9 ⟨rfl,hb⟩;exact⟨rfl,rfl,ck.o.below.trans ((AK aA hb).mono ck.o.below.size)⟩
structure B8(w w':World)(R:Nat→Prop):Prop where
 os:w'.os=w.os
 tape:w'.tape=w.tape
 output:w'.output=w.output
 size:w.heap.size≤w'.heap.size
 block:∀k,k<w.heap.size→¬R k→w'.heap[k]?=w.heap[k]?
theorem B8.refl(w:World)(R:Nat→Prop):B8 w w R:=⟨rfl,rfl,rfl,Nat.le_refl _,fun _ _ _=>rfl⟩
theorem B8.trans{a b c:World}{R:Nat→Prop}(h:B8 a b R)(k:B8 b c R):B8 a c R:=⟨k.os.trans h.os,k.tape.trans h.tape,k.output.trans h.output,Nat.le_trans h.size k.size,fun i hi aS=>(k.block i (Nat.lt_of_lt_of_le hi h.size) aS).trans (h.block i hi aS)⟩
theorem B8.of_below{w w':World}(h:Below w.heap.size w w')(R:Nat→Prop):B8 w w' R:=⟨h.os,h.tape,h.output,h.size,fun k hk _=>h.block k hk⟩
theorem B8.alloc(w:World)(o:Obj)(R:Nat→Prop):B8 w (w.alloc o) R:=.of_below bA R
theorem B8.of_grown{w w':World}{r:Option Nat}{R:Nat→Prop}(h:w.grownBy w' r)(hr:∀b,r=some b→R b):B8 w w' R:=⟨h.os,h.tape,h.output,h.size,fun k hk hn=>h.block k hk (fun e=>hn (hr k e.symm))⟩
theorem B8.cell{w w':World}{R:Nat→Prop}(hg:B8 w w' R){a:Addr}{v:Value}(h:w.cell? a=some v)(aS:¬R a.block):w'.cell? a=some v:=(World.cell?_of_block (hg.block a.block (World.block_lt_of_cell? w a h) aS)).trans h
theorem Gr{B:Nat}{a w w':World}{R:Nat→Prop}(h:Below B a w)(hg:B8 w w' R)(hB:B≤w.heap.size)(hr:∀k,R k→B≤k):Below B a w':=h.trans ⟨hg.os,hg.tape,hg.output,hg.size,fun k hk=>hg.block k (by omega) (fun e=>by have:=hr k e;omega)⟩
structure Xd(w0:World)(row:Nat→Prop)(g:Nat)(lb:Array Value){σ:Type}(Inv:Nat→σ→World→Prop)(ok:AH→Prop)(st:AH→σ→Bool×σ):Prop where
 eg:∀args w,(callFunc g args).run prog w=.ok (.enter g args) w
 hb:∀b,row b→w0.heap.size≤b
 lt:∀b,row b→∀k s W,Inv k s W→b<W.heap.size
 inv:∀k s W W',Inv k s W→Below W.heap.size W W'→Inv k s W'
 less:∀k s W,Inv (k+1) s W→Inv k s W
 call:∀k a s W,ok a→Below w0.heap.size w0 W→Inv (k+1) s W→Calls prog g (#[Aj a]++lb) W fun e w'=>e=.returned (.bool (st a s).1)∧Inv k (st a s).2 w'∧B8 W w' row
structure Wi(w0 W:World)(row:Nat→Prop)(p:Option Addr)(n c:Nat)(l:List PA):Prop where
 arow:AE LA.encT 19 W p n c l
 free:l≠[]→∀ad,p=some ad→¬row ad.block
 each:∀t∈l,LA.lies w0 t
theorem Ds.rowS{w0 W:World}{row:Nat→Prop}{p:Option Addr}{n c:Nat}{l:List PA}(h:Ds w0 p n c l)(hb:Below w0.heap.size w0 W)(hr:∀b,row b→w0.heap.size≤b):Wi w0 W row p n c l:=
 ⟨h.row.below hb,fun hl ad hp e=>by
  have h1:=hr _ e;rcases h.row.row with h0|⟨b,o,lE,aF,_⟩
  ·exact hl h0
  ·rw [lE] at hp;cases hp;exact absurd aF (Nat.not_lt.2 h1),h.each⟩
def Pn(w0:World)(row:Nat→Prop)(g:Nat)(lb:Array Value){σ:Type}(Inv:Nat→σ→World→Prop)(ok:AH→Prop)(st:AH→σ→Bool×σ)(l:List PA):Prop:=∀K p n c W,Wi w0 W row p n c l→(∀a∈Ai l,ok a)→∀s,Below w0.heap.size w0 W→Inv (K+(Ai l).length) s W→Calls prog 59 #[.func (.func g) #[] lb,.slice p n c] W fun e w'=>e=.returned (.bool (AU st (Ai l) s).1)∧Inv K (AU st (Ai l) s).2 w'∧B8 W w' row
theorem Mj{σ:Type}{Inv:Nat→σ→World→Prop}(h:∀k s W,Inv (k+1) s W→Inv k s W){j k:Nat}{s:σ}{W:World}(hj:j≤k):Inv k s W→Inv j s W:=by
 obtain⟨d,rfl⟩:=Nat.le.dest hj;clear hj;induction d with
 |zero=>exact id
 |succ d ih=>exact fun hi=>ih (h _ _ _ hi)
theorem Qk{l:List PA}{k:Nat}{a:AH}{m:List PA}(hx:l[k]?=some (.node a m)):(Ai (l.drop k)).length=(Ai (l.drop (k+1))).length+(Ai m).length+1:=by
 have aF:=Bh hx;have hd:l.drop k=.node a m::l.drop (k+1):=by rw [List.drop_eq_getElem_cons aF];congr 1;rw [List.getElem?_eq_getElem aF] at hx;exact Option.some.inj hx
 rw [hd];simp only [Ai,List.map_cons,List.flatten_cons,List.flatMap_cons,List.length_append];rw [AG.nodes_node];simp only [Ai,List.length_cons];omega
theorem H5{w0:World}{row:Nat→Prop}{g:Nat}{lb:Array Value}{σ:Type}{Inv:Nat→σ→World→Prop}{ok:AH→Prop}{st:AH→σ→Bool×σ}(F:Xd w0 row g lb Inv ok st)(l:List PA)(ih:∀x∈l,Pn w0 row g lb Inv ok st x.kids):Pn w0 row g lb Inv ok st l:=by
 intro K p n c W hR bY s jn fX;have eg:=F.eg;have HF:=AA F;have HI:=AA ih;have HR:=AA hR;have dc:=AA bY;have ay:=AA jn;have HV:=AA fX;have gl:n≤9223372036854775807:=hR.arow.max;clear F ih hR bY jn fX;go_enter func59,ntmps59;go_wp2_with fail;go_loopw [9] (fun i wr=>∃(k:Nat) (S:Bool×σ),k≤n∧i=.int .i64 k∧Hd (AU st (A6 l k) s=S)∧S.1=true∧Inv (K+(Ai (l.drop k)).length) S.2 wr∧B8 W wr row) (fun i _=>n-(intOf i).toNat)
 case atStart=>exact⟨0,(true,s),by omega,rfl,AA rfl,rfl,HV.o,B8.refl _ _⟩
 case round=>
  obtain⟨k,S,hk,rfl,HS,hs,ju,hg⟩:=hrel;have gq:=AA ju;have HG:=AA hg;have cj:=AA hs;have HB:=AA (Gr ay.o hg ay.o.size HF.o.hb);clear ju hg hs;by_cases aF:k<n
  ·obtain⟨x,hx⟩:∃x,l[k]?=some x:=AM (by rw [HR.o.arow.len];exact aF);obtain⟨b,o,bF,aP,mR⟩:=HR.o.arow.row.elem hx;have js:=HR.o.free (by intro e;rw [e] at hx;simp at hx) _ bF;have am:∀i u,(LA.encT x)[i]?=some u→wr.cell? ⟨b,o+k * 19+i,none⟩=some u:=fun i u hu=>HG.o.cell (mR i u hu) js;clear mR js;obtain⟨a,m,nu⟩:∃a m,x=AG.node a m:=⟨x.head,x.kids,AG.eta x⟩;subst nu;have dC:=AA (show Ht wr b (o+k * 19) a from⟨fun i u hu=>am i u hu⟩);subst bF;have hE:=List.mem_of_getElem? hx;have fG:=AA (show Pn w0 row g lb Inv ok st m from HI.o _ hE);have jL:=AA (show Ds w0 a.kp a.kn a.kc m from SR (HR.o.each _ (List.mem_of_getElem? hx)));have jh:=AA (show ∀a'∈Ai m,ok a' from fun a' ha=>dc.o a' (Gz hE (by rw [GB];exact List.mem_cons_of_mem _ ha)));have fY:ok a:=dc.o a (Gz hE (by rw [GB];exact List.mem_cons_self))
   have bx:=AA (show AU st (A6 l (k+1)) s=if(st a S.2).1 then AU st (Ai m) (st a S.2).2 else(false,(st a S.2).2) by
    have h:=Sr st s hx (by rw [HS.o];exact cj.o);rw [HS.o] at h;exact h)
   have m8:K+(Ai (l.drop k)).length=(K+(Ai (l.drop (k+1))).length+(Ai m).length)+1:=by rw [Qk hx];omega
   rw [m8] at gq;clear hx aP am hE m8;have aE:=AA (Aa wr a);have bz:Below wr.heap.size wr (wr.alloc (AO a)):=bA;have aJ:=bt HB bz;have iK:=AA (HF.o.inv _ _ _ _ gq.o bz);have bb:=AA (HF.o.call _ a S.2 _ fY aJ.o iK.o);have iI:=AA (HG.o.trans ((B8.alloc wr (AO a) row)));clear bz fY;have jm:(wr.alloc (.cells #[.int .u8 0,.int .u8 0,.int .i64 0,.int .i64 0,.string ⟨#[]⟩,.string ⟨#[]⟩,.string ⟨#[]⟩,.int .i64 0,.slice none 0 0,.slice none 0 0,.int .u8 0,.int .i64 0,.slice none 0 0,.slice none 0 0,.int .u8 0,.int .i64 0,.slice none 0 0,.slice none 0 0,.slice none 0 0] 31)).heap[wr.heap.size]?=some (.cells #[.int .u8 0,.int .u8 0,.int .i64 0,.int .i64 0,.string ⟨#[]⟩,.string ⟨#[]⟩,.string ⟨#[]⟩,.int .i64 0,.slice none 0 0,.slice none 0 0,.int .u8 0,.int .i64 0,.slice none 0 0,.slice none 0 0,.int .u8 0,.int .i64 0,.slice none 0 0,.slice none 0 0,.slice none 0 0] 31 (0,0)):=heap_alloc_new wr _;have cF:=AA jm;clear jm;cases hq:(st a S.2).1 with
   |false=>
    rw [hq] at bb bx;have HQ:=AA hq;clear hq
    go_wp2_with (first
     |(refine lm (Bn a) dC.o.c underlying31 ?_)
     |(refine wpList_store_row rfl 31 _ _ rfl wr.heap.size (Bn a).toArray rfl rfl 31 _ cF.o (by kernel_rfl) rfl (all_oneCell_toArray (EM a)) ?_;rw [World.setRow_alloc_new])
     |(refine lw aE.o.blk underlying31 ?_)
     |(go_at_fn g;refine bb.o.mono ?_;rintro e w2 ⟨rfl,cG,a8⟩;have bi:=AA cG;have eT:=AA (iI.o.trans a8);clear cG a8))
    go_ret;have bg:AU st (Ai l) s=(false,(st a S.2).2):=by rw [MC st s l (k+1) (by rw [bx.o];rfl),bx.o];rfl
    exact⟨AB (by rw [bg]),by rw [bg];exact Mj HF.o.less (by omega) bi.o,eT.o⟩
   |true=>
    rw [hq] at bb bx;have HQ:=AA hq;clear hq;have HM:=AA (HF.o.hb);have q18:∀w2,B8 (wr.alloc (AO a)) w2 row→Inv (K+(Ai (l.drop (k+1))).length+(Ai m).length) (st a S.2).2 w2→w2.cell? ⟨wr.heap.size,18,none⟩=some (.slice a.kp a.kn a.kc)∧Below w0.heap.size w0 w2:=fun w2 a8 cG=>⟨a8.cell (a:=⟨wr.heap.size,18,none⟩) (aE.o.c 18 _ rfl) (fun e=>by have:=HF.o.lt _ e _ _ _ gq.o;exact Nat.lt_irrefl _ this),Gr aJ.o a8 aJ.o.size HM.o⟩;have fR:=AA q18;clear q18;cases ee:(AU st (Ai m) (st a S.2).2).1 with
    |false=>
     have du:=AA ee;clear ee
     go_wp2_with (first
      |(refine lm (Bn a) dC.o.c underlying31 ?_)
      |(refine wpList_store_row rfl 31 _ _ rfl wr.heap.size (Bn a).toArray rfl rfl 31 _ cF.o (by kernel_rfl) rfl (all_oneCell_toArray (EM a)) ?_;rw [World.setRow_alloc_new])
      |(refine lw aE.o.blk underlying31 ?_)
      |(first|(go_at_fn g;refine bb.o.mono ?_;rintro e w2 ⟨rfl,cG,a8⟩;obtain⟨c18,bQ⟩:=fR.o _ a8 cG;have bi:=AA cG;have eT:=AA (iI.o.trans a8);have aK:=AA bQ;clear cG a8 bQ)|(go_at_call 59;refine(fG.o (K+(Ai (l.drop (k+1))).length) _ _ _ _ (jL.o.rowS aK.o HM.o) jh.o _ aK.o bi.o).mono ?_;rw [du.o];rintro e w3 ⟨rfl,fW,bM⟩;have cb:=AA fW;have cy:=AA (eT.o.trans bM);clear fW bM)))
     go_ret;have bg:AU st (Ai l) s=AU st (Ai m) (st a S.2).2:=by rw [MC st s l (k+1) (by rw [bx.o];exact du.o),bx.o];rfl
     exact⟨AB (by rw [bg,du.o]),by rw [bg];exact Mj HF.o.less (by omega) cb.o,cy.o⟩
    |true=>
     have du:=AA ee;clear ee
     go_wp2_with (first
      |(refine lm (Bn a) dC.o.c underlying31 ?_)
      |(refine wpList_store_row rfl 31 _ _ rfl wr.heap.size (Bn a).toArray rfl rfl 31 _ cF.o (by kernel_rfl) rfl (all_oneCell_toArray (EM a)) ?_;rw [World.setRow_alloc_new])
      |(refine lw aE.o.blk underlying31 ?_)
      |(first|(go_at_fn g;refine bb.o.mono ?_;rintro e w2 ⟨rfl,cG,a8⟩;obtain⟨c18,bQ⟩:=fR.o _ a8 cG;have bi:=AA cG;have eT:=AA (iI.o.trans a8);have aK:=AA bQ;clear cG a8 bQ)|(go_at_call 59;refine(fG.o (K+(Ai (l.drop (k+1))).length) _ _ _ _ (jL.o.rowS aK.o HM.o) jh.o _ aK.o bi.o).mono ?_;rw [du.o];rintro e w3 ⟨rfl,fW,bM⟩;have cb:=AA fW;have cy:=AA (eT.o.trans bM);clear fW bM)))
     go_roundw
     case rel=>exact⟨k+1,_,by omega,by go_num,bx,by show (AU st (Ai m) (st a S.2).2).1=true;exact du.o,cb.o,cy.o⟩
     case measure=>simp [intOf];omega
  ·have ao:k=n:=by omega
   have cA:A6 l k=Ai l:=VV l k (by rw [HR.o.arow.len,ao];exact Nat.le_refl _);rw [cA] at HS;go_wp2_with fail;go_ret;exact⟨AB (by rw [HS.o,cj.o]),by rw [HS.o];exact Mj HF.o.less (by omega) gq.o,HG.o⟩
theorem Lf{w0:World}{row:Nat→Prop}{g:Nat}{lb:Array Value}{σ:Type}{Inv:Nat→σ→World→Prop}{ok:AH→Prop}{st:AH→σ→Bool×σ}(F:Xd w0 row g lb Inv ok st)(l:List PA):Pn w0 row g lb Inv ok st l:=H5 F l (fun x _=>AG.ind (P:=fun(x:PA)=>Pn w0 row g lb Inv ok st x.kids) (fun a m ih=>H5 F m ih) x)
theorem Le(a:AH){w:World}(hr:AE Ab 1 w a.rp a.rn a.rc a.rhos):Calls prog 62 #[Aj a] w fun e w'=>∃p n c,e=.returned (.slice p n c)∧AE Ab 1 w' p n c (BP a.plain)∧(p=a.rp∧BP a.plain=a.rhos∨∀ad,p=some ad→w.heap.size≤ad.block)∧Below w.heap.size w w':=by
 have HR:=AA hr;have HB:=AA (Aa w a);have aJ:Hd (Below w.heap.size w (w.alloc (AO a))):=bA;have c0:=HB.o.c 0 _ rfl;have c7:=HB.o.c 7 _ rfl;have c8:=HB.o.c 8 _ rfl;clear hr;by_cases bp:a.kind=17
 ·have e17:(a.kind==17)=true:=by simp [bp]
  have HQ:Hd (BP a.plain=[a.rho]):=by show _=_;unfold BP;rw [if_pos (show a.plain.kind=17 from bp)];rfl
  clear bp;go_enter func62,ntmps62;go_wp2_with fail;go_ret;exact⟨_,_,_,rfl,by rw [HQ.o];have h:=Al Ag (by omega) (w.alloc (AO a)) 3 [a.rho] 1 _ rfl rfl (by decide);rw [World.size_alloc] at h;exact h,.inr (fun ad hp=>by cases hp;simp),AQ aJ.o _⟩
 ·have e17:(a.kind==17)=false:=by simp [bp]
  by_cases cI:a.kind=13
  ·have e13:(a.kind==13)=true:=by simp [cI]
   have HQ:Hd (BP a.plain=a.rhos):=by show _=_;unfold BP;rw [if_neg (show ¬a.plain.kind=17 from bp),if_pos (show a.plain.kind=13 from cI)];rfl
   clear bp cI;go_enter func62,ntmps62;go_wp2_with fail;go_ret;exact⟨_,_,_,rfl,by rw [HQ.o];exact HR.o.below aJ.o,.inl ⟨rfl,HQ.o⟩,aJ.o⟩
  ·have e13:(a.kind==13)=false:=by simp [cI]
   have HQ:Hd (BP a.plain=[]):=by show _=_;unfold BP;rw [if_neg (show ¬a.plain.kind=17 from bp),if_neg (show ¬a.plain.kind=13 from cI)]
   clear bp cI;go_enter func62,ntmps62;go_wp2_with fail;go_ret;exact⟨_,_,_,rfl,by rw [HQ.o];exact AE.none _ _ _,.inr (fun ad hp=>(nomatch hp)),aJ.o⟩
def Lo(met:List Int):List Int→List Int
 |[]=>met
 |r::l=>if Du met r then met else Lo (met++[r]) l
theorem Ki:∀(l m met:List Int),Bg met (l++m)=(Bg met l||Bg (met++l) m)
 |[],m,met=>by simp [Bg]
 |r::l,m,met=>by simp only [List.cons_append,Bg,Ki l m (met++[r]),List.append_assoc,List.cons_append,List.nil_append,Bool.or_assoc]
theorem Mp:∀(l m met:List Int),Bg met l=false→Lo met (l++m)=Lo (met++l) m
 |[],m,met,_=>by simp [Lo]
 |r::l,m,met,h=>by simp only [Bg,Bool.or_eq_false_iff] at h;simp only [List.cons_append,Lo,h.1,Bool.false_eq_true,if_false,Mp l m (met++[r]) h.2,List.append_assoc,List.cons_append,List.nil_append]
theorem OR(l met:List Int)(h:Bg met l=false):Lo met l=met++l:=by have:=Mp l [] met h;simpa [Lo] using this
theorem TI{l met:List Int}{k:Nat}{r:Int}(h:Bg met (l.take k)=false)(hr:l[k]?=some r)(hi:Du (met++l.take k) r=true):Bg met l=true∧Lo met l=met++l.take k:=by
 have aF:=Bh hr
 have hd:l=l.take k++r::l.drop (k+1):=by
  conv=>lhs;rw [←List.take_append_drop k l,List.drop_eq_getElem_cons aF]
  congr 2;rw [List.getElem?_eq_getElem aF] at hr;exact Option.some.inj hr
 constructor
 ·rw [hd,Ki,h];simp only [Bg,hi,Bool.true_or,Bool.or_true]
 ·conv=>lhs;rw [hd]
  rw [Mp _ _ _ h];simp only [Lo,hi,if_true]
theorem UY{l met:List Int}{k:Nat}{r:Int}(h:Bg met (l.take k)=false)(hr:l[k]?=some r)(hi:Du (met++l.take k) r=false):Bg met (l.take (k+1))=false:=by rw [AI hr,Ki,h];simp [Bg,hi]
def Bq(a:AH)(s:List Int×Int):Bool×(List Int×Int):=(!Bg s.1 (BP a.plain),(Lo s.1 (BP a.plain),if Bg s.1 (BP a.plain) then a.at_ else s.2))
theorem Lb:∀(l:List AH) (met:List Int) (z:Int),Ft (l.map AH.plain) met=(match AU Bq l (met,z) with|(true,_)=>none|(false,s)=>some s.2)∧((AU Bq l (met,z)).1=true→(AU Bq l (met,z)).2.2=z)
 |[],met,z=>⟨rfl,fun _=>rfl⟩
 |a::l,met,z=>by
  have e:AU Bq (a::l) (met,z)=if(Bq a (met,z)).1 then AU Bq l (Bq a (met,z)).2 else(false,(Bq a (met,z)).2):=rfl;rw [e,List.map_cons];unfold Ft;cases h:Bg met (BP a.plain) with
  |true=>
   have e1:(Bq a (met,z)).1=false:=by simp [Bq,h]
   have e2:(Bq a (met,z)).2.2=a.at_:=by simp [Bq,h]
   rw [e1,if_neg Bool.false_ne_true];refine⟨?_,fun h=>(nomatch h)⟩;show some a.at_=some (Bq a (met,z)).2.2;rw [e2]
  |false=>
   have e1:(Bq a (met,z)).1=true:=by simp [Bq,h]
   have e2:(Bq a (met,z)).2=(met++BP a.plain,z):=by simp [Bq,h,OR _ _ h]
   rw [e1,if_pos rfl,e2];simp only [Bool.false_eq_true,if_false];exact Lb l (met++BP a.plain) z
def OD(D:DataW Unit)(met:List Int):Prop:=∀r:Int,Maps.has D (.int .i64 r)=Du met r
theorem T0:OD (.map []) []:=fun r=>rfl
theorem T3{D:DataW Unit}{met:List Int}(h:OD D met)(hD:Maps.IsMap D)(r:Int):OD (D.put (.int .i64 r) (.agg [])) (met++[r]):=fun z=>by
 have e:Du (met++[r]) z=(Du met z||decide (z=r)):=by rw [Bool.eq_iff_iff,Bool.or_eq_true,Gh,Gh,List.mem_append,List.mem_singleton,decide_eq_true_eq]
 by_cases hz:z=r
 ·subst hz;rw [Maps.has_put_same hD (show WideAt.IsKeyLit (.int .i64 z) from trivial),e];simp
 ·rw [Maps.has_put_other (by intro hh;injection hh with _ hh;exact hz hh),h z,e];simp [hz]
structure Pm(b4 b5 bm:Nat)(k:Nat)(s:List Int×Int)(W:World):Prop where
 c4:W.heap[b4]?=some (.cells #[.map (some bm)] 113 (0,0))
 c5:W.heap[b5]?=some (.cells #[.int .i64 s.2] 3 (0,0))
 m:∃D:DataW Unit,W.ownsMap prog 3 unitElem bm s.1.length D∧OD D s.1
 len:s.1.length+50 * k≤1000000
 n45:b4≠b5
 n4m:b4≠bm
 n5m:b5≠bm
def OC(b5 bm:Nat)(b:Nat):Prop:=b=b5∨b=bm
theorem Ko:Maps.Keyed prog 3:=Maps.int_keyed underlying3
theorem Pm.lt{b4 b5 bm k:Nat}{s:List Int×Int}{W:World}(h:Pm b4 b5 bm k s W):b4<W.heap.size∧b5<W.heap.size∧bm<W.heap.size:=by obtain⟨D,⟨es,clock,hb,_⟩,_⟩:=h.m;exact⟨(Array.getElem?_eq_some_iff.1 h.c4).1,(Array.getElem?_eq_some_iff.1 h.c5).1,(Array.getElem?_eq_some_iff.1 hb).1⟩
theorem Pm.below{b4 b5 bm k:Nat}{s:List Int×Int}{W W':World}(h:Pm b4 b5 bm k s W)(hb:Below W.heap.size W W'):Pm b4 b5 bm k s W':=by obtain⟨l4,l5,lm⟩:=h.lt;obtain⟨D,⟨es,clock,hm,r⟩,hs⟩:=h.m;exact⟨(hb.block _ l4).trans h.c4,(hb.block _ l5).trans h.c5,⟨D,⟨es,clock,(hb.block _ lm).trans hm,r⟩,hs⟩,h.len,h.n45,h.n4m,h.n5m⟩
theorem Pm.less{b4 b5 bm k:Nat}{s:List Int×Int}{W:World}(h:Pm b4 b5 bm (k+1) s W):Pm b4 b5 bm k s W:=⟨h.c4,h.c5,h.m,by have:=h.len;omega,h.n45,h.n4m,h.n5m⟩
theorem JT{a:AH}{n:Nat}(h:a.rhos.length≤n)(hn:1≤n):(BP a.plain).length≤n:=by
 unfold BP;split
 ·simpa using hn
 ·split
  ·exact h
  ·simp
theorem S4{w:World}{a:AH}(h:AH.Own w a):∀z∈BP a.plain,O4 z:=fun z hz=>by
 unfold BP at hz;split at hz
 ·rw [List.mem_singleton] at hz;subst hz;exact h.rho
 ·split at hz
  ·exact h.rok z hz
  ·cases hz
theorem V4{r:Int}(h:O4 r):keyOf prog 3 (.int .i64 r)=some (.int .i64 r):=by
 have hw:(Lit.int .i64 r).wf=true:=by
  have h1:=h.1;have h2:=h.2;have e1:IntKind.min .i64=-9223372036854775808:=by decide
  have e2:IntKind.max .i64=9223372036854775807:=by decide
  simp only [Lit.wf,e1,e2,Bool.and_eq_true,decide_eq_true_eq];exact⟨h1,h2⟩
 simp [keyOf,mapKey,underlying3,hw]
structure XK(b4 b5 bm g:Nat)(a:AH)(p:Option Addr)(n c:Nat)(l met:List Int)(z:Int)(W:World)(j:Nat)(wr:World):Prop where
 i:Pm b4 b5 bm 0 (met++l.take j,z) wr
 box:Fq wr g a
 row:AE Ab 1 wr p n c l
 far:l≠[]→∀ad,p=some ad→¬OC b5 bm ad.block
 grown:B8 W wr (OC b5 bm)
 clash:Bg met (l.take j)=false
theorem SE{α:Type}{enc:α→List Value}{k:Nat}{w w':World}{R:Nat→Prop}{p:Option Addr}{n c:Nat}{l:List α}(h:AE enc k w p n c l)(hg:B8 w w' R)(hr:l≠[]→∀ad,p=some ad→¬R ad.block):AE enc k w' p n c l:=by
 refine⟨h.len,h.max,h.le,h.nil,?_⟩;rcases h.row with h0|⟨b,o,hp,aF,hc⟩
 ·exact .inl h0
 ·by_cases hl:l=[]
  ·exact .inl hl
  ·exact .inr ⟨b,o,hp,Nat.lt_of_lt_of_le aF hg.size,fun j x hx i u hu=>hg.cell (hc j x hx i u hu) (show ¬R b from hr hl ⟨b,o,none⟩ hp)⟩
theorem XK.add{b4 b5 bm g:Nat}{a:AH}{p:Option Addr}{n c:Nat}{l met:List Int}{z:Int}{W wr w5:World}{j:Nat}(h:XK b4 b5 bm g a p n c l met z W j wr){o:Obj}{r:Int}(hr:l[j]?=some r)(hi:Du (met++l.take j) r=false)(td:met.length+l.length≤1000000){D:DataW Unit}(hm:w5.ownsMap prog 3 unitElem bm ((met++l.take j).length+1) (D.put (.int .i64 r) (.agg [])))(hs:OD D (met++l.take j))(hD:Maps.IsMap D)(hg:(wr.alloc o).grownBy w5 (some bm))(eV:g≠bm)(dI:g<wr.heap.size):XK b4 b5 bm g a p n c l met z W (j+1) w5:=by
 obtain⟨l4,l5,lm⟩:=h.i.lt;have ea:wr.grownBy w5 (some bm):=LL hg;have ja:met++l.take (j+1)=(met++l.take j)++[r]:=by rw [AI hr,List.append_assoc]
 have aF:=Bh hr;have bn:B8 wr w5 (OC b5 bm):=.of_grown ea (fun b e=>by cases e;exact .inr rfl);refine⟨⟨(ea.block _ l4 (fun e=>h.i.n4m (by injection e))).trans h.i.c4,(ea.block _ l5 (fun e=>h.i.n5m (by injection e))).trans h.i.c5,⟨D.put (.int .i64 r) (.agg []),?_,?_⟩,?_,h.i.n45,h.i.n4m,h.i.n5m⟩,⟨(ea.block g dI (fun e=>eV (by injection e))).trans h.box.blk⟩,SE h.row bn h.far,h.far,h.grown.trans bn,UY h.clash hr hi⟩
 ·show w5.ownsMap _ _ _ bm (met++l.take (j+1)).length _;rw [ja,List.length_append];exact hm
 ·show OD _ (met++l.take (j+1));rw [ja];exact T3 hs hD r
 ·show (met++l.take (j+1)).length+50 * 0≤1000000;rw [List.length_append,List.length_take];omega
theorem Pm.hit{b4 b5 bm:Nat}{met:List Int}{z:Int}{wr:World}(h:Pm b4 b5 bm 0 (met,z) wr)(o:Obj)(v:Int)(k:Nat)(hl:met.length+50 * k≤1000000):Pm b4 b5 bm k (met,v) ((wr.alloc o).setCell ⟨b5,0,none⟩ (.int .i64 v)):=by have h1:=h.below ((Below.refl wr.heap.size wr).alloc (Nat.le_refl _) o);have hg:=AL (wr.alloc o) b5 0 (.int .i64 v);obtain⟨D,hm,hs⟩:=h1.m;exact⟨(hg.block _ h1.lt.1 (fun e=>h1.n45 (by injection e))).trans h1.c4,AZ _ h1.c5,⟨D,hm.setCell (fun e=>h1.n5m e.symm) _,hs⟩,hl,h1.n45,h1.n4m,h1.n5m⟩
theorem RR{w0:World}{b4 b5 bm:Nat}{a:AH}{k:Nat}{s:List Int×Int}{W:World}(ho:AH.Own w0 a)(hs:Bl a)(hW:Below w0.heap.size w0 W)(h5:w0.heap.size≤b5)(hm:w0.heap.size≤bm)(h:Pm b4 b5 bm (k+1) s W):Calls prog 61 #[Aj a,.pointer (some ⟨b4,0,none⟩),.pointer (some ⟨b5,0,none⟩)] W fun e w'=>e=.returned (.bool (Bq a s).1)∧Pm b4 b5 bm k (Bq a s).2 w'∧B8 W w' (OC b5 bm):=by
 obtain⟨met,z⟩:=s;have HO:=AA ho;have HH:=AA h;have HW:=AA hW;obtain⟨l4,l5,lm⟩:=h.lt;have aE:=AA (Aa W a);have bz:Below W.heap.size W (W.alloc (AO a)):=bA;have aJ:=AA bz;have ax:=AA ((ho.rhos.below hW).below bz);obtain⟨l,hl⟩:∃l,BP a.plain=l:=⟨_,rfl⟩;have bo:l.length≤50:=by rw [←hl];exact JT (by have h1:=ho.rhos.len;have h2:=hs.rhos;omega) (by decide)
 have bY:∀z∈l,O4 z:=by rw [←hl];exact S4 ho
 have ql:met.length+50 * (k+1)≤1000000:=h.len;have HL:=AA hl;have dc:=AA bY;have cj:Hd (Bq a (met,z)=(!Bg met l,(Lo met l,if Bg met l then a.at_ else z))):=by show _=_;unfold Bq;rw [hl]
 obtain⟨u,⟨mt,zt⟩,io⟩:∃u m,Bq a (met,z)=(u,m):=⟨_,_,rfl⟩;rw [io];have HU:Hd (u=!Bg met l∧mt=Lo met l∧zt=if Bg met l then a.at_ else z):=by have e:=cj.o;rw [io] at e;injection e with e1 e2;injection e2 with e2 e3;exact⟨e1,e2,e3⟩
 clear ho hs hW h bz hl bY cj io;go_enter func61,ntmps61;go_upto_region 1 with fail
 go_wp2_with (first
  |(refine lw aE.o.blk underlying31 ?_)
  |(go_at_call 62;refine(Le a ax.o).mono ?_;rintro e w2 ⟨p,n,c,rfl,aD,bw,hb⟩;rw [HL.o] at aD;have dD:=aD.len;have aK:=bt aJ hb;have lh:=AA (aE.o.below hb);have aL:=AA aD;have lp:=AA bw;clear aD bw hb))
 have nU:Hd (XK b4 b5 bm W.heap.size a p n c l met z W 0 w2):=by
  refine⟨?_,lh.o,aL.o,fun aS ad hp hr=>?_,B8.of_below aK.o _,rfl⟩
  ·have h1:=HH.o.below aK.o;exact⟨h1.c4,h1.c5,by simpa using h1.m,by have:=h1.len;simp at this ⊢;omega,h1.n45,h1.n4m,h1.n5m⟩
  ·rcases lp.o with⟨e1,e2⟩|e1
   ·have aF:=Bf HO.o.rhos.row (by rw [←e2,HL.o];exact aS) (e1▸hp);rcases hr with hr|hr<;>omega
   ·have h1:=e1 ad hp;simp only [World.size_alloc] at h1;rcases hr with hr|hr<;>omega
 have eV:W.heap.size≠bm:=by omega
 have jV:W.heap.size≠b5:=by omega
 clear aE aJ ax aK lh aL lp;go_loopw [6,7,8,12] (fun _ _ _ i wr=>∃j:Nat,j≤n∧i=.int .i64 j∧XK b4 b5 bm W.heap.size a p n c l met z W j wr) (fun _ _ _ i _=>n-(intOf i).toNat)
 case atStart=>exact⟨0,Nat.zero_le _,rfl,nU.o⟩
 case round=>
  obtain⟨j,hj,rfl,qe⟩:=hrel;have HJ:=AA qe;clear qe nU;by_cases aF:j<n
  ·obtain⟨r,hr⟩:∃r,l[j]?=some r:=AM (by rw [dD];exact aF);obtain⟨b,o,bF,aP,am⟩:=HJ.o.row.row.elem hr;have ev:=HJ.o.far (by intro e;rw [e] at hr;simp at hr) _ bF;subst bF;have hc:wr.cell? ⟨b,o+j,none⟩=some (.int .i64 r):=by have:=am 0 _ rfl;simpa using this
   have HR:=AA hr;obtain⟨D,aB,il⟩:=HJ.o.i.m;have aO:=AA aB;have eU:=AA il;have kN:=AA (V4 (dc.o r (List.mem_of_getElem? hr)));have c4:wr.cell? ⟨b4,0,none⟩=some (.map (some bm)):=by rw [Lib.cell_of_heap HJ.o.i.c4];rfl
   have cb4:=HJ.o.i.c4;have c5:wr.cell? ⟨b5,0,none⟩=some (.int .i64 z):=by rw [Lib.cell_of_heap HJ.o.i.c5];rfl
   have f5:wr.frozen? ⟨b5,0,none⟩=false:=by simp only [World.frozen?,HJ.o.i.c5];rfl
   have c2:=HJ.o.box.c 2 _ rfl;have dI:=HJ.o.box.lt;have pd:Hd (∀o,(wr.alloc o).cell? ⟨b4,0,none⟩=some (.map (some bm))):=fun o=>by rw [World.cell?_alloc_past _ _ _ (World.block_lt_of_cell? _ _ c4)];exact c4
   have dX:Below wr.heap.size wr (wr.alloc (.cells #[] 114)):=bA;have d4:(wr.alloc (.cells #[] 114)).cell? ⟨b4,0,none⟩=some (.map (some bm)):=pd.o _;have e5:(wr.alloc (.cells #[] 114)).heap[b5]?=some (.cells #[.int .i64 z] 3 (0,0)):=(dX.block _ HJ.o.i.lt.2.1).trans HJ.o.i.c5;have d5:(wr.alloc (.cells #[] 114)).cell? ⟨b5,0,none⟩=some (.int .i64 z):=by rw [Lib.cell_of_heap e5];rfl
   have g5:(wr.alloc (.cells #[] 114)).frozen? ⟨b5,0,none⟩=false:=by simp only [World.frozen?,e5];rfl
   have d2:(wr.alloc (.cells #[] 114)).cell? ⟨W.heap.size,2,none⟩=some (.int .i64 a.at_):=(HJ.o.box.below dX).c 2 _ rfl;clear am hr aB il cb4 dX e5;cases hi:Du (met++l.take j) r with
   |true=>
    have kL:Hd (Maps.has D (.int .i64 r)=true):=(eU.o r).trans hi;obtain⟨de,mn⟩:=TI HJ.o.clash HR.o hi;have lK:=AA de;have ra:=AA mn;clear hi de mn
    go_wp2_with (first
     |(at_lookup;refine wpList_lookup_own_unit _ rfl _ _ 113 rfl 3 114 Ko underlying113 (zeroValue114 _) bm _ D rfl aO.o _ _ rfl kN.o ?_;rw [kL.o]))
    go_ret;obtain⟨hu,mp,ld⟩:=HU.o;rw [lK.o] at hu ld;rw [ra.o] at mp;simp only [if_true] at ld;have pV:u=false:=hu;subst pV mp ld;clear hu;exact⟨rfl,HJ.o.i.hit _ _ k (by have h1:=HJ.o.i.len;rw [List.length_append,List.length_take] at *;omega),(HJ.o.grown.trans (B8.alloc _ _ _)).trans (.of_grown (AL _ _ _ _) (fun b e=>by cases e;exact .inl rfl))⟩
   |false=>
    have kL:Hd (Maps.has D (.int .i64 r)=false):=(eU.o r).trans hi;have HI:=AA hi;clear hi
    go_wp2_with (first
     |(at_lookup;refine wpList_lookup_own_unit _ rfl _ _ 113 rfl 3 114 Ko underlying113 (zeroValue114 _) bm _ D rfl aO.o _ _ rfl kN.o ?_;rw [kL.o])
     |(at_mapUpdate;refine wpList_mapUpdate_own _ rfl _ _ _ 113 rfl 3 114 Ko underlying113 unitElem bm _ D rfl (aO.o.alloc _) (by unfold maxLen;have:=HJ.o.i.len;omega) _ _ _ rfl rfl kN.o _ [] unitElem_mk ?_;intro w5 aI mX;have l1:=AA aI;have iJ:=AA mX;clear aI mX))
    go_roundw
    case rel=>exact⟨j+1,by omega,by go_num,HJ.o.add HR.o HI.o (by omega) l1.o eU.o aO.o.isMap iJ.o eV dI⟩
    case measure=>simp [intOf];omega
  ·have ex:j=l.length:=by omega
   subst ex;go_wp2_with fail;go_ret;have de:=HJ.o.clash;rw [List.take_length] at de;obtain⟨hu,mp,ld⟩:=HU.o;rw [de] at hu ld;rw [OR _ _ de] at mp;have hi:=HJ.o.i;rw [List.take_length] at hi;have pV:u=true:=hu;have tP:zt=z:=ld;subst pV mp tP;exact⟨rfl,⟨hi.c4,hi.c5,hi.m,by show (met++l).length+50 * k≤1000000;rw [List.length_append];omega,hi.n45,hi.n4m,hi.n5m⟩,HJ.o.grown⟩
theorem TX{w0:World}{b4 b5 bm:Nat}(h5:w0.heap.size≤b5)(hm:w0.heap.size≤bm):Xd w0 (OC b5 bm) 61 #[.pointer (some ⟨b4,0,none⟩),.pointer (some ⟨b5,0,none⟩)] (Pm b4 b5 bm) (fun a=>AH.Own w0 a∧Bl a) Bq:=⟨fun args w=>call61 args w,fun b h=>by rcases h with rfl|rfl<;>assumption,fun b h k s W hi=>by rcases h with rfl|rfl;exact hi.lt.2.1;exact hi.lt.2.2,fun k s W W' hi hb=>hi.below hb,fun k s W hi=>hi.less,fun k a s W ho hW hi=>RR ho.1 ho.2 hW h5 hm hi⟩
end Go.Proofs.YtkdjnegfnhldpaaGreatDoor
