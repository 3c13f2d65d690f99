/- Part 13. -/
import Derived.Maps.OwnSet
import Derived.Recover
import Derived.Laws.Entries
import Derived.Test.YtkdjnegfnhldpaaGreatDoorK12
set_option linter.unusedVariables false
set_option maxRecDepth 100000
set_option linter.unusedSimpArgs false
set_option maxHeartbeats 40000000
set_option autoImplicit true
set_option relaxedAutoImplicit true
namespace Go.Proofs.YtkdjnegfnhldpaaGreatDoor
open Go.Proofs.Tryz Go.RowKit
theorem Cx(h:Below W.heap.size W W')(hr:W.heap.size<=r):Below W.heap.size W (W'.setRow r cs):=h.grown FC h.size (fun k e=>by cases e;exact hr)
abbrev O9:Array Value:=#[.int .u8 0,.int .i64 0,.slice none 0 0,.slice none 0 0]
abbrev JF(y:PT):Array Value:=#[.int .u8 y.head.kind,.int .i64 y.head.rho,.slice y.head.ep y.head.en y.head.ec,.slice y.head.kp y.head.kn y.head.kc]
structure SwT(N B:Nat)(W:World)(g8 g9:Option Nat)(f t:List Int)(x y:PT):Prop where
 lies:LR.lies W y
 span:∀b∈Dy y,b<N\/B<=b
 ne8:∀b∈Dy y,g8≠some b
 ne9:∀b∈Dy y,g9≠some b
 er:PT.er y=Fi f t (PT.er x)
theorem SwT.below(h:SwT N B W g8 g9 f t x y)(hb:Below W.heap.size W W'):SwT N B W' g8 g9 f t x y:=⟨LR.lies_below hb _ h.lies,h.span,h.ne8,h.ne9,h.er⟩
structure Rd(N B:Nat)(W:World)(g8 g9:Option Nat)(f t:List Int)(x1 x2:PT)(y1 y2:Option PT):Prop where
 size:B<=W.heap.size
 old:N<=B
 h8:∀g,g8=some g->B<=g/\W.heap[g]?=some (.cells O9 28 (0,0))
 h9:∀g,g9=some g->B<=g/\W.heap[g]?=some (.cells O9 28 (0,0))
 ne:∀g,g8=some g->g9≠some g
 t1:∀y,y1=some y->SwT N B W g8 g9 f t x1 y
 t2:∀y,y2=some y->SwT N B W g8 g9 f t x2 y
theorem ZJ(h:B<=W.heap.size)(hN:N<=B):Rd N B W none none f t x1 x2 none none:=⟨h,hN,fun g e=>(nomatch e),fun g e=>(nomatch e),fun g e=>(nomatch e),fun g e=>(nomatch e),fun g e=>(nomatch e)⟩
theorem Ab{W:World}{g:Nat}{o:Obj}(h:W.heap[g]?=some o):g<W.heap.size:=(AO.1 h).1
section
variable {N B:Nat} {W:World} {g8 g9:Option Nat} {f t:List Int} {x1 x2:PT} {y1 y2:Option PT}
theorem Rd.alloc8(h:Rd N B W none g9 f t x1 x2 y1 y2)(hG:G=W.heap.size):Rd N B (W.alloc (.cells O9 28)) (some G) g9 f t x1 x2 y1 y2:=by
 subst hG;have hb:Below W.heap.size W (W.alloc (.cells O9 28)):=bA;refine⟨AM h.size hb.size,h.old,fun g e=>?_,fun g e=>?_,fun g e e'=>?_,fun y e=>?_,fun y e=>?_⟩
 ·cases e;exact⟨h.size,AG W _⟩
 ·exact⟨(h.h9 g e).1,(hb.block g (Ab (h.h9 g e).2)).trans (h.h9 g e).2⟩
 ·cases e;exact CU _ (Ab (h.h9 _ e').2)
 ·have ht:=h.t1 y e;exact⟨LR.lies_below hb _ ht.lies,ht.span,fun b ab e'=>by cases e';exact CU _ (CW _ ht.lies _ ab),ht.ne9,ht.er⟩
 ·have ht:=h.t2 y e;exact⟨LR.lies_below hb _ ht.lies,ht.span,fun b ab e'=>by cases e';exact CU _ (CW _ ht.lies _ ab),ht.ne9,ht.er⟩
theorem Rd.alloc9(h:Rd N B W g8 none f t x1 x2 y1 y2)(hG:G=W.heap.size):Rd N B (W.alloc (.cells O9 28)) g8 (some G) f t x1 x2 y1 y2:=by
 subst hG;have hb:Below W.heap.size W (W.alloc (.cells O9 28)):=bA;refine⟨AM h.size hb.size,h.old,fun g e=>?_,fun g e=>?_,fun g e e'=>?_,fun y e=>?_,fun y e=>?_⟩
 ·exact⟨(h.h8 g e).1,(hb.block g (Ab (h.h8 g e).2)).trans (h.h8 g e).2⟩
 ·cases e;exact⟨h.size,AG W _⟩
 ·cases e';exact CU _ (Ab (h.h8 _ e).2)
 ·have ht:=h.t1 y e;exact⟨LR.lies_below hb _ ht.lies,ht.span,ht.ne8,fun b ab e'=>by cases e';exact CU _ (CW _ ht.lies _ ab),ht.er⟩
 ·have ht:=h.t2 y e;exact⟨LR.lies_below hb _ ht.lies,ht.span,ht.ne8,fun b ab e'=>by cases e';exact CU _ (CW _ ht.lies _ ab),ht.er⟩
theorem Rd.step(h:Rd N B W g8 g9 f t x1 x2 y1 y2)(hb:Below W.heap.size W w'):Rd N B w' g8 g9 f t x1 x2 y1 y2:=⟨AM h.size hb.size,h.old,fun g e=>⟨(h.h8 g e).1,(hb.block g (Ab (h.h8 g e).2)).trans (h.h8 g e).2⟩,fun g e=>⟨(h.h9 g e).1,(hb.block g (Ab (h.h9 g e).2)).trans (h.h9 g e).2⟩,h.ne,fun y e=>(h.t1 y e).below hb,fun y e=>(h.t2 y e).below hb⟩
theorem Rd.out(h:Rd N B W g8 g9 f t x1 x2 y1 y2)(hl:LR.lies w' y)(hs:He N W.heap.size w'.heap.size y)(he:PT.er y=Fi f t (PT.er x)):SwT N B w' g8 g9 f t x y:=
 ⟨hl,fun b hb=>(Om y hs b hb).imp id (AM h.size),fun b hb e=>by
  have h1:=h.h8 b e;have h2:=Ab h1.2;have h3:=h.old;rcases Om y hs b hb with h4|h4<;>omega,fun b hb e=>by
  have h1:=h.h9 b e;have h2:=Ab h1.2;have h3:=h.old;rcases Om y hs b hb with h4|h4<;>omega,he⟩
theorem Rd.call1(h:Rd N B W g8 g9 f t x1 x2 none y2)(hb:Below W.heap.size W w')(hl:LR.lies w' y)(hs:He N W.heap.size w'.heap.size y)(he:PT.er y=Fi f t (PT.er x1)):Rd N B w' g8 g9 f t x1 x2 (some y) y2:=
 have hh:=h.step hb
 ⟨hh.size,hh.old,hh.h8,hh.h9,hh.ne,fun z e=>by cases e;exact h.out hl hs he,hh.t2⟩
theorem Rd.call2(h:Rd N B W g8 g9 f t x1 x2 y1 none)(hb:Below W.heap.size W w')(hl:LR.lies w' y)(hs:He N W.heap.size w'.heap.size y)(he:PT.er y=Fi f t (PT.er x2)):Rd N B w' g8 g9 f t x1 x2 y1 (some y):=
 have hh:=h.step hb
 ⟨hh.size,hh.old,hh.h8,hh.h9,hh.ne,hh.t1,fun z e=>by cases e;exact h.out hl hs he⟩
end
structure Sw7(N B:Nat)(W:World)(g8 g9:Nat)(f t:List Int)(x1 x2 y1 y2:PT):Prop where
 h8:B<=g8/\W.heap[g8]?=some (.cells (JF y1) 28 (0,0))
 h9:B<=g9/\W.heap[g9]?=some (.cells (JF y2) 28 (0,0))
 t1:LR.lies W y1/\(∀b∈Dy y1,b<N\/B<=b)/\PT.er y1=Fi f t (PT.er x1)
 t2:LR.lies W y2/\(∀b∈Dy y2,b<N\/B<=b)/\PT.er y2=Fi f t (PT.er x2)
theorem Rd.fin(h:Rd N B W (some g8) (some g9) f t x1 x2 (some y1) (some y2)):Sw7 N B ((W.setRow g8 (JF y1)).setRow g9 (JF y2)) g8 g9 f t x1 x2 y1 y2:=by have h8:=h.h8 _ rfl;have h9:=h.h9 _ rfl;have aM:g8≠g9:=fun e=>h.ne g8 rfl (by rw [e]);have t1:=h.t1 _ rfl;have t2:=h.t2 _ rfl;have hl:∀x y:PT,SwT N B W (some g8) (some g9) f t x y->LR.lies ((W.setRow g8 (JF y1)).setRow g9 (JF y2)) y:=fun x y ht=>GN FC y (fun b hb e=>ht.ne9 b hb e) (GN FC y (fun b hb e=>ht.ne8 b hb e) ht.lies);exact⟨⟨h8.1,(AR _ _ _ _ (fun e=>aM e)).trans (AL _ _ _ _ _ _ h8.2)⟩,⟨h9.1,AL _ _ _ _ _ _ ((AR _ _ _ _ (fun e=>aM e.symm)).trans h9.2)⟩,⟨hl _ _ t1,t1.span,t1.er⟩,⟨hl _ _ t2,t2.span,t2.er⟩⟩
theorem Sw7.step(h:Sw7 N B W g8 g9 f t x1 x2 y1 y2)(hb:Below W.heap.size W W'):Sw7 N B W' g8 g9 f t x1 x2 y1 y2:=⟨⟨h.h8.1,(hb.block _ (Ab h.h8.2)).trans h.h8.2⟩,⟨h.h9.1,(hb.block _ (Ab h.h9.2)).trans h.h9.2⟩,⟨LR.lies_below hb _ h.t1.1,h.t1.2⟩,⟨LR.lies_below hb _ h.t2.1,h.t2.2⟩⟩
theorem Cb(bM:o.guard=none)(ty:TypeId)(x y:Operand)(ho:o.op=.store ty x y)(h:W.heap[g]?=some (.cells O9 28 (0,0)))(z:PT)(hx:act.eval x=.pointer (some ⟨g,0,none⟩))(hy:act.eval y=.agg (JF z))(hi:(P.info? ty).map (·.size)=some 4)(hK:K (act.put o.dst undef) (W.setRow g (JF z))):if Region.wanted o (yielded ops act.tmps)=true then Oper.wp P o act W K Q else E:=by rw [AJ (by simp [Region.wanted,bM])];exact DV ty x y ho g (JF z) hx hy 28 O9 h hi rfl (by simp [Value.oneCell']) hK
structure Zc(w:World)(a:AH)(x y:Value)(g8 g9:Nat)(y1 y2:PT)(W:World):Prop where
 nd:N8 w a x y W
 h8:w.heap.size+3<=g8/\W.heap[g8]?=some (.cells (JF y1) 28 (0,0))
 h9:w.heap.size+3<=g9/\W.heap[g9]?=some (.cells (JF y2) 28 (0,0))
theorem Zc.step(h:Zc w a x y g8 g9 y1 y2 W)(hb:Below W.heap.size W W'):Zc w a x y g8 g9 y1 y2 W':=⟨h.nd.step hb,⟨h.h8.1,(hb.block _ (Ab h.h8.2)).trans h.h8.2⟩,⟨h.h9.1,(hb.block _ (Ab h.h9.2)).trans h.h9.2⟩⟩
theorem Zc.alloc(h:Zc w a x y g8 g9 y1 y2 W)(o:Obj):Zc w a x y g8 g9 y1 y2 (W.alloc o):=h.step bA
theorem Zc.store(h:Zc w a x y g8 g9 y1 y2 W)(hc:cs.size=5):Zc w a x y g8 g9 y1 y2 (W.setRow (w.heap.size+2) cs):=⟨h.nd.store hc,⟨h.h8.1,(AR _ _ _ _ (by have:=h.h8.1;omega)).trans h.h8.2⟩,⟨h.h9.1,(AR _ _ _ _ (by have:=h.h9.1;omega)).trans h.h9.2⟩⟩
theorem r4{W:World}{g:Nat}{y:PT}(h:W.heap[g]?=some (.cells (JF y) 28 (0,0))):W.rangeAt g 0 [.int .u8 y.head.kind,.int .i64 y.head.rho,.slice y.head.ep y.head.en y.head.ec,.slice y.head.kp y.head.kn y.head.kc]:=K1 h _ (by intro i v hv;match i,hv with|0,hv=>exact hv|1,hv=>exact hv|2,hv=>exact hv|3,hv=>exact hv)
theorem Yl(h:IE w0 w S (.node a l) p q n c m mc env rhos)(eA:IK env a.name=none):Calls prog 97 #[.agg #[.slice p n c,.slice q m mc],DP a] w (Gm w S (Hk (Gg env) a.plain)):=by
 have HX:=AF (KE w a (.slice p n c) (.slice q m mc));have HC:=AF h;have HN:=AF (Gh h.lies);have ca:GP a:=h.small a (by rw [Ad.nodes_node];exact BL);have dg:=AF ca;have lR:n<=900000:=by have:=h.hn;omega
 clear ca h;have HF:Hd (∀e,Gd env a.name e->e=.returned (.tuple #[T9,.bool false])):=fun e he=>by unfold Gd at he;rw [eA] at he;exact he
 have HR:Hd (Hk (Gg env) a.plain=.error (a.at_,4)):=by show _=_;unfold Hk;rw [show a.plain.name=a.name from rfl,Kg,eA];rfl
 rw [HR.o];clear HR eA;go_enter func97,ntmps97;go_upto_region 1 with fail;generalize (((w.alloc (.cells #[.slice p n c,.slice q m mc] 84)).alloc (Bt a)).alloc (.cells #[.int .u8 0,.int .i64 0,.slice none 0 0,.slice none 0 0,.slice none 0 0] 81))=W1 at *
 have c4:=HX.o.b.b1.c 4 _ rfl
 go_upto_region 2 with(first
  |(refine lw HX.o.b.b0 underlying84 ?_)
  |(go_at_call 96;refine(Gx (HC.o.envA.row.below HX.o.below) (by omega) (.slice q m mc) a.name).mono ?_;rintro e w3 ⟨hf,hb⟩;obtain rfl:=HF.o _ hf;have bC:=AF (HX.o.step hb);have cw:=AF (AG w3 (.cells #[.string ⟨#[]⟩,.int .u8 0,.int .i64 0,.slice none 0 0,.slice none 0 0,.pointer none] 145));clear hf hb)
  |(refine sw #[.string ⟨#[]⟩,.int .u8 0,.int .i64 0,.slice none 0 0,.slice none 0 0,.pointer none] cw.o ?_;rw [Av]))
 clear c4;have cy:=AF (bC.o.alloc (.cells #[.string ⟨#[]⟩,.int .u8 0,.int .i64 0,.slice none 0 0,.slice none 0 0,.pointer none] 145));generalize (w3.alloc (.cells #[.string ⟨#[]⟩,.int .u8 0,.int .i64 0,.slice none 0 0,.slice none 0 0,.pointer none] 145))=W4 at *
 go_wp2_with (first
  |(refine lw cy.o.b.b1.blk underlying31 ?_))
 go_at_call 64;refine(D3 a 4 _).mono ?_;rintro e w9 ⟨rfl,hb⟩;exact⟨rfl,rfl,(cy.o.step hb).below⟩
theorem Yk(h:IE w0 w S (.node a l) p q n c m mc env rhos)(eA:IK env a.name=some b)(ef:b.fn=none):Calls prog 97 #[.agg #[.slice p n c,.slice q m mc],DP a] w (Gm w S (Hk (Gg env) a.plain)):=by
 have HX:=AF (KE w a (.slice p n c) (.slice q m mc));have HC:=AF h;have HN:=AF (Gh h.lies);have ca:GP a:=h.small a (by rw [Ad.nodes_node];exact BL);have dg:=AF ca;have lR:n<=900000:=by have:=h.hn;omega
 clear ca h;have HF:Hd (∀e,Gd env a.name e->e=.returned (.tuple #[Ot b,.bool true])):=fun e he=>by unfold Gd at he;rw [eA] at he;exact he
 have fI:b∈env:=M5 eA;have va:=AF fI;have iO:=AF (HC.o.envA.each b fI);have ll:=AF ef;have HR:Hd (Hk (Gg env) a.plain=.error (a.at_,5)):=by show _=_;unfold Hk;rw [show a.plain.name=a.name from rfl,Kg,eA];show (match (BV.er b).fn with|none=>_|some f=>_)=_;unfold BV.er;rw [ef];rfl
 rw [HR.o];clear HR ef;clear eA fI;go_enter func97,ntmps97;go_upto_region 1 with fail;generalize (((w.alloc (.cells #[.slice p n c,.slice q m mc] 84)).alloc (Bt a)).alloc (.cells #[.int .u8 0,.int .i64 0,.slice none 0 0,.slice none 0 0,.slice none 0 0] 81))=W1 at *
 have c4:=HX.o.b.b1.c 4 _ rfl
 go_upto_region 2 with(first
  |(refine lw HX.o.b.b0 underlying84 ?_)
  |(go_at_call 96;refine(Gx (HC.o.envA.row.below HX.o.below) (by omega) (.slice q m mc) a.name).mono ?_;rintro e w3 ⟨hf,hb⟩;obtain rfl:=HF.o _ hf;have bC:=AF (HX.o.step hb);have cw:=AF (AG w3 (.cells #[.string ⟨#[]⟩,.int .u8 0,.int .i64 0,.slice none 0 0,.slice none 0 0,.pointer none] 145));clear hf hb)
  |(refine sw #[.string b.name,.int .u8 b.ty.head.kind,.int .i64 b.ty.head.rho,.slice b.ty.head.ep b.ty.head.en b.ty.head.ec,.slice b.ty.head.kp b.ty.head.kn b.ty.head.kc,.pointer (b.fn.map (fun x=>⟨x.2,0,none⟩))] cw.o ?_;rw [Av]))
 clear c4;have cy:=AF (bC.o.alloc (.cells #[.string b.name,.int .u8 b.ty.head.kind,.int .i64 b.ty.head.rho,.slice b.ty.head.ep b.ty.head.en b.ty.head.ec,.slice b.ty.head.kp b.ty.head.kn b.ty.head.kc,.pointer (b.fn.map (fun x=>⟨x.2,0,none⟩))] 145));have fP:=AF (AG w3 (.cells #[.string b.name,.int .u8 b.ty.head.kind,.int .i64 b.ty.head.rho,.slice b.ty.head.ep b.ty.head.en b.ty.head.ec,.slice b.ty.head.kp b.ty.head.kn b.ty.head.kc,.pointer (b.fn.map (fun x=>⟨x.2,0,none⟩))] 145));obtain⟨g,hg⟩:∃g,w3.heap.size=g:=⟨_,rfl⟩;rw [hg] at fP ⊢;generalize (w3.alloc (.cells #[.string b.name,.int .u8 b.ty.head.kind,.int .i64 b.ty.head.rho,.slice b.ty.head.ep b.ty.head.en b.ty.head.ec,.slice b.ty.head.kp b.ty.head.kn b.ty.head.kc,.pointer (b.fn.map (fun x=>⟨x.2,0,none⟩))] 145))=W4 at *
 clear hg cw bC
 go_upto_region 3 with(first
  |(refine lw cy.o.b.b1.blk underlying31 ?_)
  |(go_at_call 64;refine(Dw a 4 _).mono ?_;rintro e w5 ⟨rfl,hb⟩;have du:=AF (cy.o.step hb);have gR:=AF ((hb.block _ (AO.1 fP.o).1).trans fP.o);clear hb))
 clear cy fP;have oJ:Hd (∀W',Below w5.heap.size w5 W'->W'.cell? ⟨g,5,none⟩=some (.pointer none)):=fun W' hb=>by rw [AD ((hb.block _ (AO.1 gR.o).1).trans gR.o)];show some (Value.pointer (b.fn.map _))=_;rw [ll.o];rfl
 refine rg (fun W'=>Below w5.heap.size w5 W') (At w5) fun aA=>?_;refine tp 0 21 ?_;refine tp 1 22 ?_ (hy:=fun w aB=>by(try dsimp only at aB);have q5:=oJ.o _ aB;go_simp;try with_reducible rfl);refine tp 2 23 ?_;refine tp 3 24 ?_;refine J1 4 25 3 true ?_;refine J1 5 26 3 true ?_;refine J1 6 27 3 true ?_;refine J1 7 28 3 true ?_;refine J1 8 29 3 true ?_;refine J1 9 30 3 true ?_;refine J1 10 31 3 true ?_;refine J1 11 32 3 true ?_;refine J1 12 33 3 true ?_;refine J1 13 34 3 true ?_;refine tp 14 35 ?_;refine ta 15 36 a (w.heap.size+1) 0 (fun W' aB=>(du.o.step aB).b.b1.range) ?_;refine tr 16 37 fun K hK=>?_;go_simp;go_at_call 64;refine(D3 a 5 _).mono ?_;rintro e w9 ⟨rfl,hb⟩;exact⟨rfl,rfl,du.o.below.trans ((An aA hb).mono du.o.below.size)⟩
structure E5(w w':World)(R:Nat->Prop):Prop where
 os:w'.os=w.os
 tape:w'.tape=w.tape
 output:w'.output=w.output
 size:w.heap.size<=w'.heap.size
 block:∀k,k<w.heap.size->¬R k->w'.heap[k]?=w.heap[k]?
theorem E5.refl(w:World)(R:Nat->Prop):E5 w w R:=⟨rfl,rfl,rfl,AB _,fun _ _ _=>rfl⟩
theorem E5.trans(h:E5 a b R)(k:E5 b c R):E5 a c R:=⟨k.os.trans h.os,k.tape.trans h.tape,k.output.trans h.output,AM h.size k.size,fun i hi aM=>(k.block i (Ak hi h.size) aM).trans (h.block i hi aM)⟩
theorem E5.of_below(h:Below w.heap.size w w')(R:Nat->Prop):E5 w w' R:=⟨h.os,h.tape,h.output,h.size,fun k hk _=>h.block k hk⟩
theorem E5.alloc(w:World)(o:Obj)(R:Nat->Prop):E5 w (w.alloc o) R:=.of_below bA R
theorem E5.of_grown(h:w.grownBy w' r)(hr:∀b,r=some b->R b):E5 w w' R:=⟨h.os,h.tape,h.output,h.size,fun k hk hn=>h.block k hk (fun e=>hn (hr k e.symm))⟩
theorem E5.cell(hg:E5 w w' R)(h:w.cell? a=some v)(aM:¬R a.block):w'.cell? a=some v:=(Eh (hg.block a.block (World.block_lt_of_cell? w a h) aM)).trans h
theorem Kr(h:Below B a w)(hg:E5 w w' R)(hB:B<=w.heap.size)(hr:∀k,R k->B<=k):Below B a w':=h.trans ⟨hg.os,hg.tape,hg.output,hg.size,fun k hk=>hg.block k (by omega) (fun e=>by have:=hr k e;omega)⟩
structure FvS(w0:World)(row:Nat->Prop)(g:Nat)(lb:Array Value){σ:Type}(Inv:Nat->σ->World->Prop)(ok:AH->Prop)(st:AH->σ->Bool×σ):Prop where
 eg:∀args w,(callFunc g args).run prog w=.ok (.enter g args) w
 hb:∀b,row b->w0.heap.size<=b
 lt:∀b,row b->∀k s W,Inv k s W->b<W.heap.size
 inv:∀k s W W',Inv k s W->Below W.heap.size W W'->Inv k s W'
 less:∀k s W,Inv (k+1) s W->Inv k s W
 call:∀k a s W,ok a->Below w0.heap.size w0 W->Inv (k+1) s W->Calls prog g (#[DP a]++lb) W fun e w'=>e=.returned (.bool (st a s).1)/\Inv k (st a s).2 w'/\E5 W w' row
structure ZC0(w0 W:World)(row:Nat->Prop)(p:Option Addr)(n c:Nat)(l:List PA):Prop where
 arow:Ax LA.encT 19 W p n c l
 free:l≠[]->∀ad,p=some ad->¬row ad.block
 each:∀t∈l,LA.lies w0 t
theorem Hc.rowS{w0 W:World}{row:Nat->Prop}{p:Option Addr}{n c:Nat}{l:List PA}(h:Hc w0 p n c l)(hb:Below w0.heap.size w0 W)(hr:∀b,row b->w0.heap.size<=b):ZC0 w0 W row p n c l:=
 ⟨h.row.below hb,fun hl ad hp e=>by
  have h1:=hr _ e;rcases h.row.row with h0|⟨b,o,ek,aG,_⟩
  ·exact hl h0
  ·rw [ek] at hp;cases hp;exact absurd aG (Nat.not_lt.2 h1),h.each⟩
def UF(w0:World)(row:Nat->Prop)(g:Nat)(lb:Array Value){σ:Type}(Inv:Nat->σ->World->Prop)(ok:AH->Prop)(st:AH->σ->Bool×σ)(l:List PA):Prop:=∀K p n c W,ZC0 w0 W row p n c l->(∀a∈B8 l,ok a)->∀s,Below w0.heap.size w0 W->Inv (K+(B8 l).length) s W->Calls prog 59 #[.func (.func g) #[] lb,.slice p n c] W fun e w'=>e=.returned (.bool (BR st (B8 l) s).1)/\Inv K (BR st (B8 l) s).2 w'/\E5 W w' row
theorem Qg{σ:Type}{Inv:Nat->σ->World->Prop}(h:∀k s W,Inv (k+1) s W->Inv k s W){j k:Nat}{s:σ}{W:World}(hj:j<=k):Inv k s W->Inv j s W:=by
 obtain⟨d,rfl⟩:=Nat.le.dest hj;clear hj;induction d with
 |zero=>exact id
 |succ d ih=>exact fun hi=>ih (h _ _ _ hi)
theorem VI{l:List PA}{k:Nat}{a:AH}{m:List PA}(hx:l[k]?=some (.node a m)):(B8 (l.drop k)).length=(B8 (l.drop (k+1))).length+(B8 m).length+1:=by
 have aG:=DI hx;have hd:l.drop k=.node a m::l.drop (k+1):=by rw [A9 aG];congr 1;rw [AI aG] at hx;exact A8 hx
 rw [hd];simp only [B8,AV,List.flatten_cons,Br,As];rw [Ad.nodes_node];simp only [B8,Aq];omega
theorem Li{w0:World}{row:Nat->Prop}{g:Nat}{lb:Array Value}{σ:Type}{Inv:Nat->σ->World->Prop}{ok:AH->Prop}{st:AH->σ->Bool×σ}(F:FvS w0 row g lb Inv ok st)(l:List PA)(ih:∀x∈l,UF w0 row g lb Inv ok st x.kids):UF w0 row g lb Inv ok st l:=by
 intro K p n c W hR aW s kz gF;have eg:=F.eg;have HF:=AF F;have HI:=AF ih;have HR:=AF hR;have bP:=AF aW;have dq:=AF kz;have HV:=AF gF;have kX:n<=9223372036854775807:=hR.arow.max;clear F ih hR aW kz gF;go_enter func59,ntmps59;go_wp2_with fail;go_loopw [9] (fun i wr=>∃(k:Nat) (S:Bool×σ),k<=n/\i=.int .i64 k/\Hd (BR st (C9 l k) s=S)/\S.1=true/\Inv (K+(B8 (l.drop k)).length) S.2 wr/\E5 W wr row) (fun i _=>n-(intOf i).toNat)
 case atStart=>exact⟨0,(true,s),by omega,rfl,AF rfl,rfl,HV.o,E5.refl _ _⟩
 case round=>
  obtain⟨k,S,hk,rfl,HS,hs,lH,hg⟩:=hrel;have il:=AF lH;have HG:=AF hg;have cx:=AF hs;have HB:=AF (Kr dq.o hg dq.o.size HF.o.hb);clear lH hg hs;by_cases aG:k<n
  ·obtain⟨x,hx⟩:∃x,l[k]?=some x:=Bh (by rw [HR.o.arow.len];exact aG);obtain⟨b,o,bV,bB,ou⟩:=HR.o.arow.row.elem hx;have gB:=HR.o.free (by intro e;rw [e] at hx;simp at hx) _ bV;have am:∀i u,(LA.encT x)[i]?=some u->wr.cell? ⟨b,o+k * 19+i,none⟩=some u:=fun i u hu=>HG.o.cell (ou i u hu) gB;clear ou gB;obtain⟨a,m,s6⟩:∃a m,x=Ad.node a m:=⟨x.head,x.kids,Ad.eta x⟩;subst s6;have dc:=AF (show La wr b (o+k * 19) a from⟨fun i u hu=>am i u hu⟩);subst bV;have hE:=AE hx;have iW:=AF (show UF w0 row g lb Inv ok st m from HI.o _ hE);have gT:=AF (show Hc w0 a.kp a.kn a.kc m from XW (HR.o.each _ (AE hx)));have kq:=AF (show ∀a'∈B8 m,ok a' from fun a' ha=>bP.o a' (K0 hE (by rw [Jq];exact Cu _ ha)));have gI:ok a:=bP.o a (K0 hE (by rw [Jq];exact BL))
   have cJ:=AF (show BR st (C9 l (k+1)) s=if(st a S.2).1 then BR st (B8 m) (st a S.2).2 else(false,(st a S.2).2) by
    have h:=X4 st s hx (by rw [HS.o];exact cx.o);rw [HS.o] at h;exact h)
   have pe:K+(B8 (l.drop k)).length=(K+(B8 (l.drop (k+1))).length+(B8 m).length)+1:=by rw [VI hx];omega
   rw [pe] at il;clear hx bB am hE pe;have aK:=AF (C8 wr a);have ap:Below wr.heap.size wr (wr.alloc (Bt a)):=bA;have aH:=bt HB ap;have jC:=AF (HF.o.inv _ _ _ _ il.o ap);have bY:=AF (HF.o.call _ a S.2 _ gI aH.o jC.o);have fc:=AF (HG.o.trans ((E5.alloc wr (Bt a) row)));clear ap gI;have kw:(wr.alloc (.cells #[.int .u8 0,.int .u8 0,.int .i64 0,.int .i64 0,.string ⟨#[]⟩,.string ⟨#[]⟩,.string ⟨#[]⟩,.int .i64 0,.slice none 0 0,.slice none 0 0,.int .u8 0,.int .i64 0,.slice none 0 0,.slice none 0 0,.int .u8 0,.int .i64 0,.slice none 0 0,.slice none 0 0,.slice none 0 0] 31)).heap[wr.heap.size]?=some (.cells #[.int .u8 0,.int .u8 0,.int .i64 0,.int .i64 0,.string ⟨#[]⟩,.string ⟨#[]⟩,.string ⟨#[]⟩,.int .i64 0,.slice none 0 0,.slice none 0 0,.int .u8 0,.int .i64 0,.slice none 0 0,.slice none 0 0,.int .u8 0,.int .i64 0,.slice none 0 0,.slice none 0 0,.slice none 0 0] 31 (0,0)):=AG wr _;have cw:=AF kw;clear kw;cases hq:(st a S.2).1 with
   |false=>
    rw [hq] at bY cJ;have HQ:=AF hq;clear hq
    go_wp2_with (first
     |(refine lm (FS a) dc.o.c underlying31 ?_)
     |(refine Ap rfl 31 _ _ rfl wr.heap.size (FS a).toArray rfl rfl 31 _ cw.o (by kernel_rfl) rfl (Bl (H8 a)) ?_;rw [Av])
     |(refine lw aK.o.blk underlying31 ?_)
     |(go_at_fn g;refine bY.o.mono ?_;rintro e w2 ⟨rfl,cK,aa⟩;have cb:=AF cK;have dD:=AF (fc.o.trans aa);clear cK aa))
    go_ret;have bZ:BR st (B8 l) s=(false,(st a S.2).2):=by rw [Pr st s l (k+1) (by rw [cJ.o];rfl),cJ.o];rfl
    exact⟨Af (by rw [bZ]),by rw [bZ];exact Qg HF.o.less (by omega) cb.o,dD.o⟩
   |true=>
    rw [hq] at bY cJ;have HQ:=AF hq;clear hq;have HM:=AF (HF.o.hb);have q18:∀w2,E5 (wr.alloc (Bt a)) w2 row->Inv (K+(B8 (l.drop (k+1))).length+(B8 m).length) (st a S.2).2 w2->w2.cell? ⟨wr.heap.size,18,none⟩=some (.slice a.kp a.kn a.kc)/\Below w0.heap.size w0 w2:=fun w2 aa cK=>⟨aa.cell (a:=⟨wr.heap.size,18,none⟩) (aK.o.c 18 _ rfl) (fun e=>by have:=HF.o.lt _ e _ _ _ il.o;exact CU _ this),Kr aH.o aa aH.o.size HM.o⟩;have fw:=AF q18;clear q18;cases fN:(BR st (B8 m) (st a S.2).2).1 with
    |false=>
     have cE:=AF fN;clear fN
     go_wp2_with (first
      |(refine lm (FS a) dc.o.c underlying31 ?_)
      |(refine Ap rfl 31 _ _ rfl wr.heap.size (FS a).toArray rfl rfl 31 _ cw.o (by kernel_rfl) rfl (Bl (H8 a)) ?_;rw [Av])
      |(refine lw aK.o.blk underlying31 ?_)
      |(first|(go_at_fn g;refine bY.o.mono ?_;rintro e w2 ⟨rfl,cK,aa⟩;obtain⟨c18,aU⟩:=fw.o _ aa cK;have cb:=AF cK;have dD:=AF (fc.o.trans aa);have aF:=AF aU;clear cK aa aU)|(go_at_call 59;refine(iW.o (K+(B8 (l.drop (k+1))).length) _ _ _ _ (gT.o.rowS aF.o HM.o) kq.o _ aF.o cb.o).mono ?_;rw [cE.o];rintro e w3 ⟨rfl,gE,bT⟩;have ci:=AF gE;have iS:=AF (dD.o.trans bT);clear gE bT)))
     go_ret;have bZ:BR st (B8 l) s=BR st (B8 m) (st a S.2).2:=by rw [Pr st s l (k+1) (by rw [cJ.o];exact cE.o),cJ.o];rfl
     exact⟨Af (by rw [bZ,cE.o]),by rw [bZ];exact Qg HF.o.less (by omega) ci.o,iS.o⟩
    |true=>
     have cE:=AF fN;clear fN
     go_wp2_with (first
      |(refine lm (FS a) dc.o.c underlying31 ?_)
      |(refine Ap rfl 31 _ _ rfl wr.heap.size (FS a).toArray rfl rfl 31 _ cw.o (by kernel_rfl) rfl (Bl (H8 a)) ?_;rw [Av])
      |(refine lw aK.o.blk underlying31 ?_)
      |(first|(go_at_fn g;refine bY.o.mono ?_;rintro e w2 ⟨rfl,cK,aa⟩;obtain⟨c18,aU⟩:=fw.o _ aa cK;have cb:=AF cK;have dD:=AF (fc.o.trans aa);have aF:=AF aU;clear cK aa aU)|(go_at_call 59;refine(iW.o (K+(B8 (l.drop (k+1))).length) _ _ _ _ (gT.o.rowS aF.o HM.o) kq.o _ aF.o cb.o).mono ?_;rw [cE.o];rintro e w3 ⟨rfl,gE,bT⟩;have ci:=AF gE;have iS:=AF (dD.o.trans bT);clear gE bT)))
     go_roundw
     case rel=>exact⟨k+1,_,by omega,by go_num,cJ,by show (BR st (B8 m) (st a S.2).2).1=true;exact cE.o,ci.o,iS.o⟩
     case measure=>simp [intOf];omega
  ·have ai:k=n:=by omega
   have bp:C9 l k=B8 l:=ZBI l k (by rw [HR.o.arow.len,ai];exact AB _);rw [bp] at HS;go_wp2_with fail;go_ret;exact⟨Af (by rw [HS.o,cx.o]),by rw [HS.o];exact Qg HF.o.less (by omega) il.o,HG.o⟩
theorem PI{w0:World}{row:Nat->Prop}{g:Nat}{lb:Array Value}{σ:Type}{Inv:Nat->σ->World->Prop}{ok:AH->Prop}{st:AH->σ->Bool×σ}(F:FvS w0 row g lb Inv ok st)(l:List PA):UF w0 row g lb Inv ok st l:=Li F l (fun x _=>Ad.ind (P:=fun(x:PA)=>UF w0 row g lb Inv ok st x.kids) (fun a m ih=>Li F m ih) x)
theorem PH(a:AH)(hr:Ax DE 1 w a.rp a.rn a.rc a.rhos):Calls prog 62 #[DP a] w fun e w'=>∃p n c,e=.returned (.slice p n c)/\Ax DE 1 w' p n c (FP a.plain)/\(p=a.rp/\FP a.plain=a.rhos\/∀ad,p=some ad->w.heap.size<=ad.block)/\Below w.heap.size w w':=by
 have HR:=AF hr;have HB:=AF (C8 w a);have aH:Hd (Below w.heap.size w (w.alloc (Bt a))):=bA;have c0:=HB.o.c 0 _ rfl;have c7:=HB.o.c 7 _ rfl;have c8:=HB.o.c 8 _ rfl;clear hr;by_cases bK:a.kind=17
 ·have e17:(a.kind==17)=true:=by simp [bK]
  have HQ:Hd (FP a.plain=[a.rho]):=by show _=_;unfold FP;rw [AJ (show a.plain.kind=17 from bK)];rfl
  clear bK;go_enter func62,ntmps62;go_wp2_with fail;go_ret;exact⟨_,_,_,rfl,by rw [HQ.o];have h:=Bo DR (by omega) (w.alloc (Bt a)) 3 [a.rho] 1 _ rfl rfl (by decide);rw [AN] at h;exact h,.inr (fun ad hp=>by cases hp;simp),Ay aH.o _⟩
 ·have e17:(a.kind==17)=false:=by simp [bK]
  by_cases bf:a.kind=13
  ·have e13:(a.kind==13)=true:=by simp [bf]
   have HQ:Hd (FP a.plain=a.rhos):=by show _=_;unfold FP;rw [AC (show ¬a.plain.kind=17 from bK),AJ (show a.plain.kind=13 from bf)];rfl
   clear bK bf;go_enter func62,ntmps62;go_wp2_with fail;go_ret;exact⟨_,_,_,rfl,by rw [HQ.o];exact HR.o.below aH.o,.inl ⟨rfl,HQ.o⟩,aH.o⟩
  ·have e13:(a.kind==13)=false:=by simp [bf]
   have HQ:Hd (FP a.plain=[]):=by show _=_;unfold FP;rw [AC (show ¬a.plain.kind=17 from bK),AC (show ¬a.plain.kind=13 from bf)]
   clear bK bf;go_enter func62,ntmps62;go_wp2_with fail;go_ret;exact⟨_,_,_,rfl,by rw [HQ.o];exact Ax.none _ _ _,.inr (fun ad hp=>(nomatch hp)),aH.o⟩
def PU(met:List Int):List Int->List Int
 |[]=>met
 |r::l=>if Kp met r then met else PU (met++[r]) l
theorem OJ:∀(l m met:List Int),FW met (l++m)=(FW met l||FW (met++l) m)
 |[],m,met=>by simp [FW]
 |r::l,m,met=>by simp only [BK,FW,OJ l m (met++[r]),Cf,BK,A6,Bool.or_assoc]
theorem Qp:∀(l m met:List Int),FW met l=false->PU met (l++m)=PU (met++l) m
 |[],m,met,_=>by simp [PU]
 |r::l,m,met,h=>by simp only [FW,A5] at h;simp only [BK,PU,h.1,Ex,if_false,Qp l m (met++[r]) h.2,Cf,BK,A6]
theorem Se(l met:List Int)(h:FW met l=false):PU met l=met++l:=by have:=Qp l [] met h;simpa [PU] using this
theorem YN(h:FW met (l.take k)=false)(hr:l[k]?=some r)(hi:Kp (met++l.take k) r=true):FW met l=true/\PU met l=met++l.take k:=by
 have aG:=DI hr
 have hd:l=l.take k++r::l.drop (k+1):=by
  conv=>lhs;rw [<-BY k l,A9 aG]
  congr 2;rw [AI aG] at hr;exact A8 hr
 constructor
 ·rw [hd,OJ,h];simp only [FW,hi,Bool.true_or,Bool.or_true]
 ·conv=>lhs;rw [hd]
  rw [Qp _ _ _ h];simp only [PU,hi,if_true]
theorem Z5{l met:List Int}{k:Nat}{r:Int}(h:FW met (l.take k)=false)(hr:l[k]?=some r)(hi:Kp (met++l.take k) r=false):FW met (l.take (k+1))=false:=by rw [BG hr,OJ,h];simp [FW,hi]
def Ec(a:AH)(s:List Int×Int):Bool×(List Int×Int):=(!FW s.1 (FP a.plain),(PU s.1 (FP a.plain),if FW s.1 (FP a.plain) then a.at_ else s.2))
theorem O8:∀(l:List AH) (met:List Int) (z:Int),P4 (l.map AH.plain) met=(match BR Ec l (met,z) with|(true,_)=>none|(false,s)=>some s.2)/\((BR Ec l (met,z)).1=true->(BR Ec l (met,z)).2.2=z)
 |[],met,z=>⟨rfl,fun _=>rfl⟩
 |a::l,met,z=>by
  have e:BR Ec (a::l) (met,z)=if(Ec a (met,z)).1 then BR Ec l (Ec a (met,z)).2 else(false,(Ec a (met,z)).2):=rfl;rw [e,AV];unfold P4;cases h:FW met (FP a.plain) with
  |true=>
   have e1:(Ec a (met,z)).1=false:=by simp [Ec,h]
   have e2:(Ec a (met,z)).2.2=a.at_:=by simp [Ec,h]
   rw [e1,AC Co];refine⟨?_,fun h=>(nomatch h)⟩;show some a.at_=some (Ec a (met,z)).2.2;rw [e2]
  |false=>
   have e1:(Ec a (met,z)).1=true:=by simp [Ec,h]
   have e2:(Ec a (met,z)).2=(met++FP a.plain,z):=by simp [Ec,h,Se _ _ h]
   rw [e1,AJ rfl,e2];simp only [Ex,if_false];exact O8 l (met++FP a.plain) z
def SE(D:DataW Unit)(met:List Int):Prop:=∀r:Int,Maps.has D (.int .i64 r)=Kp met r
theorem ZD:SE (.map []) []:=fun r=>rfl
theorem ZE(h:SE D met)(hD:Maps.IsMap D)(r:Int):SE (D.put (.int .i64 r) (.agg [])) (met++[r]):=fun z=>by
 have e:Kp (met++[r]) z=(Kp met z||decide (z=r)):=by rw [Bu,Cs,Nj,Nj,Ac,AQ,Ai]
 by_cases hz:z=r
 ·subst hz;rw [Maps.has_put_same hD (show WideAt.IsKeyLit (.int .i64 z) from trivial),e];simp
 ·rw [Maps.has_put_other (by intro hh;injection hh with _ hh;exact hz hh),h z,e];simp [hz]
structure UE(b4 b5 bm:Nat)(k:Nat)(s:List Int×Int)(W:World):Prop where
 c4:W.heap[b4]?=some (.cells #[.map (some bm)] 113 (0,0))
 c5:W.heap[b5]?=some (.cells #[.int .i64 s.2] 3 (0,0))
 m:∃D:DataW Unit,W.ownsMap prog 3 unitElem bm s.1.length D/\SE D s.1
 len:s.1.length+50 * k<=1000000
 n45:b4≠b5
 n4m:b4≠bm
 n5m:b5≠bm
def SD(b5 bm:Nat)(b:Nat):Prop:=b=b5\/b=bm
theorem OU:Maps.Keyed prog 3:=Maps.int_keyed underlying3
theorem UE.lt(h:UE b4 b5 bm k s W):b4<W.heap.size/\b5<W.heap.size/\bm<W.heap.size:=by obtain⟨D,⟨es,clock,hb,_⟩,_⟩:=h.m;exact⟨(AO.1 h.c4).1,(AO.1 h.c5).1,(AO.1 hb).1⟩
theorem UE.below(h:UE b4 b5 bm k s W)(hb:Below W.heap.size W W'):UE b4 b5 bm k s W':=by obtain⟨l4,l5,lm⟩:=h.lt;obtain⟨D,⟨es,clock,hm,r⟩,hs⟩:=h.m;exact⟨(hb.block _ l4).trans h.c4,(hb.block _ l5).trans h.c5,⟨D,⟨es,clock,(hb.block _ lm).trans hm,r⟩,hs⟩,h.len,h.n45,h.n4m,h.n5m⟩
theorem UE.less(h:UE b4 b5 bm (k+1) s W):UE b4 b5 bm k s W:=⟨h.c4,h.c5,h.m,by have:=h.len;omega,h.n45,h.n4m,h.n5m⟩
theorem WE{a:AH}{n:Nat}(h:a.rhos.length<=n)(hn:1<=n):(FP a.plain).length<=n:=by
 unfold FP;split
 ·simpa using hn
 ·split
  ·exact h
  ·simp
theorem YE(h:AH.Own w a):∀z∈FP a.plain,RX z:=fun z hz=>by
 unfold FP at hz;split at hz
 ·rw [AQ] at hz;subst hz;exact h.rho
 ·split at hz
  ·exact h.rok z hz
  ·cases hz
theorem ZB3(h:RX r):keyOf prog 3 (.int .i64 r)=some (.int .i64 r):=by
 have hw:(Lit.int .i64 r).wf=true:=by
  have h1:=h.1;have h2:=h.2;have e1:IntKind.min .i64=-9223372036854775808:=by decide
  have e2:IntKind.max .i64=9223372036854775807:=by decide
  simp only [Lit.wf,e1,e2,AK,Ai];exact⟨h1,h2⟩
 simp [keyOf,mapKey,underlying3,hw]
structure ApJ(b4 b5 bm g:Nat)(a:AH)(p:Option Addr)(n c:Nat)(l met:List Int)(z:Int)(W:World)(j:Nat)(wr:World):Prop where
 i:UE b4 b5 bm 0 (met++l.take j,z) wr
 box:JB wr g a
 row:Ax DE 1 wr p n c l
 far:l≠[]->∀ad,p=some ad->¬SD b5 bm ad.block
 grown:E5 W wr (SD b5 bm)
 clash:FW met (l.take j)=false
theorem XF(h:Ax enc k w p n c l)(hg:E5 w w' R)(hr:l≠[]->∀ad,p=some ad->¬R ad.block):Ax enc k w' p n c l:=by
 refine⟨h.len,h.max,h.le,h.nil,?_⟩;rcases h.row with h0|⟨b,o,hp,aG,hc⟩
 ·exact .inl h0
 ·by_cases hl:l=[]
  ·exact .inl hl
  ·exact .inr ⟨b,o,hp,Ak aG hg.size,fun j x hx i u hu=>hg.cell (hc j x hx i u hu) (show ¬R b from hr hl ⟨b,o,none⟩ hp)⟩
theorem ApJ.add(h:ApJ b4 b5 bm g a p n c l met z W j wr)(hr:l[j]?=some r)(hi:Kp (met++l.take j) r=false)(eT:met.length+l.length<=1000000)(hm:w5.ownsMap prog 3 unitElem bm ((met++l.take j).length+1) (D.put (.int .i64 r) (.agg [])))(hs:SE D (met++l.take j))(hD:Maps.IsMap D)(hg:(wr.alloc o).grownBy w5 (some bm))(eC:g≠bm)(bN:g<wr.heap.size):ApJ b4 b5 bm g a p n c l met z W (j+1) w5:=by
 obtain⟨l4,l5,lm⟩:=h.i.lt;have gC:wr.grownBy w5 (some bm):=J8 hg;have ix:met++l.take (j+1)=(met++l.take j)++[r]:=by rw [BG hr,Cf]
 have aG:=DI hr;have ag:E5 wr w5 (SD b5 bm):=.of_grown gC (fun b e=>by cases e;exact .inr rfl);refine⟨⟨(gC.block _ l4 (fun e=>h.i.n4m (by injection e))).trans h.i.c4,(gC.block _ l5 (fun e=>h.i.n5m (by injection e))).trans h.i.c5,⟨D.put (.int .i64 r) (.agg []),?_,?_⟩,?_,h.i.n45,h.i.n4m,h.i.n5m⟩,⟨(gC.block g bN (fun e=>eC (by injection e))).trans h.box.blk⟩,XF h.row ag h.far,h.far,h.grown.trans ag,Z5 h.clash hr hi⟩
 ·show w5.ownsMap _ _ _ bm (met++l.take (j+1)).length _;rw [ix,As];exact hm
 ·show SE _ (met++l.take (j+1));rw [ix];exact ZE hs hD r
 ·show (met++l.take (j+1)).length+50 * 0<=1000000;rw [As,EU];omega
theorem UE.hit(h:UE b4 b5 bm 0 (met,z) wr)(o:Obj)(v:Int)(k:Nat)(hl:met.length+50 * k<=1000000):UE b4 b5 bm k (met,v) ((wr.alloc o).setCell ⟨b5,0,none⟩ (.int .i64 v)):=by have h1:=h.below ((AA wr.heap.size wr).alloc (AB _) o);have hg:=Ar (wr.alloc o) b5 0 (.int .i64 v);obtain⟨D,hm,hs⟩:=h1.m;exact⟨(hg.block _ h1.lt.1 (fun e=>h1.n45 (by injection e))).trans h1.c4,Aw _ h1.c5,⟨D,hm.setCell (fun e=>h1.n5m e.symm) _,hs⟩,hl,h1.n45,h1.n4m,h1.n5m⟩
theorem WC(ho:AH.Own w0 a)(hs:GP a)(hW:Below w0.heap.size w0 W)(h5:w0.heap.size<=b5)(hm:w0.heap.size<=bm)(h:UE b4 b5 bm (k+1) s W):Calls prog 61 #[DP a,.pointer (some ⟨b4,0,none⟩),.pointer (some ⟨b5,0,none⟩)] W fun e w'=>e=.returned (.bool (Ec a s).1)/\UE b4 b5 bm k (Ec a s).2 w'/\E5 W w' (SD b5 bm):=by
 obtain⟨met,z⟩:=s;have HO:=AF ho;have HH:=AF h;have HW:=AF hW;obtain⟨l4,l5,lm⟩:=h.lt;have aK:=AF (C8 W a);have ap:Below W.heap.size W (W.alloc (Bt a)):=bA;have aH:=AF ap;have oK:=AF ((ho.rhos.below hW).below ap);obtain⟨l,hl⟩:∃l,FP a.plain=l:=⟨_,rfl⟩;have yB:l.length<=50:=by rw [<-hl];exact WE (by have h1:=ho.rhos.len;have h2:=hs.rhos;omega) (by decide)
 have aW:∀z∈l,RX z:=by rw [<-hl];exact YE ho
 have uv:met.length+50 * (k+1)<=1000000:=h.len;have HL:=AF hl;have bP:=AF aW;have cx:Hd (Ec a (met,z)=(!FW met l,(PU met l,if FW met l then a.at_ else z))):=by show _=_;unfold Ec;rw [hl]
 obtain⟨u,⟨mt,zt⟩,dN⟩:∃u m,Ec a (met,z)=(u,m):=⟨_,_,rfl⟩;rw [dN];have HU:Hd (u=!FW met l/\mt=PU met l/\zt=if FW met l then a.at_ else z):=by have e:=cx.o;rw [dN] at e;injection e with e1 e2;injection e2 with e2 e3;exact⟨e1,e2,e3⟩
 clear ho hs hW h ap hl aW cx dN;go_enter func61,ntmps61;go_upto_region 1 with fail
 go_wp2_with (first
  |(refine lw aK.o.blk underlying31 ?_)
  |(go_at_call 62;refine(PH a oK.o).mono ?_;rintro e w2 ⟨p,n,c,rfl,aC,cB,hb⟩;rw [HL.o] at aC;have j6:=aC.len;have aF:=bt aH hb;have nq:=AF (aK.o.below hb);have a6:=AF aC;have nw:=AF cB;clear aC cB hb))
 have tO:Hd (ApJ b4 b5 bm W.heap.size a p n c l met z W 0 w2):=by
  refine⟨?_,nq.o,a6.o,fun aM ad hp hr=>?_,E5.of_below aF.o _,rfl⟩
  ·have h1:=HH.o.below aF.o;exact⟨h1.c4,h1.c5,by simpa using h1.m,by have:=h1.len;simp at this ⊢;omega,h1.n45,h1.n4m,h1.n5m⟩
  ·rcases nw.o with⟨e1,e2⟩|e1
   ·have aG:=FM HO.o.rhos.row (by rw [<-e2,HL.o];exact aM) (e1▸hp);rcases hr with hr|hr<;>omega
   ·have h1:=e1 ad hp;simp only [AN] at h1;rcases hr with hr|hr<;>omega
 have eC:W.heap.size≠bm:=by omega
 have cO:W.heap.size≠b5:=by omega
 clear aK aH oK aF nq a6 nw;go_loopw [6,7,8,12] (fun _ _ _ i wr=>∃j:Nat,j<=n/\i=.int .i64 j/\ApJ b4 b5 bm W.heap.size a p n c l met z W j wr) (fun _ _ _ i _=>n-(intOf i).toNat)
 case atStart=>exact⟨0,BM _,rfl,tO.o⟩
 case round=>
  obtain⟨j,hj,rfl,ui⟩:=hrel;have HJ:=AF ui;clear ui tO;by_cases aG:j<n
  ·obtain⟨r,hr⟩:∃r,l[j]?=some r:=Bh (by rw [j6];exact aG);obtain⟨b,o,bV,bB,am⟩:=HJ.o.row.row.elem hr;have eB:=HJ.o.far (by intro e;rw [e] at hr;simp at hr) _ bV;subst bV;have hc:wr.cell? ⟨b,o+j,none⟩=some (.int .i64 r):=by have:=am 0 _ rfl;simpa using this
   have HR:=AF hr;obtain⟨D,aD,jh⟩:=HJ.o.i.m;have aZ:=AF aD;have eu:=AF jh;have lz:=AF (ZB3 (bP.o r (AE hr)));have c4:wr.cell? ⟨b4,0,none⟩=some (.map (some bm)):=by rw [AD HJ.o.i.c4];rfl
   have cb4:=HJ.o.i.c4;have c5:wr.cell? ⟨b5,0,none⟩=some (.int .i64 z):=by rw [AD HJ.o.i.c5];rfl
   have f5:wr.frozen? ⟨b5,0,none⟩=false:=by simp only [World.frozen?,HJ.o.i.c5];rfl
   have c2:=HJ.o.box.c 2 _ rfl;have bN:=HJ.o.box.lt;have qp:Hd (∀o,(wr.alloc o).cell? ⟨b4,0,none⟩=some (.map (some bm))):=fun o=>by rw [World.cell?_alloc_past _ _ _ (World.block_lt_of_cell? _ _ c4)];exact c4
   have dF:Below wr.heap.size wr (wr.alloc (.cells #[] 114)):=bA;have d4:(wr.alloc (.cells #[] 114)).cell? ⟨b4,0,none⟩=some (.map (some bm)):=qp.o _;have e5:(wr.alloc (.cells #[] 114)).heap[b5]?=some (.cells #[.int .i64 z] 3 (0,0)):=(dF.block _ HJ.o.i.lt.2.1).trans HJ.o.i.c5;have d5:(wr.alloc (.cells #[] 114)).cell? ⟨b5,0,none⟩=some (.int .i64 z):=by rw [AD e5];rfl
   have g5:(wr.alloc (.cells #[] 114)).frozen? ⟨b5,0,none⟩=false:=by simp only [World.frozen?,e5];rfl
   have d2:(wr.alloc (.cells #[] 114)).cell? ⟨W.heap.size,2,none⟩=some (.int .i64 a.at_):=(HJ.o.box.below dF).c 2 _ rfl;clear am hr aD jh cb4 dF e5;cases hi:Kp (met++l.take j) r with
   |true=>
    have ls:Hd (Maps.has D (.int .i64 r)=true):=(eu.o r).trans hi;obtain⟨dw,pS⟩:=YN HJ.o.clash HR.o hi;have ns:=AF dw;have vy:=AF pS;clear hi dw pS
    go_wp2_with (first
     |(at_lookup;refine wpList_lookup_own_unit _ rfl _ _ 113 rfl 3 114 OU underlying113 (zeroValue114 _) bm _ D rfl aZ.o _ _ rfl lz.o ?_;rw [ls.o]))
    go_ret;obtain⟨hu,pU,nl⟩:=HU.o;rw [ns.o] at hu nl;rw [vy.o] at pU;simp only [if_true] at nl;have sm:u=false:=hu;subst sm pU nl;clear hu;exact⟨rfl,HJ.o.i.hit _ _ k (by have h1:=HJ.o.i.len;rw [As,EU] at *;omega),(HJ.o.grown.trans (E5.alloc _ _ _)).trans (.of_grown (Ar _ _ _ _) (fun b e=>by cases e;exact .inl rfl))⟩
   |false=>
    have ls:Hd (Maps.has D (.int .i64 r)=false):=(eu.o r).trans hi;have HI:=AF hi;clear hi
    go_wp2_with (first
     |(at_lookup;refine wpList_lookup_own_unit _ rfl _ _ 113 rfl 3 114 OU underlying113 (zeroValue114 _) bm _ D rfl aZ.o _ _ rfl lz.o ?_;rw [ls.o])
     |(at_mapUpdate;refine wpList_mapUpdate_own _ rfl _ _ _ 113 rfl 3 114 OU underlying113 unitElem bm _ D rfl (aZ.o.alloc _) (by unfold maxLen;have:=HJ.o.i.len;omega) _ _ _ rfl rfl lz.o _ [] unitElem_mk ?_;intro w5 aE pD;have oH:=AF aE;have gR:=AF pD;clear aE pD))
    go_roundw
    case rel=>exact⟨j+1,by omega,by go_num,HJ.o.add HR.o HI.o (by omega) oH.o eu.o aZ.o.isMap gR.o eC bN⟩
    case measure=>simp [intOf];omega
  ·have qW:j=l.length:=by omega
   subst qW;go_wp2_with fail;go_ret;have dw:=HJ.o.clash;rw [FL] at dw;obtain⟨hu,pU,nl⟩:=HU.o;rw [dw] at hu nl;rw [Se _ _ dw] at pU;have hi:=HJ.o.i;rw [FL] at hi;have sm:u=true:=hu;have xZ:zt=z:=nl;subst sm pU xZ;exact⟨rfl,⟨hi.c4,hi.c5,hi.m,by show (met++l).length+50 * k<=1000000;rw [As];omega,hi.n45,hi.n4m,hi.n5m⟩,HJ.o.grown⟩
theorem Yd(h5:w0.heap.size<=b5)(hm:w0.heap.size<=bm):FvS w0 (SD b5 bm) 61 #[.pointer (some ⟨b4,0,none⟩),.pointer (some ⟨b5,0,none⟩)] (UE b4 b5 bm) (fun a=>AH.Own w0 a/\GP a) Ec:=⟨fun args w=>call61 args w,fun b h=>by rcases h with rfl|rfl<;>assumption,fun b h k s W hi=>by rcases h with rfl|rfl;exact hi.lt.2.1;exact hi.lt.2.2,fun k s W W' hi hb=>hi.below hb,fun k s W hi=>hi.less,fun k a s W ho hW hi=>WC ho.1 ho.2 hW h5 hm hi⟩
def Pu(r:Option Int)(e:Ending):Prop:=
 match r with
 |none=>e=.returned (.tuple #[.int .i64 0,.bool true])
 |some z=>e=.returned (.tuple #[.int .i64 z,.bool false])
theorem UV(W:World)(k:Nat)(hk:50 * k<=1000000):UE (W.heap.size+1) (W.heap.size+2) W.heap.size k ([],0) (((W.alloc (.map #[] 0)).alloc (.cells #[.map (some W.heap.size)] 113)).alloc (.cells #[.int .i64 0] 3)):=by have e0:=World.ownsMap_made (H:=Unit) W prog 3 unitElem;have e1:=AG (W.alloc (.map #[] 0)) (.cells #[.map (some W.heap.size)] 113);have e2:=AG ((W.alloc (.map #[] 0)).alloc (.cells #[.map (some W.heap.size)] 113)) (.cells #[.int .i64 0] 3);simp only [AN] at e1 e2;refine⟨?_,e2,⟨.map [],(e0.alloc _).alloc _,ZD⟩,by simpa using hk,by omega,by omega,by omega⟩;rw [AP _ _ _ (by simp)];exact e1
theorem Ww(t:PA):Ad.nodes (PA.er t)=(Ad.nodes t).map AH.plain:=by refine Ad.ind (P:=fun(t:PA)=>Ad.nodes (PA.er t)=(Ad.nodes t).map AH.plain) (fun a l ih=>?_) t;rw [PA.er_node,Ad.nodes_node,Ad.nodes_node,AV,List.map_flatten,CS,CS];congr 2;exact Bf (fun t ht=>ih t ht)
theorem Wx(h:LA.lies w t):∀x∈Ad.nodes t,AH.Own w x:=by
 revert h;refine Ad.ind (P:=fun(t:PA)=>LA.lies w t->∀x∈Ad.nodes t,AH.Own w x) (fun a l ih h x hx=>?_) t;have hn:=Gh h;rw [Ad.nodes_node,AS,BS] at hx;rcases hx with rfl|⟨m,hm,hx⟩
 ·exact hn.own
 ·obtain⟨u,hu,rfl⟩:=BI.1 hm;exact ih u hu (hn.each u hu) x hx
theorem JD(hl:LA.lies w t)(hs:Ef t)(aI:t.size<=1000):Calls prog 36 #[DP t.head] w fun e w'=>Pu (Jb (PA.er t)) e/\Below w.heap.size w w':=by
 obtain⟨a,l,rfl⟩:∃a l,t=Ad.node a l:=⟨t.head,t.kids,Ad.eta t⟩;have HL:=AF hl;have HS:=AF hs;have mw:=@run_makeMap prog;have aK:=AF (C8 w a);obtain⟨u,⟨mt,zt⟩,dN⟩:∃u m,BR Ec (B8 [Ad.node a l]) ([],0)=(u,m):=⟨_,_,rfl⟩;have cx:=AF dN;have hN:B8 [Ad.node a l]=Ad.nodes (Ad.node a l):=by simp [B8]
 have lf:Hd (Pu (Jb (PA.er (Ad.node a l))) (.returned (.tuple #[.int .i64 zt,.bool u]))):=by
  have h1:=O8 (B8 [Ad.node a l]) [] 0;rw [dN] at h1;have h2:Jb (PA.er (Ad.node a l))=P4 ((B8 [Ad.node a l]).map AH.plain) []:=by unfold Jb;rw [hN];congr 1;exact Ww _
  show Pu _ _;rw [h2,h1.1];cases u with
  |true=>have h3:=h1.2 rfl;have h4:zt=0:=h3;subst h4;rfl
  |false=>rfl
 have j6:(B8 [Ad.node a l]).length<=1000:=by rw [hN,IS];exact aI
 have qj:=AF (UV (w.alloc (Bt a)) (0+(B8 [Ad.node a l]).length) (by omega));clear hl hs dN hN;have qj:Hd (UE (w.heap.size+1+1) (w.heap.size+1+1+1) (w.heap.size+1) (0+(B8 [Ad.node a l]).length) ([],0) ((((w.alloc (Bt a)).alloc (.map #[] 0)).alloc (.cells #[.map (some (w.heap.size+1))] 113)).alloc (.cells #[.int .i64 0] 3))):=by have h:=qj.o;simp only [AN] at h;exact h
 have pa:∀x∈B8 [Ad.node a l],AH.Own w x/\GP x:=fun x hx=>by
  have fY:x∈Ad.nodes (Ad.node a l):=by simpa [B8] using hx
  exact⟨Wx HL.o x fY,HS.o x fY⟩
 have wE:=AF pa;clear pa;show Calls prog 36 #[DP a] w _;go_enter func36,ntmps36;go_upto_region 3 with fail;have aL:Hd (Below w.heap.size w ((((w.alloc (Bt a)).alloc (.map #[] 0)).alloc (.cells #[.map (some (w.heap.size+1))] 113)).alloc (.cells #[.int .i64 0] 3))):=(((((AA w.heap.size w).alloc (AB _) _).alloc (by simp only [AN];omega) _).alloc (by simp only [AN];omega) _).alloc (by simp only [AN];omega) _);have qn:Hd (JB ((((w.alloc (Bt a)).alloc (.map #[] 0)).alloc (.cells #[.map (some (w.heap.size+1))] 113)).alloc (.cells #[.int .i64 0] 3)) w.heap.size a):=aK.o.below ((bA.alloc (by simp only [AN];omega) _).alloc (by simp only [AN];omega) _);have j7:((((w.alloc (Bt a)).alloc (.map #[] 0)).alloc (.cells #[.map (some (w.heap.size+1))] 113)).alloc (.cells #[.int .i64 0] 3)).heap.size=w.heap.size+4:=by simp
 generalize ((((w.alloc (Bt a)).alloc (.map #[] 0)).alloc (.cells #[.map (some (w.heap.size+1))] 113)).alloc (.cells #[.int .i64 0] 3))=W3 at *
 have t6:ZC0 w (W3.alloc (Bt a)) (SD (w.heap.size+1+1+1) (w.heap.size+1)) (some ⟨W3.heap.size,0,none⟩) 1 1 [Ad.node a l]:=⟨Bo XX (by omega) W3 31 [Ad.node a l] 1 _ rfl rfl (by decide),fun _ ad hp hr=>by cases hp;rcases hr with hr|hr<;>(dsimp only at hr;omega),fun t ht=>by rw [AQ] at ht;subst ht;exact HL.o⟩;have jK:=AF t6;clear t6 aK j7
 go_wp2_with (first
  |(refine lw qn.o.blk underlying31 ?_))
 go_at_call 59;refine(PI (Yd (b4:=w.heap.size+1+1) (by omega) (by omega)) [Ad.node a l] 0 _ 1 1 _ jK.o wE.o ([],0) (aL.o.alloc aL.o.size _) (qj.o.below bA)).mono ?_;rw [cx.o];rintro e w5 ⟨rfl,ue,cO⟩;have c5:w5.cell? ⟨w.heap.size+1+1+1,0,none⟩=some (.int .i64 zt):=by rw [AD ue.c5];rfl
 have aw:=AF (Kr (aL.o.alloc aL.o.size (Bt a)) cO (aL.o.alloc aL.o.size _).size (fun k h=>by rcases h with rfl|rfl<;>omega));clear ue cO;go_wp2_with fail;go_ret2;exact⟨lf.o,aw.o⟩
theorem Zr(h:By)(n:Nat)(hb:GD h n=true):0<=h.at_:=by
 unfold GD at hb;split at hb
 ·simp only [AK,Ai] at hb;exact hb.1.2
 ·split at hb
  ·simp only [AK,Ai] at hb;exact hb.1.2
  ·unfold DN at hb;simp only [AK,BO,A5,BE] at hb;have:=hb.1.1.1.2;omega
theorem Yy(h:IR a=true):0<=a.at_:=by unfold IR at h;simp only [AK,BO,A5,Bool.not_eq_false'] at h;exact Zr a.hd a.kn h.1.1.1.1.1.1.1.1
theorem Lq(t:PA):LA.lies w t->Ef t->Kz t=true->J3 (PA.er t):=by
 refine Ad.ind (P:=fun(t:PA)=>LA.lies w t->Ef t->Kz t=true->J3 (PA.er t)) (fun a l ih hl hs hm=>?_) t;have hn:=Gh hl;unfold Kz at hm;rw [Aj] at hm
 have dG:∀x∈Ad.nodes (Ad.node a l),x=a\/∃t∈l,x∈Ad.nodes t:=fun x hx=>by
  rw [Ad.nodes_node,AS,BS] at hx;rcases hx with h|⟨m,hm,hx⟩
  ·exact .inl h
  ·obtain⟨u,hu,rfl⟩:=BI.1 hm;exact .inr ⟨u,hu,hx⟩
 have qZ:∀t∈l,∀x∈Ad.nodes t,x∈Ad.nodes (Ad.node a l):=fun t ht x hx=>by rw [Ad.nodes_node,AS,BS];exact .inr ⟨_,Au ht,hx⟩
 have ha:a∈Ad.nodes (Ad.node a l):=by rw [Ad.nodes_node];exact BL
 have h0:=hm a ha;have hk:=ZCF h0 hn.own.rhos.len;have qb:=hs a ha;rw [PA.er_node];refine .node _ _ ⟨hk.k1,hk.k18,?_,hk.rho,hk.rhos,hk.eff,qb.eff,hk.ty,hk.res,qb.ty,qb.res,qb.exn,Yy h0⟩ (fun t ht=>?_)
 ·rw [Ba,hn.kids.len];exact hk.kids
 ·obtain⟨u,hu,rfl⟩:=BI.1 ht;exact ih u hu (hn.each u hu) (fun x hx=>hs x (qZ u hu x hx)) (by unfold Kz;rw [Aj];exact fun x hx=>hm x (qZ u hu x hx))
structure Vy(w:World)(a:AH)(W:World):Prop where
 box:JB W w.heap.size a
 o:∃cs:Array Value,cs.size=4/\W.heap[w.heap.size+1]?=some (.cells cs 28 (0,0))
 m:∃v,W.heap[w.heap.size+1+1]?=some (.cells #[v] 25 (0,0))
 at_:∃v,W.heap[w.heap.size+1+1+1]?=some (.cells #[v] 3 (0,0))
 e:∃v,W.heap[w.heap.size+1+1+1+1]?=some (.cells #[v] 34 (0,0))
 below:Below w.heap.size w W
 size:w.heap.size+5<=W.heap.size
theorem Vy.step(h:Vy w a W)(hb:Below W.heap.size W W'):Vy w a W':=by obtain⟨cs,h1,h2⟩:=h.o;obtain⟨v2,h3⟩:=h.m;obtain⟨v3,h4⟩:=h.at_;obtain⟨v4,h5⟩:=h.e;exact⟨h.box.below hb,⟨cs,h1,(hb.block _ (Ab h2)).trans h2⟩,⟨v2,(hb.block _ (Ab h3)).trans h3⟩,⟨v3,(hb.block _ (Ab h4)).trans h4⟩,⟨v4,(hb.block _ (Ab h5)).trans h5⟩,h.below.trans (hb.mono h.below.size),AM h.size hb.size⟩
structure ChR(w:World)(a:AH)(cs:Array Value)(v2 v3 v4:Value)(W:World):Prop where
 o:W.heap[w.heap.size+1]?=some (.cells cs 28 (0,0))
 m:W.heap[w.heap.size+1+1]?=some (.cells #[v2] 25 (0,0))
 at_:W.heap[w.heap.size+1+1+1]?=some (.cells #[v3] 3 (0,0))
 e:W.heap[w.heap.size+1+1+1+1]?=some (.cells #[v4] 34 (0,0))
 below:Below w.heap.size w W
theorem Vy.w1(h:Vy w a W)(hc:cs.size=4):Vy w a (W.setRow (w.heap.size+1) cs):=by obtain⟨cs',h1,h2⟩:=h.o;obtain⟨v2,h3⟩:=h.m;obtain⟨v3,h4⟩:=h.at_;obtain⟨v4,h5⟩:=h.e;exact⟨⟨(AR _ _ _ _ (by omega)).trans h.box.blk⟩,⟨cs,hc,AL _ _ _ _ _ _ h2⟩,⟨v2,(AR _ _ _ _ (by omega)).trans h3⟩,⟨v3,(AR _ _ _ _ (by omega)).trans h4⟩,⟨v4,(AR _ _ _ _ (by omega)).trans h5⟩,h.below.grown FC h.below.size (fun k e=>by cases e;omega),by have:=h.size;simpa using this⟩
theorem Vy.wset(h:Vy w a W)(hb:b=w.heap.size+1+1\/b=w.heap.size+1+1+1\/b=w.heap.size+1+1+1+1)(v:Value):Vy w a (W.setCell ⟨b,0,none⟩ v):=by
 obtain⟨cs,h1,h2⟩:=h.o;obtain⟨v2,h3⟩:=h.m;obtain⟨v3,h4⟩:=h.at_;obtain⟨v4,h5⟩:=h.e;have hg:=Ar W b 0 v;have aI:=h.size;have ot:∀{k:Nat} {o:Obj},W.heap[k]?=some o->k≠b->(W.setCell ⟨b,0,none⟩ v).heap[k]?=some o:=fun {k o} hk aM=>(hg.block k (Ab hk) (fun e=>aM (by injection e))).trans hk;refine⟨⟨ot h.box.blk (by omega)⟩,⟨cs,h1,ot h2 (by omega)⟩,?_,?_,?_,h.below.grown hg h.below.size (fun k e=>by cases e;omega),AM h.size hg.size⟩
 ·by_cases e:b=w.heap.size+1+1
  ·subst e;exact⟨v,Aw v h3⟩
  ·exact⟨v2,ot h3 (fun h=>e h.symm)⟩
 ·by_cases e:b=w.heap.size+1+1+1
  ·subst e;exact⟨v,Aw v h4⟩
  ·exact⟨v3,ot h4 (fun h=>e h.symm)⟩
 ·by_cases e:b=w.heap.size+1+1+1+1
  ·subst e;exact⟨v,Aw v h5⟩
  ·exact⟨v4,ot h5 (fun h=>e h.symm)⟩
theorem Vy.fill(h:Vy w a W)(hc:cs.size=4)(v2 v3 v4:Value):ChR w a cs v2 v3 v4 ((((W.setRow (w.heap.size+1) cs).setCell ⟨w.heap.size+1+1,0,none⟩ v2).setCell ⟨w.heap.size+1+1+1,0,none⟩ v3).setCell ⟨w.heap.size+1+1+1+1,0,none⟩ v4):=by have sz:=h.w1 hc;obtain⟨cs',h1,h2⟩:=h.o;have e1:(W.setRow (w.heap.size+1) cs).heap[w.heap.size+1]?=some (.cells cs 28 (0,0)):=AL _ _ _ _ _ _ h2;have ot:∀{W:World} {b k:Nat} {v:Value} {o:Obj},W.heap[k]?=some o->k≠b->(W.setCell ⟨b,0,none⟩ v).heap[k]?=some o:=fun {W b k v o} hk aM=>((Ar W b 0 v).block k (Ab hk) (fun e=>aM (by injection e))).trans hk;obtain⟨u2,f2⟩:=sz.m;have vQ:=sz.wset (b:=w.heap.size+1+1) (.inl rfl) v2;have e2:=Aw (o:=0) v2 f2;obtain⟨u3,f3⟩:=vQ.at_;have vR:=vQ.wset (b:=w.heap.size+1+1+1) (.inr (.inl rfl)) v3;have e3:=Aw (o:=0) v3 f3;obtain⟨u4,f4⟩:=vR.e;have xV:=vR.wset (b:=w.heap.size+1+1+1+1) (.inr (.inr rfl)) v4;have e4:=Aw (o:=0) v4 f4;exact⟨ot (ot (ot e1 (by omega)) (by omega)) (by omega),ot (ot e2 (by omega)) (by omega),ot e3 (by omega),e4,xV.below⟩
theorem N4(bM:o.guard=none)(ty:TypeId)(x y:Operand)(ho:o.op=.store ty x y)(h:∃cs:Array Value,cs.size=4/\W.heap[g]?=some (.cells cs 28 (0,0)))(cells:Array Value)(hx:act.eval x=.pointer (some ⟨g,0,none⟩))(hy:act.eval y=.agg cells)(h4:cells.size=4)(h1:cells.all (·.oneCell')=true)(hi:(P.info? ty).map (·.size)=some 4)(hK:K (act.put o.dst undef) (W.setRow g cells)):if Region.wanted o (yielded ops act.tmps)=true then Oper.wp P o act W K Q else E:=by obtain⟨cs,e1,e2⟩:=h;rw [AJ (by simp [Region.wanted,bM])];exact DV ty x y ho g cells hx hy 28 cs e2 (by rw [hi,h4]) (by omega) h1 hK
theorem Jd{W:World}{g:Nat}{v:Value}{t:TypeId}(h:W.heap[g]?=some (.cells #[v] t (0,0))):W.cell? ⟨g,0,none⟩=some v/\W.frozen? ⟨g,0,none⟩=false:=⟨by rw [AD h];rfl,by simp only [World.frozen?,h];rfl⟩
structure ZW(w:World)(a:AH)(g:Nat)(z no:Int)(W:World):Prop where
 ch:Vy w a W
 t:W.heap[g]?=some (.cells #[.int .i64 z,.int .i64 no] 79 (0,0))
 g5:w.heap.size+5<=g
theorem ZW.drew(h:ZW w a g z no W):ZW w a g z no W.drew:=⟨h.ch.step (At W),h.t,h.g5⟩
theorem ZW.w1(h:ZW w a g z no W)(hc:cs.size=4):ZW w a g z no (W.setRow (w.heap.size+1) cs):=⟨h.ch.w1 hc,(AR _ _ _ _ (by have:=h.g5;omega)).trans h.t,h.g5⟩
theorem ZW.set(h:ZW w a g z no W)(hb:b=w.heap.size+1+1\/b=w.heap.size+1+1+1\/b=w.heap.size+1+1+1+1)(v:Value):ZW w a g z no (W.setCell ⟨b,0,none⟩ v):=⟨h.ch.wset hb v,((Ar W b 0 v).block _ (Ab h.t) (fun e=>by have:=h.g5;injection e with e;omega)).trans h.t,h.g5⟩
theorem TG(z no:Int)(W:World):Sem.run prog (Instr.typeAssert (NS z no) 20 79 true) W=.ok (.tuple #[.agg #[.int .i64 z,.int .i64 no],.bool true]) W:=by simp [Instr.typeAssert,run_underlying underlying79,typeInfo]
theorem TM(older:List PanicEntry)(h:Vy w a W) :
 CallsD prog 37 #[.pointer (some ⟨w.heap.size+1,0,none⟩),.pointer (some ⟨w.heap.size+1+1,0,none⟩),.pointer (some ⟨w.heap.size+1+1+1,0,none⟩),.pointer (some ⟨w.heap.size+1+1+1+1,0,none⟩)] (.panicking ({ v:=NS z no,recovered:=false }::older)) W fun e u' w'=>e=.returned (.tuple #[])/\u'=.panicking ({ v:=NS z no,recovered:=true }::older)/\ChR w a #[.int .u8 0,.int .i64 0,.slice none 0 0,.slice none 0 0] (.slice none 0 0) (.int .i64 z) (.int .i64 no) w':=by
 have yH:=TG z no
 have HH:=AF h
 have cw:=AF (AG W (.cells #[.int .i64 0,.int .i64 0] 79))
 have HT:Hd (ZW w a W.heap.size z no (W.alloc (.cells #[.int .i64 z,.int .i64 no] 79))):=⟨h.step bA,AG W _,h.size⟩
 clear h
 refine callsD_of_wpS func37 rfl fun c₀ cs hu=>?_
 apply wpS_seq
 apply wpS_region
 simp [wpOpsS,go_sem,recoverD,hu,ntmps37,Exit.thenS]
 refine wpS_of_wp ?_
 simp only [CL,Aq,Bc,Nat.reduceAdd,Nat.reduceSub,CG,CJ,Cg,CP,A6,BK,zA,zB,zC]
 go_upto_region 7 with fail
 obtain⟨g,hg⟩:∃g,W.heap.size=g:=⟨_,rfl⟩
 rw [hg] at HT ⊢
 generalize (W.alloc (.cells #[.int .i64 z,.int .i64 no] 79))=W2 at *
 clear hg cw HH
 refine rg (fun W'=>ZW w a g z no W') (HT.o.drew) fun aA=>?_
 refine tp 0 13 ?_
 refine tp 1 14 ?_
 refine tp 2 15 ?_ (hy:=fun w aB=>by(try dsimp only at aB);have q0:w.cell? ⟨g,0,none⟩=some (.int .i64 z):=(by rw [AD aB.t];rfl);go_simp;try with_reducible rfl)
 refine tp 3 16 ?_
 refine tp 4 17 ?_ (hy:=fun w aB=>by(try dsimp only at aB);have q1:w.cell? ⟨g,1,none⟩=some (.int .i64 no):=(by rw [AD aB.t];rfl);go_simp;try with_reducible rfl)
 refine Fo 5 fun K hK=>?_
 refine N4 (by rfl) _ _ _ (by rfl) aA.ch.o #[.int .u8 0,.int .i64 0,.slice none 0 0,.slice none 0 0] (by rfl) (by rfl) rfl (by simp [Value.oneCell']) (by kernel_rfl) ?_
 refine tn hK (aA.w1 rfl) ?_;clear aA hK K;intro aA
 refine Fo 6 fun K hK=>?_
 obtain⟨v2,fX⟩:=aA.ch.m
 obtain⟨q2,f2⟩:=Jd fX
 clear fX
 go_simp
 clear q2 f2
 refine tn hK (aA.set (.inl rfl) _) ?_;clear aA hK K;intro aA
 refine Fo 7 fun K hK=>?_
 obtain⟨v3,nj⟩:=aA.ch.at_
 obtain⟨q3,f3⟩:=Jd nj
 clear nj
 go_simp
 clear q3 f3
 refine tn hK (aA.set (.inr (.inl rfl)) _) ?_;clear aA hK K;intro aA
 refine Fo 8 fun K hK=>?_
 obtain⟨v4,nk⟩:=aA.ch.e
 obtain⟨q4,f4⟩:=Jd nk
 clear nk
 go_simp
 clear q4 f4
 refine tn hK (aA.set (.inr (.inr rfl)) _) ?_;clear aA hK K;intro aA
 refine dn ?_
 clear aA
 simp only [Exit.inBlock]
 refine(show bodyPostS prog f37 c₀ _ _ Exit.normal _ _ _ from ?_)
 cases c₀
 simp [bodyPostS,results,results37]
 exact HT.o.drew.ch.fill rfl _ _ _
theorem Ug(args:Array Value)(h4:∃a b c d,args=#[a,b,c,d])(W:World):CallsD prog 37 args .returning W fun e u' w'=>e=.returned (.tuple #[])/\u'=.returning/\w'=W:=by obtain⟨x1,x2,x3,x4,rfl⟩:=h4;refine callsD_of_wpS func37 rfl fun c₀ cs hu=>?_;apply wpS_seq;apply wpS_region;simp [wpOpsS,go_sem,recoverD,hu,ntmps37,Exit.thenS];refine wpS_of_wp ?_;simp only [CL,Aq,Bc,Nat.reduceAdd,Nat.reduceSub,CG,CJ,Cg,CP,A6,BK,zA,zB,zC];go_wp2_with fail;cases c₀;simp_all [bodyPostS,results,results37]
end Go.Proofs.YtkdjnegfnhldpaaGreatDoor
