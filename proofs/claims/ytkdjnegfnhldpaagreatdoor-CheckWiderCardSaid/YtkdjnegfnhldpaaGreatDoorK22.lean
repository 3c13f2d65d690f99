/- Part 22. -/
import Derived.Test.YtkdjnegfnhldpaaGreatDoorK21
set_option linter.unusedVariables false
set_option maxRecDepth 100000
set_option linter.unusedSimpArgs false
set_option maxHeartbeats 40000000
namespace Go.Proofs.YtkdjnegfnhldpaaGreatDoor
open Go.Proofs.Tryz Go.RowKit
theorem Hq{env:List BV}{x:ByteArray}{b:BV}(h:DZ env x=some b):b∈env:=by unfold DZ at h;have:=List.mem_of_find?_eq_some h;simpa using this
theorem Rp{W:World}{g:Nat}{cs:Array Value}{t:TypeId}(h:W.heap[g]?=some (.cells cs t (0,0)))(o:Nat)(l:List Value)(hl:∀(i:Nat) (v:Value),l[i]?=some v→cs[o+i]?=some v):W.rangeAt g o l:=fun j v hj=>by rw [Lib.cell_of_heap h];exact hl j v hj
structure PC(w:World)(a:AH)(x y:Value)(g:Nat)(a':AH)(W:World):Prop where
 nd:Il w a x y W
 kid:CW W g a'
theorem PC.step{w W W':World}{a a':AH}{x y:Value}{g:Nat}(h:PC w a x y g a' W)(hb:Below W.heap.size W W'):PC w a x y g a' W':=⟨h.nd.step hb,h.kid.below hb⟩
theorem PC.alloc{w W:World}{a a':AH}{x y:Value}{g:Nat}(h:PC w a x y g a' W)(o:Obj):PC w a x y g a' (W.alloc o):=h.step bA
theorem PC.drew{w W:World}{a a':AH}{x y:Value}{g:Nat}(h:PC w a x y g a' W):PC w a x y g a' W.drew:=h.step (AR W)
theorem PC.grown{w W W':World}{a a':AH}{x y:Value}{g:Nat}{r:Option Nat}(h:PC w a x y g a' W)(hg:W.grownBy W' r)(hr:∀b,r=some b→w.heap.size+3≤b∧b<g):PC w a x y g a' W':=⟨h.nd.grown hg (fun b e=>(hr b e).1),⟨(hg.block _ h.kid.lt (fun e=>by have:=(hr g e.symm).2;omega)).trans h.kid.blk⟩⟩
theorem VB:(prog.info? 81).map (fun i=>(i.zero,i.size,i.bytes))=some (some (.agg #[.int .u8 0,.int .i64 0,.slice none 0 0,.slice none 0 0,.slice none 0 0]),5,88):=by kernel_rfl
theorem Sq{w0 w:World}{S:Nat→Prop}{a:AH}{l:List PA}{p q:Option Addr}{n c m mc:Nat}{env:List BV}{rhos:List Int}(h:DV w0 w S (.node a l) p q n c m mc env rhos)(hu:Bh a.plain rhos=false):Calls prog 63 #[.agg #[.slice p n c,.slice q m mc],An a] w (Co w S (Bw (Ck env) rhos a.plain (l.map PA.er))):=by
 have HX:=AA (Ey w a (.slice p n c) (.slice q m mc));have HC:=AA h;have HN:=AA (Cb h.lies);have ct:CB a:=h.small a (by rw [AD.nodes_node];exact List.mem_cons_self);have dG:=AA ct;have ff:m≤900000:=by have:=h.hm;omega
 have gZ:n≤900000:=by have:=h.hn;omega
 have gN:=AA (LA.below (Cb h.lies).own (h.old.trans (HX.o.below.mono h.old.size)));clear ct;have HU:=AA hu;have HR:Hd (Bw (Ck env) rhos a.plain (l.map PA.er)=.error (a.at_,4)):=by show _=_;unfold Bw;rw [hu];rfl
 rw [HR.o];clear hu h HR;go_enter func63,ntmps63;go_upto_region 1 with fail;generalize (((w.alloc (.cells #[.slice p n c,.slice q m mc] 84)).alloc (AO a)).alloc (.cells #[.int .u8 0,.int .i64 0,.slice none 0 0,.slice none 0 0,.slice none 0 0] 81))=W1 at *
 go_wp2_with (first
  |(refine lw HX.o.b.b0 underlying84 ?_)
  |(refine lw HX.o.b.b1.blk underlying31 ?_))
 go_at_call 95;refine(B4 gN.o dG.o p n c (HC.o.rhosA.below HX.o.below) ff).mono ?_;rintro e w2 ⟨hr,hb⟩;rw [HU.o] at hr;obtain rfl:=hr.2 rfl;exact⟨rfl,rfl,(HX.o.step hb).below⟩
theorem PX{w0 w:World}{S:Nat→Prop}{a:AH}{l:List PA}{p q:Option Addr}{n c m mc:Nat}{env:List BV}{rhos:List Int}(h:DV w0 w S (.node a l) p q n c m mc env rhos)(hu:Bh a.plain rhos=true)(hk:a.kind=18)(HI:∀W,Below w.heap.size w W→w.heap.size+3≤W.heap.size→Calls prog 97 #[.agg #[.slice p n c,.slice q m mc],An a] W (Co W (Si w S) (C8 (Ck env) a.plain))):Calls prog 63 #[.agg #[.slice p n c,.slice q m mc],An a] w (Co w S (Bw (Ck env) rhos a.plain (l.map PA.er))):=by
 have HX:=AA (Ey w a (.slice p n c) (.slice q m mc));have HC:=AA h;have HN:=AA (Cb h.lies);have ct:CB a:=h.small a (by rw [AD.nodes_node];exact List.mem_cons_self);have dG:=AA ct;have ff:m≤900000:=by have:=h.hm;omega
 have gZ:n≤900000:=by have:=h.hn;omega
 have gN:=AA (LA.below (Cb h.lies).own (h.old.trans (HX.o.below.mono h.old.size)));clear ct;have HU:=AA hu;have gt:=AA HI;have HR:Hd (Bw (Ck env) rhos a.plain (l.map PA.er)=C8 (Ck env) a.plain):=by show _=_;unfold Bw;rw [hu];simp [show a.plain.kind=18 from hk,A6]
 rw [HR.o];have e2:(a.kind==2)=false:=by simp [hk]
 have e18:(a.kind==18)=true:=by simp [hk]
 clear hu h HR HI hk;revert gt;generalize C8 (Ck env) a.plain=R;intro gt;go_enter func63,ntmps63;go_upto_region 1 with fail;generalize (((w.alloc (.cells #[.slice p n c,.slice q m mc] 84)).alloc (AO a)).alloc (.cells #[.int .u8 0,.int .i64 0,.slice none 0 0,.slice none 0 0,.slice none 0 0] 81))=W1 at *
 go_upto_region 2 with(first
  |(refine lw HX.o.b.b0 underlying84 ?_)
  |(refine lw HX.o.b.b1.blk underlying31 ?_)
  |(go_at_call 95;refine(B4 gN.o dG.o p n c (HC.o.rhosA.below HX.o.below) ff).mono ?_;rintro e w2 ⟨hr,hb⟩;rw [HU.o] at hr;obtain rfl:=hr.1 rfl;have aV:=AA (HX.o.step hb);clear hr))
 have c0:=aV.o.b.b1.c 0 _ rfl;go_upto_region 9 with fail;clear c0;clear e2 e18;rcases R with⟨r1,r2⟩|r
 ·go_wp2_with (first
   |(refine lw aV.o.b.b0 underlying84 ?_)
   |(refine lw aV.o.b.b1.blk underlying31 ?_))
  go_at_call 97;refine(gt.o _ aV.o.below aV.o.size).mono ?_;rintro e W9 ⟨hr,hb⟩;subst hr;exact⟨rfl,rfl,(aV.o.step hb).below⟩
 ·go_wp2_with (first
   |(refine lw aV.o.b.b0 underlying84 ?_)
   |(refine lw aV.o.b.b1.blk underlying31 ?_)
   |(go_at_call 97;refine(gt.o _ aV.o.below aV.o.size).mono ?_;rintro e W9 ⟨hr,hb⟩;obtain⟨y,rfl,dr,hy⟩:=hr;have aW:=AA (aV.o.step hb);have HY:=AA hy;have fG:=AA dr;clear hy dr aV)
   |(refine DI rfl _ _ _ rfl aW.o (Bi y) (by rfl) (by rfl) (by kernel_rfl) rfl (by simp [Value.oneCell']) ?_))
  refine br (aW.o.heap _) underlying81 ?_;exact Kk aW.o HC.o.new HY.o fG.o
theorem RQ{w0 w:World}{S:Nat→Prop}{a:AH}{l:List PA}{p q:Option Addr}{n c m mc:Nat}{env:List BV}{rhos:List Int}(h:DV w0 w S (.node a l) p q n c m mc env rhos)(hu:Bh a.plain rhos=true)(hk:a.kind=2):Calls prog 63 #[.agg #[.slice p n c,.slice q m mc],An a] w (Co w S (Bw (Ck env) rhos a.plain (l.map PA.er))):=by
 have HX:=AA (Ey w a (.slice p n c) (.slice q m mc));have HC:=AA h;have HN:=AA (Cb h.lies);have ct:CB a:=h.small a (by rw [AD.nodes_node];exact List.mem_cons_self);have dG:=AA ct;have ff:m≤900000:=by have:=h.hm;omega
 have gZ:n≤900000:=by have:=h.hn;omega
 have gN:=AA (LA.below (Cb h.lies).own (h.old.trans (HX.o.below.mono h.old.size)));clear ct;have HU:=AA hu;have HR:Hd (Bw (Ck env) rhos a.plain (l.map PA.er)=Ii (Ck env) a.plain):=by show _=_;unfold Bw;rw [hu];simp [show a.plain.kind=2 from hk,A6]
 rw [HR.o];have e2:(a.kind==2)=true:=by simp [hk]
 clear hu h HR hk;cases cU:DZ env a.name with
 |none=>
  have HF:Hd (∀e,Ch env a.name e→e=.returned (.tuple #[NR,.bool false])):=fun e he=>by unfold Ch at he;rw [cU] at he;exact he
  have HR:Hd (Ii (Ck env) a.plain=.error (a.at_,4)):=by show _=_;unfold Ii;rw [show a.plain.name=a.name from rfl,FK,cU];rfl
  rw [HR.o];clear HR cU;go_enter func63,ntmps63;go_upto_region 1 with fail;generalize (((w.alloc (.cells #[.slice p n c,.slice q m mc] 84)).alloc (AO a)).alloc (.cells #[.int .u8 0,.int .i64 0,.slice none 0 0,.slice none 0 0,.slice none 0 0] 81))=W1 at *
  go_upto_region 2 with(first
   |(refine lw HX.o.b.b0 underlying84 ?_)
   |(refine lw HX.o.b.b1.blk underlying31 ?_)
   |(go_at_call 95;refine(B4 gN.o dG.o p n c (HC.o.rhosA.below HX.o.below) ff).mono ?_;rintro e w2 ⟨hr,hb⟩;rw [HU.o] at hr;obtain rfl:=hr.1 rfl;have aV:=AA (HX.o.step hb);clear hr))
  have c0:=aV.o.b.b1.c 0 _ rfl;go_upto_region 4 with fail;clear c0;clear e2;have c4:=aV.o.b.b1.c 4 _ rfl
  go_upto_region 5 with(first
   |(refine lw aV.o.b.b0 underlying84 ?_)
   |(go_at_call 96;refine(Cu (HC.o.envA.row.below aV.o.below) (by omega) (.slice q m mc) a.name).mono ?_;rintro e w3 ⟨hf,hb⟩;obtain rfl:=HF.o _ hf;have bH:=AA (aV.o.step hb);have bd:=AA (heap_alloc_new w3 (.cells #[.string ⟨#[]⟩,.int .u8 0,.int .i64 0,.slice none 0 0,.slice none 0 0,.pointer none] 145));clear hf hb)
   |(refine sw #[.string ⟨#[]⟩,.int .u8 0,.int .i64 0,.slice none 0 0,.slice none 0 0,.pointer none] bd.o ?_;rw [World.setRow_alloc_new]))
  clear c4;have b7:=AA (bH.o.alloc (.cells #[.string ⟨#[]⟩,.int .u8 0,.int .i64 0,.slice none 0 0,.slice none 0 0,.pointer none] 145));generalize (w3.alloc (.cells #[.string ⟨#[]⟩,.int .u8 0,.int .i64 0,.slice none 0 0,.slice none 0 0,.pointer none] 145))=W4 at *
  go_wp2_with (first
   |(refine lw b7.o.b.b1.blk underlying31 ?_))
  go_at_call 64;refine(BA a 4 _).mono ?_;rintro e w9 ⟨rfl,hb⟩;exact⟨rfl,rfl,(b7.o.step hb).below⟩
 |some b=>
  have HF:Hd (∀e,Ch env a.name e→e=.returned (.tuple #[JI b,.bool true])):=fun e he=>by unfold Ch at he;rw [cU] at he;exact he
  have cv:b∈env:=Hq cU;have eI:=AA (HC.o.envA.each b cv);obtain⟨u,hu⟩:∃u,(b.fn.map (fun x=>(⟨x.2,0,none⟩:Addr))).isNone=u:=⟨_,rfl⟩;have HR:Hd (Ii (Ck env) a.plain=A6 u a.plain 5 (.ok (b.ty.er,[]))):=by show _=_;unfold Ii;rw [show a.plain.name=a.name from rfl,FK,cU,←hu];show A6 (BV.er b).fn.isNone a.plain 5 _=_;unfold BV.er;cases b.fn<;>rfl
  rw [HR.o];clear HR cU;go_enter func63,ntmps63;go_upto_region 1 with fail;generalize (((w.alloc (.cells #[.slice p n c,.slice q m mc] 84)).alloc (AO a)).alloc (.cells #[.int .u8 0,.int .i64 0,.slice none 0 0,.slice none 0 0,.slice none 0 0] 81))=W1 at *
  go_upto_region 2 with(first
   |(refine lw HX.o.b.b0 underlying84 ?_)
   |(refine lw HX.o.b.b1.blk underlying31 ?_)
   |(go_at_call 95;refine(B4 gN.o dG.o p n c (HC.o.rhosA.below HX.o.below) ff).mono ?_;rintro e w2 ⟨hr,hb⟩;rw [HU.o] at hr;obtain rfl:=hr.1 rfl;have aV:=AA (HX.o.step hb);clear hr))
  have c0:=aV.o.b.b1.c 0 _ rfl;go_upto_region 4 with fail;clear c0;clear e2;have c4:=aV.o.b.b1.c 4 _ rfl
  go_upto_region 5 with(first
   |(refine lw aV.o.b.b0 underlying84 ?_)
   |(go_at_call 96;refine(Cu (HC.o.envA.row.below aV.o.below) (by omega) (.slice q m mc) a.name).mono ?_;rintro e w3 ⟨hf,hb⟩;obtain rfl:=HF.o _ hf;have bH:=AA (aV.o.step hb);have bd:=AA (heap_alloc_new w3 (.cells #[.string ⟨#[]⟩,.int .u8 0,.int .i64 0,.slice none 0 0,.slice none 0 0,.pointer none] 145));clear hf hb)
   |(refine sw #[.string b.name,.int .u8 b.ty.head.kind,.int .i64 b.ty.head.rho,.slice b.ty.head.ep b.ty.head.en b.ty.head.ec,.slice b.ty.head.kp b.ty.head.kn b.ty.head.kc,.pointer (b.fn.map (fun x=>⟨x.2,0,none⟩))] bd.o ?_;rw [World.setRow_alloc_new]))
  clear c4;have b7:=AA (bH.o.alloc (.cells #[.string b.name,.int .u8 b.ty.head.kind,.int .i64 b.ty.head.rho,.slice b.ty.head.ep b.ty.head.en b.ty.head.ec,.slice b.ty.head.kp b.ty.head.kn b.ty.head.kc,.pointer (b.fn.map (fun x=>⟨x.2,0,none⟩))] 145));have eS:=AA (heap_alloc_new w3 (.cells #[.string b.name,.int .u8 b.ty.head.kind,.int .i64 b.ty.head.rho,.slice b.ty.head.ep b.ty.head.en b.ty.head.ec,.slice b.ty.head.kp b.ty.head.kn b.ty.head.kc,.pointer (b.fn.map (fun x=>⟨x.2,0,none⟩))] 145));obtain⟨g,hg⟩:∃g,w3.heap.size=g:=⟨_,rfl⟩;rw [hg] at eS ⊢;generalize (w3.alloc (.cells #[.string b.name,.int .u8 b.ty.head.kind,.int .i64 b.ty.head.rho,.slice b.ty.head.ep b.ty.head.en b.ty.head.ec,.slice b.ty.head.kp b.ty.head.kn b.ty.head.kc,.pointer (b.fn.map (fun x=>⟨x.2,0,none⟩))] 145))=W4 at *
  clear hg
  go_upto_region 6 with(first
   |(refine lw b7.o.b.b1.blk underlying31 ?_)
   |(go_at_call 64;refine(A7 a 4 _).mono ?_;rintro e w5 ⟨rfl,hb⟩;have dH:=AA (b7.o.step hb);have fA:=AA ((hb.block _ (Array.getElem?_eq_some_iff.1 eS.o).1).trans eS.o);clear hb))
  have g5:w5.cell? ⟨g,5,none⟩=some (.pointer (b.fn.map (fun x=>⟨x.2,0,none⟩))):=by rw [Lib.cell_of_heap fA.o];rfl
  obtain⟨P,hP⟩:∃P,b.fn.map (fun x=>(⟨x.2,0,none⟩:Addr))=P:=⟨_,rfl⟩;rw [hP] at g5 hu;cases P with
  |some ad=>
   obtain rfl:u=false:=by rw [←hu];rfl
   go_wp2_with (first
    |(refine lw dH.o.b.b1.blk underlying31 ?_))
   go_at_call 64;refine(BA a 5 _).mono ?_;rintro e w9 ⟨rfl,hb⟩;exact⟨rfl,rfl,(dH.o.step hb).below⟩
  |none=>
   obtain rfl:u=true:=by rw [←hu];rfl
   go_upto_region 7 with(first
    |(refine lw dH.o.b.b1.blk underlying31 ?_)
    |(go_at_call 64;refine(A7 a 5 _).mono ?_;rintro e w6 ⟨rfl,hb⟩;have dx:=AA (dH.o.step hb);have oD:=AA ((hb.block _ (Array.getElem?_eq_some_iff.1 fA.o).1).trans fA.o);clear hb))
   clear g5 hu hP
   go_wp2_with (first
    |(refine l4 b.ty (Rp oD.o 1 _ (by intro i v hv;match i,hv with|0,hv=>exact hv|1,hv=>exact hv|2,hv=>exact hv|3,hv=>exact hv)) underlying28 ?_)
    |(refine DI rfl _ _ _ rfl dx.o (Bi ⟨b.ty,none,0,0,[]⟩) (by rfl) (by rfl) (by kernel_rfl) rfl (by simp [Value.oneCell']) ?_))
   refine br (dx.o.heap _) underlying81 ?_;exact Kk (y:=⟨b.ty,none,0,0,[]⟩) dx.o HC.o.new ⟨LR.lies_below dx.o.below _ eI.o.ty,fun x hx=>.inl ⟨Aa _ eI.o.ty x hx,eI.o.uses x hx⟩,AF.none _ _ _,fun x hx=>(nomatch hx),fun aR=>absurd rfl aR⟩ rfl
theorem Af{W W':World}{r:Nat}{cs:Array Value}(h:Below W.heap.size W W')(hr:W.heap.size≤r):Below W.heap.size W (W'.setRow r cs):=h.grown BP h.size (fun k e=>by cases e;exact hr)
abbrev Jf:Array Value:=#[.int .u8 0,.int .i64 0,.slice none 0 0,.slice none 0 0]
abbrev EF(y:PT):Array Value:=#[.int .u8 y.head.kind,.int .i64 y.head.rho,.slice y.head.ep y.head.en y.head.ec,.slice y.head.kp y.head.kn y.head.kc]
structure U3(N B:Nat)(W:World)(g8 g9:Option Nat)(f t:List Int)(x y:PT):Prop where
 lies:LR.lies W y
 span:∀b∈Ao y,b<N∨B≤b
 ne8:∀b∈Ao y,g8≠some b
 ne9:∀b∈Ao y,g9≠some b
 er:PT.er y=BQ f t (PT.er x)
theorem U3.below{N B:Nat}{W W':World}{g8 g9:Option Nat}{f t:List Int}{x y:PT}(h:U3 N B W g8 g9 f t x y)(hb:Below W.heap.size W W'):U3 N B W' g8 g9 f t x y:=⟨LR.lies_below hb _ h.lies,h.span,h.ne8,h.ne9,h.er⟩
structure LI(N B:Nat)(W:World)(g8 g9:Option Nat)(f t:List Int)(x1 x2:PT)(y1 y2:Option PT):Prop where
 size:B≤W.heap.size
 old:N≤B
 h8:∀g,g8=some g→B≤g∧W.heap[g]?=some (.cells Jf 28 (0,0))
 h9:∀g,g9=some g→B≤g∧W.heap[g]?=some (.cells Jf 28 (0,0))
 ne:∀g,g8=some g→g9≠some g
 t1:∀y,y1=some y→U3 N B W g8 g9 f t x1 y
 t2:∀y,y2=some y→U3 N B W g8 g9 f t x2 y
theorem R2{N B:Nat}{W:World}{f t:List Int}{x1 x2:PT}(h:B≤W.heap.size)(hN:N≤B):LI N B W none none f t x1 x2 none none:=⟨h,hN,fun g e=>(nomatch e),fun g e=>(nomatch e),fun g e=>(nomatch e),fun g e=>(nomatch e),fun g e=>(nomatch e)⟩
theorem AV{W:World}{g:Nat}{o:Obj}(h:W.heap[g]?=some o):g<W.heap.size:=(Array.getElem?_eq_some_iff.1 h).1
section
variable {N B:Nat} {W:World} {g8 g9:Option Nat} {f t:List Int} {x1 x2:PT} {y1 y2:Option PT}
theorem LI.alloc8(h:LI N B W none g9 f t x1 x2 y1 y2){G:Nat}(hG:G=W.heap.size):LI N B (W.alloc (.cells Jf 28)) (some G) g9 f t x1 x2 y1 y2:=by
 subst hG;have hb:Below W.heap.size W (W.alloc (.cells Jf 28)):=bA;refine⟨Nat.le_trans h.size hb.size,h.old,fun g e=>?_,fun g e=>?_,fun g e e'=>?_,fun y e=>?_,fun y e=>?_⟩
 ·cases e;exact⟨h.size,heap_alloc_new W _⟩
 ·exact⟨(h.h9 g e).1,(hb.block g (AV (h.h9 g e).2)).trans (h.h9 g e).2⟩
 ·cases e;exact Nat.lt_irrefl _ (AV (h.h9 _ e').2)
 ·have ht:=h.t1 y e;exact⟨LR.lies_below hb _ ht.lies,ht.span,fun b bB e'=>by cases e';exact Nat.lt_irrefl _ (Aa _ ht.lies _ bB),ht.ne9,ht.er⟩
 ·have ht:=h.t2 y e;exact⟨LR.lies_below hb _ ht.lies,ht.span,fun b bB e'=>by cases e';exact Nat.lt_irrefl _ (Aa _ ht.lies _ bB),ht.ne9,ht.er⟩
theorem LI.alloc9(h:LI N B W g8 none f t x1 x2 y1 y2){G:Nat}(hG:G=W.heap.size):LI N B (W.alloc (.cells Jf 28)) g8 (some G) f t x1 x2 y1 y2:=by
 subst hG;have hb:Below W.heap.size W (W.alloc (.cells Jf 28)):=bA;refine⟨Nat.le_trans h.size hb.size,h.old,fun g e=>?_,fun g e=>?_,fun g e e'=>?_,fun y e=>?_,fun y e=>?_⟩
 ·exact⟨(h.h8 g e).1,(hb.block g (AV (h.h8 g e).2)).trans (h.h8 g e).2⟩
 ·cases e;exact⟨h.size,heap_alloc_new W _⟩
 ·cases e';exact Nat.lt_irrefl _ (AV (h.h8 _ e).2)
 ·have ht:=h.t1 y e;exact⟨LR.lies_below hb _ ht.lies,ht.span,ht.ne8,fun b bB e'=>by cases e';exact Nat.lt_irrefl _ (Aa _ ht.lies _ bB),ht.er⟩
 ·have ht:=h.t2 y e;exact⟨LR.lies_below hb _ ht.lies,ht.span,ht.ne8,fun b bB e'=>by cases e';exact Nat.lt_irrefl _ (Aa _ ht.lies _ bB),ht.er⟩
theorem LI.step{w':World}(h:LI N B W g8 g9 f t x1 x2 y1 y2)(hb:Below W.heap.size W w'):LI N B w' g8 g9 f t x1 x2 y1 y2:=⟨Nat.le_trans h.size hb.size,h.old,fun g e=>⟨(h.h8 g e).1,(hb.block g (AV (h.h8 g e).2)).trans (h.h8 g e).2⟩,fun g e=>⟨(h.h9 g e).1,(hb.block g (AV (h.h9 g e).2)).trans (h.h9 g e).2⟩,h.ne,fun y e=>(h.t1 y e).below hb,fun y e=>(h.t2 y e).below hb⟩
theorem LI.out{w':World}{x y:PT}(h:LI N B W g8 g9 f t x1 x2 y1 y2)(hl:LR.lies w' y)(hs:Bz N W.heap.size w'.heap.size y)(he:PT.er y=BQ f t (PT.er x)):U3 N B w' g8 g9 f t x y:=
 ⟨hl,fun b hb=>(EX y hs b hb).imp id (Nat.le_trans h.size),fun b hb e=>by
  have h1:=h.h8 b e;have h2:=AV h1.2;have h3:=h.old;rcases EX y hs b hb with h4|h4<;>omega,fun b hb e=>by
  have h1:=h.h9 b e;have h2:=AV h1.2;have h3:=h.old;rcases EX y hs b hb with h4|h4<;>omega,he⟩
theorem LI.call1{w':World}{y:PT}(h:LI N B W g8 g9 f t x1 x2 none y2)(hb:Below W.heap.size W w')(hl:LR.lies w' y)(hs:Bz N W.heap.size w'.heap.size y)(he:PT.er y=BQ f t (PT.er x1)):LI N B w' g8 g9 f t x1 x2 (some y) y2:=
 have hh:=h.step hb
 ⟨hh.size,hh.old,hh.h8,hh.h9,hh.ne,fun z e=>by cases e;exact h.out hl hs he,hh.t2⟩
theorem LI.call2{w':World}{y:PT}(h:LI N B W g8 g9 f t x1 x2 y1 none)(hb:Below W.heap.size W w')(hl:LR.lies w' y)(hs:Bz N W.heap.size w'.heap.size y)(he:PT.er y=BQ f t (PT.er x2)):LI N B w' g8 g9 f t x1 x2 y1 (some y):=
 have hh:=h.step hb
 ⟨hh.size,hh.old,hh.h8,hh.h9,hh.ne,hh.t1,fun z e=>by cases e;exact h.out hl hs he⟩
end
structure Vc(N B:Nat)(W:World)(g8 g9:Nat)(f t:List Int)(x1 x2 y1 y2:PT):Prop where
 h8:B≤g8∧W.heap[g8]?=some (.cells (EF y1) 28 (0,0))
 h9:B≤g9∧W.heap[g9]?=some (.cells (EF y2) 28 (0,0))
 t1:LR.lies W y1∧(∀b∈Ao y1,b<N∨B≤b)∧PT.er y1=BQ f t (PT.er x1)
 t2:LR.lies W y2∧(∀b∈Ao y2,b<N∨B≤b)∧PT.er y2=BQ f t (PT.er x2)
theorem LI.fin{N B:Nat}{W:World}{g8 g9:Nat}{f t:List Int}{x1 x2 y1 y2:PT}(h:LI N B W (some g8) (some g9) f t x1 x2 (some y1) (some y2)):Vc N B ((W.setRow g8 (EF y1)).setRow g9 (EF y2)) g8 g9 f t x1 x2 y1 y2:=by have h8:=h.h8 _ rfl;have h9:=h.h9 _ rfl;have aR:g8≠g9:=fun e=>h.ne g8 rfl (by rw [e]);have t1:=h.t1 _ rfl;have t2:=h.t2 _ rfl;have hl:∀x y:PT,U3 N B W (some g8) (some g9) f t x y→LR.lies ((W.setRow g8 (EF y1)).setRow g9 (EF y2)) y:=fun x y ht=>Bl BP y (fun b hb e=>ht.ne9 b hb e) (Bl BP y (fun b hb e=>ht.ne8 b hb e) ht.lies);exact⟨⟨h8.1,(setRow_other _ _ _ _ (fun e=>aR e)).trans (setRow_heap _ _ _ _ _ _ h8.2)⟩,⟨h9.1,setRow_heap _ _ _ _ _ _ ((setRow_other _ _ _ _ (fun e=>aR e.symm)).trans h9.2)⟩,⟨hl _ _ t1,t1.span,t1.er⟩,⟨hl _ _ t2,t2.span,t2.er⟩⟩
theorem Vc.step{N B:Nat}{W W':World}{g8 g9:Nat}{f t:List Int}{x1 x2 y1 y2:PT}(h:Vc N B W g8 g9 f t x1 x2 y1 y2)(hb:Below W.heap.size W W'):Vc N B W' g8 g9 f t x1 x2 y1 y2:=⟨⟨h.h8.1,(hb.block _ (AV h.h8.2)).trans h.h8.2⟩,⟨h.h9.1,(hb.block _ (AV h.h9.2)).trans h.h9.2⟩,⟨LR.lies_below hb _ h.t1.1,h.t1.2⟩,⟨LR.lies_below hb _ h.t2.1,h.t2.2⟩⟩
theorem Ad{P:Program}{ops:Array Oper}{o:Oper}{act:Act}{K:Act→World→Prop}{Q:Exit→Act→World→Prop}{E:Prop}(bG:o.guard=none)(ty:TypeId)(x y:Operand)(ho:o.op=.store ty x y){W:World}{g:Nat}(h:W.heap[g]?=some (.cells Jf 28 (0,0)))(z:PT)(hx:act.eval x=.pointer (some ⟨g,0,none⟩))(hy:act.eval y=.agg (EF z))(hi:(P.info? ty).map (·.size)=some 4)(hK:K (act.put o.dst undef) (W.setRow g (EF z))):if Region.wanted o (yielded ops act.tmps)=true then Oper.wp P o act W K Q else E:=by rw [if_pos (by simp [Region.wanted,bG])];exact wp_store_row ty x y ho g (EF z) hx hy 28 Jf h hi rfl (by simp [Value.oneCell']) hK
structure SG(w:World)(a:AH)(x y:Value)(g8 g9:Nat)(y1 y2:PT)(W:World):Prop where
 nd:Il w a x y W
 h8:w.heap.size+3≤g8∧W.heap[g8]?=some (.cells (EF y1) 28 (0,0))
 h9:w.heap.size+3≤g9∧W.heap[g9]?=some (.cells (EF y2) 28 (0,0))
theorem SG.step{w W W':World}{a:AH}{x y:Value}{g8 g9:Nat}{y1 y2:PT}(h:SG w a x y g8 g9 y1 y2 W)(hb:Below W.heap.size W W'):SG w a x y g8 g9 y1 y2 W':=⟨h.nd.step hb,⟨h.h8.1,(hb.block _ (AV h.h8.2)).trans h.h8.2⟩,⟨h.h9.1,(hb.block _ (AV h.h9.2)).trans h.h9.2⟩⟩
theorem SG.alloc{w W:World}{a:AH}{x y:Value}{g8 g9:Nat}{y1 y2:PT}(h:SG w a x y g8 g9 y1 y2 W)(o:Obj):SG w a x y g8 g9 y1 y2 (W.alloc o):=h.step bA
theorem SG.store{w W:World}{a:AH}{x y:Value}{g8 g9:Nat}{y1 y2:PT}(h:SG w a x y g8 g9 y1 y2 W){cs:Array Value}(hc:cs.size=5):SG w a x y g8 g9 y1 y2 (W.setRow (w.heap.size+2) cs):=⟨h.nd.store hc,⟨h.h8.1,(setRow_other _ _ _ _ (by have:=h.h8.1;omega)).trans h.h8.2⟩,⟨h.h9.1,(setRow_other _ _ _ _ (by have:=h.h9.1;omega)).trans h.h9.2⟩⟩
theorem r4{W:World}{g:Nat}{y:PT}(h:W.heap[g]?=some (.cells (EF y) 28 (0,0))):W.rangeAt g 0 [.int .u8 y.head.kind,.int .i64 y.head.rho,.slice y.head.ep y.head.en y.head.ec,.slice y.head.kp y.head.kn y.head.kc]:=Bd h _ (by intro i v hv;match i,hv with|0,hv=>exact hv|1,hv=>exact hv|2,hv=>exact hv|3,hv=>exact hv)
theorem Rb{w0 w:World}{S:Nat→Prop}{a:AH}{l:List PA}{p q:Option Addr}{n c m mc:Nat}{env:List BV}{rhos:List Int}(h:DV w0 w S (.node a l) p q n c m mc env rhos)(cU:DZ env a.name=none):Calls prog 97 #[.agg #[.slice p n c,.slice q m mc],An a] w (Co w S (C8 (Ck env) a.plain)):=by
 have HX:=AA (Ey w a (.slice p n c) (.slice q m mc));have HC:=AA h;have HN:=AA (Cb h.lies);have ct:CB a:=h.small a (by rw [AD.nodes_node];exact List.mem_cons_self);have dG:=AA ct;have gZ:n≤900000:=by have:=h.hn;omega
 clear ct h;have HF:Hd (∀e,Ch env a.name e→e=.returned (.tuple #[NR,.bool false])):=fun e he=>by unfold Ch at he;rw [cU] at he;exact he
 have HR:Hd (C8 (Ck env) a.plain=.error (a.at_,4)):=by show _=_;unfold C8;rw [show a.plain.name=a.name from rfl,FK,cU];rfl
 rw [HR.o];clear HR cU;go_enter func97,ntmps97;go_upto_region 1 with fail;generalize (((w.alloc (.cells #[.slice p n c,.slice q m mc] 84)).alloc (AO a)).alloc (.cells #[.int .u8 0,.int .i64 0,.slice none 0 0,.slice none 0 0,.slice none 0 0] 81))=W1 at *
 have c4:=HX.o.b.b1.c 4 _ rfl
 go_upto_region 2 with(first
  |(refine lw HX.o.b.b0 underlying84 ?_)
  |(go_at_call 96;refine(Cu (HC.o.envA.row.below HX.o.below) (by omega) (.slice q m mc) a.name).mono ?_;rintro e w3 ⟨hf,hb⟩;obtain rfl:=HF.o _ hf;have bH:=AA (HX.o.step hb);have bd:=AA (heap_alloc_new w3 (.cells #[.string ⟨#[]⟩,.int .u8 0,.int .i64 0,.slice none 0 0,.slice none 0 0,.pointer none] 145));clear hf hb)
  |(refine sw #[.string ⟨#[]⟩,.int .u8 0,.int .i64 0,.slice none 0 0,.slice none 0 0,.pointer none] bd.o ?_;rw [World.setRow_alloc_new]))
 clear c4;have b7:=AA (bH.o.alloc (.cells #[.string ⟨#[]⟩,.int .u8 0,.int .i64 0,.slice none 0 0,.slice none 0 0,.pointer none] 145));generalize (w3.alloc (.cells #[.string ⟨#[]⟩,.int .u8 0,.int .i64 0,.slice none 0 0,.slice none 0 0,.pointer none] 145))=W4 at *
 go_wp2_with (first
  |(refine lw b7.o.b.b1.blk underlying31 ?_))
 go_at_call 64;refine(BA a 4 _).mono ?_;rintro e w9 ⟨rfl,hb⟩;exact⟨rfl,rfl,(b7.o.step hb).below⟩
theorem Ra{w0 w:World}{S:Nat→Prop}{a:AH}{l:List PA}{p q:Option Addr}{n c m mc:Nat}{env:List BV}{rhos:List Int}(h:DV w0 w S (.node a l) p q n c m mc env rhos){b:BV}(cU:DZ env a.name=some b)(dY:b.fn=none):Calls prog 97 #[.agg #[.slice p n c,.slice q m mc],An a] w (Co w S (C8 (Ck env) a.plain)):=by
 have HX:=AA (Ey w a (.slice p n c) (.slice q m mc));have HC:=AA h;have HN:=AA (Cb h.lies);have ct:CB a:=h.small a (by rw [AD.nodes_node];exact List.mem_cons_self);have dG:=AA ct;have gZ:n≤900000:=by have:=h.hn;omega
 clear ct h;have HF:Hd (∀e,Ch env a.name e→e=.returned (.tuple #[JI b,.bool true])):=fun e he=>by unfold Ch at he;rw [cU] at he;exact he
 have cv:b∈env:=Hq cU;have nm:=AA cv;have eI:=AA (HC.o.envA.each b cv);have lC:=AA dY;have HR:Hd (C8 (Ck env) a.plain=.error (a.at_,5)):=by show _=_;unfold C8;rw [show a.plain.name=a.name from rfl,FK,cU];show (match (BV.er b).fn with|none=>_|some f=>_)=_;unfold BV.er;rw [dY];rfl
 rw [HR.o];clear HR dY;clear cU cv;go_enter func97,ntmps97;go_upto_region 1 with fail;generalize (((w.alloc (.cells #[.slice p n c,.slice q m mc] 84)).alloc (AO a)).alloc (.cells #[.int .u8 0,.int .i64 0,.slice none 0 0,.slice none 0 0,.slice none 0 0] 81))=W1 at *
 have c4:=HX.o.b.b1.c 4 _ rfl
 go_upto_region 2 with(first
  |(refine lw HX.o.b.b0 underlying84 ?_)
  |(go_at_call 96;refine(Cu (HC.o.envA.row.below HX.o.below) (by omega) (.slice q m mc) a.name).mono ?_;rintro e w3 ⟨hf,hb⟩;obtain rfl:=HF.o _ hf;have bH:=AA (HX.o.step hb);have bd:=AA (heap_alloc_new w3 (.cells #[.string ⟨#[]⟩,.int .u8 0,.int .i64 0,.slice none 0 0,.slice none 0 0,.pointer none] 145));clear hf hb)
  |(refine sw #[.string b.name,.int .u8 b.ty.head.kind,.int .i64 b.ty.head.rho,.slice b.ty.head.ep b.ty.head.en b.ty.head.ec,.slice b.ty.head.kp b.ty.head.kn b.ty.head.kc,.pointer (b.fn.map (fun x=>⟨x.2,0,none⟩))] bd.o ?_;rw [World.setRow_alloc_new]))
 clear c4;have b7:=AA (bH.o.alloc (.cells #[.string b.name,.int .u8 b.ty.head.kind,.int .i64 b.ty.head.rho,.slice b.ty.head.ep b.ty.head.en b.ty.head.ec,.slice b.ty.head.kp b.ty.head.kn b.ty.head.kc,.pointer (b.fn.map (fun x=>⟨x.2,0,none⟩))] 145));have eS:=AA (heap_alloc_new w3 (.cells #[.string b.name,.int .u8 b.ty.head.kind,.int .i64 b.ty.head.rho,.slice b.ty.head.ep b.ty.head.en b.ty.head.ec,.slice b.ty.head.kp b.ty.head.kn b.ty.head.kc,.pointer (b.fn.map (fun x=>⟨x.2,0,none⟩))] 145));obtain⟨g,hg⟩:∃g,w3.heap.size=g:=⟨_,rfl⟩;rw [hg] at eS ⊢;generalize (w3.alloc (.cells #[.string b.name,.int .u8 b.ty.head.kind,.int .i64 b.ty.head.rho,.slice b.ty.head.ep b.ty.head.en b.ty.head.ec,.slice b.ty.head.kp b.ty.head.kn b.ty.head.kc,.pointer (b.fn.map (fun x=>⟨x.2,0,none⟩))] 145))=W4 at *
 clear hg bd bH
 go_upto_region 3 with(first
  |(refine lw b7.o.b.b1.blk underlying31 ?_)
  |(go_at_call 64;refine(A7 a 4 _).mono ?_;rintro e w5 ⟨rfl,hb⟩;have dH:=AA (b7.o.step hb);have fA:=AA ((hb.block _ (Array.getElem?_eq_some_iff.1 eS.o).1).trans eS.o);clear hb))
 clear b7 eS;have jH:Hd (∀W',Below w5.heap.size w5 W'→W'.cell? ⟨g,5,none⟩=some (.pointer none)):=fun W' hb=>by rw [Lib.cell_of_heap ((hb.block _ (Array.getElem?_eq_some_iff.1 fA.o).1).trans fA.o)];show some (Value.pointer (b.fn.map _))=_;rw [lC.o];rfl
 refine rg (fun W'=>Below w5.heap.size w5 W') (AR w5) fun aA=>?_;refine tp 0 21 ?_;refine tp 1 22 ?_ (hy:=fun w aC=>by(try dsimp only at aC);have q5:=jH.o _ aC;go_simp;try with_reducible rfl);refine tp 2 23 ?_;refine tp 3 24 ?_;refine Er 4 25 3 true ?_;refine Er 5 26 3 true ?_;refine Er 6 27 3 true ?_;refine Er 7 28 3 true ?_;refine Er 8 29 3 true ?_;refine Er 9 30 3 true ?_;refine Er 10 31 3 true ?_;refine Er 11 32 3 true ?_;refine Er 12 33 3 true ?_;refine Er 13 34 3 true ?_;refine tp 14 35 ?_;refine ta 15 36 a (w.heap.size+1) 0 (fun W' aC=>(dH.o.step aC).b.b1.range) ?_;refine tr 16 37 fun K hK=>?_;go_simp;go_at_call 64;refine(BA a 5 _).mono ?_;rintro e w9 ⟨rfl,hb⟩;exact⟨rfl,rfl,dH.o.below.trans ((AL aA hb).mono dH.o.below.size)⟩
structure BR(w w':World)(R:Nat→Prop):Prop where
 os:w'.os=w.os
 tape:w'.tape=w.tape
 output:w'.output=w.output
 size:w.heap.size≤w'.heap.size
 block:∀k,k<w.heap.size→¬R k→w'.heap[k]?=w.heap[k]?
theorem BR.refl(w:World)(R:Nat→Prop):BR w w R:=⟨rfl,rfl,rfl,Nat.le_refl _,fun _ _ _=>rfl⟩
theorem BR.trans{a b c:World}{R:Nat→Prop}(h:BR a b R)(k:BR b c R):BR a c R:=⟨k.os.trans h.os,k.tape.trans h.tape,k.output.trans h.output,Nat.le_trans h.size k.size,fun i hi aR=>(k.block i (Nat.lt_of_lt_of_le hi h.size) aR).trans (h.block i hi aR)⟩
theorem BR.of_below{w w':World}(h:Below w.heap.size w w')(R:Nat→Prop):BR w w' R:=⟨h.os,h.tape,h.output,h.size,fun k hk _=>h.block k hk⟩
theorem BR.alloc(w:World)(o:Obj)(R:Nat→Prop):BR w (w.alloc o) R:=.of_below bA R
theorem BR.of_grown{w w':World}{r:Option Nat}{R:Nat→Prop}(h:w.grownBy w' r)(hr:∀b,r=some b→R b):BR w w' R:=⟨h.os,h.tape,h.output,h.size,fun k hk hn=>h.block k hk (fun e=>hn (hr k e.symm))⟩
theorem BR.cell{w w':World}{R:Nat→Prop}(hg:BR w w' R){a:Addr}{v:Value}(h:w.cell? a=some v)(aR:¬R a.block):w'.cell? a=some v:=(World.cell?_of_block (hg.block a.block (World.block_lt_of_cell? w a h) aR)).trans h
theorem FV{B:Nat}{a w w':World}{R:Nat→Prop}(h:Below B a w)(hg:BR w w' R)(hB:B≤w.heap.size)(hr:∀k,R k→B≤k):Below B a w':=h.trans ⟨hg.os,hg.tape,hg.output,hg.size,fun k hk=>hg.block k (by omega) (fun e=>by have:=hr k e;omega)⟩
structure Vz(w0:World)(row:Nat→Prop)(g:Nat)(lb:Array Value){σ:Type}(Inv:Nat→σ→World→Prop)(ok:AH→Prop)(st:AH→σ→Bool×σ):Prop where
 eg:∀args w,(callFunc g args).run prog w=.ok (.enter g args) w
 hb:∀b,row b→w0.heap.size≤b
 lt:∀b,row b→∀k s W,Inv k s W→b<W.heap.size
 inv:∀k s W W',Inv k s W→Below W.heap.size W W'→Inv k s W'
 less:∀k s W,Inv (k+1) s W→Inv k s W
 call:∀k a s W,ok a→Below w0.heap.size w0 W→Inv (k+1) s W→Calls prog g (#[An a]++lb) W fun e w'=>e=.returned (.bool (st a s).1)∧Inv k (st a s).2 w'∧BR W w' row
structure U2(w0 W:World)(row:Nat→Prop)(p:Option Addr)(n c:Nat)(l:List PA):Prop where
 arow:AF LA.encT 19 W p n c l
 free:l≠[]→∀ad,p=some ad→¬row ad.block
 each:∀t∈l,LA.lies w0 t
theorem C7.rowS{w0 W:World}{row:Nat→Prop}{p:Option Addr}{n c:Nat}{l:List PA}(h:C7 w0 p n c l)(hb:Below w0.heap.size w0 W)(hr:∀b,row b→w0.heap.size≤b):U2 w0 W row p n c l:=
 ⟨h.row.below hb,fun hl ad hp e=>by
  have h1:=hr _ e;rcases h.row.row with h0|⟨b,o,fg,aG,_⟩
  ·exact hl h0
  ·rw [fg] at hp;cases hp;exact absurd aG (Nat.not_lt.2 h1),h.each⟩
def NT(w0:World)(row:Nat→Prop)(g:Nat)(lb:Array Value){σ:Type}(Inv:Nat→σ→World→Prop)(ok:AH→Prop)(st:AH→σ→Bool×σ)(l:List PA):Prop:=∀K p n c W,U2 w0 W row p n c l→(∀a∈AX l,ok a)→∀s,Below w0.heap.size w0 W→Inv (K+(AX l).length) s W→Calls prog 59 #[.func (.func g) #[] lb,.slice p n c] W fun e w'=>e=.returned (.bool (AN st (AX l) s).1)∧Inv K (AN st (AX l) s).2 w'∧BR W w' row
theorem Kd{σ:Type}{Inv:Nat→σ→World→Prop}(h:∀k s W,Inv (k+1) s W→Inv k s W){j k:Nat}{s:σ}{W:World}(hj:j≤k):Inv k s W→Inv j s W:=by
 obtain⟨d,rfl⟩:=Nat.le.dest hj;clear hj;induction d with
 |zero=>exact id
 |succ d ih=>exact fun hi=>ih (h _ _ _ hi)
theorem OQ{l:List PA}{k:Nat}{a:AH}{m:List PA}(hx:l[k]?=some (.node a m)):(AX (l.drop k)).length=(AX (l.drop (k+1))).length+(AX m).length+1:=by
 have aG:=CD hx;have hd:l.drop k=.node a m::l.drop (k+1):=by rw [List.drop_eq_getElem_cons aG];congr 1;rw [List.getElem?_eq_getElem aG] at hx;exact Option.some.inj hx
 rw [hd];simp only [AX,List.map_cons,List.flatten_cons,List.flatMap_cons,List.length_append];rw [AD.nodes_node];simp only [AX,List.length_cons];omega
theorem GC{w0:World}{row:Nat→Prop}{g:Nat}{lb:Array Value}{σ:Type}{Inv:Nat→σ→World→Prop}{ok:AH→Prop}{st:AH→σ→Bool×σ}(F:Vz w0 row g lb Inv ok st)(l:List PA)(ih:∀x∈l,NT w0 row g lb Inv ok st x.kids):NT w0 row g lb Inv ok st l:=by
 intro K p n c W hR ax s gR dj;have eg:=F.eg;have HF:=AA F;have HI:=AA ih;have HR:=AA hR;have cu:=AA ax;have cG:=AA gR;have HV:=AA dj;have iQ:n≤9223372036854775807:=hR.arow.max;clear F ih hR ax gR dj;go_enter func59,ntmps59;go_wp2_with fail;go_loopw [9] (fun i wr=>∃(k:Nat) (S:Bool×σ),k≤n∧i=.int .i64 k∧Hd (AN st (Ak l k) s=S)∧S.1=true∧Inv (K+(AX (l.drop k)).length) S.2 wr∧BR W wr row) (fun i _=>n-(intOf i).toNat)
 case atStart=>exact⟨0,(true,s),by omega,rfl,AA rfl,rfl,HV.o,BR.refl _ _⟩
 case round=>
  obtain⟨k,S,hk,rfl,HS,hs,gW,hg⟩:=hrel;have ed:=AA gW;have HG:=AA hg;have au:=AA hs;have HB:=AA (FV cG.o hg cG.o.size HF.o.hb);clear gW hg hs;by_cases aG:k<n
  ·obtain⟨x,hx⟩:∃x,l[k]?=some x:=Ac (by rw [HR.o.arow.len];exact aG);obtain⟨b,o,b8,al,jZ⟩:=HR.o.arow.row.elem hx;have gU:=HR.o.free (by intro e;rw [e] at hx;simp at hx) _ b8;have ao:∀i u,(LA.encT x)[i]?=some u→wr.cell? ⟨b,o+k * 19+i,none⟩=some u:=fun i u hu=>HG.o.cell (jZ i u hu) gU;clear jZ gU;obtain⟨a,m,mB⟩:∃a m,x=AD.node a m:=⟨x.head,x.kids,AD.eta x⟩;subst mB;have dE:=AA (show Fx wr b (o+k * 19) a from⟨fun i u hu=>ao i u hu⟩);subst b8;have hE:=List.mem_of_getElem? hx;have eV:=AA (show NT w0 row g lb Inv ok st m from HI.o _ hE);have jA:=AA (show C7 w0 a.kp a.kn a.kc m from QT (HR.o.each _ (List.mem_of_getElem? hx)));have gK:=AA (show ∀a'∈AX m,ok a' from fun a' ha=>cu.o a' (Fb hE (by rw [Eh];exact List.mem_cons_of_mem _ ha)));have dl:ok a:=cu.o a (Fb hE (by rw [Eh];exact List.mem_cons_self))
   have bf:=AA (show AN st (Ak l (k+1)) s=if(st a S.2).1 then AN st (AX m) (st a S.2).2 else(false,(st a S.2).2) by
    have h:=Qs st s hx (by rw [HS.o];exact au.o);rw [HS.o] at h;exact h)
   have j6:K+(AX (l.drop k)).length=(K+(AX (l.drop (k+1))).length+(AX m).length)+1:=by rw [OQ hx];omega
   rw [j6] at ed;clear hx al ao hE j6;have aM:=AA (Ah wr a);have bD:Below wr.heap.size wr (wr.alloc (AO a)):=bA;have aO:=bt HB bD;have fB:=AA (HF.o.inv _ _ _ _ ed.o bD);have az:=AA (HF.o.call _ a S.2 _ dl aO.o fB.o);have ey:=AA (HG.o.trans ((BR.alloc wr (AO a) row)));clear bD dl;have gQ:(wr.alloc (.cells #[.int .u8 0,.int .u8 0,.int .i64 0,.int .i64 0,.string ⟨#[]⟩,.string ⟨#[]⟩,.string ⟨#[]⟩,.int .i64 0,.slice none 0 0,.slice none 0 0,.int .u8 0,.int .i64 0,.slice none 0 0,.slice none 0 0,.int .u8 0,.int .i64 0,.slice none 0 0,.slice none 0 0,.slice none 0 0] 31)).heap[wr.heap.size]?=some (.cells #[.int .u8 0,.int .u8 0,.int .i64 0,.int .i64 0,.string ⟨#[]⟩,.string ⟨#[]⟩,.string ⟨#[]⟩,.int .i64 0,.slice none 0 0,.slice none 0 0,.int .u8 0,.int .i64 0,.slice none 0 0,.slice none 0 0,.int .u8 0,.int .i64 0,.slice none 0 0,.slice none 0 0,.slice none 0 0] 31 (0,0)):=heap_alloc_new wr _;have bd:=AA gQ;clear gQ;cases hq:(st a S.2).1 with
   |false=>
    rw [hq] at az bf;have HQ:=AA hq;clear hq
    go_wp2_with (first
     |(refine lm (Bg a) dE.o.c underlying31 ?_)
     |(refine wpList_store_row rfl 31 _ _ rfl wr.heap.size (Bg a).toArray rfl rfl 31 _ bd.o (by kernel_rfl) rfl (all_oneCell_toArray (C5 a)) ?_;rw [World.setRow_alloc_new])
     |(refine lw aM.o.blk underlying31 ?_)
     |(go_at_fn g;refine az.o.mono ?_;rintro e w2 ⟨rfl,bU,ai⟩;have bi:=AA bU;have cz:=AA (ey.o.trans ai);clear bU ai))
    go_ret;have a6:AN st (AX l) s=(false,(st a S.2).2):=by rw [J6 st s l (k+1) (by rw [bf.o];rfl),bf.o];rfl
    exact⟨AE (by rw [a6]),by rw [a6];exact Kd HF.o.less (by omega) bi.o,cz.o⟩
   |true=>
    rw [hq] at az bf;have HQ:=AA hq;clear hq;have HM:=AA (HF.o.hb);have q18:∀w2,BR (wr.alloc (AO a)) w2 row→Inv (K+(AX (l.drop (k+1))).length+(AX m).length) (st a S.2).2 w2→w2.cell? ⟨wr.heap.size,18,none⟩=some (.slice a.kp a.kn a.kc)∧Below w0.heap.size w0 w2:=fun w2 ai bU=>⟨ai.cell (a:=⟨wr.heap.size,18,none⟩) (aM.o.c 18 _ rfl) (fun e=>by have:=HF.o.lt _ e _ _ _ ed.o;exact Nat.lt_irrefl _ this),FV aO.o ai aO.o.size HM.o⟩;have db:=AA q18;clear q18;cases dK:(AN st (AX m) (st a S.2).2).1 with
    |false=>
     have cX:=AA dK;clear dK
     go_wp2_with (first
      |(refine lm (Bg a) dE.o.c underlying31 ?_)
      |(refine wpList_store_row rfl 31 _ _ rfl wr.heap.size (Bg a).toArray rfl rfl 31 _ bd.o (by kernel_rfl) rfl (all_oneCell_toArray (C5 a)) ?_;rw [World.setRow_alloc_new])
      |(refine lw aM.o.blk underlying31 ?_)
      |(first|(go_at_fn g;refine az.o.mono ?_;rintro e w2 ⟨rfl,bU,ai⟩;obtain⟨c18,aj⟩:=db.o _ ai bU;have bi:=AA bU;have cz:=AA (ey.o.trans ai);have aI:=AA aj;clear bU ai aj)|(go_at_call 59;refine(eV.o (K+(AX (l.drop (k+1))).length) _ _ _ _ (jA.o.rowS aI.o HM.o) gK.o _ aI.o bi.o).mono ?_;rw [cX.o];rintro e w3 ⟨rfl,di,aP⟩;have bq:=AA di;have eR:=AA (cz.o.trans aP);clear di aP)))
     go_ret;have a6:AN st (AX l) s=AN st (AX m) (st a S.2).2:=by rw [J6 st s l (k+1) (by rw [bf.o];exact cX.o),bf.o];rfl
     exact⟨AE (by rw [a6,cX.o]),by rw [a6];exact Kd HF.o.less (by omega) bq.o,eR.o⟩
    |true=>
     have cX:=AA dK;clear dK
     go_wp2_with (first
      |(refine lm (Bg a) dE.o.c underlying31 ?_)
      |(refine wpList_store_row rfl 31 _ _ rfl wr.heap.size (Bg a).toArray rfl rfl 31 _ bd.o (by kernel_rfl) rfl (all_oneCell_toArray (C5 a)) ?_;rw [World.setRow_alloc_new])
      |(refine lw aM.o.blk underlying31 ?_)
      |(first|(go_at_fn g;refine az.o.mono ?_;rintro e w2 ⟨rfl,bU,ai⟩;obtain⟨c18,aj⟩:=db.o _ ai bU;have bi:=AA bU;have cz:=AA (ey.o.trans ai);have aI:=AA aj;clear bU ai aj)|(go_at_call 59;refine(eV.o (K+(AX (l.drop (k+1))).length) _ _ _ _ (jA.o.rowS aI.o HM.o) gK.o _ aI.o bi.o).mono ?_;rw [cX.o];rintro e w3 ⟨rfl,di,aP⟩;have bq:=AA di;have eR:=AA (cz.o.trans aP);clear di aP)))
     go_roundw
     case rel=>exact⟨k+1,_,by omega,by go_num,bf,by show (AN st (AX m) (st a S.2).2).1=true;exact cX.o,bq.o,eR.o⟩
     case measure=>simp [intOf];omega
  ·have bV:k=n:=by omega
   have bc:Ak l k=AX l:=Tf l k (by rw [HR.o.arow.len,bV];exact Nat.le_refl _);rw [bc] at HS;go_wp2_with fail;go_ret;exact⟨AE (by rw [HS.o,au.o]),by rw [HS.o];exact Kd HF.o.less (by omega) ed.o,HG.o⟩
theorem Ji{w0:World}{row:Nat→Prop}{g:Nat}{lb:Array Value}{σ:Type}{Inv:Nat→σ→World→Prop}{ok:AH→Prop}{st:AH→σ→Bool×σ}(F:Vz w0 row g lb Inv ok st)(l:List PA):NT w0 row g lb Inv ok st l:=GC F l (fun x _=>AD.ind (P:=fun(x:PA)=>NT w0 row g lb Inv ok st x.kids) (fun a m ih=>GC F m ih) x)
end Go.Proofs.YtkdjnegfnhldpaaGreatDoor
