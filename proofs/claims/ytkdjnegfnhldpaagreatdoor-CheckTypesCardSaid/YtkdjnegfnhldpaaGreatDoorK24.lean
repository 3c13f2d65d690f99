/- Part 24. -/
import Derived.Test.YtkdjnegfnhldpaaGreatDoorK23
set_option linter.unusedVariables false
set_option maxRecDepth 100000
set_option linter.unusedSimpArgs false
set_option maxHeartbeats 40000000
set_option autoImplicit true
set_option relaxedAutoImplicit true
namespace Go.Proofs.YtkdjnegfnhldpaaGreatDoor
open Go.Proofs.Tryz Go.RowKit
section
theorem RL{W:World}{g:Nat}{cs:Array Value}{t:TypeId}(h:W.heap[g]?=some (.cells cs t (0,0)))(o n:Nat)(hn:o+n<=cs.size):W.there g o n:=fun j hj=>by refine⟨?_,by simp [World.frozen?,h]⟩;rw [AD h];simp;omega
theorem KQ{W:World}{g:Nat}{cs:Array Value}{t:TypeId}(h:W.heap[g]?=some (.cells cs t (0,0)))(o:Nat)(l:List Value)(hl:∀i v,l[i]?=some v->cs[o+i]?=some v):W.rangeAt g o l:=fun j v hj=>by rw [AD h];exact hl j v hj
def UB(V:Nat->Prop)(base:Nat)(v:Value):Nat->Prop:=fun g=>(g<base/\V g)\/(base<=g/\v.ownBlock≠some g)
structure KY{α:Type}(L:FY α)(T:TypeId)(V:Nat->Prop)(base k:Nat)(ys:List (Ad α))(v:Value)(W:World):Prop where
 own:A1 L.encT L.k W base T v k ys
 each:∀y∈ys,L.lies (UB V base v) W y
namespace KY
variable {α:Type} {L:FY α} {T:TypeId} {V:Nat->Prop} {base k:Nat} {ys:List (Ad α)} {v:Value} {W W':World}
theorem zero:KY L T V base 0 [] (.slice none 0 0) W:=⟨A1.nil _ _ _ _ _,fun _ h=>by cases h⟩
theorem below(h:KY L T V base k ys v W)(hb:Below W.heap.size W W'):KY L T V base k ys v W':=⟨h.own.below hb,fun y hy=>L.lies_keep (BD.of hb) _ (h.each y hy)⟩
theorem other(h:KY L T V base k ys v W)(hg:W.grownBy W' (some g))(aG:g<base)(hV:¬V g):KY L T V base k ys v W':=by
 refine⟨h.own.other hg (fun b hb e=>?_),fun y hy=>L.lies_keep (BD.grown hg (fun b e hu=>?_)) _ (h.each y hy)⟩
 ·have:=(Aa h.own b hb).1;injection e with e;omega
 ·injection e with e;subst e;rcases hu with⟨_,hu⟩|⟨hu,_⟩
  ·exact hV hu
  ·omega
theorem lt(h:KY L T V base k ys v W)(e:v.ownBlock=some g):base<=g/\g<W.heap.size:=Aa h.own g e
theorem come(hv:∀g,v.ownBlock=some g->g<Wc.heap.size)(hs:base<=Wc.heap.size)(hy:L.lies (Ge (UB V base v) Wc) W y):L.lies (UB V base v) W y:=
 L.lies_mono (fun g _ h=>by
  by_cases hg:g<Wc.heap.size
  ·exact h hg
  ·exact .inr ⟨by omega,fun e=>hg (hv g e)⟩) y hy
theorem turn(h:KY L T V base k ys v W)(h':∀g,v'.ownBlock=some g->base<=g)(hg:W.grownBy W' v.ownBlock)(hf:∀g,g<W.heap.size->v'.ownBlock=some g->v.ownBlock=some g)(z:Ad α)(hz:L.lies (UB V base v) W z):L.lies (UB V base v') W' z:=by
 have h1:=L.lies_mono (U':=fun g=>UB V base v g/\UB V base v' g) (fun g aG hu=>⟨hu,by
  rcases hu with⟨h1,hu⟩|⟨hu,hn⟩
  ·exact .inl ⟨h1,hu⟩
  ·exact .inr ⟨hu,fun e=>hn (hf g aG e)⟩⟩) z hz
 exact L.lies_mono (fun g _ h=>h.2) z (L.lies_keep (BD.grown hg (fun g e hu=>by
  rcases hu.1 with⟨h1,_⟩|⟨_,hn⟩
  ·have:=(h.lt e).1;omega
  ·exact hn e)) z h1)
theorem next(h:KY L T V base k ys v W)(hy:L.lies (UB V base v) W y)(ho:A1 L.encT L.k W' base T v' (k+1) (ys++[y]))(hg:W.grownBy W' v.ownBlock)(hf:∀g,g<W.heap.size->v'.ownBlock=some g->v.ownBlock=some g):KY L T V base (k+1) (ys++[y]) v' W':=by
 refine⟨ho,fun z hz=>h.turn (fun g e=>(Aa ho g e).1) hg hf z ?_⟩;rcases Ac.1 hz with hz|hz
 ·exact h.each z hz
 ·rw [AQ.1 hz];exact hy
theorem out(h:KY L T V base k ys (.slice q k c) W)(ao:0<L.k)(hV:∀g,g<base->V g->Ge U w g)(hb:w.heap.size<=base):Gk L.encT L.k (Ge U w) W q k c ys/\∀y∈ys,L.lies (Ge U w) W y:=by
 obtain⟨p,cap,e,hr⟩:=A1.rowU (U:=Ge U w) (fun t=>L.encT_len t) ao h.own (fun g e=>Ge.new (by have:=(h.lt e).1;omega));cases e;refine⟨hr,fun y hy=>L.lies_mono (fun g _ hu=>?_) y (h.each y hy)⟩;rcases hu with⟨h1,h2⟩|⟨h1,_⟩
 ·exact hV g h1 h2
 ·exact Ge.new (by omega)
end KY
def ZCk(w:World)(left:Int)(e:Ending)(w':World):Prop:=∃(y:PY) (n:Int),e=.returned (.tuple #[GL y.head,.int .i64 n])/\LY.lies (Ge Vu w) w' y/\-1<=n/\(y.size:Int)<=left-n/\Below w.heap.size w w'
def ZC1(left:Nat):Prop:=∀(U:Nat->Prop) (w:World) (b:EJ) (i:Nat),b.Lies U w->Dh b.er->i<b.ln->b.ln<=1000000 ->
 Calls prog 109 #[GA b,.int .i64 i,.int .i64 (left:Int)] w (ZCk w left)
structure Zl(w:World)(b:EJ)(W:World):Prop where
 bb:W.heap[w.heap.size]?=some (.cells (cBa b) 94 (0,0))
 br:∃x y z,W.heap[w.heap.size+1]?=some (.cells #[x,y,z] 45 (0,0))
 below:Below w.heap.size w W
theorem Zl.size(h:Zl w b W):w.heap.size+2<=W.heap.size:=by obtain⟨x,y,z,e⟩:=h.br;have:=Ab e;omega
theorem Zl.step(h:Zl w b W)(hb:Below W.heap.size W W'):Zl w b W':=by obtain⟨x,y,z,e⟩:=h.br;exact⟨(hb.block _ (Ab h.bb)).trans h.bb,⟨x,y,z,(hb.block _ (Ab e)).trans e⟩,h.below.trans (hb.mono h.below.size)⟩
theorem Zl.grown(h:Zl w b W)(hg:W.grownBy W' r)(hr:∀g,r=some g->w.heap.size+2<=g):Zl w b W':=by
 obtain⟨x,y,z,e⟩:=h.br;have aM:∀k,k<w.heap.size+2->some k≠r:=fun k hk e=>by have:=hr k e.symm;omega
 exact⟨(hg.block _ (Ab h.bb) (aM _ (by omega))).trans h.bb,⟨x,y,z,(hg.block _ (Ab e) (aM _ (by omega))).trans e⟩,h.below.grown hg h.below.size (fun k e=>by have:=hr k e;omega)⟩
theorem ZCc(w:World)(b:EJ):Zl w b ((w.alloc (.cells (cBa b) 94)).alloc (.cells cZy 45)):=by obtain⟨g1,g2⟩:=Et w (cBa b) cZy 94 45;exact⟨g1,⟨_,_,_,g2⟩,bA.alloc (by simp) _⟩
structure SnC(w:World)(b:EJ)(x:PC)(g8:Nat)(W:World):Prop where
 fr:Zl w b W
 h8:W.heap[g8]?=some (.cells #[.int .i64 (RZ x.c.led),.int .u8 x.c.kind,.slice x.kp x.kn x.kc,.int .i64 (x.c.var:Int)] 199 (0,0))
 l8:w.heap.size+2<=g8
theorem SnC.step(h:SnC w b x g8 W)(hb:Below W.heap.size W W'):SnC w b x g8 W':=⟨h.fr.step hb,(hb.block _ (Ab h.h8)).trans h.h8,h.l8⟩
theorem SnC.grown(h:SnC w b x g8 W)(hg:W.grownBy W' r)(hr:∀g,r=some g->g8<g):SnC w b x g8 W':=⟨h.fr.grown hg (fun g e=>by have:=hr g e;have:=h.l8;omega),(hg.block _ (Ab h.h8) (fun e=>by have:=hr g8 e.symm;omega)).trans h.h8,h.l8⟩
theorem ZBP(h:Zl w b W)(hb:Below W.heap.size W V)(h8:W.heap.size<=g8)(e8:V.heap[g8]?=some (.cells c8 199 (0,0))):SnC w b x g8 (V.setRow g8 #[.int .i64 (RZ x.c.led),.int .u8 x.c.kind,.slice x.kp x.kn x.kc,.int .i64 (x.c.var:Int)]):=by have hs:=h.size;exact⟨(h.step hb).grown (AU V g8 #[.int .i64 (RZ x.c.led),.int .u8 x.c.kind,.slice x.kp x.kn x.kc,.int .i64 (x.c.var:Int)]) (fun g e=>by injection e with e;omega),AL _ _ _ _ _ _ e8,by omega⟩
structure SnI(w:World)(b:EJ)(x:PC)(kd:Int)(g8 g9 k:Nat)(ys:List PY)(v:Value)(W:World):Prop where
 c:SnC w b x g8 W
 h9:W.heap[g9]?=some (.cells #[.int .u8 kd,.int .i64 0,v] 45 (0,0))
 l9:g8<g9
 row:KY LY 45 Vu (g9+1) k ys v W
theorem SnI.step(h:SnI w b x kd g8 g9 k ys v W)(hb:Below W.heap.size W W'):SnI w b x kd g8 g9 k ys v W':=⟨h.c.step hb,(hb.block _ (Ab h.h9)).trans h.h9,h.l9,h.row.below hb⟩
theorem SnI.size(h:SnI w b x kd g8 g9 k ys v W):g9+1<=W.heap.size:=Ab h.h9
structure SnR(w:World)(b:EJ)(x:PC)(kd:Int)(g8 g9 G k:Nat)(ys:List PY)(v:Value)(y:PY)(W:World):Prop where
 i:SnI w b x kd g8 g9 k ys v W
 box:W.heap[G]?=some (.cells (cYa y) 45 (0,0))
 y:LY.lies (UB Vu (g9+1) v) W y
theorem ZBQ(h:SnI w b x kd g8 g9 k ys v wr)(hc:wr.heap.size<=wc.heap.size)(hb:Below wr.heap.size wr Wb)(hG:wr.heap.size<=G)(ac:Wb.heap[G]?=some (.cells cs 45 (0,0)))(wt:LY.lies (Ge Vu wc) (Wb.setRow G (cYa y)) y):SnR w b x kd g8 g9 G k ys v y (Wb.setRow G (cYa y)):=by
 have hs:=h.size;have ab:Below wr.heap.size wr (Wb.setRow G (cYa y)):=hb.grown (AU _ _ _) hb.size (fun g e=>by injection e with e;omega);refine⟨h.step ab,AL _ _ _ _ _ _ ac,LY.lies_mono (fun g _ hu=>?_) y wt⟩;by_cases aG:g<wc.heap.size
 ·exact(hu aG).elim
 ·refine .inr ⟨by omega,fun e=>?_⟩;have:=(h.row.lt e).2;omega
theorem SnR.next{w W w9:World}{b:EJ}{x:PC}{kd:Int}{g8 g9 G k:Nat}{ys:List PY}{v v':Value}{y:PY}(h:SnR w b x kd g8 g9 G k ys v y W){o:Obj}(ho:A1 LY.encT 3 w9 (g9+1) 45 v' (k+1) (ys++[y]))(hg:(W.alloc o).grownBy w9 v.ownBlock)(hf:∀g,g<(W.alloc o).heap.size->v'.ownBlock=some g->v.ownBlock=some g):SnI w b x kd g8 g9 (k+1) (ys++[y]) v' (w9.setCell ⟨g9,2,none⟩ v'):=by have ap:Below W.heap.size W (W.alloc o):=bA;have h1:=h.i.step ap;have xY:=LY.lies_keep (BD.of ap) _ h.y;have h2:=h1.row.next xY ho hg hf;have ag:w9.grownBy (w9.setCell ⟨g9,2,none⟩ v') (some g9):=Ar _ _ _ _;have jc:=h.i.l9;have c2:=(h1.c.grown hg (fun g e=>by have:=(h1.row.lt e).1;omega)).grown ag (fun g e=>by injection e with e;omega);have h9:=(hg.block _ (Ab h1.h9) (fun e=>by have:=(h1.row.lt e.symm).1;omega)).trans h1.h9;exact⟨c2,Aw (o:=2) _ h9,jc,h2.other ag (by omega) (fun h=>h)⟩
theorem Vf(ys:List PY)(y:PY):((ys++[y]).map Ad.size).sum=(ys.map Ad.size).sum+y.size:=by rw [Ah,Cv];simp
theorem XK(ih:∀m,m<left->ZC1 m)(jd:left<=1000):ZC1 left:=by
 intro U w0 b i hb aW hi hn;have HN:=AF (ZCc w0 b);have dB:=AF (hb.mono (U':=fun g=>g<w0.heap.size/\U g) (fun g h1 h2=>⟨h1,h2⟩));have dr:=AF ih;have bP:=AF aW;have bo:=AF hn;have oB:=AF jd;obtain⟨rx1,rx2⟩:=aW.root (i:=i) (by rw [EJ.ln_eq hb];exact hi);rw [EJ.ln_eq hb] at rx1;have lL:b.cs.length=b.ln:=hb.cs.is.len;have ik:Hd (∀V,b.Lies (fun g=>g<w0.heap.size/\U g) V->Calls prog 152 #[GA b,.int .i64 i] V fun e w'=>e=.returned (.int .i64 (Dk b.er.cs i:Nat))/\Below V.heap.size V w'):=fun V hV=>IU hV aW (by omega);generalize Dk b.er.cs i=X at *
 obtain⟨lm,qX,sY⟩:∃lm:Int,lm=(left:Int)-1/\IntKind.i64.wrap ((left:Int)-1)=lm:=⟨_,rfl,by rw [Bi _ (by omega)]⟩;have mC:=AF qX;clear hb aW ih rx2 lL hi jd qX;show Calls _ _ #[.agg (cBa b),.int .i64 i,.int .i64 (left:Int)] w0 _;go_enter func109,ntmps109;go_upto_region 1 with fail;generalize (w0.alloc (.cells (cBa b) 94)).alloc (.cells cZy 45)=W at *
 have HL:=AF (dB.o.keep (BD.of HN.o.below));obtain⟨cX,jV⟩:=HL.o.cs.at (j:=X) rx1;obtain⟨g,o,hp,bN,d0,d1,d2,d3⟩:=QG HL.o.cs jV;have i6:=AF jV;have HP:=AF hp
 have mM:Hd (∀V,Below W.heap.size W V->V.rangeAt g (o+X * 4) [.int .i64 (RZ cX.c.led),.int .u8 cX.c.kind,.slice cX.kp cX.kn cX.kc,.int .i64 (cX.c.var:Int)]):=by
  show ∀V,_;intro V hb i u hu;match i,hu with
  |0,hu=>rw [Bd,hb.cell (show g<W.heap.size from bN),d0];exact hu
  |1,hu=>rw [hb.cell (show g<W.heap.size from bN),d1];exact hu
  |2,hu=>rw [hb.cell (show g<W.heap.size from bN),d2];exact hu
  |3,hu=>rw [hb.cell (show g<W.heap.size from bN),d3];exact hu
 have qH:Hd (∀V,Below W.heap.size W V->V.cell? ⟨w0.heap.size,0,none⟩=some (.slice (some ⟨g,o,none⟩) b.ln b.lc)):=by show ∀V,_;intro V hb;rw [AD (HN.o.step hb).bb,<-HP.o];rfl
 clear jV hp d0 d1 d2 d3 bN;go_cut [8] from 13 to 19 (fun s8 wx=>∃g8:Nat,s8=.pointer (some ⟨g8,0,none⟩)/\SnC w0 b cX g8 wx)
 case first=>
  refine rg (fun W'=>Below W.heap.size W W') (At W) fun aA=>?_;refine tp 0 13 ?_;refine tp 1 14 ?_ (hy:=fun w aB=>by(try dsimp only at aB);have c1:=qH.o w aB;go_simp;try with_reducible rfl);refine LV 2 15 (fun W' aB=>BX (HN.o.step aB).bb) underlying94 ?_;refine tp 3 16 ?_;refine A2 (rs:=[4,7]) (by kernel_rfl) (by simp) ?_;refine AY (o:=⟨some 17,_,_,_,_,none⟩) rfl (fun K hK=>?_) (AY (o:=⟨some 8,_,_,_,_,none⟩) rfl (fun K hK=>?_) Az)
  ·skip;go_simp;go_at_call 152;refine(ik.o _ (HL.o.keep (BD.of aA))).mono ?_;rintro e w5 ⟨rfl,hb⟩;have aw:=AF (An aA hb);clear hb;try go_wp2_with fail
   refine tn hK (aw.o) ?_;clear aA hK K;intro aA;refine tp 5 18 ?_;refine LV 6 19 (fun W' aB=>mM.o W' aB) underlying199 ?_;refine tr 7 8 fun K hK=>?_;go_simp;have km:=AF (AG w5 (.cells #[.int .i64 0,.int .u8 0,.slice none 0 0,.int .i64 0] 199));refine tn hK (Ay aA _) ?_;clear aA hK K;intro aA;refine Fo 8 fun K hK=>?_;have HF:=AF (ZBP (x:=cX) HN.o aA aw.o.size km.o);refine Iv km.o ?_;refine tn hK (aA.grown (AU _ _ _) aA.size (fun g e=>by injection e with e;subst e;exact aw.o.size)) ?_;clear aA hK K;intro aA;refine dn ?_;clear aA;generalize (w5.alloc (.cells #[.int .i64 0,.int .u8 0,.slice none 0 0,.int .i64 0] 199)).setRow w5.heap.size #[.int .i64 (RZ cX.c.led),.int .u8 cX.c.kind,.slice cX.kp cX.kn cX.kc,.int .i64 (cX.c.var:Int)]=W8 at *
   go_wp2_with fail;go_meet
   case rel=>exact⟨_,rfl,HF.o⟩
  ·skip;go_simp;have km:Hd ((W.drew.alloc (.cells #[.int .i64 0,.int .u8 0,.slice none 0 0,.int .i64 0] 199)).heap[W.heap.size]?=some (.cells #[.int .i64 0,.int .u8 0,.slice none 0 0,.int .i64 0] 199)):=AG W.drew (.cells #[.int .i64 0,.int .u8 0,.slice none 0 0,.int .i64 0] 199);refine tn hK (Ay aA _) ?_;clear aA hK K;intro aA;refine tr 4 17 fun K hK=>?_;go_simp;go_at_call 152;refine(ik.o _ (HL.o.keep (BD.of aA))).mono ?_;rintro e w5 ⟨rfl,hb⟩;have km:=AF ((hb.block _ (Ab km.o)).trans km.o);have aw:=AF (An aA hb);clear hb;try go_wp2_with fail
   refine tn hK (aw.o) ?_;clear aA hK K;intro aA;refine tp 5 18 ?_;refine LV 6 19 (fun W' aB=>mM.o W' aB) underlying199 ?_;refine Fo 8 fun K hK=>?_;have HF:=AF (ZBP (x:=cX) HN.o aA (AB _) km.o);refine Iv km.o ?_;refine tn hK (aA.grown (AU _ _ _) aA.size (fun g e=>by injection e with e;subst e;exact AB _)) ?_;clear aA hK K;intro aA;refine dn ?_;clear aA;generalize w5.setRow W.heap.size #[.int .i64 (RZ cX.c.led),.int .u8 cX.c.kind,.slice cX.kp cX.kn cX.kc,.int .i64 (cX.c.var:Int)]=W8 at *
   go_wp2_with fail;go_meet
   case rel=>exact⟨_,rfl,HF.o⟩
 case rest=>
  obtain⟨g8,rfl,hc⟩:=hcut;have HC:=AF hc;have dt:=AF (dB.o.keep (BD.of hc.fr.below));have iY:=MK i6.o;have gH:=bP.o.cell X (by rw [EJ.ln_eq dt.o];exact rx1);rw [iY] at gH;have oI:=AF gH;have k8:wc.cell? ⟨g8,1,none⟩=some (.int .u8 cX.c.kind):=by rw [AD HC.o.h8];rfl
  clear hc iY gH;by_cases kx:cX.c.kind=0
  ·have b8:(cX.c.kind==0)=true:=by rw [A3];exact kx
   have KX:=AF kx;have v8:wc.cell? ⟨g8,3,none⟩=some (.int .i64 (cX.c.var:Int)):=by rw [AD HC.o.h8];rfl
   clear kx;obtain⟨x2,y2,z2,bL⟩:=HC.o.fr.br;have ah:=AF bL;clear bL
   go_wp2_with (first
    |(refine sw #[.int .u8 5,.int .i64 (cX.c.var:Int),.slice none 0 0] ah.o ?_))
   refine Ag (BZ rfl _ _ _ _ _ rfl (Ae _ _ _ _ _ _ _ (AL _ _ _ _ _ _ ah.o) underlying45 rfl (by kernel_rfl))) rfl ?_;have bX:Below w0.heap.size w0 (wc.setRow (w0.heap.size+1) #[.int .u8 5,.int .i64 (cX.c.var:Int),.slice none 0 0]):=HC.o.fr.below.grown (AU _ _ _) HC.o.fr.below.size (fun g e=>by injection e with e;omega);have sq:=oI.o.2.2.2.2 KX.out;have fX:=dt.o.vars.is.max;have nj:=dt.o.vars.is.len;have nk:=dt.o.vars.is.le;have hm:maxLen=9223372036854775807:=rfl;have jl:(cX.c.var:Int)<=9223372036854775807:=by have:b.er.vars.length=b.vars.length:=rfl;omega
   have jd:=mC.o;refine⟨Cz 5 cX.c.var,lm,rfl,Ep ⟨by decide,by decide⟩ ⟨by show (-9223372036854775808:Int)<=_;omega,jl⟩,by omega,?_,bX⟩;have:(Cz 5 (cX.c.var:Int)).size=1:=by unfold Cz;rw [Ad.size_node];rfl
   rw [this];omega
  ·have b8:(cX.c.kind==0)=false:=by rw [AW];exact kx
   clear kx;obtain⟨kd,bH⟩:∃kd:Int,cX.c.kind=kd:=⟨_,rfl⟩;have ao:0<=kd/\kd<=4:=by rw [<-bH];exact⟨oI.o.2.2.1,oI.o.2.2.2.1⟩
   have aq:=AF ao;have gS:=AF bH;clear ao;rw [bH] at k8 b8;clear bH;go_upto_region 5 with fail;obtain⟨g9,gD⟩:∃g9,wc.heap.size=g9:=⟨_,rfl⟩;have nx:=AF gD;have tj:g8<g9:=by rw [<-gD];exact Ab HC.o.h8
   have bi:Below wc.heap.size wc (wc.alloc (.cells #[.int .u8 kd,.int .i64 0,.slice none 0 0] 45)):=bA;have eQ:Hd (SnI w0 b cX kd g8 g9 0 [] (.slice none 0 0) (wc.alloc (.cells #[.int .u8 kd,.int .i64 0,.slice none 0 0] 45))):=⟨HC.o.step bi,(by rw [<-gD];exact AG wc _),tj,KY.zero⟩;clear bi tj
   go_upto_region 6 with(first
    |(refine sn #[.int .u8 kd,.int .i64 0,.slice none 0 0] ?_))
   (try rw [nx.o]);clear k8 b8 gD;generalize wc.alloc (.cells #[.int .u8 kd,.int .i64 0,.slice none 0 0] 45)=W6 at *
   go_upto_region 7 with fail;have gT:=AF (dB.o.each cX (AE i6.o));have fL:=gT.o.is.max;have kV:=gT.o.is.le;go_loopw [2,10] (fun l j wr=>∃(k:Nat) (lv:Int) (q:Option Addr) (c:Nat) (ys:List PY),k<=cX.kn/\j=.int .i64 k/\l=.int .i64 lv/\-1<=lv/\(((ys.map Ad.size).sum:Nat):Int)+1<=(left:Int)-lv/\SnI w0 b cX kd g8 g9 k ys (.slice q k c) wr) (fun _ j _=>cX.kn-(intOf j).toNat)
   case atStart=>exact⟨0,lm,none,0,[],BM _,rfl,rfl,by have:=mC.o;omega,by have:=mC.o;simp;omega,eQ.o⟩
   case round=>
    obtain⟨k,lv,q,c,ys,hk,rfl,rfl,xL,bj,hi⟩:=hrel;have HI:=AF hi;have gm:=AF bj;have tT:=AF xL;have c2:wr.cell? ⟨g8,2,none⟩=some (.slice cX.kp cX.kn cX.kc):=by rw [AD hi.c.h8];rfl
    clear hi bj;by_cases sP:k<cX.kn/\0<=lv
    ·obtain⟨aG,iZ⟩:=sP;obtain⟨m,rfl⟩:∃m:Nat,lv=m:=⟨lv.toNat,by omega⟩;obtain⟨p,hp⟩:=gT.o.at aG;obtain⟨gx,ox,eK,iL,jx⟩:=MC (gT.o.keep (BD.of HI.o.c.fr.below)) hp;have gV:=AF eK;have tW:=AF hp;have i7:Hd (∀V,Below wr.heap.size wr V->V.cell? ⟨gx,ox+k,none⟩=some (.int .i64 (p:Int))):=fun V hb=>by rw [hb.cell (show gx<wr.heap.size from iL)];exact jx
     have jv:Hd (∀V,Below wr.heap.size wr V->V.cell? ⟨g8,2,none⟩=some (.slice (some ⟨gx,ox,none⟩) cX.kn cX.kc)):=fun V hb=>by rw [AD (HI.o.step hb).c.h8,<-gV.o];rfl
     have dl:decide ((0:Int)<=(m:Int))=true:=by simp
     clear hp eK iL jx;go_upto_region 9 with fail;clear c2 dl;have lK:k<=1000000:=by have h1:=gm.o;have h2:=HI.o.row.own;have h3:ys.length=k:=A1.len IG h2 (by omega);have h4:=G9 ys;have h5:=oB.o;omega
     refine rg (fun W'=>Below wr.heap.size wr W') (At wr) fun aA=>?_;refine LV 0 44 (fun W' aB=>BX (HI.o.step aB).c.fr.bb) underlying94 ?_;refine tp 1 45 ?_;refine tp 2 46 ?_ (hy:=fun w aB=>by(try dsimp only at aB);have c1:=jv.o w aB;go_simp;try with_reducible rfl);refine tp 3 47 ?_;refine tp 4 48 ?_;refine tp 5 49 ?_ (hy:=fun w aB=>by(try dsimp only at aB);have c1:=i7.o w aB;go_simp;try with_reducible rfl);refine tp 6 50 ?_;refine A2 (rs:=[7,11]) (by kernel_rfl) (by simp) ?_;refine AY (o:=⟨some 51,_,_,_,_,none⟩) rfl (fun K hK=>?_) (AY (o:=⟨some 11,_,_,_,_,none⟩) rfl (fun K hK=>?_) Az)
     ·skip;go_simp;go_at_call 109;refine(dr.o m (by have:=gm.o;omega) (fun g=>g<w0.heap.size/\U g) _ b p (dB.o.keep (BD.of (HI.o.c.fr.below.trans (aA.mono HI.o.c.fr.below.size)))) bP.o (by have h:=oI.o.1 p (AE tW.o);rwa [EJ.ln_eq dt.o] at h) bo.o).mono ?_;rintro e w7 ⟨y,n,rfl,hy,ei,fC,hb⟩;have HY:=AF hy;have qI:=AF ei;have dE:=AF fC;have az:=AF (An aA hb);clear hy ei fC;try go_wp2_with fail
      refine tn hK (An aA hb) ?_;clear aA hK K;intro aA;refine tp 8 43 ?_;refine tp 9 52 ?_;refine tp 10 53 ?_;refine tr 11 11 fun K hK=>?_;go_simp;have ge:=AF (AG w7 (.cells cZy 45));refine tn hK (Ay aA _) ?_;clear aA hK K;intro aA;refine Fo 12 fun K hK=>?_;have iK:Below w7.heap.size w7 ((w7.alloc (.cells cZy 45)).setRow w7.heap.size (cYa y)):=bA.grown (AU _ _ _) (by simp) (fun g e=>by injection e with e;omega);have bS:=AF (ZBQ HI.o (At wr).size aA az.o.size ge.o (LY.lies_keep (BD.of iK) _ HY.o));clear iK;refine Iv ge.o ?_;refine tn hK (aA.grown (AU _ _ _) aA.size (fun g e=>by injection e with e;subst e;exact az.o.size)) ?_;clear aA hK K;intro aA;refine tp 13 12 ?_;refine dn ?_;clear aA;generalize fT:w7.heap.size=G8 at *
      generalize (w7.alloc (.cells cZy 45)).setRow G8 (cYa y)=W8 at *
      clear fT ge az;go_upto_region 11 with fail;have bi:Below W8.heap.size W8 (W8.alloc (.cells (cYa y) 45)):=bA;have ip:=AF (Bo IG (by omega) W8 45 [y] 1 (cYa y) rfl rfl (by decide));have fu:=AF (Cm bS.o.i.row.own (.cells (cYa y) 45));have iI:Hd (g9+1<=(W8.alloc (.cells (cYa y) 45)).heap.size):=AM bS.o.i.size bi.size;have fD:=AF (bS.o.i.step bi);have c1:W8.cell? ⟨g9,2,none⟩=some (.slice q k c):=by rw [AD bS.o.i.h9];rfl
      clear bi
      go_wp2_with (first
       |(refine lw bS.o.box underlying45 ?_)
       |(at_builtin;refine DS rfl _ _ 43 rfl (g9+1) 45 _ 3 40 underlying43 TY rfl (by decide) LY.encT IG XZ [y] ys k _ fu.o _ 1 _ rfl rfl rfl (by intro h;cases h) ip.o.row (by omega) (by omega) iI.o ?_;intro v10 w10 aT bD cZ;obtain⟨q10,c10,dm,_⟩:=A1.isRow IG (by omega) aT;subst dm;have ff:=AF (bS.o.next aT bD cZ);have cP:=(bD.block _ (Ab fD.o.h9) (fun e=>by have:=(fD.o.row.lt e.symm).1;omega)).trans fD.o.h9;have c1:w10.cell? ⟨g9,2,none⟩=some (.slice q k c):=(by rw [AD cP];rfl);have dP:w10.frozen? ⟨g9,2,none⟩=false:=(by simp [World.frozen?,cP]);clear aT bD cZ cP))
      generalize w10.setCell ⟨g9,2,none⟩ (.slice q10 (k+1) c10)=W9 at *
      go_roundw
      case rel=>exact⟨k+1,n,q10,c10,_,by omega,by go_num,rfl,qI.o,by rw [Vf];have h1:=gm.o;have h2:=dE.o;push_cast;omega,ff.o⟩
      case measure=>simp [intOf];omega
     ·skip;go_simp;have ge:Hd ((wr.drew.alloc (.cells cZy 45)).heap[wr.heap.size]?=some (.cells cZy 45)):=AG wr.drew (.cells cZy 45);refine tn hK (Ay aA _) ?_;clear aA hK K;intro aA;refine tr 7 51 fun K hK=>?_;go_simp;go_at_call 109;refine(dr.o m (by have:=gm.o;omega) (fun g=>g<w0.heap.size/\U g) _ b p (dB.o.keep (BD.of (HI.o.c.fr.below.trans (aA.mono HI.o.c.fr.below.size)))) bP.o (by have h:=oI.o.1 p (AE tW.o);rwa [EJ.ln_eq dt.o] at h) bo.o).mono ?_;rintro e w7 ⟨y,n,rfl,hy,ei,fC,hb⟩;have HY:=AF hy;have qI:=AF ei;have dE:=AF fC;have bq:=AF ((hb.block _ (Ab ge.o)).trans ge.o);have az:=AF (An aA hb);clear hy ei fC;try go_wp2_with fail
      refine tn hK (An aA hb) ?_;clear aA hK K;intro aA;refine tp 8 43 ?_;refine tp 9 52 ?_;refine tp 10 53 ?_;refine Fo 12 fun K hK=>?_;have bS:=AF (ZBQ HI.o (by simp) az.o (AB _) bq.o (LY.lies_keep (BD.grown (AU _ _ _) (fun g e h=>by injection e with e;subst e;exact h (by simp))) _ HY.o));refine Iv bq.o ?_;refine tn hK (aA.grown (AU _ _ _) aA.size (fun g e=>by injection e with e;subst e;exact AB _)) ?_;clear aA hK K;intro aA;refine tp 13 12 ?_;refine dn ?_;clear aA;generalize fT:wr.heap.size=G8 at *
      generalize w7.setRow G8 (cYa y)=W8 at *
      clear fT ge az bq;go_upto_region 11 with fail;have bi:Below W8.heap.size W8 (W8.alloc (.cells (cYa y) 45)):=bA;have ip:=AF (Bo IG (by omega) W8 45 [y] 1 (cYa y) rfl rfl (by decide));have fu:=AF (Cm bS.o.i.row.own (.cells (cYa y) 45));have iI:Hd (g9+1<=(W8.alloc (.cells (cYa y) 45)).heap.size):=AM bS.o.i.size bi.size;have fD:=AF (bS.o.i.step bi);have c1:W8.cell? ⟨g9,2,none⟩=some (.slice q k c):=by rw [AD bS.o.i.h9];rfl
      clear bi
      go_wp2_with (first
       |(refine lw bS.o.box underlying45 ?_)
       |(at_builtin;refine DS rfl _ _ 43 rfl (g9+1) 45 _ 3 40 underlying43 TY rfl (by decide) LY.encT IG XZ [y] ys k _ fu.o _ 1 _ rfl rfl rfl (by intro h;cases h) ip.o.row (by omega) (by omega) iI.o ?_;intro v10 w10 aT bD cZ;obtain⟨q10,c10,dm,_⟩:=A1.isRow IG (by omega) aT;subst dm;have ff:=AF (bS.o.next aT bD cZ);have cP:=(bD.block _ (Ab fD.o.h9) (fun e=>by have:=(fD.o.row.lt e.symm).1;omega)).trans fD.o.h9;have c1:w10.cell? ⟨g9,2,none⟩=some (.slice q k c):=(by rw [AD cP];rfl);have dP:w10.frozen? ⟨g9,2,none⟩=false:=(by simp [World.frozen?,cP]);clear aT bD cZ cP))
      generalize w10.setCell ⟨g9,2,none⟩ (.slice q10 (k+1) c10)=W9 at *
      go_roundw
      case rel=>exact⟨k+1,n,q10,c10,_,by omega,by go_num,rfl,qI.o,by rw [Vf];have h1:=gm.o;have h2:=dE.o;push_cast;omega,ff.o⟩
      case measure=>simp [intOf];omega
    ·have nz:=AF sP;have eC:(decide (k<cX.kn)&&decide (0<=lv))=false:=by rw [EK,BE,BE];omega
     clear sP;by_cases aG:k<cX.kn
     ·have dl:decide ((0:Int)<=lv)=false:=by have:=nz.o;rw [BE];omega
      go_upto_region 12 with fail;obtain⟨x2,y2,z2,bL⟩:=HI.o.c.fr.br;have ah:=AF bL;clear bL c2
      go_wp2_with (first
       |(refine lw HI.o.h9 underlying45 ?_)
       |(refine sw #[.int .u8 kd,.int .i64 0,.slice q k c] ah.o ?_))
      refine Ag (BZ rfl _ _ _ _ _ rfl (Ae _ _ _ _ _ _ _ (AL _ _ _ _ _ _ ah.o) underlying45 rfl (by kernel_rfl))) rfl ?_;have cA:wr.grownBy (wr.setRow (w0.heap.size+1) #[.int .u8 kd,.int .i64 0,.slice q k c]) (some (w0.heap.size+1)):=AU _ _ _;have hs:=HI.o.c.fr.size;have xG:=HI.o.c.l8;have jc:=HI.o.l9;have bX:=HI.o.c.fr.below.grown cA HI.o.c.fr.below.size (fun g e=>by injection e with e;omega);obtain⟨r1,r2⟩:=KY.out (HI.o.row.other cA (by omega) (fun h=>h)) (U:=Vu) (w:=w0) (by decide) (fun g _ h=>h.elim) (by omega);refine⟨.node ⟨kd,0,q,k,c⟩ ys,lv,rfl,?_,tT.o,?_,bX⟩
      ·rw [FY.lies_node];exact⟨⟨by have:=aq.o;show 0<=kd;omega,by have:=aq.o;show kd<=255;omega,by show (-9223372036854775808:Int)<=0;decide,by show (0:Int)<=9223372036854775807;decide⟩,r1,r2⟩
      ·rw [Ad.size_node];have:=gm.o;push_cast;omega
     ·go_upto_region 12 with fail;obtain⟨x2,y2,z2,bL⟩:=HI.o.c.fr.br;have ah:=AF bL;clear bL c2
      go_wp2_with (first
       |(refine lw HI.o.h9 underlying45 ?_)
       |(refine sw #[.int .u8 kd,.int .i64 0,.slice q k c] ah.o ?_))
      refine Ag (BZ rfl _ _ _ _ _ rfl (Ae _ _ _ _ _ _ _ (AL _ _ _ _ _ _ ah.o) underlying45 rfl (by kernel_rfl))) rfl ?_;have cA:wr.grownBy (wr.setRow (w0.heap.size+1) #[.int .u8 kd,.int .i64 0,.slice q k c]) (some (w0.heap.size+1)):=AU _ _ _;have hs:=HI.o.c.fr.size;have xG:=HI.o.c.l8;have jc:=HI.o.l9;have bX:=HI.o.c.fr.below.grown cA HI.o.c.fr.below.size (fun g e=>by injection e with e;omega);obtain⟨r1,r2⟩:=KY.out (HI.o.row.other cA (by omega) (fun h=>h)) (U:=Vu) (w:=w0) (by decide) (fun g _ h=>h.elim) (by omega);refine⟨.node ⟨kd,0,q,k,c⟩ ys,lv,rfl,?_,tT.o,?_,bX⟩
      ·rw [FY.lies_node];exact⟨⟨by have:=aq.o;show 0<=kd;omega,by have:=aq.o;show kd<=255;omega,by show (-9223372036854775808:Int)<=0;decide,by show (0:Int)<=9223372036854775807;decide⟩,r1,r2⟩
      ·rw [Ad.size_node];have:=gm.o;push_cast;omega
theorem PZ:∀(left:Nat),left<=1000->ZC1 left:=by
 intro left;induction left using Nat.strongRecOn with
 |_ left ih=>exact fun h=>XK (fun m hm=>ih m hm (by omega)) h
def P0(w:World)(e:Ending)(w':World):Prop:=∃(y:PY) (n:Int),e=.returned (.tuple #[GL y.head,.int .i64 n])/\LY.lies (Ge Vu w) w' y/\y.size<=1000/\Below w.heap.size w w'
structure SeS(w:World)(b:EJ)(t:PY)(W:World):Prop where
 b0:W.heap[w.heap.size]?=some (.cells (cBa b) 94 (0,0))
 b1:W.heap[w.heap.size+1]?=some (.cells (cYa t) 45 (0,0))
 b2:W.heap[w.heap.size+1+1]?=some (.cells cZy 45 (0,0))
 below:Below w.heap.size w W
theorem SeS.step(h:SeS w b t W)(hb:Below W.heap.size W W'):SeS w b t W':=⟨(hb.block _ (Ab h.b0)).trans h.b0,(hb.block _ (Ab h.b1)).trans h.b1,(hb.block _ (Ab h.b2)).trans h.b2,h.below.trans (hb.mono h.below.size)⟩
theorem ZCa(w:World)(b:EJ)(t:PY):SeS w b t (((w.alloc (.cells (cBa b) 94)).alloc (.cells (cYa t) 45)).alloc (.cells cZy 45)):=by obtain⟨g1,g2⟩:=Et w (cBa b) (cYa t) 94 45;have h3:=AG ((w.alloc (.cells (cBa b) 94)).alloc (.cells (cYa t) 45)) (.cells cZy 45);rw [AN,AN] at h3;have old:∀(V:World) (o:Obj) (k:Nat) (c:Obj),V.heap[k]?=some c->(V.alloc o).heap[k]?=some c:=fun V o k c h=>(AP V o k (Ab h)).trans h;exact⟨old _ _ _ _ g1,old _ _ _ _ g2,h3,((bA.alloc (by simp) _).alloc (by simp<;>omega) _)⟩
theorem Oj(h:SeS w b t W)(am:cs=(cYa y))(hy:LY.lies (fun g=>w.heap.size+3<=g) W y)(hz:y.size<=1000):P0 w (.returned (.tuple #[.agg cs,.int .i64 n])) (W.setRow (w.heap.size+1+1) cs):=by subst am;have hg:W.grownBy (W.setRow (w.heap.size+1+1) (cYa y)) (some (w.heap.size+1+1)):=AU _ _ _;exact⟨y,n,rfl,LY.lies_mono (fun g _ h=>Ge.new (by omega)) _ (LY.lies_keep (BD.grown hg (fun g e h=>by injection e with e;omega)) _ hy),hz,h.below.grown hg h.below.size (fun g e=>by injection e with e;omega)⟩
theorem PX{U:Nat->Prop}{w0:World}{b:EJ}{t:PY}(hb:b.Lies U w0)(aW:Dh b.er)(ht:LY.lies U w0 t)(hz:b.ln+t.size<=900000):Calls prog 79 #[GA b,GL t.head,.int .i64 500] w0 (P0 w0):=by
 have HN:=AF (ZCa w0 b t);have HB:=AF hb;have HT:=AF ht;have bP:=AF aW;have HZ:=AF hz;obtain⟨r,hr⟩:∃r,b.er.knows t.er=r:=⟨_,rfl⟩;have HR:=AF hr;clear hb aW ht hz hr;show Calls _ _ #[.agg (cBa b),.agg (cYa t),.int .i64 500] w0 _;go_enter func79,ntmps79;go_upto_region 1 with fail;generalize ((w0.alloc (.cells (cBa b) 94)).alloc (.cells (cYa t) 45)).alloc (.cells cZy 45)=W at *
 cases r with
 |false=>
  go_upto_region 2 with(first
   |(refine lw HN.o.b0 underlying94 ?_)
   |(refine lw HN.o.b1 underlying45 ?_)
   |(go_at_call 107;refine(JJ (HB.o.keep (BD.of HN.o.below)) (LY.lies_keep (BD.of HN.o.below) _ HT.o)).mono ?_;rw [HR.o];rintro e w5 ⟨rfl,hb⟩;have d8:=AF (HN.o.step hb);clear hb))
  go_wp2_with (first|(refine sw #[.int .u8 0,.int .i64 0,.slice none 0 0] d8.o.b2 ?_));refine Ag (BZ rfl _ _ _ _ _ rfl (Ae _ _ _ _ _ _ _ (AL _ _ _ _ _ _ d8.o.b2) underlying45 rfl (by kernel_rfl))) rfl ?_;exact Oj (y:=Cz 0 0) d8.o rfl (Ep ⟨by decide,by decide⟩ ⟨by decide,by decide⟩) (by unfold Cz;rw [Ad.size_node];decide)
 |true=>
  go_upto_region 5 with(first
   |(refine lw HN.o.b0 underlying94 ?_)
   |(refine lw HN.o.b1 underlying45 ?_)
   |(go_at_call 107;refine(JJ (HB.o.keep (BD.of HN.o.below)) (LY.lies_keep (BD.of HN.o.below) _ HT.o)).mono ?_;rw [HR.o];rintro e w5 ⟨rfl,hb⟩;have d8:=AF (HN.o.step hb);clear hb))
  have cA:=Ky t.er b.er bP.o HR.o;obtain⟨J,hJ⟩:∃J:Nat,(Cq b.er t.er).2=J:=⟨_,rfl⟩;have HJ:=AF hJ;have df:=AF cA;clear cA hJ
  go_upto_region 6 with(first
   |(refine lw d8.o.b0 underlying94 ?_)
   |(refine lw d8.o.b1 underlying45 ?_)
   |(go_at_call 108;refine(KR t U _ b (HB.o.keep (BD.of d8.o.below)) bP.o HR.o (LY.lies_keep (BD.of d8.o.below) _ HT.o) (by have:=HZ.o;omega)).mono ?_;rintro e w6 ⟨b',cN,bE,bG,a8,hb⟩;rw [HJ.o] at cN;subst cN;have el:=AF bE;have iR:=AF bG;have bo:=AF a8;have cG:=AF (d8.o.step hb);clear bE bG a8 hb)
   |(refine sn #[.slice b'.lp b'.ln b'.lc,.slice b'.vp b'.vn b'.vc] ?_))
  have ee:Below w6.heap.size w6 (w6.alloc (.cells (cBa b') 94)):=bA;have fq:=AF (cG.o.step ee);have dL:=AF (AG w6 (.cells (cBa b') 94));have iT:=AF (el.o.keep (BD.of ee))
  have nJ:Hd (∀V,Below (w6.alloc (.cells (cBa b') 94)).heap.size (w6.alloc (.cells (cBa b') 94)) V->Calls prog 109 #[GA b',.int .i64 J,.int .i64 500] V (ZCk V 500)):=by
   show ∀V,_;intro V hb;have hi:J<b'.ln:=by rw [<-EJ.ln_eq el.o,iR.o,<-HJ.o];exact df.o.2
   exact PZ 500 (by decide) _ V b' J (iT.o.keep (BD.of hb)) (by rw [iR.o];exact df.o.1.ok) hi (by have h1:=bo.o;have h2:=HZ.o;omega)
  obtain⟨g8,pE⟩:∃g8,w6.heap.size=g8:=⟨_,rfl⟩;rw [pE] at dL ⊢;generalize w6.alloc (.cells (cBa b') 94)=W7 at *
  clear pE ee el cG d8
  go_upto_region 7 with(first
   |(refine lw dL.o underlying94 ?_)
   |(go_at_call 109;refine(nJ.o _ (AA _ _)).mono ?_;rintro e w8 ⟨y,n,rfl,hy,ei,fC,hb⟩;have HY:=AF hy;have dE:=AF fC;have qI:=AF ei;have mH:=AF (fq.o.step hb);have fG:=AF (AM (Ab fq.o.b2) (AB _));clear hy ei fC hb)
   |(refine sn #[.int .u8 y.head.kind,.int .i64 y.head.var,.slice y.head.kp y.head.kn y.head.kc] ?_))
  have bi:Below w8.heap.size w8 (w8.alloc (.cells (cYa y) 45)):=bA;have jH:=AF (mH.o.step bi);have aY:=AF (AG w8 (.cells (cYa y) 45))
  have wb:Hd (LY.lies (fun g=>w0.heap.size+3<=g) (w8.alloc (.cells (cYa y) 45)) y):=LY.lies_mono (fun g _ h=>by
   have h2:=fG.o;by_cases aG:g<W7.heap.size
   ·exact(h aG).elim
   ·omega) _ (LY.lies_keep (BD.of bi) _ HY.o)
  obtain⟨g9,gD⟩:∃g9,w8.heap.size=g9:=⟨_,rfl⟩;rw [gD] at aY ⊢;generalize w8.alloc (.cells (cYa y) 45)=W9 at *
  clear gD bi HY mH;by_cases hn:n<0
  ·have dn:decide (n<0)=true:=by simpa using hn
   clear hn;go_wp2_with (first|(refine sw #[.int .u8 0,.int .i64 0,.slice none 0 0] jH.o.b2 ?_));refine Ag (BZ rfl _ _ _ _ _ rfl (Ae _ _ _ _ _ _ _ (AL _ _ _ _ _ _ jH.o.b2) underlying45 rfl (by kernel_rfl))) rfl ?_;exact Oj (y:=Cz 0 0) jH.o rfl (Ep ⟨by decide,by decide⟩ ⟨by decide,by decide⟩) (by unfold Cz;rw [Ad.size_node];decide)
  ·have dn:decide (n<0)=false:=by simpa using hn
   have ju:=AF hn;clear hn;go_wp2_with (first|(refine lw aY.o underlying45 ?_)|(refine K7 jH.o.b2 ?_));refine Ag (BZ rfl _ _ _ _ _ rfl (Ae _ _ _ _ _ _ _ (AL _ _ _ _ _ _ jH.o.b2) underlying45 rfl (by kernel_rfl))) rfl ?_;exact Oj (y:=y) jH.o rfl wb.o (by have h1:=dE.o;have h2:=ju.o;omega)
end
theorem XV.step{w W W':World}{a:AH}{kd:Int}{v:Value}(h:XV w a kd v W)(hb:Below (w.heap.size+3) W W'):XV w a kd v W':=⟨⟨(hb.block _ (by omega)).trans h.b0.blk⟩,(hb.block _ (by omega)).trans h.b1,(hb.block _ (by omega)).trans h.b2,h.below.trans (hb.mono (by omega))⟩
theorem XV.size{w W:World}{a:AH}{kd:Int}{v:Value}(h:XV w a kd v W):w.heap.size+3<=W.heap.size:=by have:=Ab h.b2;omega
theorem XV.row{w W:World}{a:AH}{kd:Int}{v:Value}(h:XV w a kd v W)(v':Value):XV w a kd v' (W.setCell ⟨w.heap.size+1+1,7,none⟩ v'):=by have hg:W.grownBy (W.setCell ⟨w.heap.size+1+1,7,none⟩ v') (some (w.heap.size+1+1)):=Ar _ _ _ _;exact⟨⟨(hg.block _ (Ab h.b0.blk) (fun e=>by injection e with e;omega)).trans h.b0.blk⟩,(hg.block _ (Ab h.b1) (fun e=>by injection e with e;omega)).trans h.b1,Aw (o:=7) _ h.b2,h.below.grown hg h.below.size (fun g e=>by injection e with e;omega)⟩
theorem XV.kd{w W:World}{a:AH}{kd:Int}{v:Value}(h:XV w a kd v W)(k:Int):XV w a k v (W.setCell ⟨w.heap.size+1+1,0,none⟩ (.int .u8 k)):=by have hg:W.grownBy (W.setCell ⟨w.heap.size+1+1,0,none⟩ (.int .u8 k)) (some (w.heap.size+1+1)):=Ar _ _ _ _;exact⟨⟨(hg.block _ (Ab h.b0.blk) (fun e=>by injection e with e;omega)).trans h.b0.blk⟩,(hg.block _ (Ab h.b1) (fun e=>by injection e with e;omega)).trans h.b1,Aw (o:=0) _ h.b2,h.below.grown hg h.below.size (fun g e=>by injection e with e;omega)⟩
theorem WR{a:AH}{l:List PA}(hn:¬(a.kind=17/\l≠[])):DG (PA.er (.node a l))=.node (A4 a.plain) (l.map (fun x=>DG x.er)):=by
 rw [PA.er_node,H9,CS];by_cases h:a.plain.kind=17
 ·have hl:l=[]:=by
   by_cases e:l=[]
   ·exact e
   ·exact absurd ⟨h,e⟩ hn
  rw [AJ h,hl];rfl
 ·rw [AC h];rfl
theorem Sm{a:AH}{l:List PA}{k:Nat}{x:PA}(hx:l[k]?=some x):x.size<(Ad.node a l:PA).size:=by
 rw [Ad.size_node]
 have:∀(l:List PA) (k:Nat),l[k]?=some x->x.size<=(l.map Ad.size).sum:=by
  intro l;induction l with
  |nil=>intro k h;simp at h
  |cons t l ih=>
   intro k h;cases k with
   |zero=>simp at h;subst h;simp
   |succ k=>have:=ih k (by simpa using h);simp only [AV,A0];omega
 have:=this l k hx;omega
theorem Ys(a:AH)(l:List PA):l.length<(Ad.node a l:PA).size:=by
 rw [Ad.size_node]
 have:∀l:List PA,l.length<=(l.map Ad.size).sum:=by
  intro l;induction l with
  |nil=>simp
  |cons t l ih=>have:=Ad.size_pos t;simp only [Aq,AV,A0];omega
 have:=this l;omega
theorem Rt(bK:a.kind=17)(hl:LA.lies w (.node a l))(hx:l[0]?=some x)(hf:∀W,Below w.heap.size w W->Calls prog 20 #[DP x.head] W (Sz x W)):Calls prog 20 #[DP a] w (Sz (.node a l) w):=by
 obtain⟨kd,op,at_,nn,nm,ar,ex,rho,rp,rn,rc,rhos,ep,en,ec,eff,ty,res,kp,kn,kc⟩:=a;have bK:kd=17:=bK;subst bK;have HN:=AF (Gh hl);have HA:Hd (JB (w.alloc (.cells #[.int .u8 17,.int .u8 op,.int .i64 at_,.int .i64 nn,.string nm,.string ar,.string ex,.int .i64 rho,.slice rp rn rc,.slice ep en ec,.int .u8 ty.head.kind,.int .i64 ty.head.rho,.slice ty.head.ep ty.head.en ty.head.ec,.slice ty.head.kp ty.head.kn ty.head.kc,.int .u8 res.head.kind,.int .i64 res.head.rho,.slice res.head.ep res.head.en res.head.ec,.slice res.head.kp res.head.kn res.head.kc,.slice kp kn kc] 31)) w.heap.size ⟨17,op,at_,nn,nm,ar,ex,rho,rp,rn,rc,rhos,ep,en,ec,eff,ty,res,kp,kn,kc⟩):=C8 w ⟨17,op,at_,nn,nm,ar,ex,rho,rp,rn,rc,rhos,ep,en,ec,eff,ty,res,kp,kn,kc⟩;have aK:=AF ((AA w.heap.size w).alloc (AB _) (.cells #[.int .u8 17,.int .u8 op,.int .i64 at_,.int .i64 nn,.string nm,.string ar,.string ex,.int .i64 rho,.slice rp rn rc,.slice ep en ec,.int .u8 ty.head.kind,.int .i64 ty.head.rho,.slice ty.head.ep ty.head.en ty.head.ec,.slice ty.head.kp ty.head.kn ty.head.kc,.int .u8 res.head.kind,.int .i64 res.head.rho,.slice res.head.ep res.head.en res.head.ec,.slice res.head.kp res.head.kn res.head.kc,.slice kp kn kc] 31));have aU:Below (w.alloc (.cells #[.int .u8 17,.int .u8 op,.int .i64 at_,.int .i64 nn,.string nm,.string ar,.string ex,.int .i64 rho,.slice rp rn rc,.slice ep en ec,.int .u8 ty.head.kind,.int .i64 ty.head.rho,.slice ty.head.ep ty.head.en ty.head.ec,.slice ty.head.kp ty.head.kn ty.head.kc,.int .u8 res.head.kind,.int .i64 res.head.rho,.slice res.head.ep res.head.en res.head.ec,.slice res.head.kp res.head.kn res.head.kc,.slice kp kn kc] 31)).heap.size (w.alloc (.cells #[.int .u8 17,.int .u8 op,.int .i64 at_,.int .i64 nn,.string nm,.string ar,.string ex,.int .i64 rho,.slice rp rn rc,.slice ep en ec,.int .u8 ty.head.kind,.int .i64 ty.head.rho,.slice ty.head.ep ty.head.en ty.head.ec,.slice ty.head.kp ty.head.kn ty.head.kc,.int .u8 res.head.kind,.int .i64 res.head.rho,.slice res.head.ep res.head.en res.head.ec,.slice res.head.kp res.head.kn res.head.kc,.slice kp kn kc] 31)) ((w.alloc (.cells #[.int .u8 17,.int .u8 op,.int .i64 at_,.int .i64 nn,.string nm,.string ar,.string ex,.int .i64 rho,.slice rp rn rc,.slice ep en ec,.int .u8 ty.head.kind,.int .i64 ty.head.rho,.slice ty.head.ep ty.head.en ty.head.ec,.slice ty.head.kp ty.head.kn ty.head.kc,.int .u8 res.head.kind,.int .i64 res.head.rho,.slice res.head.ep res.head.en res.head.ec,.slice res.head.kp res.head.kn res.head.kc,.slice kp kn kc] 31)).alloc (.cells #[.int .u8 0,.int .u8 0,.int .i64 0,.int .i64 0,.string ⟨#[]⟩,.string ⟨#[]⟩,.string ⟨#[]⟩,.slice none 0 0] 53)):=bA;have iC:=AF (HA.o.below aU);have aF:=AF (aK.o.alloc aK.o.size (.cells #[.int .u8 0,.int .u8 0,.int .i64 0,.int .i64 0,.string ⟨#[]⟩,.string ⟨#[]⟩,.string ⟨#[]⟩,.slice none 0 0] 53));have aa:=AG (w.alloc (.cells #[.int .u8 17,.int .u8 op,.int .i64 at_,.int .i64 nn,.string nm,.string ar,.string ex,.int .i64 rho,.slice rp rn rc,.slice ep en ec,.int .u8 ty.head.kind,.int .i64 ty.head.rho,.slice ty.head.ep ty.head.en ty.head.ec,.slice ty.head.kp ty.head.kn ty.head.kc,.int .u8 res.head.kind,.int .i64 res.head.rho,.slice res.head.ep res.head.en res.head.ec,.slice res.head.kp res.head.kn res.head.kc,.slice kp kn kc] 31)) (.cells #[.int .u8 0,.int .u8 0,.int .i64 0,.int .i64 0,.string ⟨#[]⟩,.string ⟨#[]⟩,.string ⟨#[]⟩,.slice none 0 0] 53);rw [AN] at aa;have dD:=AF aa;have HF:=AF hf;clear aU aa hf;show Calls _ _ #[.agg #[.int .u8 17,.int .u8 op,.int .i64 at_,.int .i64 nn,.string nm,.string ar,.string ex,.int .i64 rho,.slice rp rn rc,.slice ep en ec,.int .u8 ty.head.kind,.int .i64 ty.head.rho,.slice ty.head.ep ty.head.en ty.head.ec,.slice ty.head.kp ty.head.kn ty.head.kc,.int .u8 res.head.kind,.int .i64 res.head.rho,.slice res.head.ep res.head.en res.head.ec,.slice res.head.kp res.head.kn res.head.kc,.slice kp kn kc]] w _;go_enter func20,ntmps20;go_upto_region 1 with fail;generalize (w.alloc (.cells #[.int .u8 17,.int .u8 op,.int .i64 at_,.int .i64 nn,.string nm,.string ar,.string ex,.int .i64 rho,.slice rp rn rc,.slice ep en ec,.int .u8 ty.head.kind,.int .i64 ty.head.rho,.slice ty.head.ep ty.head.en ty.head.ec,.slice ty.head.kp ty.head.kn ty.head.kc,.int .u8 res.head.kind,.int .i64 res.head.rho,.slice res.head.ep res.head.en res.head.ec,.slice res.head.kp res.head.kn res.head.kc,.slice kp kn kc] 31)).alloc (.cells #[.int .u8 0,.int .u8 0,.int .i64 0,.int .i64 0,.string ⟨#[]⟩,.string ⟨#[]⟩,.string ⟨#[]⟩,.slice none 0 0] 53)=W at *
 have aJ:l.length=kn:=HN.o.kids.len;have aG:=DI hx;have c0:W.cell? ⟨w.heap.size,0,none⟩=some (.int .u8 17):=by exact iC.o.c 0 _ rfl
 have c18:W.cell? ⟨w.heap.size,18,none⟩=some (.slice kp kn kc):=iC.o.c 18 _ rfl;have gK:decide ((0:Nat)<kn)=true:=by simp;omega
 have vA:decide ((0:Int)<(kn:Int))=true:=by simp;omega
 obtain⟨b,o,bV,bB,am⟩:=(HN.o.rowT.below aF.o).kid hx;have bV:kp=some ⟨b,o,none⟩:=bV;rw [bV] at c18;have dc:Hd (W.rangeAt b o [.int .u8 x.head.kind,.int .u8 x.head.op,.int .i64 x.head.at_,.int .i64 x.head.n,.string x.head.name,.string x.head.arg,.string x.head.exn,.int .i64 x.head.rho,.slice x.head.rp x.head.rn x.head.rc,.slice x.head.ep x.head.en x.head.ec,.int .u8 x.head.ty.head.kind,.int .i64 x.head.ty.head.rho,.slice x.head.ty.head.ep x.head.ty.head.en x.head.ty.head.ec,.slice x.head.ty.head.kp x.head.ty.head.kn x.head.ty.head.kc,.int .u8 x.head.res.head.kind,.int .i64 x.head.res.head.rho,.slice x.head.res.head.ep x.head.res.head.en x.head.res.head.ec,.slice x.head.res.head.kp x.head.res.head.kn x.head.res.head.kc,.slice x.head.kp x.head.kn x.head.kc]):=fun i u hu=>by have h:=am.c i u hu;rw [Nat.zero_mul,Bd] at h;exact h
 have HX:=AF hx;have HI:(0:Int)<(kn:Int):=by omega
 clear aJ aG bB am bV;go_upto_region 2 with fail
 go_wp2_with (first
  |(refine VD dc.o underlying31 ?_)
  |(refine lmg [.int .u8 x.head.kind,.int .u8 x.head.op,.int .i64 x.head.at_,.int .i64 x.head.n,.string x.head.name,.string x.head.arg,.string x.head.exn,.int .i64 x.head.rho,.slice x.head.rp x.head.rn x.head.rc,.slice x.head.ep x.head.en x.head.ec,.int .u8 x.head.ty.head.kind,.int .i64 x.head.ty.head.rho,.slice x.head.ty.head.ep x.head.ty.head.en x.head.ty.head.ec,.slice x.head.ty.head.kp x.head.ty.head.kn x.head.ty.head.kc,.int .u8 x.head.res.head.kind,.int .i64 x.head.res.head.rho,.slice x.head.res.head.ep x.head.res.head.en x.head.res.head.ec,.slice x.head.res.head.kp x.head.res.head.kn x.head.res.head.kc,.slice x.head.kp x.head.kn x.head.kc] (by rw [Nat.zero_mul,Bd];exact dc.o) underlying31 ?_)
  |(go_at_call 20;refine(HF.o W aF.o).mono ?_;rintro e w5 ⟨y,rfl,j3,jX,hb⟩;have mF:=AF j3;have vj:=AF jX;have gR:=AF ((hb.block _ (Ab dD.o)).trans dD.o);have aw:=bt aF hb;clear j3 jX hb)
  |(refine K7 gR.o ?_))
 refine br (AL _ _ _ _ _ _ gR.o) underlying53 ?_;have hg:=AU w5 (w.heap.size+1) (cTa y.head);have bX:=aw.o.grown hg aw.o.size (fun g e=>by injection e with e;omega);refine⟨y,rfl,KJ.lies_mono (fun g _ hu aG=>hu (Ak aG aF.o.size)) y (KJ.lies_keep (BD.grown hg (fun g e hu=>by injection e with e;subst e;exact hu (Ab dD.o))) y mF.o),?_,bX⟩;rw [vj.o,PA.er_node,H9,AJ (show (AH.plain ⟨17,op,at_,nn,nm,ar,ex,rho,rp,rn,rc,rhos,ep,en,ec,eff,ty,res,kp,kn,kc⟩).kind=17 from rfl),AX,A7,A7,HX.o];rfl
theorem Og{a:AH}{l:List PA}{w0:World}(hn:¬(a.kind=17/\l≠[]))(hl:LA.lies w0 (.node a l))(hz:(Ad.node a l:PA).size<=1000)(ih:∀x∈l,ZZ x):Calls prog 20 #[DP a] w0 (Sz (.node a l) w0):=by
 have HN:=AF (Gh hl);have HA:Hd (JB (w0.alloc (.cells #[.int .u8 a.kind,.int .u8 a.op,.int .i64 a.at_,.int .i64 a.n,.string a.name,.string a.arg,.string a.exn,.int .i64 a.rho,.slice a.rp a.rn a.rc,.slice a.ep a.en a.ec,.int .u8 a.ty.head.kind,.int .i64 a.ty.head.rho,.slice a.ty.head.ep a.ty.head.en a.ty.head.ec,.slice a.ty.head.kp a.ty.head.kn a.ty.head.kc,.int .u8 a.res.head.kind,.int .i64 a.res.head.rho,.slice a.res.head.ep a.res.head.en a.res.head.ec,.slice a.res.head.kp a.res.head.kn a.res.head.kc,.slice a.kp a.kn a.kc] 31)) w0.heap.size a):=C8 w0 a;have aK:=AF ((AA w0.heap.size w0).alloc (AB _) (.cells #[.int .u8 a.kind,.int .u8 a.op,.int .i64 a.at_,.int .i64 a.n,.string a.name,.string a.arg,.string a.exn,.int .i64 a.rho,.slice a.rp a.rn a.rc,.slice a.ep a.en a.ec,.int .u8 a.ty.head.kind,.int .i64 a.ty.head.rho,.slice a.ty.head.ep a.ty.head.en a.ty.head.ec,.slice a.ty.head.kp a.ty.head.kn a.ty.head.kc,.int .u8 a.res.head.kind,.int .i64 a.res.head.rho,.slice a.res.head.ep a.res.head.en a.res.head.ec,.slice a.res.head.kp a.res.head.kn a.res.head.kc,.slice a.kp a.kn a.kc] 31));have aU:Below (w0.alloc (.cells #[.int .u8 a.kind,.int .u8 a.op,.int .i64 a.at_,.int .i64 a.n,.string a.name,.string a.arg,.string a.exn,.int .i64 a.rho,.slice a.rp a.rn a.rc,.slice a.ep a.en a.ec,.int .u8 a.ty.head.kind,.int .i64 a.ty.head.rho,.slice a.ty.head.ep a.ty.head.en a.ty.head.ec,.slice a.ty.head.kp a.ty.head.kn a.ty.head.kc,.int .u8 a.res.head.kind,.int .i64 a.res.head.rho,.slice a.res.head.ep a.res.head.en a.res.head.ec,.slice a.res.head.kp a.res.head.kn a.res.head.kc,.slice a.kp a.kn a.kc] 31)).heap.size (w0.alloc (.cells #[.int .u8 a.kind,.int .u8 a.op,.int .i64 a.at_,.int .i64 a.n,.string a.name,.string a.arg,.string a.exn,.int .i64 a.rho,.slice a.rp a.rn a.rc,.slice a.ep a.en a.ec,.int .u8 a.ty.head.kind,.int .i64 a.ty.head.rho,.slice a.ty.head.ep a.ty.head.en a.ty.head.ec,.slice a.ty.head.kp a.ty.head.kn a.ty.head.kc,.int .u8 a.res.head.kind,.int .i64 a.res.head.rho,.slice a.res.head.ep a.res.head.en a.res.head.ec,.slice a.res.head.kp a.res.head.kn a.res.head.kc,.slice a.kp a.kn a.kc] 31)) ((w0.alloc (.cells #[.int .u8 a.kind,.int .u8 a.op,.int .i64 a.at_,.int .i64 a.n,.string a.name,.string a.arg,.string a.exn,.int .i64 a.rho,.slice a.rp a.rn a.rc,.slice a.ep a.en a.ec,.int .u8 a.ty.head.kind,.int .i64 a.ty.head.rho,.slice a.ty.head.ep a.ty.head.en a.ty.head.ec,.slice a.ty.head.kp a.ty.head.kn a.ty.head.kc,.int .u8 a.res.head.kind,.int .i64 a.res.head.rho,.slice a.res.head.ep a.res.head.en a.res.head.ec,.slice a.res.head.kp a.res.head.kn a.res.head.kc,.slice a.kp a.kn a.kc] 31)).alloc (.cells #[.int .u8 0,.int .u8 0,.int .i64 0,.int .i64 0,.string ⟨#[]⟩,.string ⟨#[]⟩,.string ⟨#[]⟩,.slice none 0 0] 53)):=bA;have iC:=AF (HA.o.below aU);have aF:=AF (aK.o.alloc aK.o.size (.cells #[.int .u8 0,.int .u8 0,.int .i64 0,.int .i64 0,.string ⟨#[]⟩,.string ⟨#[]⟩,.string ⟨#[]⟩,.slice none 0 0] 53));have aa:=AG (w0.alloc (.cells #[.int .u8 a.kind,.int .u8 a.op,.int .i64 a.at_,.int .i64 a.n,.string a.name,.string a.arg,.string a.exn,.int .i64 a.rho,.slice a.rp a.rn a.rc,.slice a.ep a.en a.ec,.int .u8 a.ty.head.kind,.int .i64 a.ty.head.rho,.slice a.ty.head.ep a.ty.head.en a.ty.head.ec,.slice a.ty.head.kp a.ty.head.kn a.ty.head.kc,.int .u8 a.res.head.kind,.int .i64 a.res.head.rho,.slice a.res.head.ep a.res.head.en a.res.head.ec,.slice a.res.head.kp a.res.head.kn a.res.head.kc,.slice a.kp a.kn a.kc] 31)) (.cells #[.int .u8 0,.int .u8 0,.int .i64 0,.int .i64 0,.string ⟨#[]⟩,.string ⟨#[]⟩,.string ⟨#[]⟩,.slice none 0 0] 53);rw [AN] at aa;have dD:=AF aa;have dr:=AF ih;have HZ:=AF hz;have ax:=AF hn;have bz:Hd (((w0.alloc (.cells #[.int .u8 a.kind,.int .u8 a.op,.int .i64 a.at_,.int .i64 a.n,.string a.name,.string a.arg,.string a.exn,.int .i64 a.rho,.slice a.rp a.rn a.rc,.slice a.ep a.en a.ec,.int .u8 a.ty.head.kind,.int .i64 a.ty.head.rho,.slice a.ty.head.ep a.ty.head.en a.ty.head.ec,.slice a.ty.head.kp a.ty.head.kn a.ty.head.kc,.int .u8 a.res.head.kind,.int .i64 a.res.head.rho,.slice a.res.head.ep a.res.head.en a.res.head.ec,.slice a.res.head.kp a.res.head.kn a.res.head.kc,.slice a.kp a.kn a.kc] 31)).alloc (.cells #[.int .u8 0,.int .u8 0,.int .i64 0,.int .i64 0,.string ⟨#[]⟩,.string ⟨#[]⟩,.string ⟨#[]⟩,.slice none 0 0] 53)).heap.size=w0.heap.size+1+1):=by show _=_;simp
 clear aU aa ih hz hl;show Calls _ _ #[.agg #[.int .u8 a.kind,.int .u8 a.op,.int .i64 a.at_,.int .i64 a.n,.string a.name,.string a.arg,.string a.exn,.int .i64 a.rho,.slice a.rp a.rn a.rc,.slice a.ep a.en a.ec,.int .u8 a.ty.head.kind,.int .i64 a.ty.head.rho,.slice a.ty.head.ep a.ty.head.en a.ty.head.ec,.slice a.ty.head.kp a.ty.head.kn a.ty.head.kc,.int .u8 a.res.head.kind,.int .i64 a.res.head.rho,.slice a.res.head.ep a.res.head.en a.res.head.ec,.slice a.res.head.kp a.res.head.kn a.res.head.kc,.slice a.kp a.kn a.kc]] w0 _;go_enter func20,ntmps20;go_upto_region 1 with fail;generalize (w0.alloc (Bt a)).alloc (.cells #[.int .u8 0,.int .u8 0,.int .i64 0,.int .i64 0,.string ⟨#[]⟩,.string ⟨#[]⟩,.string ⟨#[]⟩,.slice none 0 0] 53)=W at *
 have c0:W.cell? ⟨w0.heap.size,0,none⟩=some (.int .u8 a.kind):=iC.o.c 0 _ rfl;have c18:W.cell? ⟨w0.heap.size,18,none⟩=some (.slice a.kp a.kn a.kc):=iC.o.c 18 _ rfl;go_cut [14] from 5 to 14 (fun s14 wx=>s14=.bool false/\wx=W)
 case first=>
  by_cases bK:a.kind=17
  ·have e17:(a.kind==17)=true:=by rw [A3];exact bK
   have iZ:l=[]:=by
    by_cases e:l=[]
    ·exact e
    ·exact absurd ⟨bK,e⟩ hn
   have ao:a.kn=0:=by have:=HN.o.kids.len;rw [iZ] at this;simpa using this.symm
   rw [ao] at c18;clear bK hn iZ;go_wp2_with fail;go_meet;exact⟨rfl,rfl⟩
  ·have e17:(a.kind==17)=false:=by rw [AW];exact bK
   clear bK hn;go_wp2_with fail;go_meet;exact⟨rfl,rfl⟩
 case rest=>
  obtain⟨rfl,rfl⟩:=hcut;clear hn c0 c18;go_upto_region 3 with fail;have bF:Below wc.heap.size wc (wc.alloc (.cells #[.int .u8 a.kind,.int .u8 a.op,.int .i64 a.at_,.int .i64 a.n,.string a.name,.string a.arg,.string a.exn,.slice none 0 0] 53)):=bA;have fp:Hd (XV w0 a a.kind (.slice none 0 0) (wc.alloc (.cells #[.int .u8 a.kind,.int .u8 a.op,.int .i64 a.at_,.int .i64 a.n,.string a.name,.string a.arg,.string a.exn,.slice none 0 0] 53))):=⟨iC.o.below bF,(bF.block _ (Ab dD.o)).trans dD.o,(by rw [<-bz.o];exact AG wc _),aF.o.trans (bF.mono aF.o.size)⟩;clear bF
  go_upto_region 4 with(first
   |(refine lmg [.int .u8 a.kind,.int .u8 a.op,.int .i64 a.at_,.int .i64 a.n,.string a.name,.string a.arg,.string a.exn] (KQ iC.o.blk 0 _ (by intro i v h;match i,h with|0,h=>exact h|1,h=>exact h|2,h=>exact h|3,h=>exact h|4,h=>exact h|5,h=>exact h|6,h=>exact h)) underlying23 ?_)
   |(refine sw #[.int .u8 a.kind,.int .u8 a.op,.int .i64 a.at_,.int .i64 a.n,.string a.name,.string a.arg,.string a.exn,.slice none 0 0] (C6 _ _ _ _ (by rw [<-bz.o])) ?_;rw [LQ _ _ _ _ _ (by rw [<-bz.o])]))
  have aI:=bz.o;rw [aI];clear aI;generalize wc.alloc (.cells #[.int .u8 a.kind,.int .u8 a.op,.int .i64 a.at_,.int .i64 a.n,.string a.name,.string a.arg,.string a.exn,.slice none 0 0] 53)=W3 at *
  have c0:W3.cell? ⟨w0.heap.size,0,none⟩=some (.int .u8 a.kind):=fp.o.b0.c 0 _ rfl;go_upto_if 26 with fail;clear c0;obtain⟨kd,bH⟩:∃kd,(if a.kind=18 then 2 else a.kind)=kd:=⟨_,rfl⟩;have gS:=AF bH;go_cut [] from 27 to 28 (fun wx=>XV w0 a kd (.slice none 0 0) wx)
  case first=>
   by_cases a7:a.kind=18
   ·have e18:(a.kind==18)=true:=by rw [A3];exact a7
    rw [AJ a7] at bH;subst bH;clear a7;have c1:W3.cell? ⟨w0.heap.size+1+1,0,none⟩=some (.int .u8 a.kind):=by rw [AD fp.o.b2];rfl
    have dP:W3.frozen? ⟨w0.heap.size+1+1,0,none⟩=false:=by have h:=fp.o.b2;simp [World.frozen?,h]
    go_wp2_with fail;go_meet;exact fp.o.kd 2
   ·have e18:(a.kind==18)=false:=by rw [AW];exact a7
    rw [AC a7] at bH;subst bH;clear a7;go_wp2_with fail;go_meet;exact fp.o
  case rest=>
   clear bH fp;have HE:=AF hcut;clear hcut;have c18:wc.cell? ⟨w0.heap.size,18,none⟩=some (.slice a.kp a.kn a.kc):=HE.o.b0.c 18 _ rfl;go_upto_region 7 with fail;clear c18;have fL:=HN.o.kids.max;go_loopw [32] (fun i wr=>∃(k:Nat) (q:Option Addr) (c:Nat) (ys:List Ga),k<=a.kn/\i=.int .i64 k/\XV w0 a kd (.slice q k c) wr/\KY KJ 53 Vu (w0.heap.size+3) k ys (.slice q k c) wr/\ys.map Ga.er=(l.take k).map (fun x=>DG x.er)) (fun i _=>a.kn-(intOf i).toNat)
   case atStart=>exact⟨0,none,0,[],BM _,rfl,HE.o,KY.zero,rfl⟩
   case round=>
    obtain⟨k,q,c,ys,hk,rfl,hs,hr,hy⟩:=hrel;have HS:=AF hs;have HR:=AF hr;have HY:=AF hy;clear hs hr hy;by_cases aG:k<a.kn
    ·obtain⟨x,hx⟩:=Bh (l:=l) (j:=k) (by rw [HN.o.kids.len];exact aG);obtain⟨b,o,hp,bB,am⟩:=HN.o.rowT.kid hx;have HX:=AF hx;have HP:=AF hp;have fx:Hd (∀V,Below (w0.heap.size+3) wr V->V.rangeAt b (o+k * 19) [.int .u8 x.head.kind,.int .u8 x.head.op,.int .i64 x.head.at_,.int .i64 x.head.n,.string x.head.name,.string x.head.arg,.string x.head.exn,.int .i64 x.head.rho,.slice x.head.rp x.head.rn x.head.rc,.slice x.head.ep x.head.en x.head.ec,.int .u8 x.head.ty.head.kind,.int .i64 x.head.ty.head.rho,.slice x.head.ty.head.ep x.head.ty.head.en x.head.ty.head.ec,.slice x.head.ty.head.kp x.head.ty.head.kn x.head.ty.head.kc,.int .u8 x.head.res.head.kind,.int .i64 x.head.res.head.rho,.slice x.head.res.head.ep x.head.res.head.en x.head.res.head.ec,.slice x.head.res.head.kp x.head.res.head.kn x.head.res.head.kc,.slice x.head.kp x.head.kn x.head.kc]):=by show ∀V,_;intro V hb i u hu;rw [(HS.o.step hb).below.cell (show b<w0.heap.size from bB)];exact am.c i u hu
     have jv:Hd (∀V,Below (w0.heap.size+3) wr V->V.cell? ⟨w0.heap.size,18,none⟩=some (.slice (some ⟨b,o,none⟩) a.kn a.kc)):=fun V hb=>by rw [<-HP.o];exact(HS.o.step hb).b0.c 18 _ rfl
     have lK:k<=1000:=by have h1:=HZ.o;have h2:=HN.o.kids.len;have h3:=Ys a l;omega
     have et:=AF HS.o.size;clear hx hp bB am;go_upto_region 9 with fail;refine uR (fun W'=>Below (w0.heap.size+3) wr W') 11 ((At wr).mono et.o) fun aA=>?_;refine up 0 35 ?_;refine up 1 36 ?_ (hy:=fun w aB=>by(try dsimp only at aB);have hq:=(HS.o.step aB).b2;have c1:w.cell? ⟨w0.heap.size+1+1,7,none⟩=some (.slice q k c):=(by rw [AD hq];rfl);go_simp;try with_reducible rfl);refine up 2 37 ?_;refine up 3 38 ?_ (hy:=fun w aB=>by(try dsimp only at aB);have c2:=jv.o w aB;go_simp;try with_reducible rfl);refine up 4 39 ?_;refine up 5 40 ?_;refine KW 6 41 (fun W' aB=>fx.o W' aB) underlying31 ?_;refine ur 7 fun K hK=>?_;go_simp;go_at_call 20;refine(dr.o x (AE HX.o) _ (LA.lies_below (HS.o.below.trans (aA.mono (by omega))) _ (HN.o.each x (AE HX.o))) (by have h1:=HZ.o;have h3:=Sm (a:=a) HX.o;omega)).mono ?_;rintro e w7 ⟨y,rfl,pv,pu,hb⟩;have mS:=AF pv;have nM:=AF pu;have az:=AF (An (At wr) hb);clear hb pv pu;try go_wp2_with fail
     refine un hK (az.o.mono et.o) ?_;clear aA hK K;intro aA;refine ur 8 fun K hK=>?_;go_simp;have bS:=AF (Bo V3 (by omega) w7 53 [y] 1 (cTa y.head) rfl rfl (by decide));have mJ:=AF (Cm (HR.o.own.below az.o) (.cells (cTa y.head) 53));have fa:=AF (Ay az.o (.cells (cTa y.head) 53));refine un hK (fa.o.mono et.o) ?_;clear aA hK K;intro aA;refine ur 9 fun K hK=>?_;have aI:w0.heap.size+3<=(w7.alloc (.cells (cTa y.head) 53)).heap.size:=AM et.o fa.o.size;refine CB (by rfl) _ _ 51 (by rfl) (w0.heap.size+3) 53 _ 8 96 underlying51 Xl rfl (by decide) KJ.encT V3 ZCy [y] ys k _ mJ.o _ 1 _ (by rfl) (by rfl) rfl (by intro h;cases h) bS.o.row (by omega) (by omega) aI ?_;intro v9 w9 dH gD jZ;obtain⟨q9,c9,po,_⟩:=A1.isRow V3 (by omega) dH;subst po;have kM:=AF ((HR.o.below fa.o).next (KY.come (Wc:=wr.drew) (fun g e=>(HR.o.lt e).2) et.o (KJ.lies_mono (fun g _ h aG=>(h aG).elim) _ (KJ.lies_keep (BD.of (Ay (AA _ w7) (.cells (cTa y.head) 53))) _ mS.o))) dH gD jZ);have ba:=AF (Below.own aA gD aI mJ.o);clear aI dH gD jZ;refine un hK (ba.o) ?_;clear aA hK K;intro aA;refine up 10 45 ?_;refine ul fun K hK=>?_;have dA:=(HS.o.step ba.o).b2;have c1:w9.cell? ⟨w0.heap.size+1+1,7,none⟩=some (.slice q k c):=by rw [AD dA];rfl
     have dP:w9.frozen? ⟨w0.heap.size+1+1,7,none⟩=false:=by simp [World.frozen?,dA]
     clear dA;go_simp;clear c1 dP;refine uz hK ?_;clear aA hK K;refine uD ?_;have vf:=AF ((HS.o.step ba.o).row (.slice q9 (k+1) c9));have mL:=AF (kM.o.other (Ar w9 (w0.heap.size+1+1) 7 (.slice q9 (k+1) c9)) (by omega) (fun h=>h));clear kM ba mJ fa;generalize w9.setCell ⟨w0.heap.size+1+1,7,none⟩ (.slice q9 (k+1) c9)=W9 at *
     go_wp2_with fail;go_roundw
     case rel=>exact⟨k+1,q9,c9,_,by omega,by go_num,vf.o,mL.o,by rw [Ah,HY.o,BG HX.o,Ah,AV,Am,AV,Am,nM.o]⟩
     case measure=>simp [intOf];omega
    ·have ai:k=a.kn:=by omega
     have dJ:=AF ai;clear ai;go_upto_region 11 with fail
     go_wp2_with (first
      |(refine lw HS.o.b2 underlying53 ?_)
      |(refine sw #[.int .u8 kd,.int .u8 a.op,.int .i64 a.at_,.int .i64 a.n,.string a.name,.string a.arg,.string a.exn,.slice q k c] HS.o.b1 ?_))
     refine br (AL _ _ _ _ _ _ HS.o.b1) underlying53 ?_;have hg:wr.grownBy (wr.setRow (w0.heap.size+1) #[.int .u8 kd,.int .u8 a.op,.int .i64 a.at_,.int .i64 a.n,.string a.name,.string a.arg,.string a.exn,.slice q k c]) (some (w0.heap.size+1)):=AU _ _ _;obtain⟨r1,r2⟩:=KY.out (HR.o.other hg (by omega) (fun h=>h)) (U:=Vu) (w:=w0) (by decide) (fun g _ h=>h.elim) (by omega);have bH:=gS.o;have ho:=HN.o.own;refine⟨.node ⟨⟨kd,a.op,a.at_,a.n,a.name,a.arg,a.exn⟩,q,k,c⟩ ys,rfl,?_,?_,HS.o.below.grown hg HS.o.below.size (fun g e=>by injection e with e;omega)⟩
     ·rw [FY.lies_node];refine⟨?_,r1,r2⟩;have h0:=ho.k0;have h1:=ho.k1;exact⟨by show 0<=kd;rw [<-bH];split<;>omega,by show kd<=255;rw [<-bH];split<;>omega,ho.o0,ho.o1,ho.at_,ho.n,ho.name,ho.arg,ho.exn⟩
     ·have hy:=HY.o;rw [BU (show l.length<=k by rw [HN.o.kids.len,dJ.o];exact AB _)] at hy;rw [WR ax.o,Ga.er_node,hy,<-bH];rfl
theorem Pb(t:PA):ZZ t:=by
 refine Ad.ind (P:=fun(t:PA)=>ZZ t) (fun a l ih=>?_) t;intro w hl hz;by_cases h:a.kind=17/\l≠[]
 ·obtain⟨x,hx⟩:∃x,l[0]?=some x:=by
   match l,h.2 with
   |x::_,_=>exact⟨x,rfl⟩
  have hm:=AE hx;have qe:LA.lies w x:=(Gh hl).each x hm;exact Rt h.1 hl hx (fun W hb=>ih x hm W (LA.lies_below hb _ qe) (by have:=Sm (a:=a) hx;omega))
 ·exact Og h hl hz ih
end Go.Proofs.YtkdjnegfnhldpaaGreatDoor
