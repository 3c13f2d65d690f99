/- Part 17. -/
import Derived.Test.YtkdjnegfnhldpaaGreatDoorK16
set_option linter.unusedVariables false
set_option maxRecDepth 100000
set_option linter.unusedSimpArgs false
set_option maxHeartbeats 40000000
set_option autoImplicit true
set_option relaxedAutoImplicit true
namespace Go.Proofs.YtkdjnegfnhldpaaGreatDoor
open Go.Proofs.Tryz Go.RowKit
structure ZX(w:World)(a:AH)(g:Nat)(y:RV)(W:World):Prop where
 ch:Vy w a W
 t:W.heap[g]?=some (.cells (FV y) 81 (0,0))
 g5:w.heap.size+5<=g
theorem ZX.step(h:ZX w a g y W)(hb:Below W.heap.size W W'):ZX w a g y W':=⟨h.ch.step hb,(hb.block _ (Ab h.t)).trans h.t,h.g5⟩
theorem ZX.w1(h:ZX w a g y W)(hc:cs.size=4):ZX w a g y (W.setRow (w.heap.size+1) cs):=⟨h.ch.w1 hc,(AR _ _ _ _ (by have:=h.g5;omega)).trans h.t,h.g5⟩
theorem ZX.set(h:ZX w a g y W)(hb:b=w.heap.size+1+1\/b=w.heap.size+1+1+1\/b=w.heap.size+1+1+1+1)(v:Value):ZX w a g y (W.setCell ⟨b,0,none⟩ v):=⟨h.ch.wset hb v,((Ar W b 0 v).block _ (Ab h.t) (fun e=>by have:=h.g5;injection e with e;omega)).trans h.t,h.g5⟩
theorem YM(hl:LA.lies w (.node a l))(hs:Ef (.node a l))(hz:(Ad.node a l).size<=1000)(hv:Vr w)(hm:Kz (.node a l)=true)(it:Jb (PA.er (.node a l))=none)(hr:chk [] [0] (PA.er (.node a l))=.error (z,no)):Calls prog 12 #[DP a] w fun e w'=>Lb (.error (z,no)) e w'/\Below w.heap.size w w':=by
 have HX:=AF (Pm w a);have HO:=AF (Na w a);have HL:=AF hl;have HS:=AF hs;have HV:=AF hv;have HZ:=AF hz;have sZ:∀(fn:Fn) (first cap:Array Value) (w:World),(Instr.makeFunc fn first cap).run prog w=.ok (.func fn first cap) w:=fun _ _ _ _=>rfl;clear hl hs hv hz;have mT:=AF (Xf w a);have HM:=AF hm;have lf:=AF it;have HG:=AF (Lq _ HL.o HS.o hm);have HR:=AF hr;clear hm it hr;go_enter_defers func12,ntmps12;go_upto_region 1 with fail;generalize (((((w.alloc (Bt a)).alloc (.cells #[.int .u8 0,.int .i64 0,.slice none 0 0,.slice none 0 0] 28)).alloc (.cells #[.slice none 0 0] 25)).alloc (.cells #[.int .i64 0] 3)).alloc (.cells #[.int .i64 0] 34))=W1 at *
 go_upto_region 7 with(first
  |(refine lw HX.o.box.blk underlying31 ?_)
  |(refine lw aQ.o.box.blk underlying31 ?_)
  |(go_at_call 35;refine(It (Ad.node a l) (LA.lies_below HX.o.below _ HL.o) HS.o HZ.o (HV.o.below HX.o.below)).mono ?_;rw [HM.o];rintro e w2 ⟨rfl,hb⟩;have aQ:=AF (HX.o.step hb);have nN:=AF (mT.o.step hb);have af:=AF ((hb.block _ (Ab HO.o)).trans HO.o);clear hb)
  |(go_at_call 36;refine(JD (t:=Ad.node a l) (LA.lies_below aQ.o.below _ HL.o) HS.o HZ.o).mono ?_;rw [lf.o];rintro e w3 ⟨he,hb⟩;obtain rfl:=he;have bC:=AF (aQ.o.step hb);have tf:=AF (nN.o.step hb);have iG:=AF ((hb.block _ (Ab af.o)).trans af.o);clear hb))
 have pz:Hd (IE w (w3.alloc (.cells #[.int .i64 0] 3)) (fun b=>b<w.heap.size\/w.heap.size+5<=b) (.node a l) none (some ⟨w3.heap.size,0,none⟩) 0 0 1 1 [] [0]):=by have hb:=bC.o.below.alloc bC.o.below.size (.cells #[.int .i64 0] 3);have aI:=bC.o.size;have hz:=HZ.o;exact⟨hb,HL.o,HS.o,HG.o,⟨Ax.none _ _ _,fun b hb=>by cases hb⟩,Bo DR (by omega) w3 3 [0] 1 _ rfl rfl (by decide),O1,fun b hb=>.inl hb,fun b hb=>.inr (by simp only [AN] at hb;omega),by omega,by omega,by omega⟩
 have mQ:=AF (bC.o.step ((AA _ _).alloc (AB _) (.cells #[.int .i64 0] 3)));have kt:=AF (Qr (w0:=w) (.node a l) _ _ _ _ _ _ _ _ _ _ pz.o)
 go_wp2_with (first
  |(refine lw mQ.o.box.blk underlying31 ?_))
 go_at_call 38;refine kt.o.mono ?_;rw [show Gg []=[] from rfl,HR.o];rintro e w4 ⟨he,hb⟩;subst he;have cy:=AF ((bC.o.step ((AA _ _).alloc (AB _) (.cells #[.int .i64 0] 3))).step hb);show bodyPostD prog f12 _ (Exit.panic _) _ _;unfold bodyPostD;refine leaves_cons (f:=37) (args:=#[.pointer (some ⟨w.heap.size+1,0,none⟩),.pointer (some ⟨w.heap.size+1+1,0,none⟩),.pointer (some ⟨w.heap.size+1+1+1,0,none⟩),.pointer (some ⟨w.heap.size+1+1+1+1,0,none⟩)]) (by simp) (by simp [go_sem]) ?_;refine(TM [] cy.o).mono ?_;rintro e u' w5 ⟨rfl,rfl,hR⟩;obtain⟨r1,r2,r3,r4⟩:=hR.res rfl;have r10:=r1 0 _ rfl;have r11:=r1 1 _ rfl;have r12:=r1 2 _ rfl;have r13:=r1 3 _ rfl;clear r1;have HB:=AF hR.below;simp [Leaves,settle,results,results12,go_sem,r10,r11,r12,r13,r2,r3,r4];exact⟨rfl,HB.o⟩
theorem Z4(hl:LA.lies w (.node a l))(hs:Ef (.node a l))(hz:(Ad.node a l).size<=1000)(hv:Vr w)(hm:Kz (.node a l)=true)(it:Jb (PA.er (.node a l))=none)(hr:chk [] [0] (PA.er (.node a l))=.ok x):Calls prog 12 #[DP a] w fun e w'=>Lb (.ok x) e w'/\Below w.heap.size w w':=by
 have HX:=AF (Pm w a);have HO:=AF (Na w a);have HL:=AF hl;have HS:=AF hs;have HV:=AF hv;have HZ:=AF hz;have sZ:∀(fn:Fn) (first cap:Array Value) (w:World),(Instr.makeFunc fn first cap).run prog w=.ok (.func fn first cap) w:=fun _ _ _ _=>rfl;clear hl hs hv hz;have mT:=AF (Xf w a);have HM:=AF hm;have lf:=AF it;have HG:=AF (Lq _ HL.o HS.o hm);have HR:=AF hr;clear hm it hr;have iL:=QI _ _ _ _ HG.o (fun b hb=>by cases hb) HR.o;have ld:=QK _ HR.o;have tN:=AF iL;clear iL;go_enter_defers func12,ntmps12;go_upto_region 1 with fail;generalize (((((w.alloc (Bt a)).alloc (.cells #[.int .u8 0,.int .i64 0,.slice none 0 0,.slice none 0 0] 28)).alloc (.cells #[.slice none 0 0] 25)).alloc (.cells #[.int .i64 0] 3)).alloc (.cells #[.int .i64 0] 34))=W1 at *
 go_upto_region 7 with(first
  |(refine lw HX.o.box.blk underlying31 ?_)
  |(refine lw aQ.o.box.blk underlying31 ?_)
  |(go_at_call 35;refine(It (Ad.node a l) (LA.lies_below HX.o.below _ HL.o) HS.o HZ.o (HV.o.below HX.o.below)).mono ?_;rw [HM.o];rintro e w2 ⟨rfl,hb⟩;have aQ:=AF (HX.o.step hb);have nN:=AF (mT.o.step hb);have af:=AF ((hb.block _ (Ab HO.o)).trans HO.o);clear hb)
  |(go_at_call 36;refine(JD (t:=Ad.node a l) (LA.lies_below aQ.o.below _ HL.o) HS.o HZ.o).mono ?_;rw [lf.o];rintro e w3 ⟨he,hb⟩;obtain rfl:=he;have bC:=AF (aQ.o.step hb);have tf:=AF (nN.o.step hb);have iG:=AF ((hb.block _ (Ab af.o)).trans af.o);clear hb))
 have pz:Hd (IE w (w3.alloc (.cells #[.int .i64 0] 3)) (fun b=>b<w.heap.size\/w.heap.size+5<=b) (.node a l) none (some ⟨w3.heap.size,0,none⟩) 0 0 1 1 [] [0]):=by have hb:=bC.o.below.alloc bC.o.below.size (.cells #[.int .i64 0] 3);have aI:=bC.o.size;have hz:=HZ.o;exact⟨hb,HL.o,HS.o,HG.o,⟨Ax.none _ _ _,fun b hb=>by cases hb⟩,Bo DR (by omega) w3 3 [0] 1 _ rfl rfl (by decide),O1,fun b hb=>.inl hb,fun b hb=>.inr (by simp only [AN] at hb;omega),by omega,by omega,by omega⟩
 have mQ:=AF (bC.o.step ((AA _ _).alloc (AB _) (.cells #[.int .i64 0] 3)));have kt:=AF (Qr (w0:=w) (.node a l) _ _ _ _ _ _ _ _ _ _ pz.o)
 go_wp2_with (first
  |(refine lw mQ.o.box.blk underlying31 ?_)
  |(go_at_call 38;refine kt.o.mono ?_;rw [show Gg []=[] from rfl,HR.o];rintro e W9 ⟨he,hb⟩;obtain⟨y,rfl,gP,hy⟩:=he;have aY:=AF ((bC.o.step ((AA _ _).alloc (AB _) (.cells #[.int .i64 0] 3))).step hb);have fy:=AF ((tf.o.step ((AA _ _).alloc (AB _) (.cells #[.int .i64 0] 3))).step hb);have HY:=AF hy;have jR:=AF gP;have cw:=AF (AG W9 (.cells #[.int .u8 0,.int .i64 0,.slice none 0 0,.slice none 0 0,.slice none 0 0] 81));clear hy gP hb)
  |(refine sw (FV y) cw.o ?_;rw [Av]))
 have dM:Below W9.heap.size W9 (W9.alloc (.cells (FV y) 81)):=bA;have HT:Hd (ZX w a W9.heap.size y (W9.alloc (.cells (FV y) 81))):=⟨aY.o.step dM,AG W9 _,aY.o.size⟩;have wg:=AF (fy.o.step dM);have mR:=AF (HY.o.below dM);obtain⟨g,hg⟩:∃g,W9.heap.size=g:=⟨_,rfl⟩;rw [hg] at HT ⊢;generalize (W9.alloc (.cells (FV y) 81))=W6 at *
 clear hg dM cw HY aY fy kt pz;have qh:PT.er y.ty=x.1:=by rw [<-jR.o];rfl
 have wd:=AF qh;have gY:Hd (∀W',Below W6.heap.size W6 W'->Lf W6.heap.size none 0 0 [] none 0 0 [] y.ty W'):=fun W' hb=>NM ⟨Ax.none _ _ _,Ax.none _ _ _,by decide,by decide,fun z hz=>(nomatch hz)⟩ y.ty mR.o.ty (by rw [qh];exact tN.o.effs) (by have h1:=ld;rw [<-qh,MN] at h1;omega) W' hb;clear qh ld;go_upto_region 8 with fail;refine wp_region_noPanic ?_;refine rg (fun W'=>ZX w a g y W') (HT.o.step (At W6)) fun aA=>?_;refine tp 0 27 ?_;refine t4 1 28 y.ty g 0 (fun W' aB=>K1 aB.t _ (by intro i v hv;match i,hv with|0,hv=>exact hv|1,hv=>exact hv|2,hv=>exact hv|3,hv=>exact hv)) ?_;refine tp 3 30 ?_;refine tp 4 31 ?_ (hy:=fun w aB=>by(try dsimp only at aB);have q4:w.cell? ⟨g,4,none⟩=some (.slice y.ep y.en y.ec):=(by rw [AD aB.t];rfl);go_simp;try with_reducible rfl);refine tr 2 29 fun K hK=>?_;go_simp;have jk:=aA.ch.size;go_at_call 39;refine(gY.o _ (At W6)).mono ?_;rintro e w5 ⟨⟨y2,rfl,ia,cT,nT⟩,hb⟩;have nL:Hd (∀b∈Dy y2,b≠w.heap.size+1/\b≠w.heap.size+1+1/\b≠w.heap.size+1+1+1/\b≠w.heap.size+1+1+1+1):=ZBi (wg.o.step (An (At W6) hb)) jk y2 ia cT;have gi:=AF ia;have fo:=AF nT;have aw:=AF (An (At W6) hb);have du:=AF (aA.ch.step hb);clear ia cT nT jk;try go_wp2_with fail
 refine tn hK (aA.step hb) ?_;clear aA hK K;intro aA;refine Fo 5 fun K hK=>?_;refine N4 (by rfl) _ _ _ (by rfl) aA.ch.o #[.int .u8 y2.head.kind,.int .i64 y2.head.rho,.slice y2.head.ep y2.head.en y2.head.ec,.slice y2.head.kp y2.head.kn y2.head.kc] (by rfl) (by rfl) rfl (by simp [Value.oneCell']) (by kernel_rfl) ?_;refine tn hK (aA.w1 rfl) ?_;clear aA hK K;intro aA;refine Fo 6 fun K hK=>?_;obtain⟨v2,fX⟩:=aA.ch.m;obtain⟨q2,f2⟩:=Jd fX;clear fX;go_simp;clear q2 f2;refine tn hK (aA.set (.inl rfl) _) ?_;clear aA hK K;intro aA;refine Fo 7 fun K hK=>?_;obtain⟨v3,nj⟩:=aA.ch.at_;obtain⟨q3,f3⟩:=Jd nj;clear nj;go_simp;clear q3 f3;refine tn hK (aA.set (.inr (.inl rfl)) _) ?_;clear aA hK K;intro aA;refine Fo 8 fun K hK=>?_;obtain⟨v4,nk⟩:=aA.ch.e;obtain⟨q4,f4⟩:=Jd nk;clear nk;go_simp;clear q4 f4;refine tn hK (aA.set (.inr (.inr rfl)) _) ?_;clear aA hK K;intro aA;refine dn ?_;refine NoPanic.normal ?_;clear aA;go_wp2_with fail;have co:=AF (du.o.fill (cs:=#[.int .u8 y2.head.kind,.int .i64 y2.head.rho,.slice y2.head.ep y2.head.en y2.head.ec,.slice y2.head.kp y2.head.kn y2.head.kc]) rfl (.slice y.ep y.en y.ec) (.int .i64 0) (.int .i64 0));show bodyPostD prog f12 _ _ _ _;unfold bodyPostD;refine leaves_cons (f:=37) (args:=#[.pointer (some ⟨w.heap.size+1,0,none⟩),.pointer (some ⟨w.heap.size+1+1,0,none⟩),.pointer (some ⟨w.heap.size+1+1+1,0,none⟩),.pointer (some ⟨w.heap.size+1+1+1+1,0,none⟩)]) (by simp) (by simp [go_sem]) ?_;refine(Ug _ ⟨_,_,_,_,rfl⟩ _).mono ?_;rintro e u' w6 ⟨rfl,rfl,rfl⟩;obtain⟨r1,r2,r3,r4⟩:=co.o.res rfl;have r10:=r1 0 _ rfl;have r11:=r1 1 _ rfl;have r12:=r1 2 _ rfl;have r13:=r1 3 _ rfl;clear r1;have lN:=GN (Ar _ (w.heap.size+1+1+1+1) 0 (.int .i64 0)) y2 (fun b hb e=>by cases e;exact(nL.o _ hb).2.2.2 rfl) (GN (Ar _ (w.heap.size+1+1+1) 0 (.int .i64 0)) y2 (fun b hb e=>by cases e;exact(nL.o _ hb).2.2.1 rfl) (GN (Ar _ (w.heap.size+1+1) 0 (.slice y.ep y.en y.ec)) y2 (fun b hb e=>by cases e;exact(nL.o _ hb).2.1 rfl) (GN (FC (W:=w5) (r:=w.heap.size+1) (cs:=#[.int .u8 y2.head.kind,.int .i64 y2.head.rho,.slice y2.head.ep y2.head.en y2.head.ec,.slice y2.head.kp y2.head.kn y2.head.kc])) y2 (fun b hb e=>by cases e;exact(nL.o _ hb).1 rfl) gi.o)));have aC:∀{W W':World} {r:Nat},(r=w.heap.size+1\/r=w.heap.size+1+1\/r=w.heap.size+1+1+1\/r=w.heap.size+1+1+1+1)->W.grownBy W' (some r)->Ax Ce 3 W y.ep y.en y.ec y.eff->Ax Ce 3 W' y.ep y.en y.ec y.eff:=fun hr hg h=>JR h hg (fun aM ad hp=>by have h6:=mR.o.euse aM ad hp;have h7:ad.block<w.heap.size\/w.heap.size+5<=ad.block:=h6;omega);have dU:=aC (.inr (.inr (.inr rfl))) (Ar _ _ 0 (.int .i64 0)) (aC (.inr (.inr (.inl rfl))) (Ar _ _ 0 (.int .i64 0)) (aC (.inr (.inl rfl)) (Ar _ _ 0 (.slice y.ep y.en y.ec)) (aC (.inl rfl) (FC (W:=w5) (cs:=#[.int .u8 y2.head.kind,.int .i64 y2.head.rho,.slice y2.head.ep y2.head.en y2.head.ec,.slice y2.head.kp y2.head.kn y2.head.kc])) (mR.o.eff.below aw.o))));have HB:=AF co.o.below;have vw:=AF lN;have kM:=AF dU;clear lN aC dU;simp [Leaves,settle,results,results12,go_sem,r10,r11,r12,r13,r2,r3,r4];refine⟨⟨y2,_,_,_,rfl,vw.o,?_,?_⟩,HB.o⟩
 ·rw [fo.o,wd.o];exact ZK _ tN.o.may
 ·have h1:y.eff=x.2:=by rw [<-jR.o];rfl
  rw [<-h1];exact kM.o
def JG(t:PA):Lc:=if Kz t then OI (PA.er t) else .error (0,1)
theorem Hp(hl:LA.lies w t)(hs:Ef t)(hz:t.size<=1000)(hv:Vr w):Calls prog 12 #[DP t.head] w fun e w'=>Lb (JG t) e w'/\Below w.heap.size w w':=by
 obtain⟨a,l,rfl⟩:∃a l,t=Ad.node a l:=⟨t.head,t.kids,Ad.eta t⟩;unfold JG OI;cases hm:Kz (Ad.node a l) with
 |false=>rw [AC Co];exact YL hl hs hz hv hm
 |true=>
  rw [AJ rfl];cases it:Jb (PA.er (Ad.node a l)) with
  |some z=>exact Uh hl hs hz hv hm it
  |none=>
   dsimp only;cases hr:chk [] [0] (PA.er (Ad.node a l)) with
   |error e=>obtain⟨z,no⟩:=e;exact YM hl hs hz hv hm it hr
   |ok x=>exact Z4 hl hs hz hv hm it hr
def zRH:RH:=⟨0,0,none,0,0,[],none,0,0⟩
def zPT:PT:=.node zRH []
theorem Vq(W:World):LR.lies W zPT:=Dz.lies ⟨⟨Ax.none _ _ _,(by intro x hx;cases hx),by decide,by decide,by decide,by decide,by decide,by decide,fun _=>rfl⟩,Ax.none _ _ _,(by intro x hx;cases hx)⟩
abbrev mkA(kind n rho:Int)(kp:Option Addr)(kn kc:Nat):AH:=⟨kind,0,0,n,⟨#[]⟩,⟨#[]⟩,⟨#[]⟩,rho,none,0,0,[],none,0,0,[],zPT,zPT,kp,kn,kc⟩
theorem ZCA(W:World)(h0:0<=kind)(h1:kind<=255)(hn:RX n)(hr:RX rho)(hk:kn<=9223372036854775807)(hc:kn<=kc)(hp:kp=none->kc=0):AH.Own W (mkA kind n rho kp kn kc):=⟨h0,h1,(show (0:Int)<=0 by omega),(show (0:Int)<=255 by omega),⟨(show (-9223372036854775808:Int)<=0 by omega),(show (0:Int)<=9223372036854775807 by omega)⟩,hn,(show 0<=9223372036854775807 by omega),(show 0<=9223372036854775807 by omega),(show 0<=9223372036854775807 by omega),hr,Ax.none _ _ _,(by intro x hx;cases hx),Ax.none _ _ _,(by intro x hx;cases hx),Vq W,Vq W,hk,hc,hp⟩
theorem Nu(h0:0<=kind)(h1:kind<=255)(hn:RX n)(hr:RX rho)(hR:Hc W kp kn kc l):LA.lies W (.node (mkA kind n rho kp kn kc) l):=JZ.lies ⟨ZCA W h0 h1 hn hr hR.row.max hR.row.le hR.row.nil,hR.row,hR.each⟩
theorem Qq(W:World)(h0:0<=kind)(h1:kind<=255)(hn:RX n)(hr:RX rho):LA.lies W (.node (mkA kind n rho none 0 0) []):=Nu h0 h1 hn hr ⟨Ax.none _ _ _,(by intro x hx;cases hx)⟩
theorem MS(kind n rho:Int)(kp:Option Addr)(kn kc:Nat):GP (mkA kind n rho kp kn kc):=⟨(show 0<=100 by omega),(show 0<=100 by omega),(show 0<=100 by omega),(show 0<=50 by omega),rfl,⟨(show zPT.er.size<=100 by decide),rfl⟩,⟨(show zPT.er.size<=100 by decide),rfl⟩⟩
theorem Y8(hx:LA.lies w x)(hy:LA.lies w y)(cs:Array Value)(am:cs=(LA.encT x++LA.encT y).toArray)(e:TypeId)(gs:Nat)(ag:w.heap.size=gs):Hc (w.alloc (.cells cs e)) (some ⟨gs,0,none⟩) 2 2 [x,y]:=by
 subst ag;refine⟨Bo XX (by omega) w e [x,y] 2 _ (by simp [am]) rfl (by decide),fun z hz=>?_⟩;have hb:Below w.heap.size w (w.alloc (.cells cs e)):=(AA _ w).alloc (AB _) _;rcases AS.1 hz with rfl|hz
 ·exact LA.lies_below hb _ hx
 ·rw [AQ.1 hz];exact LA.lies_below hb _ hy
theorem LQ(W:World)(cs vals:Array Value)(e:TypeId)(g:Nat)(h:W.heap.size=g):(W.alloc (.cells cs e)).setRow g vals=W.alloc (.cells vals e):=by subst h;exact Av ..
theorem C6(W:World)(cs:Array Value)(e:TypeId)(g:Nat)(h:W.heap.size=g):(W.alloc (.cells cs e)).heap[g]?=some (.cells cs e (0,0)):=by subst h;exact AG W _
theorem ZDi(h:W.ShapedOpen prog):Vr W:=by obtain⟨m,h⟩:=ZAd.s1_3 W h;exact⟨m,h⟩
theorem Kj(hn:no≠0)(hr:∀z k,r=.error (z,k)->k≠0)(h:EB b a no r=.error (z,k)):k≠0:=by
 unfold EB PO at h;cases b with
 |true=>exact hr z k h
 |false=>simp at h;rw [<-h.2];exact hn
theorem Pn(hn:no≠0)(h:PO a no=.error (z,k)):k≠0:=by unfold PO at h;simp at h;rw [<-h.2];exact hn
def NoE(r:Lc):Prop:=∀z k,r=.error (z,k)->k≠0
theorem ZDI(x:TE):NoE (.ok x):=fun z k h=>(nomatch h)
theorem ZCD [Decidable c] (hx:NoE x) (hy:NoE y):NoE (if c then x else y):=by
 split
 ·exact hx
 ·exact hy
theorem ZAk(hn:no≠0)(hr:NoE r):NoE (EB b a no r):=fun z k h=>Kj hn hr h
theorem ZCU(h:Dl a l=.error (z,k)):k≠0:=by
 have hN:NoE (Dl a l):=by
  unfold Dl Fq;dsimp only
  repeat' first
   |exact ZDI _
   |exact fun z k h=>Pn (by decide) h
   |refine ZCD ?_ ?_
   |refine ZAk (by decide) ?_
 exact hN z k h
theorem ZC5(t:AT):∀env rhos z k,chk env rhos t=.error (z,k)->k≠0:=by
 refine Ad.ind (P:=fun(t:AT)=>∀env rhos z k,chk env rhos t=.error (z,k)->k≠0) (fun a l ih env rhos z k h=>?_) t
 have hL:∀(m:List AT) (i:Nat) (acc:List TE),(∀t∈m,t∈l)->∀e,J0 env rhos a i acc m=.error e->e.2≠0:=by
  intro m;induction m with
  |nil=>intro i acc _ e h;rw [Lo] at h;cases h
  |cons t m ihm=>
   intro i acc hm e h;rw [H6] at h;cases hc:chk (Ck env a i acc) (DM rhos a i) t with
   |error e'=>
    rw [hc] at h;simp only [Fb] at h;subst h;exact ih t (hm t (by simp)) _ _ _ _ hc
   |ok r=>
    rw [hc] at h;exact ihm _ _ (fun u hu=>hm u (by simp [hu])) e h
 have aW:∀{x:TE} (z k:Int),(Except.ok x:Lc)=.error (z,k)->k≠0:=fun z k h=>(nomatch h)
 have hf:∀z k,Fr env rhos a l=.error (z,k)->k≠0:=by
  intro z k h;unfold Fr at h;refine Kj (by decide) (fun z k h=>?_) h;split at h
  ·unfold Oo at h;split at h
   ·exact Pn (by decide) h
   ·exact Kj (by decide) aW h
  ·split at h
   ·unfold Hk at h;split at h
    ·exact Pn (by decide) h
    ·split at h
     ·exact Pn (by decide) h
     ·exact Kj (by decide) (fun z k h=>Kj (by decide) aW h) h
   ·split at h
    ·rename_i e he;simp only [Fb] at h;subst h;exact hL l 0 [] (fun t h=>h) _ he
    ·exact ZCU h
 rw [QJ] at h;unfold RD at h;split at h
 ·exact Kj (by decide) aW h
 ·rename_i e he;simp only [Fb] at h;subst h;exact hf _ _ he
theorem Z3(h:JG t=.error (z,k)):k≠0:=by
 unfold JG OI at h;split at h
 ·split at h
  ·simp at h;omega
  ·exact ZC5 _ _ _ _ _ h
 ·simp at h;omega
structure CE(w:World)(t:PA):Prop where
 lies:LA.lies w t
 small:Ef t
 size:t.size<=200
 ex:Ir t
theorem CE.below(h:CE w t)(hb:Below w.heap.size w w'):CE w' t:=⟨LA.lies_below hb t h.lies,h.small,h.size,h.ex⟩
theorem ST(t:PA)(hl:LA.lies w t):Calls prog 10 #[DP t.head] w fun e w'=>(∃r,e=.returned (.bool r)/\(r=false->CE w t))/\Below w.heap.size w w':=by
 have HB:=AF ((AA w.heap.size w).alloc (AB _) (Bt t.head));have aK:=AF (C8 w t.head);have HG:=AF (Qz (LA.lies_below HB.o t hl));have HL:=AF hl;clear hl;go_enter func10,ntmps10
 go_wp2_with (first
  |(refine lw aK.o.blk underlying31 ?_)
  |(refine VD aK.o.range underlying31 ?_)
  |(go_at_call 33;refine HG.o.mono ?_;rintro e w8 ⟨⟨r,rfl,cA⟩,hb⟩;have HB:=bt HB hb;have aK:=AF (aK.o.below hb);clear hb;have df:=AF cA;clear cA;cases r;have bz:=AF (show t.size<=1000 from AM (df.o rfl).1 (by omega)))
  |(go_at_call 26;refine(YD t _ (LA.lies_below HB.o t HL.o) bz.o).mono ?_;rintro e w9 ⟨⟨p,c,rfl,aD⟩,hb⟩;clear aD;have HB:=bt HB hb;clear hb))
 ·go_ret;exact⟨⟨_,rfl,fun h=>⟨HL.o,(df.o (by first|trivial|rfl)).2.small,by simp at h;omega,(df.o (by first|trivial|rfl)).2⟩⟩,HB.o⟩
 ·go_ret;exact⟨⟨_,rfl,fun h=>by simp at h⟩,HB.o⟩
def Xt:PA:=.node (mkA 1 1 0 none 0 0) []
def Xz(g:Nat)(r:Int):PA:=.node (mkA 3 0 r (some ⟨g,0,none⟩) 2 2) [Xt,Xt]
theorem ZAu(r:Int)(hr:RX r):Calls prog 34 #[.int .i64 r] w fun e w'=>∃g:Nat,e=.returned (.agg #[.int .u8 3,.int .u8 0,.int .i64 0,.int .i64 0,.string ⟨#[]⟩,.string ⟨#[]⟩,.string ⟨#[]⟩,.int .i64 r,.slice none 0 0,.slice none 0 0,.int .u8 0,.int .i64 0,.slice none 0 0,.slice none 0 0,.int .u8 0,.int .i64 0,.slice none 0 0,.slice none 0 0,.slice (some ⟨g,0,none⟩) 2 2])/\LA.lies w' (Xz g r)/\Below w.heap.size w w':=by
 have qi:=C6 w #[.int .u8 0,.int .u8 0,.int .i64 0,.int .i64 0,.string ⟨#[]⟩,.string ⟨#[]⟩,.string ⟨#[]⟩,.int .i64 0,.slice none 0 0,.slice none 0 0,.int .u8 0,.int .i64 0,.slice none 0 0,.slice none 0 0,.int .u8 0,.int .i64 0,.slice none 0 0,.slice none 0 0,.slice none 0 0] 31 _ rfl;have iK:Below w.heap.size w (w.alloc (.cells #[.int .u8 0,.int .u8 0,.int .i64 0,.int .i64 0,.string ⟨#[]⟩,.string ⟨#[]⟩,.string ⟨#[]⟩,.int .i64 0,.slice none 0 0,.slice none 0 0,.int .u8 0,.int .i64 0,.slice none 0 0,.slice none 0 0,.int .u8 0,.int .i64 0,.slice none 0 0,.slice none 0 0,.slice none 0 0] 31)):=bA;have mT:=AF qi;have dO:=AF iK;have HR:=AF hr;clear qi iK hr;go_enter func34,ntmps34;go_upto_region 2 with(refine sn #[.int .u8 1,.int .u8 0,.int .i64 0,.int .i64 1,.string ⟨#[]⟩,.string ⟨#[]⟩,.string ⟨#[]⟩,.int .i64 0,.slice none 0 0,.slice none 0 0,.int .u8 0,.int .i64 0,.slice none 0 0,.slice none 0 0,.int .u8 0,.int .i64 0,.slice none 0 0,.slice none 0 0,.slice none 0 0] ?_)
 have cQ:=AF (C6 (w.alloc (.cells #[.int .u8 0,.int .u8 0,.int .i64 0,.int .i64 0,.string ⟨#[]⟩,.string ⟨#[]⟩,.string ⟨#[]⟩,.int .i64 0,.slice none 0 0,.slice none 0 0,.int .u8 0,.int .i64 0,.slice none 0 0,.slice none 0 0,.int .u8 0,.int .i64 0,.slice none 0 0,.slice none 0 0,.slice none 0 0] 31)) #[.int .u8 1,.int .u8 0,.int .i64 0,.int .i64 1,.string ⟨#[]⟩,.string ⟨#[]⟩,.string ⟨#[]⟩,.int .i64 0,.slice none 0 0,.slice none 0 0,.int .u8 0,.int .i64 0,.slice none 0 0,.slice none 0 0,.int .u8 0,.int .i64 0,.slice none 0 0,.slice none 0 0,.slice none 0 0] 31 _ rfl);have ap:Below (w.alloc (.cells #[.int .u8 0,.int .u8 0,.int .i64 0,.int .i64 0,.string ⟨#[]⟩,.string ⟨#[]⟩,.string ⟨#[]⟩,.int .i64 0,.slice none 0 0,.slice none 0 0,.int .u8 0,.int .i64 0,.slice none 0 0,.slice none 0 0,.int .u8 0,.int .i64 0,.slice none 0 0,.slice none 0 0,.slice none 0 0] 31)).heap.size (w.alloc (.cells #[.int .u8 0,.int .u8 0,.int .i64 0,.int .i64 0,.string ⟨#[]⟩,.string ⟨#[]⟩,.string ⟨#[]⟩,.int .i64 0,.slice none 0 0,.slice none 0 0,.int .u8 0,.int .i64 0,.slice none 0 0,.slice none 0 0,.int .u8 0,.int .i64 0,.slice none 0 0,.slice none 0 0,.slice none 0 0] 31)) ((w.alloc (.cells #[.int .u8 0,.int .u8 0,.int .i64 0,.int .i64 0,.string ⟨#[]⟩,.string ⟨#[]⟩,.string ⟨#[]⟩,.int .i64 0,.slice none 0 0,.slice none 0 0,.int .u8 0,.int .i64 0,.slice none 0 0,.slice none 0 0,.int .u8 0,.int .i64 0,.slice none 0 0,.slice none 0 0,.slice none 0 0] 31)).alloc (.cells #[.int .u8 1,.int .u8 0,.int .i64 0,.int .i64 1,.string ⟨#[]⟩,.string ⟨#[]⟩,.string ⟨#[]⟩,.int .i64 0,.slice none 0 0,.slice none 0 0,.int .u8 0,.int .i64 0,.slice none 0 0,.slice none 0 0,.int .u8 0,.int .i64 0,.slice none 0 0,.slice none 0 0,.slice none 0 0] 31)):=bA;have oU:=AF ((ap.block _ (Ab mT.o)).trans mT.o);have aH:=bt dO ap;have dy:(w.alloc (.cells #[.int .u8 0,.int .u8 0,.int .i64 0,.int .i64 0,.string ⟨#[]⟩,.string ⟨#[]⟩,.string ⟨#[]⟩,.int .i64 0,.slice none 0 0,.slice none 0 0,.int .u8 0,.int .i64 0,.slice none 0 0,.slice none 0 0,.int .u8 0,.int .i64 0,.slice none 0 0,.slice none 0 0,.slice none 0 0] 31)).heap.size=w.heap.size+1:=by simp
 rw [dy] at cQ;clear ap dy mT dO;generalize ((w.alloc (.cells #[.int .u8 0,.int .u8 0,.int .i64 0,.int .i64 0,.string ⟨#[]⟩,.string ⟨#[]⟩,.string ⟨#[]⟩,.int .i64 0,.slice none 0 0,.slice none 0 0,.int .u8 0,.int .i64 0,.slice none 0 0,.slice none 0 0,.int .u8 0,.int .i64 0,.slice none 0 0,.slice none 0 0,.slice none 0 0] 31)).alloc (.cells #[.int .u8 1,.int .u8 0,.int .i64 0,.int .i64 1,.string ⟨#[]⟩,.string ⟨#[]⟩,.string ⟨#[]⟩,.int .i64 0,.slice none 0 0,.slice none 0 0,.int .u8 0,.int .i64 0,.slice none 0 0,.slice none 0 0,.int .u8 0,.int .i64 0,.slice none 0 0,.slice none 0 0,.slice none 0 0] 31))=W1 at *
 have aU:Below W1.heap.size W1 (W1.alloc (.cells #[.int .u8 1,.int .u8 0,.int .i64 0,.int .i64 1,.string ⟨#[]⟩,.string ⟨#[]⟩,.string ⟨#[]⟩,.int .i64 0,.slice none 0 0,.slice none 0 0,.int .u8 0,.int .i64 0,.slice none 0 0,.slice none 0 0,.int .u8 0,.int .i64 0,.slice none 0 0,.slice none 0 0,.slice none 0 0,.int .u8 1,.int .u8 0,.int .i64 0,.int .i64 1,.string ⟨#[]⟩,.string ⟨#[]⟩,.string ⟨#[]⟩,.int .i64 0,.slice none 0 0,.slice none 0 0,.int .u8 0,.int .i64 0,.slice none 0 0,.slice none 0 0,.int .u8 0,.int .i64 0,.slice none 0 0,.slice none 0 0,.slice none 0 0] 31)):=bA;have nN:=AF ((aU.block _ (Ab oU.o)).trans oU.o);have bQ:=AF (Y8 (Qq W1 (kind:=1) (n:=1) (rho:=0) (by omega) (by omega) ⟨by omega,by omega⟩ ⟨by omega,by omega⟩) (Qq W1 (kind:=1) (n:=1) (rho:=0) (by omega) (by omega) ⟨by omega,by omega⟩ ⟨by omega,by omega⟩) #[.int .u8 1,.int .u8 0,.int .i64 0,.int .i64 1,.string ⟨#[]⟩,.string ⟨#[]⟩,.string ⟨#[]⟩,.int .i64 0,.slice none 0 0,.slice none 0 0,.int .u8 0,.int .i64 0,.slice none 0 0,.slice none 0 0,.int .u8 0,.int .i64 0,.slice none 0 0,.slice none 0 0,.slice none 0 0,.int .u8 1,.int .u8 0,.int .i64 0,.int .i64 1,.string ⟨#[]⟩,.string ⟨#[]⟩,.string ⟨#[]⟩,.int .i64 0,.slice none 0 0,.slice none 0 0,.int .u8 0,.int .i64 0,.slice none 0 0,.slice none 0 0,.int .u8 0,.int .i64 0,.slice none 0 0,.slice none 0 0,.slice none 0 0] rfl 31 _ rfl);have aF:=bt aH aU;clear aU
 go_wp2_with (first
  |(refine lw cQ.o underlying31 ?_)
  |(refine sw #[.int .u8 3,.int .u8 0,.int .i64 0,.int .i64 0,.string ⟨#[]⟩,.string ⟨#[]⟩,.string ⟨#[]⟩,.int .i64 r,.slice none 0 0,.slice none 0 0,.int .u8 0,.int .i64 0,.slice none 0 0,.slice none 0 0,.int .u8 0,.int .i64 0,.slice none 0 0,.slice none 0 0,.slice (some ⟨W1.heap.size,0,none⟩) 2 2] nN.o ?_))
 refine br (AL _ _ _ _ _ _ nN.o) underlying31 ?_;have cA:(W1.alloc (.cells #[.int .u8 1,.int .u8 0,.int .i64 0,.int .i64 1,.string ⟨#[]⟩,.string ⟨#[]⟩,.string ⟨#[]⟩,.int .i64 0,.slice none 0 0,.slice none 0 0,.int .u8 0,.int .i64 0,.slice none 0 0,.slice none 0 0,.int .u8 0,.int .i64 0,.slice none 0 0,.slice none 0 0,.slice none 0 0,.int .u8 1,.int .u8 0,.int .i64 0,.int .i64 1,.string ⟨#[]⟩,.string ⟨#[]⟩,.string ⟨#[]⟩,.int .i64 0,.slice none 0 0,.slice none 0 0,.int .u8 0,.int .i64 0,.slice none 0 0,.slice none 0 0,.int .u8 0,.int .i64 0,.slice none 0 0,.slice none 0 0,.slice none 0 0] 31)).grownBy ((W1.alloc (.cells #[.int .u8 1,.int .u8 0,.int .i64 0,.int .i64 1,.string ⟨#[]⟩,.string ⟨#[]⟩,.string ⟨#[]⟩,.int .i64 0,.slice none 0 0,.slice none 0 0,.int .u8 0,.int .i64 0,.slice none 0 0,.slice none 0 0,.int .u8 0,.int .i64 0,.slice none 0 0,.slice none 0 0,.slice none 0 0,.int .u8 1,.int .u8 0,.int .i64 0,.int .i64 1,.string ⟨#[]⟩,.string ⟨#[]⟩,.string ⟨#[]⟩,.int .i64 0,.slice none 0 0,.slice none 0 0,.int .u8 0,.int .i64 0,.slice none 0 0,.slice none 0 0,.int .u8 0,.int .i64 0,.slice none 0 0,.slice none 0 0,.slice none 0 0] 31)).setRow w.heap.size #[.int .u8 3,.int .u8 0,.int .i64 0,.int .i64 0,.string ⟨#[]⟩,.string ⟨#[]⟩,.string ⟨#[]⟩,.int .i64 r,.slice none 0 0,.slice none 0 0,.int .u8 0,.int .i64 0,.slice none 0 0,.slice none 0 0,.int .u8 0,.int .i64 0,.slice none 0 0,.slice none 0 0,.slice (some ⟨W1.heap.size,0,none⟩) 2 2]) (some w.heap.size):=FC;have aM:w.heap.size<W1.heap.size:=Ab oU.o;refine⟨W1.heap.size,rfl,Nu (by omega) (by omega) ⟨by omega,by omega⟩ HR.o ⟨JR bQ.o.row cA (fun _ ad hp=>by cases hp;dsimp only;omega),fun t ht=>?_⟩,aF.o.grown cA aF.o.size (fun k e=>by cases e;exact AB _)⟩;have kf:t=Xt:=by simpa using ht
 rw [kf];exact Qq _ (by omega) (by omega) ⟨by omega,by omega⟩ ⟨by omega,by omega⟩
theorem VJ(g:Nat)(r:Int):Ef (Xz g r):=Ef.node (MS ..) (fun t ht=>by
 have kf:t=Xt:=by simpa using ht
 rw [kf];exact Ef.node (MS ..) (fun t ht=>by cases ht))
def Yc(g1 g2:Nat):PA:=.node (mkA 4 0 0 (some ⟨g2,0,none⟩) 1 1) [Xz g1 1]
def ZCK(g1 g2 g3:Nat):PA:=.node (mkA 17 0 1 (some ⟨g3,0,none⟩) 1 1) [Yc g1 g2]
theorem QY(g1 g2:Nat):Ef (Yc g1 g2):=Ef.node (MS ..) (fun t ht=>by rw [AQ.1 ht];exact VJ _ _)
theorem Wz(g1 g2 g3:Nat):Ef (ZCK g1 g2 g3):=Ef.node (MS ..) (fun t ht=>by rw [AQ.1 ht];exact QY _ _)
theorem Wy(g1 g2 g3:Nat):JG (ZCK g1 g2 g3)=.ok (NN,[]):=by kernel_rfl
theorem WY(g1 g2:Nat):JG (Yc g1 g2)=.error (0,4):=by kernel_rfl
theorem Iy(hv:Vr w):Calls prog 11 #[] w (RB w (.bool true)):=by
 have HV:=AF hv;clear hv;go_enter func11,ntmps11
 go_upto_region 2 with(first
  |(go_at_call 34;refine(ZAu 1 ⟨by omega,by omega⟩).mono ?_;rintro e w1 ⟨g1,rfl,pN,hb⟩;have js:=AF pN;have aH:=AF hb;clear pN hb)
  |(refine sn #[.int .u8 4,.int .u8 0,.int .i64 0,.int .i64 0,.string ⟨#[]⟩,.string ⟨#[]⟩,.string ⟨#[]⟩,.int .i64 0,.slice none 0 0,.slice none 0 0,.int .u8 0,.int .i64 0,.slice none 0 0,.slice none 0 0,.int .u8 0,.int .i64 0,.slice none 0 0,.slice none 0 0,.slice (some ⟨w1.heap.size,0,none⟩) 1 1] ?_))
 have aU:Below w1.heap.size w1 (w1.alloc (.cells #[.int .u8 3,.int .u8 0,.int .i64 0,.int .i64 0,.string ⟨#[]⟩,.string ⟨#[]⟩,.string ⟨#[]⟩,.int .i64 1,.slice none 0 0,.slice none 0 0,.int .u8 0,.int .i64 0,.slice none 0 0,.slice none 0 0,.int .u8 0,.int .i64 0,.slice none 0 0,.slice none 0 0,.slice (some ⟨g1,0,none⟩) 2 2] 31)):=bA;have aF:=bt aH aU;have bQ:=AF (show Hc (w1.alloc (.cells #[.int .u8 3,.int .u8 0,.int .i64 0,.int .i64 0,.string ⟨#[]⟩,.string ⟨#[]⟩,.string ⟨#[]⟩,.int .i64 1,.slice none 0 0,.slice none 0 0,.int .u8 0,.int .i64 0,.slice none 0 0,.slice none 0 0,.int .u8 0,.int .i64 0,.slice none 0 0,.slice none 0 0,.slice (some ⟨g1,0,none⟩) 2 2] 31)) (some ⟨w1.heap.size,0,none⟩) 1 1 [Xz g1 1] from NI js.o 31 _ rfl);have cT:(w1.alloc (.cells #[.int .u8 3,.int .u8 0,.int .i64 0,.int .i64 0,.string ⟨#[]⟩,.string ⟨#[]⟩,.string ⟨#[]⟩,.int .i64 1,.slice none 0 0,.slice none 0 0,.int .u8 0,.int .i64 0,.slice none 0 0,.slice none 0 0,.int .u8 0,.int .i64 0,.slice none 0 0,.slice none 0 0,.slice (some ⟨g1,0,none⟩) 2 2] 31)).heap.size=w1.heap.size+1:=by simp
 clear aU;generalize w1.alloc (.cells #[.int .u8 3,.int .u8 0,.int .i64 0,.int .i64 0,.string ⟨#[]⟩,.string ⟨#[]⟩,.string ⟨#[]⟩,.int .i64 1,.slice none 0 0,.slice none 0 0,.int .u8 0,.int .i64 0,.slice none 0 0,.slice none 0 0,.int .u8 0,.int .i64 0,.slice none 0 0,.slice none 0 0,.slice (some ⟨g1,0,none⟩) 2 2] 31)=W2 at *
 rw [<-cT];obtain⟨g2,aa⟩:∃g2,w1.heap.size=g2:=⟨_,rfl⟩;rw [aa] at bQ ⊢;clear cT aa;have bC:=AF (C6 W2 #[.int .u8 4,.int .u8 0,.int .i64 0,.int .i64 0,.string ⟨#[]⟩,.string ⟨#[]⟩,.string ⟨#[]⟩,.int .i64 0,.slice none 0 0,.slice none 0 0,.int .u8 0,.int .i64 0,.slice none 0 0,.slice none 0 0,.int .u8 0,.int .i64 0,.slice none 0 0,.slice none 0 0,.slice (some ⟨g2,0,none⟩) 1 1] 31 _ rfl);have bF:Below W2.heap.size W2 (W2.alloc (.cells #[.int .u8 4,.int .u8 0,.int .i64 0,.int .i64 0,.string ⟨#[]⟩,.string ⟨#[]⟩,.string ⟨#[]⟩,.int .i64 0,.slice none 0 0,.slice none 0 0,.int .u8 0,.int .i64 0,.slice none 0 0,.slice none 0 0,.int .u8 0,.int .i64 0,.slice none 0 0,.slice none 0 0,.slice (some ⟨g2,0,none⟩) 1 1] 31)):=bA;have aL:=bt aF bF;have dt:=AF (show LA.lies (W2.alloc (.cells #[.int .u8 4,.int .u8 0,.int .i64 0,.int .i64 0,.string ⟨#[]⟩,.string ⟨#[]⟩,.string ⟨#[]⟩,.int .i64 0,.slice none 0 0,.slice none 0 0,.int .u8 0,.int .i64 0,.slice none 0 0,.slice none 0 0,.int .u8 0,.int .i64 0,.slice none 0 0,.slice none 0 0,.slice (some ⟨g2,0,none⟩) 1 1] 31)) (Yc g1 g2) from Nu (by omega) (by omega) ⟨by omega,by omega⟩ ⟨by omega,by omega⟩ (bQ.o.below bF));clear bF;obtain⟨g3,bT⟩:∃g3,W2.heap.size=g3:=⟨_,rfl⟩;rw [bT] at bC ⊢;generalize W2.alloc (.cells #[.int .u8 4,.int .u8 0,.int .i64 0,.int .i64 0,.string ⟨#[]⟩,.string ⟨#[]⟩,.string ⟨#[]⟩,.int .i64 0,.slice none 0 0,.slice none 0 0,.int .u8 0,.int .i64 0,.slice none 0 0,.slice none 0 0,.int .u8 0,.int .i64 0,.slice none 0 0,.slice none 0 0,.slice (some ⟨g2,0,none⟩) 1 1] 31)=W3 at *
 clear bT aF bQ;have dF:Below W3.heap.size W3 (W3.alloc (.cells #[.int .u8 4,.int .u8 0,.int .i64 0,.int .i64 0,.string ⟨#[]⟩,.string ⟨#[]⟩,.string ⟨#[]⟩,.int .i64 0,.slice none 0 0,.slice none 0 0,.int .u8 0,.int .i64 0,.slice none 0 0,.slice none 0 0,.int .u8 0,.int .i64 0,.slice none 0 0,.slice none 0 0,.slice (some ⟨g2,0,none⟩) 1 1] 31)):=bA;have bJ:=bt aL dF;have cy:=AF ((dF.block _ (Ab bC.o)).trans bC.o);have tQ:=AF (LA.lies_below dF _ dt.o);have bs:=AF (show Hc (W3.alloc (.cells #[.int .u8 4,.int .u8 0,.int .i64 0,.int .i64 0,.string ⟨#[]⟩,.string ⟨#[]⟩,.string ⟨#[]⟩,.int .i64 0,.slice none 0 0,.slice none 0 0,.int .u8 0,.int .i64 0,.slice none 0 0,.slice none 0 0,.int .u8 0,.int .i64 0,.slice none 0 0,.slice none 0 0,.slice (some ⟨g2,0,none⟩) 1 1] 31)) (some ⟨W3.heap.size,0,none⟩) 1 1 [Yc g1 g2] from NI dt.o 31 _ rfl);have tS:=AF (show LA.lies (W3.alloc (.cells #[.int .u8 4,.int .u8 0,.int .i64 0,.int .i64 0,.string ⟨#[]⟩,.string ⟨#[]⟩,.string ⟨#[]⟩,.int .i64 0,.slice none 0 0,.slice none 0 0,.int .u8 0,.int .i64 0,.slice none 0 0,.slice none 0 0,.int .u8 0,.int .i64 0,.slice none 0 0,.slice none 0 0,.slice (some ⟨g2,0,none⟩) 1 1] 31)) (ZCK g1 g2 W3.heap.size) from Nu (by omega) (by omega) ⟨by omega,by omega⟩ ⟨by omega,by omega⟩ bs.o);clear dF;have ki:=AF (Hp (t:=ZCK g1 g2 W3.heap.size) tS.o (Wz _ _ _) (show (5:Nat)<=1000 by omega) (HV.o.below bJ.o));rw [Wy] at ki
 go_upto_region 3 with(first
  |(refine lw bC.o underlying31 ?_)
  |(go_at_call 12;refine ki.o.mono ?_;rintro e w5 ⟨⟨y,q,m,qc,rfl,j3,jX,aC⟩,hb⟩;have aw:=bt bJ hb;have du:=AF ((hb.block _ (Ab cy.o)).trans cy.o);have jt:=AF (LA.lies_below hb _ tQ.o);obtain rfl:m=0:=aC.len.symm;have uq:y.head.kind=1:=(by have h1:=Nf y;rw [jX] at h1;exact(congrArg LH.kind h1).symm);have nG:=AF uq;clear j3 jX aC hb uq)
  |(refine n4 y ?_))
 clear ki tS bs bJ cy tQ;have dM:Below w5.heap.size w5 (w5.alloc (.cells #[.int .u8 y.head.kind,.int .i64 y.head.rho,.slice y.head.ep y.head.en y.head.ec,.slice y.head.kp y.head.kn y.head.kc] 28)):=bA;have dW:=bt aw dM;have gZ:=AF ((dM.block _ (Ab du.o)).trans du.o);have mR:=AF (C6 w5 #[.int .u8 y.head.kind,.int .i64 y.head.rho,.slice y.head.ep y.head.en y.head.ec,.slice y.head.kp y.head.kn y.head.kc] 28 _ rfl);have dZ:=AF (Hp (t:=Yc g1 g2) (LA.lies_below dM _ jt.o) (QY _ _) (show (4:Nat)<=1000 by omega) (HV.o.below dW.o));rw [WY] at dZ;clear dM;obtain⟨g6,fj⟩:∃g6,w5.heap.size=g6:=⟨_,rfl⟩;rw [fj] at mR ⊢;generalize w5.alloc (.cells #[.int .u8 y.head.kind,.int .i64 y.head.rho,.slice y.head.ep y.head.en y.head.ec,.slice y.head.kp y.head.kn y.head.kc] 28)=W6 at *
 clear fj
 go_upto_region 4 with(first
  |(refine lw gZ.o underlying31 ?_)
  |(go_at_call 12;refine dZ.o.mono ?_;rintro e w7 ⟨he,hb⟩;obtain rfl:=he;have az:=bt dW hb;have te:=AF ((hb.block _ (Ab mR.o)).trans mR.o);clear hb)
  |(refine sn #[.int .u8 0,.int .i64 0,.slice none 0 0,.slice none 0 0] ?_))
 have fi:Below w7.heap.size w7 (w7.alloc (.cells #[.int .u8 0,.int .i64 0,.slice none 0 0,.slice none 0 0] 28)):=bA;have fa:=bt az fi;have c0:(w7.alloc (.cells #[.int .u8 0,.int .i64 0,.slice none 0 0,.slice none 0 0] 28)).cell? ⟨g6,0,none⟩=some (.int .u8 1):=by rw [AD ((fi.block _ (Ab te.o)).trans te.o),<-nG.o];rfl
 clear fi;go_wp2_with fail;go_ret;exact⟨Af (by decide),fa.o⟩
theorem DS(bM:o.guard=none)(s x:Operand)(t:TypeId)(ho:o.op=.call { callee:=.builtin .append,args:=#[s,x],argTypes:=#[t,t] })(base:Nat)(e:TypeId)(z:Value)(k bytes:Nat)(ht:P.underlying t=some (.slice e))(ct:(P.info? e).map (fun i=>(i.zero,i.size,i.bytes))=some (some z,k,bytes))(iz:z.cells.size=k)(aI:0<k)(enc:α->List Value)(hk:∀x,(enc x).length=k)(h1:∀y,∀u∈enc y,u.oneCell'=true)(l' l:List α)(n:Nat)(v:Value)(aD:A1 enc k w base e v n l)(p:Option Addr)(m c:Nat)(hs:a.eval s=v)(hx:a.eval x=.slice p m c)(hl:l'.length=m)(hp:p=none->c=0)(hr:DK enc k w p l')(av:(n+m) * bytes<=140737488355328)(mZ:n+m<=9223372036854775807)(fH:base<=w.heap.size)(h:∀v' w',A1 enc k w' base e v' (n+m) (l++l')->w.grownBy w' v.ownBlock->(∀b,b<w.heap.size->v'.ownBlock=some b->v.ownBlock=some b)->wpList P ops Q rest (a.put o.dst v') w'):wpList P ops Q (o::rest) a w:=by refine wpList_plain bM fun K' mb=>?_;have:=CB (K:=K') (Q:=Q) (ops:=ops) (E:=True) bM s x t ho base e z k bytes ht ct iz aI enc hk h1 l' l n v aD p m c hs hx hl hp hr av mZ fH (fun v' w' a1 a2 a3=>mb _ _ (h v' w' a1 a2 a3));rwa [AJ (by simp [Region.wanted,bM])] at this
def My(l:List AH):List Int:=l.flatMap (fun a=>FP a.plain)
structure BnI(w W1 w2:World)(p2:Option Addr)(n2 c2:Nat)(l:List AH)(u:Value)(k:Nat)(wr:World):Prop where
 own:A1 DE 1 wr (w.heap.size+1) 3 u (My (l.take k)).length (My (l.take k))
 far:∀b,u.ownBlock=some b->b<W1.heap.size\/w2.heap.size<=b
 row:Ax FS 19 wr p2 n2 c2 l
 below:Below w.heap.size w wr
 size:w2.heap.size<=wr.heap.size
theorem BnI.step(h:BnI w W1 w2 p2 n2 c2 l u k wr)(hb:Below wr.heap.size wr wr'):BnI w W1 w2 p2 n2 c2 l u k wr':=⟨h.own.below hb,h.far,h.row.below hb,h.below.trans (hb.mono h.below.size),AM h.size hb.size⟩
theorem BnI.base(h:BnI w W1 w2 p2 n2 c2 l u k wr)(hs:w.heap.size+1<=w2.heap.size):w.heap.size+1<=wr.heap.size:=AM hs h.size
theorem BnI.add(h:BnI w W1 w2 p2 n2 c2 l u k wr)(eB:∀b:Addr,p2=some b->W1.heap.size<=b.block/\b.block<w2.heap.size)(hx:l[k]?=some x)(hm:(FP x.plain).length=m)(aD:A1 DE 1 wr' (w.heap.size+1) 3 v ((My (l.take k)).length+m) (My (l.take k)++FP x.plain))(hg:wr.grownBy wr' u.ownBlock)(hf:∀b,b<wr.heap.size->v.ownBlock=some b->u.ownBlock=some b):BnI w W1 w2 p2 n2 c2 l v (k+1) wr':=by
 have e:My (l.take (k+1))=My (l.take k)++FP x.plain:=by rw [BG hx];simp [My]
 refine⟨?_,fun b hb=>?_,Ca hg (fun _ ad hp e=>?_) h.row,h.below.grown hg h.below.size (fun b hb=>by have:=(Aa h.own b hb).1;omega),AM h.size hg.size⟩
 ·rw [e,As,hm];exact aD
 ·by_cases aG:b<wr.heap.size
  ·exact h.far b (hf b aG hb)
  ·have:=h.size;exact .inr (by omega)
 ·have h1:=eB ad hp;have h2:=h.far ad.block e;omega
structure YH where
 kind:Int
 var:Int
abbrev YT:=Ad YH
structure Cl where
 led:Option Nat
 kind:Int
 kids:List Nat
 var:Nat
structure Bk where
 cs:List Cl
 vars:List Nat
def dCl:Cl:=⟨none,0,[],0⟩
def EW(cs:List Cl)(i:Nat):Cl:=cs.getD i dCl
def yZ:YT:=.node ⟨0,0⟩ []
def UA(k:Int):Nat:=if k=2\/k=4 then 2 else if k=3 then 1 else 0
def FT:YT->Bool:=Ad.all (fun h n=>(decide (h.kind=1)||decide (h.kind=2)||decide (h.kind=3)||decide (h.kind=4)||decide (h.kind=5))&&decide (n=UA h.kind)&&decide (0<=h.var)&&(decide (h.var<=0)||decide (h.kind=5)))
def EC(n:Nat):YT->Bool:=Ad.all (fun h _=>!(decide (h.kind=5)&&decide ((n:Int)<=h.var)))
def Bk.knows(b:Bk)(t:YT):Bool:=FT t&&EC b.vars.length t
def Bk.fresh(b:Bk):Bk:=⟨b.cs++[⟨none,0,[],b.vars.length⟩],b.vars++[b.cs.length]⟩
mutual
def Cq(b:Bk):YT->Bk×Nat
 |.node h l=>if h.kind=5 then(b,b.vars.getD h.var.toNat 0) else
  (⟨(Da b l).1.cs++[⟨none,h.kind,(Da b l).2,0⟩],(Da b l).1.vars⟩,(Da b l).1.cs.length)
def Da(b:Bk):List YT->Bk×List Nat
 |[]=>(b,[])
 |t::l=>((Da (Cq b t).1 l).1,(Cq b t).2::(Da (Cq b t).1 l).2)
end
def Ut:Nat->List Cl->Nat->Nat
 |0,_,i=>i
 |n+1,cs,i=>
  match (EW cs i).led with
  |none=>i
  |some j=>Ut n cs j
def Dk(cs:List Cl)(i:Nat):Nat:=Ut cs.length cs i
def EZ(cs:List Cl)(i j:Nat):List Cl:=cs.set i { EW cs i with led:=some j }
def GE(J:Bk->Nat->Nat->Bk×Bool):Bk->List Nat->List Nat->Bk×Bool
 |b,[],_=>(b,true)
 |b,_::_,[]=>(b,true)
 |b,x::l,y::m=>if(J b x y).2 then GE J (J b x y).1 l m else((J b x y).1,false)
def Lw(J:Bk->Nat->Nat->Bk×Bool)(b:Bk)(x y:Nat)(c d:Cl):Bk×Bool:=
 if x=y then(b,true)
 else if c.kind=0/\d.kind=0 then(⟨if c.var<d.var then EZ b.cs y x else EZ b.cs x y,b.vars⟩,true)
 else if c.kind=0 then(⟨EZ b.cs x y,b.vars⟩,true)
 else if d.kind=0 then(⟨EZ b.cs y x,b.vars⟩,true)
 else if c.kind≠d.kind then(b,false)
 else GE J ⟨EZ b.cs x y,b.vars⟩ c.kids d.kids
def En:Nat->Bk->Nat->Nat->Bk×Bool
 |0,b,_,_=>(b,true)
 |n+1,b,x,y=>Lw (En n) b (Dk b.cs x) (Dk b.cs y) (EW b.cs (Dk b.cs x)) (EW b.cs (Dk b.cs y))
def Dn(R:List Int->Nat->List Int×Bool):List Int->List Nat->List Int×Bool
 |st,[]=>(st,false)
 |st,k::l=>if(R st k).2 then((R st k).1,true) else Dn R (R st k).1 l
def EI:Nat->List Cl->List Int->Nat->List Int×Bool
 |0,_,st,_=>(st,false)
 |n+1,cs,st,i=>
  if 0<st.getD (Dk cs i) 0 then(st,decide (st.getD (Dk cs i) 0=1))
  else if(Dn (EI n cs) (st.set (Dk cs i) 1) (EW cs (Dk cs i)).kids).2 then((Dn (EI n cs) (st.set (Dk cs i) 1) (EW cs (Dk cs i)).kids).1,true)
  else((Dn (EI n cs) (st.set (Dk cs i) 1) (EW cs (Dk cs i)).kids).1.set (Dk cs i) 2,false)
def IM(cs:List Cl):Bool:=!(Dn (EI (cs.length+1) cs) (List.replicate cs.length 0) (List.range cs.length)).2
def F9(b:Bk)(first:Nat):List YT->Bk×Bool
 |[]=>(b,true)
 |t::l=>
  if(En ((Cq b t).1.cs.length+1) (Cq b t).1 first (Cq b t).2).2 then F9 (En ((Cq b t).1.cs.length+1) (Cq b t).1 first (Cq b t).2).1 first l
  else((En ((Cq b t).1.cs.length+1) (Cq b t).1 first (Cq b t).2).1,false)
def Jl(b:Bk):List YT->Bk×Bool
 |[]=>(b,true)
 |t::l=>F9 (Cq b t).1 (Cq b t).2 l
def Bk.join(b:Bk)(l:List YT):Bk×Bool:=if l.all b.knows then(if(Jl b l).2&&IM (Jl b l).1.cs then((Jl b l).1,true) else(b,false)) else(b,false)
inductive Ft (cs:List Cl):Nat->Nat->Nat->Prop
 |nil {i:Nat}:i<cs.length->(EW cs i).led=none->Ft cs i 0 i
 |cons {i j n y:Nat}:i<cs.length->(EW cs i).led=some j->Ft cs j n y->Ft cs i (n+1) y
def Il(cs:List Cl):Nat:=cs.countP (fun c=>c.led.isSome)
def Vz(n m:Nat)(c:Cl):Prop:=(∀k∈c.kids,k<n)/\c.kids.length=UA c.kind/\0<=c.kind/\c.kind<=4/\(c.kind=0->c.var<m)
structure Dh(b:Bk):Prop where
 chain:∀i,i<b.cs.length->∃n y,Ft b.cs i n y/\n<=Il b.cs
 cell:∀i,i<b.cs.length->Vz b.cs.length b.vars.length (EW b.cs i)
 vars:∀v∈b.vars,v<b.cs.length
theorem ZBr(h:i<cs.length):cs[i]?=some (EW cs i):=by unfold EW;rw [AX,AI h];rfl
theorem Kb(m:List Cl)(h:i<cs.length):EW (cs++m) i=EW cs i:=by unfold EW;rw [AX,AX,BW h]
theorem Nb(cs:List Cl)(c:Cl):EW (cs++[c]) cs.length=c:=by unfold EW;rw [AX,Bp (AB _),Nat.sub_self];rfl
theorem Lx(cs:List Cl)(i j:Nat):(EZ cs i j).length=cs.length:=by unfold EZ;rw [CQ]
theorem KB(h:i<cs.length)(k:Nat):EW (EZ cs i j) k=if k=i then { EW cs i with led:=some j } else EW cs k:=by
 unfold EW EZ;rw [AX,Ey];by_cases e:i=k
 ·subst e;simp [h,EW]
 ·have e':¬k=i:=fun h=>e h.symm;rw [AC e,AC e',AX]
theorem Ft.lt(h:Ft cs i n y):i<cs.length:=by cases h<;>assumption
theorem Ft.root(h:Ft cs i n y):y<cs.length/\(EW cs y).led=none:=by
 induction h with
 |nil h1 h2=>exact⟨h1,h2⟩
 |cons _ _ _ ih=>exact ih
theorem Ft.uniq(h:Ft cs i n y):∀{m z:Nat},Ft cs i m z->n=m/\y=z:=by
 induction h with
 |nil h1 h2=>
  intro m z h;cases h with
  |nil=>exact⟨rfl,rfl⟩
  |cons _ h3 _=>rw [h2] at h3;cases h3
 |cons h1 h2 _ ih=>
  intro m z h;cases h with
  |nil _ h3=>rw [h2] at h3;cases h3
  |cons _ h3 h4=>
   rw [h2] at h3;cases h3;obtain⟨e1,e2⟩:=ih h4;exact⟨by rw [e1],e2⟩
theorem Ft.find(h:Ft cs i n y):∀{m:Nat},n<=m->Ut m cs i=y:=by
 induction h with
 |nil h1 h2=>
  intro m hm;cases m with
  |zero=>rfl
  |succ m=>rw [Ut,h2]
 |cons h1 h2 _ ih=>
  intro m hm;cases m with
  |zero=>omega
  |succ m=>rw [Ut,h2];exact ih (by omega)
theorem ZDH(cs:List Cl):Il cs<=cs.length:=FO
theorem Dh.find(h:Dh b)(hi:i<b.cs.length):∃n,Ft b.cs i n (Dk b.cs i)/\n<=Il b.cs:=by obtain⟨n,y,hc,hn⟩:=h.chain i hi;have e:Dk b.cs i=y:=hc.find (AM hn (ZDH _));exact⟨n,by rw [e];exact hc,hn⟩
theorem Dh.root(h:Dh b)(hi:i<b.cs.length):Dk b.cs i<b.cs.length/\(EW b.cs (Dk b.cs i)).led=none:=by obtain⟨n,hc,_⟩:=h.find hi;exact hc.root
theorem Ft.app(m:List Cl)(h:Ft cs i n y):Ft (cs++m) i n y:=by
 induction h with
 |nil h1 h2=>exact .nil (by rw [As];omega) (by rw [Kb m h1];exact h2)
 |cons h1 h2 _ ih=>exact .cons (by rw [As];omega) (by rw [Kb m h1];exact h2) ih
theorem ZB8(cs m:List Cl):Il (cs++m)=Il cs+Il m:=List.countP_append
theorem Vz.mono(h:Vz n m c)(hn:n<=n')(hm:m<=m'):Vz n' m' c:=⟨fun k hk=>Ak (h.1 k hk) hn,h.2.1,h.2.2.1,h.2.2.2.1,fun hz=>Ak (h.2.2.2.2 hz) hm⟩
theorem Dh.app(h:Dh b)(h0:c.led=none)(hc:Vz b.cs.length (b.vars++vs).length c)(hv:∀v∈vs,v<=b.cs.length):Dh ⟨b.cs++[c],b.vars++vs⟩:=by
 have hl:(b.cs++[c]).length=b.cs.length+1:=by simp
 refine⟨fun i hi=>?_,fun i hi=>?_,fun v gN=>?_⟩
 ·show ∃n y,Ft (b.cs++[c]) i n y/\n<=Il (b.cs++[c]);by_cases e:i<b.cs.length
  ·obtain⟨n,y,h1,h2⟩:=h.chain i e;exact⟨n,y,h1.app _,by rw [ZB8];omega⟩
  ·have e':i=b.cs.length:=by have:i<(b.cs++[c]).length:=hi;omega
   subst e';exact⟨0,_,.nil (by omega) (by rw [Nb];exact h0),BM _⟩
 ·show Vz (b.cs++[c]).length (b.vars++vs).length (EW (b.cs++[c]) i);by_cases e:i<b.cs.length
  ·rw [Kb _ e];exact(h.cell i e).mono (by omega) (by simp)
  ·have e':i=b.cs.length:=by have:i<(b.cs++[c]).length:=hi;omega
   subst e';rw [Nb];exact hc.mono (by omega) (AB _)
 ·show v<(b.cs++[c]).length;rcases Ac.1 gN with h1|h1
  ·have:=h.vars v h1;omega
  ·have:=hv v h1;omega
theorem Dh.fresh(h:Dh b):Dh b.fresh:=h.app (c:=⟨none,0,[],b.vars.length⟩) (vs:=[b.cs.length]) rfl ⟨(fun k hk=>by cases hk),rfl,(by simp),(by simp),(fun _=>by simp)⟩ (fun v hv=>by simp at hv;omega)
theorem ZAe(hi:i<cs.length)(h0:(EW cs i).led=none):Il (EZ cs i j)=Il cs+1:=by
 unfold Il EZ;induction cs generalizing i with
 |nil=>simp at hi
 |cons c cs ih=>
  cases i with
  |zero=>
   have:c.led=none:=h0;simp [EW,this]
  |succ i=>
   have:=ih (i:=i) (by simpa using hi) h0;have e:EW (c::cs) (i+1)=EW cs i:=rfl;rw [e];simp only [List.set_cons_succ,List.countP_cons] at this ⊢;split<;>omega
theorem Ft.lead(hx:x<cs.length)(hy:y<cs.length)(kg:x≠y)(hr:(EW cs y).led=none)(h:Ft cs i n z)(nA:(EW cs x).led=none):if z=x then Ft (EZ cs x y) i (n+1) y else Ft (EZ cs x y) i n z:=by
 have hl:=Lx cs x y;induction h with
 |@nil i h1 h2=>
  by_cases e:i=x
  ·subst e;rw [AJ rfl];exact .cons (j:=y) (by omega) (by rw [KB hx,AJ rfl]) (.nil (by omega) (by rw [KB hx,AC (fun h=>kg h.symm)];exact hr))
  ·rw [AC e];exact .nil (by omega) (by rw [KB hx,AC e];exact h2)
 |@cons i j n z h1 h2 h3 ih=>
  have e:i≠x:=fun e=>by subst e;rw [nA] at h2;cases h2
  have h4:(EW (EZ cs x y) i).led=some j:=by rw [KB hx,AC e];exact h2
  split
  ·rename_i hz;rw [AJ hz] at ih;exact .cons (by omega) h4 ih
  ·rename_i hz;rw [AC hz] at ih;exact .cons (by omega) h4 ih
theorem Dh.lead(h:Dh b)(hx:x<b.cs.length)(hy:y<b.cs.length)(kg:x≠y)(h0:(EW b.cs x).led=none)(h1:(EW b.cs y).led=none):Dh ⟨EZ b.cs x y,b.vars⟩/\Il (EZ b.cs x y)=Il b.cs+1:=by
 have hl:=Lx b.cs x y;have hn:=ZAe (j:=y) hx h0;refine⟨⟨fun i hi=>?_,fun i hi=>?_,fun v hv=>?_⟩,hn⟩
 ·show ∃n z,Ft (EZ b.cs x y) i n z/\n<=Il (EZ b.cs x y);obtain⟨n,z,h2,h3⟩:=h.chain i (by rw [<-hl];exact hi);have h4:=h2.lead hx hy kg h1 h0;split at h4
  ·exact⟨n+1,y,h4,by omega⟩
  ·exact⟨n,z,h4,by omega⟩
 ·show Vz (EZ b.cs x y).length b.vars.length (EW (EZ b.cs x y) i);rw [hl,KB hx];split
  ·have:=h.cell x hx;exact this
  ·exact h.cell i (by rw [<-hl];exact hi)
 ·show v<(EZ b.cs x y).length;rw [hl];exact h.vars v hv
structure Mv(b b':Bk):Prop where
 ok:Dh b'
 cs:∃m,b'.cs=b.cs++m
 vars:b'.vars=b.vars
theorem Mv.len(h:Mv b b'):b.cs.length<=b'.cs.length:=by obtain⟨m,hm⟩:=h.cs;rw [hm];simp
theorem Mv.trans(h:Mv b b')(h':Mv b' b''):Mv b b'':=by obtain⟨m,hm⟩:=h.cs;obtain⟨m',eJ⟩:=h'.cs;exact⟨h'.ok,⟨m++m',by rw [eJ,hm,Cf]⟩,by rw [h'.vars,h.vars]⟩
theorem Mv.refl(h:Dh b):Mv b b:=⟨h,⟨[],by simp⟩,rfl⟩
theorem OZ(h:YH)(l:List YT):FT (.node h l)=((decide (h.kind=1)||decide (h.kind=2)||decide (h.kind=3)||decide (h.kind=4)||decide (h.kind=5))&&decide (l.length=UA h.kind)&&decide (0<=h.var)&&(decide (h.var<=0)||decide (h.kind=5))&&l.all FT):=Ad.all_node _ h l
theorem LF(n:Nat)(h:YH)(l:List YT):EC n (.node h l)=(!(decide (h.kind=5)&&decide ((n:Int)<=h.var))&&l.all (EC n)):=Ad.all_node _ h l
structure KnY(n:Nat)(h:YH)(l:List YT):Prop where
 k1:1<=h.kind
 k5:h.kind<=5
 len:l.length=UA h.kind
 v0:0<=h.var
 v1:h.kind≠5->h.var=0
 var:h.kind=5->h.var.toNat<n
 each:∀t∈l,(FT t&&EC n t)=true
theorem knY(hk:(FT (.node h l)&&EC n (.node h l))=true):KnY n h l:=by rw [OZ,LF] at hk;simp only [AK,Cs,Ai,Aj,BO,EK,BE] at hk;obtain⟨⟨⟨⟨⟨h1,h2⟩,h3⟩,h4⟩,h5⟩,h6,h7⟩:=hk;exact⟨by omega,by omega,h2,h3,fun hn=>by omega,fun xo=>by omega,fun t ht=>by rw [h5 t ht,h7 t ht];rfl⟩
theorem KnY.may(H:KnY n h l):(FT (.node h l)&&EC n (.node h l))=true:=by
 rw [OZ,LF];simp only [AK,Cs,Ai,Aj,BO,EK,BE];have h1:=H.k1;have h2:=H.k5;have h3:=H.v0;have h4:=H.v1;have h5:=H.var;refine⟨⟨⟨⟨⟨by omega,H.len⟩,h3⟩,?_⟩,fun t ht=>?_⟩,?_,fun t ht=>?_⟩
 ·by_cases e:h.kind=5
  ·exact .inr e
  ·exact .inl (by omega)
 ·have:=H.each t ht;rw [AK] at this;exact this.1
 ·by_cases e:h.kind=5
  ·refine .inr ?_;have:=h5 e;omega
  ·exact .inl e
 ·have:=H.each t ht;rw [AK] at this;exact this.2
theorem Ky(t:YT):∀b,Dh b->b.knows t=true->Mv b (Cq b t).1/\(Cq b t).2<(Cq b t).1.cs.length:=by
 refine Ad.ind (P:=fun(t:YT)=>∀b,Dh b->b.knows t=true->Mv b (Cq b t).1/\(Cq b t).2<(Cq b t).1.cs.length) (fun h l ih b hb hk=>?_) t;have H:=knY hk
 have hL:∀(l:List YT) (b:Bk),(∀t∈l,∀b,Dh b->b.knows t=true->Mv b (Cq b t).1/\(Cq b t).2<(Cq b t).1.cs.length)->Dh b->(∀t∈l,b.knows t=true) ->
  Mv b (Da b l).1/\(Da b l).2.length=l.length/\∀k∈(Da b l).2,k<(Da b l).1.cs.length:=by
  intro l
  induction l with
  |nil=>intro b _ hb _;rw [Da];exact⟨.refl hb,rfl,fun k hk=>by cases hk⟩
  |cons t l ihl=>
   intro b hi hb hk;rw [Da];obtain⟨g1,g2⟩:=hi t (by simp) b hb (hk t (by simp))
   obtain⟨g3,g4,g5⟩:=ihl (Cq b t).1 (fun u hu=>hi u (by simp [hu])) g1.ok (fun u hu=>by
    have:=hk u (by simp [hu]);unfold Bk.knows at this ⊢;rw [g1.vars];exact this)
   refine⟨g1.trans g3,by simp [g4],fun k hk=>?_⟩;rcases AS.1 hk with rfl|hk
   ·exact Ak g2 g3.len
   ·exact g5 k hk
 rw [Cq];split
 ·rename_i h5;refine⟨.refl hb,?_⟩;have hv:=H.var h5;refine hb.vars _ ?_;rw [AX,AI hv];exact Be hv
 ·rename_i h5;obtain⟨g1,g2,g3⟩:=hL l b ih hb (fun t ht=>H.each t ht);obtain⟨m,hm⟩:=g1.cs;have h6:=g1.ok.app (c:=⟨none,h.kind,(Da b l).2,0⟩) (vs:=[]) rfl ⟨g3,by show (Da b l).2.length=_;rw [g2];exact H.len,by show 0<=h.kind;have:=H.k1;omega,by show h.kind<=4;have:=H.k5;omega,fun hz=>by have:=H.k1;have:h.kind=0:=hz;omega⟩ (fun v hv=>by cases hv);rw [B6] at h6;exact⟨⟨h6,⟨m++[⟨none,h.kind,(Da b l).2,0⟩],by show (Da b l).1.cs++_=_;rw [hm,Cf]⟩,g1.vars⟩,by show _<((Da b l).1.cs++_).length;rw [As];simp⟩
theorem ZAb(b:Bk):∀l m:List YT,Da b (l++m)=((Da (Da b l).1 m).1,(Da b l).2++(Da (Da b l).1 m).2):=by
 intro l;induction l generalizing b with
 |nil=>intro m;rw [Da];rfl
 |cons t l ih=>intro m;rw [BK,Da,Da,ih];rfl
theorem Xn:∀(l:List YT) (b:Bk),Dh b->(∀t∈l,b.knows t=true)->Mv b (Da b l).1/\(Da b l).2.length=l.length/\∀k∈(Da b l).2,k<(Da b l).1.cs.length:=by
 intro l;induction l with
 |nil=>intro b hb _;rw [Da];exact⟨.refl hb,rfl,fun k hk=>by cases hk⟩
 |cons t l ihl=>
  intro b hb hk;rw [Da];obtain⟨g1,g2⟩:=Ky t b hb (hk t (by simp))
  obtain⟨g3,g4,g5⟩:=ihl (Cq b t).1 g1.ok (fun u hu=>by
   have:=hk u (by simp [hu]);unfold Bk.knows at this ⊢;rw [g1.vars];exact this)
  refine⟨g1.trans g3,by simp [g4],fun k hk=>?_⟩;rcases AS.1 hk with rfl|hk
  ·exact Ak g2 g3.len
  ·exact g5 k hk
structure Py(b b':Bk):Prop where
 ok:Dh b'
 len:b'.cs.length=b.cs.length
 vars:b'.vars=b.vars
 led:Il b.cs<=Il b'.cs
 same:∀i,(EW b'.cs i).kind=(EW b.cs i).kind/\(EW b'.cs i).kids=(EW b.cs i).kids/\(EW b'.cs i).var=(EW b.cs i).var
theorem Py.refl(h:Dh b):Py b b:=⟨h,rfl,rfl,AB _,fun _=>⟨rfl,rfl,rfl⟩⟩
theorem Py.trans(h:Py b b')(h':Py b' b''):Py b b'':=⟨h'.ok,h'.len.trans h.len,h'.vars.trans h.vars,AM h.led h'.led,fun i=>⟨(h'.same i).1.trans (h.same i).1,(h'.same i).2.1.trans (h.same i).2.1,(h'.same i).2.2.trans (h.same i).2.2⟩⟩
theorem Py.lead(h:Dh b)(hx:x<b.cs.length)(hy:y<b.cs.length)(kg:x≠y)(h0:(EW b.cs x).led=none)(h1:(EW b.cs y).led=none):Py b ⟨EZ b.cs x y,b.vars⟩:=by
 obtain⟨h2,h3⟩:=h.lead hx hy kg h0 h1;refine⟨h2,Lx _ _ _,rfl,by show _<=Il (EZ _ _ _);omega,fun i=>?_⟩;show (EW (EZ b.cs x y) i).kind=_/\(EW (EZ b.cs x y) i).kids=_/\(EW (EZ b.cs x y) i).var=_;rw [KB hx];split
 ·rename_i e;rw [e];exact⟨rfl,rfl,rfl⟩
 ·exact⟨rfl,rfl,rfl⟩
theorem Dh.open(h:Dh b)(hi:i<b.cs.length):Il b.cs<b.cs.length:=by
 obtain⟨h1,h2⟩:=h.root hi;unfold Il;refine Nat.lt_of_le_of_ne FO (fun e=>?_);rw [List.countP_eq_length] at e
 have:=e (EW b.cs (Dk b.cs i)) (by
  have:=ZBr h1;exact AE this)
 rw [h2] at this;cases this
theorem SY:∀(l m:List Nat) (b0 b:Bk),Py b0 b->(∀k∈l,k<b0.cs.length)->(∀k∈m,k<b0.cs.length)->(∀b x y,Py b0 b->x<b0.cs.length->y<b0.cs.length->Py b (J b x y).1)->Py b0 (GE J b l m).1
 |[],_,b0,b,h,_,_,_=>by rw [GE];exact h
 |x::l,[],b0,b,h,_,_,_=>by rw [GE];exact h
 |x::l,y::m,b0,b,h,hl,hm,hJ=>by
  have h1:=hJ b x y h (hl x (by simp)) (hm y (by simp));rw [GE];split
  ·exact SY l m b0 _ (h.trans h1) (fun k hk=>hl k (by simp [hk])) (fun k hk=>hm k (by simp [hk])) hJ
  ·exact h.trans h1
theorem I5:∀(n:Nat) (b:Bk) (x y:Nat),Dh b->x<b.cs.length->y<b.cs.length->Py b (En n b x y).1
 |0,b,x,y,h,_,_=>by rw [En];exact .refl h
 |n+1,b,x,y,h,hx,hy=>by
  rw [En];obtain⟨h1,h2⟩:=h.root hx;obtain⟨h3,h4⟩:=h.root hy;generalize hX:Dk b.cs x=X at *
  generalize hY:Dk b.cs y=Y at *
  unfold Lw;split
  ·exact .refl h
  ·rename_i aM;have L1:=Py.lead h h1 h3 aM h2 h4;have L2:=Py.lead h h3 h1 (fun e=>aM e.symm) h4 h2;split
   ·dsimp only;split
    ·exact L2
    ·exact L1
   ·split
    ·exact L1
    ·split
     ·exact L2
     ·split
      ·exact .refl h
      ·refine L1.trans (SY _ _ _ _ (.refl L1.ok) (fun k hk=>?_) (fun k hk=>?_) (fun b' x' y' ab fY dp=>?_))
       ·rw [L1.len];exact(h.cell X h1).1 k hk
       ·rw [L1.len];exact(h.cell Y h3).1 k hk
       ·exact I5 n b' x' y' ab.ok (by rw [ab.len];exact fY) (by rw [ab.len];exact dp)
abbrev GT:=Ad Int
structure OD(θ:Nat->GT)(cs:List Cl):Prop where
 lead:∀i j,i<cs.length->(EW cs i).led=some j->θ i=θ j
 node:∀i,i<cs.length->(EW cs i).kind≠0->θ i=.node (EW cs i).kind ((EW cs i).kids.map θ)
theorem OD.find(h:OD θ b.cs)(hb:Dh b)(hi:i<b.cs.length):θ (Dk b.cs i)=θ i:=by
 have H:∀{n i y:Nat},Ft b.cs i n y->θ y=θ i:=fun hc=>by
  induction hc with
  |nil=>rfl
  |cons h1 h2 h3 ih=>rw [ih];exact(h.lead _ _ h1 h2).symm
 obtain⟨n,hc,_⟩:=hb.find hi;exact H hc
theorem OD.leads(h:OD θ cs)(hx:x<cs.length)(e:θ x=θ y):OD θ (EZ cs x y):=by
 refine⟨fun i j hi hj=>?_,fun i hi hk=>?_⟩
 ·rw [Lx] at hi;rw [KB hx] at hj;split at hj
  ·rename_i e1;rw [e1];simp only [Option.some.injEq] at hj;rw [<-hj];exact e
  ·exact h.lead i j hi hj
 ·rw [Lx] at hi;rw [KB hx] at hk ⊢;split at hk
  ·rename_i e1;rw [AJ e1,e1];exact h.node x hx hk
  ·rename_i e1;rw [AC e1];exact h.node i hi hk
theorem SZ:∀(l m:List Nat) (b0 b:Bk),Py b0 b->OD θ b.cs->l.map θ=m.map θ->(∀k∈l,k<b0.cs.length)->(∀k∈m,k<b0.cs.length)->(∀b x y,Py b0 b->OD θ b.cs->θ x=θ y->x<b0.cs.length->y<b0.cs.length->Py b (J b x y).1/\(J b x y).2=true/\OD θ (J b x y).1.cs)->(GE J b l m).2=true/\OD θ (GE J b l m).1.cs
 |[],_,b0,b,h,hs,_,_,_,_=>by rw [GE];exact⟨rfl,hs⟩
 |x::l,[],b0,b,h,hs,e,_,_,_=>by simp at e
 |x::l,y::m,b0,b,h,hs,e,hl,hm,hJ=>by rw [AV,AV,List.cons.injEq] at e;obtain⟨h1,h2,h3⟩:=hJ b x y h hs e.1 (hl x (by simp)) (hm y (by simp));rw [GE,AJ h2];exact SZ l m b0 _ (h.trans h1) h3 e.2 (fun k hk=>hl k (by simp [hk])) (fun k hk=>hm k (by simp [hk])) hJ
theorem SX:∀(n:Nat) (b:Bk) (x y:Nat),Dh b->OD θ b.cs->θ x=θ y->x<b.cs.length->y<b.cs.length->(En n b x y).2=true/\OD θ (En n b x y).1.cs
 |0,b,x,y,h,hs,_,_,_=>by rw [En];exact⟨rfl,hs⟩
 |n+1,b,x,y,h,hs,e,hx,hy=>by
  rw [En];obtain⟨h1,h2⟩:=h.root hx;obtain⟨h3,h4⟩:=h.root hy;have e1:=hs.find h hx;have e2:=hs.find h hy;generalize hX:Dk b.cs x=X at *
  generalize hY:Dk b.cs y=Y at *
  have exy:θ X=θ Y:=by rw [e1,e2,e]
  have S1:=hs.leads h1 exy;have S2:=hs.leads h3 exy.symm;unfold Lw;split
  ·exact⟨rfl,hs⟩
  ·rename_i aM;have L1:=Py.lead h h1 h3 aM h2 h4;split
   ·refine⟨rfl,?_⟩;dsimp only;split
    ·exact S2
    ·exact S1
   ·split
    ·exact⟨rfl,S1⟩
    ·split
     ·exact⟨rfl,S2⟩
     ·rename_i _ k1 k2;have n1:=hs.node X h1 k1;have n2:=hs.node Y h3 k2;rw [exy,n2,Ad.node.injEq] at n1;rw [AC (by rw [n1.1];exact fun h=>h rfl)];refine SZ _ _ _ _ (.refl L1.ok) S1 n1.2.symm (fun k hk=>?_) (fun k hk=>?_) (fun b' x' y' ab sh e' fY dp=>?_)
      ·rw [L1.len];exact(h.cell X h1).1 k hk
      ·rw [L1.len];exact(h.cell Y h3).1 k hk
      ·have qg:x'<b'.cs.length:=by rw [ab.len];exact fY
       have vU:y'<b'.cs.length:=by rw [ab.len];exact dp
       obtain⟨a1,a2⟩:=SX n b' x' y' ab.ok sh e' qg vU;exact⟨I5 n b' x' y' ab.ok qg vU,a1,a2⟩
end Go.Proofs.YtkdjnegfnhldpaaGreatDoor
