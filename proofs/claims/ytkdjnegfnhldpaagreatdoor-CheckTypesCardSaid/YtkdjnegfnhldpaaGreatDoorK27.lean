/- Part 27. -/
import Derived.Deep.CutBlock
import Derived.Test.YtkdjnegfnhldpaaGreatDoorK26
set_option linter.unusedVariables false
set_option maxRecDepth 100000
set_option linter.unusedSimpArgs false
set_option maxHeartbeats 40000000
set_option autoImplicit true
set_option relaxedAutoImplicit true
namespace Go.Proofs.YtkdjnegfnhldpaaGreatDoor
open Go.Proofs.Tryz Go.RowKit
theorem uS_{ops:Array Oper}{Q:Exit->Act->World->Prop}{listed:Array Bool}{a:Act}(h:∀K:Act->World->Prop,Shut (∀a w,FJ P md ops Q S n fuel (listed.setIfInBounds n true) a w->K a w)->if Region.wanted ⟨none,o,x,z,u,none⟩ (yielded ops a.tmps)=true then Oper.wp P ⟨none,o,x,z,u,none⟩ a w K Q else K (a.put none undef) w)(hi:ops[n]?=some ⟨none,o,x,z,u,none⟩:=by exact rfl)(hr:Region.ready md ops listed=[n]:=by kernel_rfl):FJ P md ops Q S n (fuel+1) listed a w:=ul h hi hr
theorem Y4(a:Ma)(l:List Ga)(ih:∀x∈l,S9 x):S9 (.node a l):=by
 intro U w0 s p n c env hs aW o4 uV hl ib hn cu iy;have dB:=AF hs;have bP:=AF aW;have qE:=AF o4;have qy:=AF uV;have cj:=AF ((FY.lies_node _ _ _ _ _).1 hl);rw [Ga.er_node,ND,AK,Aj,Ba] at ib;have HM:=AF ib;have dr:=AF ih;rw [Ad.size_node] at hn cu iy;have HN:=AF hn;have cD:=AF cu;have ed:=AF iy;obtain⟨d0,sF⟩:∃d0:IC,(⟨a.hd,Cz 0 0,Cz 0 0,none,0,0⟩:IC)=d0:=⟨_,rfl⟩;have sM:=ZCB w0 s a;rw [sF] at sM;have nv:=AF sM;have kC:=AF sF;have HP:Hd (∀x,Fh s.er (FZ env) (Ga.er (.node a l))=x->Fh s.er (FZ env) (Ga.er (.node a l))=x):=fun x h=>h;clear ih hs aW o4 uV hl ib hn cu iy sM sF;show Calls _ _ #[.agg (cSa s),.slice p n c,.agg (cTa a)] w0 _;go_enter func45,ntmps45
 go_upto_region 2 with(first
  |(refine lmg [.int .u8 a.hd.kind,.int .u8 a.hd.op,.int .i64 a.hd.at_,.int .i64 a.hd.n,.string a.hd.name,.string a.hd.arg,.string a.hd.exn] (KQ (ZDa w0 s a) 0 _ (by intro i v h;match i,h with|0,h=>exact h|1,h=>exact h|2,h=>exact h|3,h=>exact h|4,h=>exact h|5,h=>exact h|6,h=>exact h)) underlying23 ?_)
  |(refine sn #[.int .u8 a.hd.kind,.int .u8 a.hd.op,.int .i64 a.hd.at_,.int .i64 a.hd.n,.string a.hd.name,.string a.hd.arg,.string a.hd.exn,.int .u8 0,.int .i64 0,.slice none 0 0,.int .u8 0,.int .i64 0,.slice none 0 0,.slice none 0 0] ?_))
 generalize ((((w0.alloc (.cells (cSa s) 96)).alloc (.cells (cTa a) 53)).alloc (.cells #[.slice none 0 0,.slice none 0 0,.bool false,.int .i64 0] 96)).alloc (.cells cZd 48)).alloc (.cells #[.int .u8 a.hd.kind,.int .u8 a.hd.op,.int .i64 a.hd.at_,.int .i64 a.hd.n,.string a.hd.name,.string a.hd.arg,.string a.hd.exn,.int .u8 0,.int .i64 0,.slice none 0 0,.int .u8 0,.int .i64 0,.slice none 0 0,.slice none 0 0] 48)=W at *
 have c2:W.cell? ⟨w0.heap.size,2,none⟩=some (.bool s.bad):=by rw [AD nv.o.b0];rfl
 cases eT:s.bad with
 |true=>
  rw [eT] at c2;have iD:=AF eT;clear eT;go_upto_region 3 with fail;clear c2;refine rg (fun W'=>NW w0 s a d0 W'/\BD (fun _=>False) W W') (⟨nv.o.step (At W),BD.of (At W)⟩) fun aA=>?_;refine LV 0 24 (fun W' aB=>BX aB.1.b0) underlying96 ?_;refine LV 1 25 (fun W' aB=>BX aB.1.b8) underlying48 ?_;refine Fo 2 fun K hK=>?_;obtain⟨cs2,cT,aU⟩:=aA.1.b2;have aF:=AF aU;clear aU;have fo:Hd ((W.drew.setRow (w0.heap.size+1+1) (cSa s)).heap[w0.heap.size+1+1]?=some (.cells (cSa s) 96 (0,0))):=AL _ _ _ _ _ _ aF.o;refine Iv aF.o ?_ (hold:=by exact cT);refine tn hK (⟨aA.1.res2 _ rfl,aA.2.trans (BD.grown (AU _ _ _) (fun _ _ h=>h))⟩) ?_;clear aA hK K;intro aA;refine Fo 3 fun K hK=>?_;obtain⟨cs3,j7,bF⟩:=aA.1.b3;have aL:=AF bF;clear bF;have fp:Hd (((W.drew.setRow (w0.heap.size+1+1) (cSa s)).setRow (w0.heap.size+1+1+1) (cDa d0)).heap[w0.heap.size+1+1+1]?=some (.cells (cDa d0) 48 (0,0))):=AL _ _ _ _ _ _ aL.o;have fo:=AF ((AR _ (w0.heap.size+1+1+1) (w0.heap.size+1+1) (cDa d0) (by omega)).trans fo.o);refine Iv aL.o ?_ (hold:=by exact j7);refine tn hK (⟨aA.1.res3 _ rfl,aA.2.trans (BD.grown (AU _ _ _) (fun _ _ h=>h))⟩) ?_;clear aA hK K;intro aA;refine dn ?_;have cW:=aA;clear aA;go_wp2_with fail;refine Ag (Hs rfl _ _ _ _ _ _ _ rfl (Ae _ _ _ _ _ _ _ fo.o underlying96 rfl (by kernel_rfl)) rfl (Ae _ _ _ _ _ _ _ fp.o underlying48 rfl (by kernel_rfl))) rfl ?_;have hq:Fh s.er (FZ env) (Ga.er (.node a l))=(s.er,.node ⟨a.hd,yZ,yZ⟩ []):=by rw [Ga.er_node,Jp,AJ (show s.er.bad=true from iD.o)]
  refine⟨s,d0,rfl,cW.1.below,?_,fun hb=>?_⟩
  ·rw [hq];exact⟨rfl,(dB.o.keep (BD.of cW.1.below)).mono (fun g _ h=>Ge.of g h),bP.o,Bn _ _,Bn _ _⟩
  ·rw [hq] at hb;have:=iD.o;rw [show s.bad=false from hb] at this;cases this
 |false=>
  rw [eT] at c2;have iD:=AF eT;clear eT
  go_upto_region 5 with(first
   |(go_at_call 72;refine(EH _).mono ?_;rintro e w2 ⟨rfl,hb⟩;have ea:=AF (nv.o.step hb);clear hb)
   |(refine sn #[.int .u8 1,.int .i64 0,.slice none 0 0] ?_))
  obtain⟨X,hW⟩:=ZCC kC.o dB.o bP.o ea.o;have HW:=AF hW;clear hW c2 ea;obtain⟨g9,gD⟩:∃g9,w2.heap.size=g9:=⟨_,rfl⟩;rw [gD] at HW ⊢;generalize w2.alloc (.cells #[.int .u8 1,.int .i64 0,.slice none 0 0] 45)=W2 at *
  clear gD;have k0:W2.cell? ⟨w0.heap.size+1,0,none⟩=some (.int .u8 a.hd.kind):=by rw [AD HW.o.f.b1];rfl
  try simp only [Act.put]
  go_cut [36] from 27 to 36 (fun s36 wx=>s36=.bool (a.hd.kind==11||a.hd.kind==13)/\wx=W2)
  case first=>
   as_aux_lemma=>
    by_cases k11:a.hd.kind=11
    ·have e11:(a.hd.kind==11)=true:=by rw [A3];exact k11
     clear k11;go_wp2_with fail;go_meet;exact⟨by rw [e11];rfl,rfl⟩
    ·have e11:(a.hd.kind==11)=false:=by rw [AW];exact k11
     clear k11;go_wp2_with fail;go_meet;exact⟨by rw [e11];rfl,rfl⟩
  case rest=>
   obtain⟨rfl,rfl⟩:=hcut;clear k0;obtain⟨b1,ap⟩:∃b1,(a.hd.kind==11||a.hd.kind==13)=b1:=⟨_,rfl⟩;have aH:=AF ap;rw [ap];clear ap;go_upto_if 36 with fail;go_cut [] from 37 to 41 (fun wx=>∃(s1:PS) (ar:PY),Gz U w0 a g9 0 0 ar (.slice none 0 0) [] [] X s1 d0 (if b1 then s.er.fresh else s.er) (s.b.ln+2) (s.b.vn+2) wx/\ar.er=(if b1 then Hn s.er.b.vars.length else Eu))
   case first=>
    as_aux_lemma=>
     cases b1 with
     |false=>
      go_wp2_with fail;go_meet;exact⟨s,_,HW.o.mono (by omega) (by omega),rfl⟩
     |true=>
      go_wp2_with (first
       |(refine lw HW.o.f.b0 underlying96 ?_)
       |(go_at_call 73;refine(Hq HW.o.m.sk.lies (by have h1:=HW.o.m.sk.ln;have h2:=cD.o;omega) (by have h1:=HW.o.m.sk.vn;have h2:=ed.o;omega)).mono ?_;rintro e w3 ⟨s1,rfl,bE,bG,a8,gN,hb⟩;have eG:=AF (HW.o.step hb);have et:=AF (HW.o.fresh bE bG a8 gN);clear bE bG a8 gN hb)
       |(refine K7 eG.o.f.b0 ?_)
       |(refine sw #[.int .u8 5,.int .i64 (s.b.vn:Int),.slice none 0 0] (eG.o.setS et.o).b9 ?_))
      go_meet;exact⟨s1,Cz 5 s.b.vn,((eG.o.setS et.o).set9 (Ep ⟨by decide,by decide⟩ ⟨by show (-9223372036854775808:Int)<=_;omega,by have h:=HW.o.m.sk.vn;have h2:=ed.o;show _<=(9223372036854775807:Int);omega⟩)).mono (by omega) (by omega),by rw [Jm,<-EJ.vn_eq dB.o];rfl⟩
   case rest=>
    obtain⟨s1,ar,hW,uH⟩:=hcut;rw [<-kC.o] at hW;have HW:=AF hW;have jo:=AF uH;clear hW uH;have k0:wc.cell? ⟨w0.heap.size+1,0,none⟩=some (.int .u8 a.hd.kind):=by rw [AD HW.o.f.b1];rfl
    obtain⟨b2,aU⟩:∃b2,(a.hd.kind==13)=b2:=⟨_,rfl⟩;have aF:=AF aU;go_upto_if 45 with fail;clear k0 aU;go_cut [] from 46 to 55 (fun wx=>∃(X:Nat->Prop) (s2:PS) (bd:PY) (S2:SS),Gz U w0 a g9 0 0 ar (.slice none 0 0) [] [] X s2 ⟨a.hd,Cz 0 0,bd,none,0,0⟩ S2 (s.b.ln+3) (s.b.vn+3) wx/\BC s.er a.hd=(S2,ar.er,bd.er))
    case first=>
     as_aux_lemma=>
      cases b2 with
      |false=>
       go_wp2_with fail;go_meet;refine⟨X,s1,Cz 0 0,_,HW.o.mono (by omega) (by omega),?_⟩;have bf:¬a.hd.kind=13:=by have:=aF.o;rwa [AW] at this
       have h1:=aH.o;rw [aF.o,Fv] at h1;rw [jo.o];unfold BC;cases b1 with
       |true=>
        rw [A3] at h1;rw [AJ h1];rfl
       |false=>
        rw [AW] at h1;rw [AC h1,AC bf];rfl
      |true=>
       have bf:a.hd.kind=13:=by have:=aF.o;rwa [A3] at this
       have h1:b1=true:=by have h1:=aH.o;rw [aF.o,Bool.or_true] at h1;exact h1.symm
       subst h1;have vY:=AF bf;clear bf
       go_upto_region 9 with(first
        |(go_at_call 72;refine(EH _).mono ?_;rintro e w3 ⟨rfl,hb⟩;have eG:=AF (HW.o.step hb);clear hb)
        |(refine sn #[.int .u8 1,.int .i64 0,.slice none 0 0] ?_))
       have jN:=AF (eG.o.more (.cells #[.int .u8 1,.int .i64 0,.slice none 0 0] 45));have fA:=AF (AG w3 (.cells #[.int .u8 1,.int .i64 0,.slice none 0 0] 45));obtain⟨g10,bD⟩:∃g10,w3.heap.size=g10:=⟨_,rfl⟩;have gh:Hd (g9<g10):=by rw [<-bD];exact Ab eG.o.b9
       rw [bD] at jN fA ⊢;generalize w3.alloc (.cells #[.int .u8 1,.int .i64 0,.slice none 0 0] 45)=W4 at *
       clear bD eG
       go_upto_region 10 with(first
        |(refine lw jN.o.f.b0 underlying96 ?_)
        |(go_at_call 73;refine(Hq jN.o.m.sk.lies (by have h1:=jN.o.m.sk.ln;have h2:=cD.o;omega) (by have h1:=jN.o.m.sk.vn;have h2:=ed.o;omega)).mono ?_;rintro e w5 ⟨s2,rfl,bE,bG,a8,gN,hb⟩;have ew:=AF (jN.o.step hb);have oO:=AF (jN.o.fresh bE bG a8 gN);have kh:=AF hb;have fA:=AF ((hb.block _ (Ab fA.o)).trans fA.o);clear bE bG a8 gN hb)
        |(refine K7 ew.o.f.b0 ?_)
        |(refine sw #[.int .u8 5,.int .i64 (s1.b.vn:Int),.slice none 0 0] ((AR _ _ _ _ (by have:=gh.o;have:=ew.o.m.l9;omega)).trans fA.o) ?_))
       have kP:=AF ((ew.o.setS oO.o).setBox (g:=g10) (cs:=#[.int .u8 5,.int .i64 (s1.b.vn:Int),.slice none 0 0]) (.inr rfl) gh.o (fun e=>by cases e) (fun e=>by cases e));have dK:Hd (((w5.setRow w0.heap.size (cSa s2)).setRow g10 #[.int .u8 5,.int .i64 (s1.b.vn:Int),.slice none 0 0]).heap[g10]?=some (.cells #[.int .u8 5,.int .i64 (s1.b.vn:Int),.slice none 0 0] 45 (0,0))):=AL _ _ _ _ _ _ ((AR _ _ _ _ (by have:=gh.o;have:=ew.o.m.l9;omega)).trans fA.o);generalize (w5.setRow w0.heap.size (cSa s2)).setRow g10 #[.int .u8 5,.int .i64 (s1.b.vn:Int),.slice none 0 0]=W7 at *
       clear fA ew oO
       go_wp2_with (first
        |(refine lw kP.o.b9 underlying45 ?_)
        |(refine lw dK.o underlying45 ?_)
        |(go_at_call 74;refine(Nw (x:=ar) (y:=Cz 5 s1.b.vn) ⟨by decide,by decide⟩ kP.o.m.arl (Ep ⟨by decide,by decide⟩ ⟨by show (-9223372036854775808:Int)<=_;omega,by have h:=kP.o.m.sk.vn;have h3:=jN.o.m.sk.vn;have h2:=ed.o;show _<=(9223372036854775807:Int);omega⟩)).mono ?_;rintro e w8 ⟨z,rfl,hz,pw,hb⟩;have aS:=AF (kP.o.step hb);have HZ:=AF (LY.lies_mono (fun g _ h=>kP.o.come g h) _ hz);have rd:=AF pw;clear hz pw hb)
        |(refine UC (RL aS.o.f.b8 10 3 (by simp)) ?_))
       go_meet;refine⟨_,s2,z,_,(aS.o.setBind HZ.o).mono (by omega) (by omega),?_⟩;have bf:=vY.o;unfold BC;rw [AC (by omega),AJ bf,rd.o,jo.o,Jm,<-EJ.vn_eq jN.o.m.sk.lies];have e1:s1.b.er.vars.length=s.er.fresh.b.vars.length:=by have:=HW.o.m.sk.er;rw [<-show (s1.er).b=s1.b.er from rfl,this];rfl
       rw [e1];rfl
    case rest=>
     obtain⟨X,s2,bd,S2,hW,dN⟩:=hcut;have HW:=AF hW;have cx:=AF dN;clear hW dN aH aF jo;go_upto_region 12 with fail;have oS:=AF HW.o.lit;obtain⟨gk,ub⟩:∃gk,wc.heap.size=gk:=⟨_,rfl⟩;rw [ub] at oS ⊢;generalize wc.alloc (.cells #[] 45)=W1 at *
     clear ub HW;have c7:W1.cell? ⟨w0.heap.size+1,7,none⟩=some (.slice a.kp a.kn a.kc):=by rw [AD oS.o.f.b1];rfl
     go_upto_region 13 with fail;clear c7;have fL:=cj.o.2.1.is.max;have kV:l.length=a.kn:=cj.o.2.1.is.len;have eE:=AF kV;clear kV
     go_loopw [11,60] (fun v i wr=>∃(k:Nat) (q:Option Addr) (cq:Nat) (kst:List PY) (ds:List PD) (X:Nat->Prop) (s3:PS) (d:IC) (S:SS),k<=a.kn/\i=.int .i64 k/\v=.slice q k cq /\
      Gz U w0 a g9 k k ar (.slice q k cq) kst ds X s3 d S (s.b.ln+3+30 * ((l.take k).map Ad.size).sum) (s.b.vn+3+8 * ((l.take k).map Ad.size).sum) wr/\d.hd=a.hd/\d.bind=bd /\
      NdP S2 S (FZ env) a.hd ar.er bd.er (l.map Ga.er) k kst ds ((l.take k).map Ad.size).sum) (fun _ i _=>a.kn-(intOf i).toNat)
     case atStart=>
      have hb:S2.bad=false:=by
       have h:=congrArg (fun x=>x.1.bad) cx.o
       have h2:(BC s.er a.hd).1.bad=s.er.bad:=by
        unfold BC;split
        ·rfl
        ·split<;>rfl
       have h3:s.er.bad=false:=iD.o;rw [<-h3,<-h2];exact h.symm
      exact⟨0,_,0,[],[],_,s2,_,S2,BM _,rfl,rfl,oS.o,rfl,rfl,⟨hb,fun t h=>(by cases h),fun t h=>(by cases h),BM _,fun t h=>(by cases h),[],rfl,rfl,by rw [List.drop_zero]⟩⟩
     case round=>
      obtain⟨k,q,cq,kst,ds,X,s3,d,S,hk,rfl,rfl,hW,uP,uO,hP⟩:=hrel;have HW:=AF hW;have HP:=AF hP;have tI:=AF uP;have qC:=AF uO;clear hW hP uP uO oS;by_cases aG:k<a.kn
      ·obtain⟨x,hx⟩:=Bh (l:=l) (j:=k) (by rw [eE.o];exact aG);have HX:=AF hx;clear hx;have aI:=ZI HX.o;have bz:=AF aI;clear aI;have fb:=AF (HW.o.env qE.o);have k0:wr.cell? ⟨w0.heap.size+1,0,none⟩=some (.int .u8 a.hd.kind):=by rw [AD HW.o.f.b1];rfl
       obtain⟨b3,bF⟩:∃b3,(a.hd.kind==13)=b3:=⟨_,rfl⟩;have aL:=AF bF;go_upto_if 67 with fail;clear k0 bF;go_cut [13] from 61 to 148 (fun s13 wx=>ZCu (NB U w0 X) wx s13 (if b3 then FZ env++[(a.hd.name,bd.er)] else FZ env) (n+1)/\Gz U w0 a g9 k k ar (.slice q k cq) kst ds X s3 d S (s.b.ln+3+30 * ((l.take k).map Ad.size).sum) (s.b.vn+3+8 * ((l.take k).map Ad.size).sum) wx)
       case first=>
        as_aux_lemma=>
         cases b3 with
         |false=>
          go_wp2_with fail;go_meet;exact⟨⟨p,n,c,env,rfl,fb.o,rfl,by omega⟩,HW.o⟩
         |true=>
          have c4:wr.cell? ⟨w0.heap.size+1,4,none⟩=some (.string a.hd.name):=by rw [AD HW.o.f.b1];rfl
          go_wp2_with (first
           |(refine lmg [.int .u8 d.bind.head.kind,.int .i64 d.bind.head.var,.slice d.bind.head.kp d.bind.head.kn d.bind.head.kc] (KQ HW.o.f.b8 10 _ (by intro i v h;match i,h with|0,h=>exact h|1,h=>exact h|2,h=>exact h)) underlying45 ?_)
           |(go_at_call 75;refine(Ju fb.o ⟨a.hd.name,d.bind⟩ HW.o.m.bind (by have:=HN.o;omega)).mono ?_;rintro e w5 ⟨p1,c1,rfl,sK,hb⟩;have ew:=AF (HW.o.step hb);have kD:=AF (sK.mono (fun g _ h=>HW.o.come g h));clear sK hb c4))
          go_meet;exact⟨⟨p1,n+1,c1,env++[⟨a.hd.name,d.bind⟩],rfl,kD.o,by rw [ON,qC.o];rfl,AB _⟩,ew.o⟩
       case rest=>
        obtain⟨⟨p1,n1,c1,env1,rfl,hE,tt,fC⟩,hW⟩:=hcut;have fb:=AF hE;have lj:=AF tt;have HW:=AF hW;have dE:=AF fC;clear hE tt hW fC;have k0:wc.cell? ⟨w0.heap.size+1,0,none⟩=some (.int .u8 a.hd.kind):=by rw [AD HW.o.f.b1];rfl
        go_upto_region 18 with fail;go_cut [82] from 61 to 148 (fun s82 wx=>s82=.bool (decide (a.hd.kind=12/\k=1))/\wx=wc)
        case first=>
         as_aux_lemma=>
          by_cases k12:a.hd.kind=12
          ·have e12:(a.hd.kind==12)=true:=by rw [A3];exact k12
           have K12:=AF k12;clear k12;by_cases k1:k=1
           ·have i1:((k:Int)==1)=true:=by rw [A3];omega
            go_wp2_with fail;go_meet;exact⟨by rw [CV ⟨K12.out,k1⟩],rfl⟩
           ·have i1:((k:Int)==1)=false:=by rw [AW];omega
            go_wp2_with fail;go_meet;exact⟨by rw [CY (fun h=>k1 h.2)],rfl⟩
          ·have e12:(a.hd.kind==12)=false:=by rw [AW];exact k12
           have K12:=AF k12;clear k12;go_wp2_with fail;go_meet;exact⟨by rw [CY (fun h=>K12.out h.1)],rfl⟩
        case rest=>
         obtain⟨rfl,rfl⟩:=hcut;clear k0;obtain⟨b4,dF⟩:∃b4,decide (a.hd.kind=12/\k=1)=b4:=⟨_,rfl⟩;have bJ:=AF dF;rw [dF];clear dF;go_upto_if 82 with fail;obtain⟨E1,rl⟩:∃E1,(if b3 then FZ env++[(a.hd.name,bd.er)] else FZ env)=E1:=⟨_,rfl⟩;have qu:=AF rl;have mn:=lj.o;rw [rl] at mn;have lj:=AF mn;clear rl mn;go_cut [13] from 61 to 148 (fun s13 wx=>ZCu (NB U w0 X) wx s13 (if b4 then E1++[(a.hd.name,(kst.map PY.er).getD 0 Eu)] else E1) (n+2)/\Gz U w0 a g9 k k ar (.slice q k cq) kst ds X s3 d S (s.b.ln+3+30 * ((l.take k).map Ad.size).sum) (s.b.vn+3+8 * ((l.take k).map Ad.size).sum) wx)
         case first=>
          as_aux_lemma=>
           cases b4 with
           |false=>
            go_wp2_with fail;go_meet;exact⟨⟨p1,n1,c1,env1,rfl,fb.o,lj.o,by have:=dE.o;omega⟩,HW.o⟩
           |true=>
            have dS:k=1:=by have h:=bJ.o;rw [Ai] at h;exact h.2
            have nX:=HW.o.m.ks;obtain⟨_,_,hv,hr⟩:=A1.isRow IG (by omega) nX;cases hv;obtain⟨y0,tB⟩:=Bh (l:=kst) (j:=0) (by rw [hr.len,dS];decide);obtain⟨gq,oq,hq,vE,vD⟩:=hr.row.elem tB;subst hq;have fx:Hd (∀V,Below wc.heap.size wc V->V.rangeAt gq oq (cYl y0)):=fun V hb i u hu=>by rw [hb.cell (show gq<wc.heap.size from vE)];have h:=vD i u hu;rw [Nat.zero_mul,Bd] at h;exact h
            have qp:Hd (∀V,Below wc.heap.size wc V->V.cell? ⟨w0.heap.size+1,4,none⟩=some (.string a.hd.name)):=fun V hb=>by rw [AD (HW.o.step hb).f.b1];rfl
            have dV:0<k:=by omega
            have ra:=AF tB;clear nX hr tB vE vD dS;go_upto_region 19 with fail;refine rg (fun W'=>Below wc.heap.size wc W') (At wc) fun aA=>?_;refine tp 0 83 ?_;refine tp 1 84 ?_;refine tp 2 85 ?_;refine tp 3 86 ?_ (hy:=fun w aB=>by(try dsimp only at aB);have c4:=qp.o w aB;go_simp;try with_reducible rfl);refine tp 4 87 ?_;refine tp 5 88 ?_;refine LV 6 89 (fun W' aB=>fx.o W' aB) underlying45 ?_;refine tr 7 90 fun K hK=>?_;go_simp;go_at_call 75;obtain⟨T0,V0,uA⟩:=HP.o.lies y0 (AE ra.o);refine(Ju (fb.o.keep (BD.of aA)) ⟨a.hd.name,y0⟩ (Qi (HP.o.leaf y0 (AE ra.o)) uA) (by have h1:=dE.o;have h2:=HN.o;omega)).mono ?_;rintro e w5 ⟨p2,c2,rfl,nT,hb⟩;have ew:=AF (HW.o.step (An aA hb));have kD:=AF (nT.mono (fun g _ h=>(HW.o.step aA).come g h));have aw:=AF (An aA hb);clear nT hb uA;try go_wp2_with fail
            refine tn hK (aw.o) ?_;clear aA hK K;intro aA;refine tp 8 13 ?_;refine dn ?_;clear aA;go_wp2_with fail;go_meet;exact⟨⟨p2,n1+1,c2,env1++[⟨a.hd.name,y0⟩],rfl,kD.o,by rw [ON,lj.o,AX,A7,ra.o];rfl,by have:=dE.o;omega⟩,ew.o⟩
         case rest=>
          obtain⟨⟨p2,n2,c2,env2,rfl,hE,oX,j5⟩,hW⟩:=hcut;have fb:=AF hE;have i8:=AF oX;have HW:=AF hW;have gU:=AF j5;clear hE oX hW j5;have k0:wc.cell? ⟨w0.heap.size+1,0,none⟩=some (.int .u8 a.hd.kind):=by rw [AD HW.o.f.b1];rfl
          go_upto_region 20 with fail;go_cut [114] from 61 to 148 (fun s114 wx=>s114=.bool (decide (a.hd.kind=11\/(a.hd.kind=13/\k=0)\/(a.hd.kind=16/\k=1)))/\wx=wc)
          case first=>
           as_aux_lemma=>
            by_cases k11:a.hd.kind=11
            ·have e11:(a.hd.kind==11)=true:=by rw [A3];omega
             have KK:=AF k11;clear k11;go_wp2_with fail;go_meet;exact⟨by rw [CV (by have:=KK.out;omega)],rfl⟩
            have e11:(a.hd.kind==11)=false:=by rw [AW];omega
            by_cases k13:a.hd.kind=13
            ·have e13:(a.hd.kind==13)=true:=by rw [A3];omega
             by_cases i0:k=0
             ·have i0:((k:Int)==0)=true:=by rw [A3];omega
              have KK:=AF (Di k13 i0);clear k11 k13;go_wp2_with fail;go_meet;exact⟨by rw [CV (by have:=KK.out;omega)],rfl⟩
             ·have i0:((k:Int)==0)=false:=by rw [AW];omega
              have e16:(a.hd.kind==16)=false:=by rw [AW];omega
              have KK:=AF (Di k13 i0);clear k11 k13;go_wp2_with fail;go_meet;exact⟨by rw [CY (by have:=KK.out;omega)],rfl⟩
            have e13:(a.hd.kind==13)=false:=by rw [AW];omega
            by_cases k16:a.hd.kind=16
            ·have e16:(a.hd.kind==16)=true:=by rw [A3];omega
             by_cases i1:k=1
             ·have i1:((k:Int)==1)=true:=by rw [A3];omega
              have KK:=AF (Di k16 i1);clear k11 k13 k16;go_wp2_with fail;go_meet;exact⟨by rw [CV (by have:=KK.out;omega)],rfl⟩
             ·have i1:((k:Int)==1)=false:=by rw [AW];omega
              have KK:=AF (Di k16 i1);clear k11 k13 k16;go_wp2_with fail;go_meet;exact⟨by rw [CY (by have:=KK.out;omega)],rfl⟩
            have e16:(a.hd.kind==16)=false:=by rw [AW];omega
            have KK:=AF (Di k11 (Di k13 k16));clear k11 k13 k16;go_wp2_with fail;go_meet;exact⟨by rw [CY (by have:=KK.out;omega)],rfl⟩
          case rest=>
           obtain⟨rfl,rfl⟩:=hcut;clear k0;obtain⟨b5,fg⟩:∃b5,decide (a.hd.kind=11\/(a.hd.kind=13/\k=0)\/(a.hd.kind=16/\k=1))=b5:=⟨_,rfl⟩;have aw:=AF fg;rw [fg];clear fg;go_upto_if 114 with fail;obtain⟨E2,rm⟩:∃E2,(if b4 then E1++[(a.hd.name,(kst.map PY.er).getD 0 Eu)] else E1)=E2:=⟨_,rfl⟩;have fo:=AF rm;have mn:=i8.o;rw [rm] at mn;have i8:=AF mn;clear rm mn;go_cut [13] from 61 to 148 (fun s13 wx=>ZCu (NB U w0 X) wx s13 (F8 (FZ env) a.hd ar.er bd.er (kst.map PY.er) k) (n+3)/\Gz U w0 a g9 k k ar (.slice q k cq) kst ds X s3 d S (s.b.ln+3+30 * ((l.take k).map Ad.size).sum) (s.b.vn+3+8 * ((l.take k).map Ad.size).sum) wx)
           case first=>
            as_aux_lemma=>
             cases b5 with
             |false=>
              go_wp2_with fail;go_meet;exact⟨⟨p2,n2,c2,env2,rfl,fb.o,by rw [i8.o];exact U2 (FZ env) a.hd ar.er bd.er (kst.map PY.er) k aL.o bJ.o aw.o qu.o.symm fo.o.symm rfl,by have:=gU.o;omega⟩,HW.o⟩
             |true=>
              have c5:wc.cell? ⟨w0.heap.size+1,5,none⟩=some (.string a.hd.arg):=by rw [AD HW.o.f.b1];rfl
              go_wp2_with (first
               |(refine lw HW.o.b9 underlying45 ?_)
               |(go_at_call 75;refine(Ju fb.o ⟨a.hd.arg,ar⟩ HW.o.m.arl (by have h1:=gU.o;have h2:=HN.o;omega)).mono ?_;rintro e w5 ⟨p3,c3,rfl,jy,hb⟩;have ew:=AF (HW.o.step hb);have kD:=AF (jy.mono (fun g _ h=>HW.o.come g h));clear jy hb c5))
              go_meet;exact⟨⟨p3,n2+1,c3,env2++[⟨a.hd.arg,ar⟩],rfl,kD.o,by rw [ON,i8.o];exact U2 (FZ env) a.hd ar.er bd.er (kst.map PY.er) k aL.o bJ.o aw.o qu.o.symm fo.o.symm rfl,by have:=gU.o;omega⟩,ew.o⟩
           case rest=>
            obtain⟨⟨p3,n3,c3,env3,rfl,hE,oY,lP⟩,hW⟩:=hcut;have fb:=AF hE;have nu:=AF oY;have HW:=AF hW;have oF:=AF lP;clear hE oY hW lP qu fo lj i8 aL bJ aw;obtain⟨gx,ox,eK,iL,vS⟩:=cj.o.2.1.elem HX.o;have eK:a.kp=some ⟨gx,ox,none⟩:=eK;have gV:=AF eK;have jv:Hd (∀V,Below wc.heap.size wc V->V.cell? ⟨w0.heap.size+1,7,none⟩=some (.slice (some ⟨gx,ox,none⟩) a.kn a.kc)):=fun V hb=>by rw [AD (HW.o.step hb).f.b1,<-gV.o];rfl
            have mM:Hd (∀V,Below wc.heap.size wc V->V.rangeAt gx (ox+k * 8) (cTl x.head)):=fun V hb i u hu=>by rw [(HW.o.step hb).f.below.cell (show gx<w0.heap.size from iL)];exact vS i u hu
            have HR:Hd (∀g,wc.heap.size<=g->NB U w0 X g):=fun g hg=>⟨fun e=>by have:=HW.o.f.below.size;omega,fun e=>by have:=(HW.o.m.lt g e).2;omega⟩;obtain⟨S',r5⟩:∃S',(Fh S (F8 (FZ env) a.hd ar.er bd.er (kst.map PY.er) k) x.er).1=S':=⟨_,rfl⟩;obtain⟨y',dp⟩:∃y',(Fh S (F8 (FZ env) a.hd ar.er bd.er (kst.map PY.er) k) x.er).2.head.ty=y':=⟨_,rfl⟩;obtain⟨LX,tv⟩:∃LX,(s.b.ln+3+30 * ((l.take k).map Ad.size).sum)+30 * x.size=LX:=⟨_,rfl⟩;obtain⟨VX,uC⟩:∃VX,(s.b.vn+3+8 * ((l.take k).map Ad.size).sum)+8 * x.size=VX:=⟨_,rfl⟩;have iV:=AF (NL s.er a.hd)
            have gS:Hd (∀(T:Nat->Prop) (V:World),Below wc.heap.size wc V->(∀g,g<wc.heap.size->NB U w0 X g->T g)->Calls prog 45 #[Lg s3,.slice p3 n3 c3,Mb x.head] V (fun e w'=>∃(s':PS) (d':IC),e=.returned (.tuple #[Lg s',US d'])/\Below V.heap.size V w'/\NX (Ge T V) w' S' y' LX VX x.size s' d')):=by
             show ∀T V,_;intro T V hb hT;have hk:=BD.of (U:=T) hb
             have h1:=dr.o x (AE HX.o) T V s3 p3 n3 c3 env3 ((HW.o.m.sk.lies.mono hT).keep hk) HW.o.m.sk.ok ((fb.o.mono hT).keep hk) (by
              rw [nu.o];have h:=iV.o;rw [cx.o] at h;exact qy.o.inner h.1 h.2 (fun t ht=>by obtain⟨z,hz,rfl⟩:=BI.1 ht;exact HP.o.leaf z hz)) (KJ.lies_keep hk _ (KJ.lies_mono hT _ (KJ.lies_keep (BD.of HW.o.f.below) _ (KJ.lies_mono (fun g hg h=>⟨fun _=>h,fun e=>by have:=(HW.o.m.lt g e).1;omega⟩) _ (cj.o.2.2 x (AE HX.o)))))) (HM.o.2 _ (Au (AE HX.o)))
              (by have h1:=HN.o;have h2:=oF.o;have h3:=bz.o.2;omega) (by have h1:=HW.o.m.sk.ln;have h2:=cD.o;have h3:=bz.o.2;omega) (by have h1:=HW.o.m.sk.vn;have h2:=ed.o;have h3:=bz.o.2;omega)
             refine h1.mono ?_;rintro e w' ⟨s',d',he,ab,lZ,ht⟩;rw [nu.o,HW.o.m.sk.er] at lZ ht;rw [r5] at lZ ht;rw [dp] at ht;exact⟨s',d',he,ab,lZ.mono (fun _ _ h=>h) (by have:=HW.o.m.sk.ln;omega) (by have:=HW.o.m.sk.vn;omega),ht⟩
            have oN:=AF r5;have wZ:=AF dp;have tU:=AF tv;have tb:=AF uC;clear eK iL vS r5 dp tv uC;go_upto_region 22 with fail;go_cut [14,15] from 61 to 148 (fun s14 s15 wx=>∃(g14 g15:Nat) (s':PS) (d':IC),s14=.pointer (some ⟨g14,0,none⟩)/\s15=.pointer (some ⟨g15,0,none⟩)/\Below wc.heap.size wc wx/\OB (NB U w0 X) wc.heap.size S' y' LX VX x.size wx (some g14) (some g15) (cSa s') (cDa d') (some (s',d')))
            case first=>
             as_aux_lemma=>
              refine rg (fun W'=>Below wc.heap.size wc W') (At wc) fun aA=>?_;have HQ:=AF (Yx (R:=NB U w0 X) (S:=S') (y:=y') (L:=LX) (V:=VX) (m:=x.size) (cp:=#[]) (cq:=#[]) (AB wc.heap.size):OB (NB U w0 X) wc.heap.size S' y' LX VX x.size wc.drew none none #[] #[] none);refine LV 0 122 (fun W' aB=>BX (HW.o.step aB).f.b0) underlying96 ?_;refine tp 1 123 ?_;refine tp 2 124 ?_;refine tp 3 125 ?_ (hy:=fun w aB=>by(try dsimp only at aB);have c7:=jv.o w aB;go_simp;try with_reducible rfl);refine tp 4 126 ?_;refine tp 5 127 ?_;refine LV 6 128 (fun W' aB=>mM.o W' aB) underlying53 ?_;refine A2 (rs:=[7,11,12]) (by kernel_rfl) (by simp) ?_;refine AY (o:=⟨some 129,_,_,_,_,none⟩) rfl (fun K hK=>?_) (AY (o:=⟨some 14,_,_,_,_,none⟩) rfl (fun K hK=>?_) (AY (o:=⟨some 15,_,_,_,_,none⟩) rfl (fun K hK=>?_) Az))
              ·skip;go_simp;go_at_call 45;refine(gS.o (Pq (NB U w0 X) none none) _ aA (fun g h1 h2=>⟨h2,fun e=>by have h:=HQ.o.hp g e;omega,fun e=>by have h:=HQ.o.hq g e;omega⟩)).mono ?_;rintro e w5 ⟨s',d',rfl,hb,hr⟩;have HQ:=AF (HQ.o.call HR.o hb hr);have dX:=AF (An aA hb);clear hb hr;try go_wp2_with fail
               refine tn hK (dX.o) ?_;clear aA hK K;intro aA;refine tp 8 121 ?_;refine tp 9 130 ?_;refine tp 10 131 ?_;refine A2 (rs:=[11,12]) (by kernel_rfl) (by simp) ?_;refine AY (o:=⟨some 14,_,_,_,_,none⟩) rfl (fun K hK=>?_) (AY (o:=⟨some 15,_,_,_,_,none⟩) rfl (fun K hK=>?_) Az)
               ·skip;go_simp;have HQ:=AF (HQ.o.allocP (cs:=#[.slice none 0 0,.slice none 0 0,.bool false,.int .i64 0]) (G:=w5.heap.size) (by simp [B4]));refine tn hK (Ay aA _) ?_;clear aA hK K;intro aA;refine tr 12 15 fun K hK=>?_;go_simp;have HQ:=AF (HQ.o.allocQ (cs:=cZd) (G:=w5.heap.size+1) (by simp [B4]));refine tn hK (Ay aA _) ?_;clear aA hK K;intro aA;refine Fo 13 fun K hK=>?_;have hq:=(HQ.o.hp _ rfl).2;have hl:=(HQ.o.hp _ rfl).1;have HQ:=AF (HQ.o.storeP (cs:=(cSa s')));refine Iv hq ?_;refine tn hK (aA.grown (AU _ _ _) aA.size (fun g e=>by injection e with e;subst e;exact hl)) ?_;clear aA hK K;intro aA;refine Fo 14 fun K hK=>?_;have hq:=(HQ.o.hq _ rfl).2;have hl:=(HQ.o.hq _ rfl).1;have HQ:=AF (HQ.o.storeQ (cs:=(cDa d')));refine Iv hq ?_;refine tn hK (aA.grown (AU _ _ _) aA.size (fun g e=>by injection e with e;subst e;exact hl)) ?_;clear aA hK K;intro aA;refine dn ?_;have jO:=AF aA;clear aA;go_wp2_with fail;go_meet;exact⟨_,_,s',d',rfl,rfl,jO.o,HQ.o⟩
               ·skip;go_simp;have HQ:=AF (HQ.o.allocQ (cs:=cZd) (G:=w5.heap.size) (by simp [B4]));refine tn hK (Ay aA _) ?_;clear aA hK K;intro aA;refine tr 11 14 fun K hK=>?_;go_simp;have HQ:=AF (HQ.o.allocP (cs:=#[.slice none 0 0,.slice none 0 0,.bool false,.int .i64 0]) (G:=w5.heap.size+1) (by simp [B4]));refine tn hK (Ay aA _) ?_;clear aA hK K;intro aA;refine Fo 13 fun K hK=>?_;have hq:=(HQ.o.hp _ rfl).2;have hl:=(HQ.o.hp _ rfl).1;have HQ:=AF (HQ.o.storeP (cs:=(cSa s')));refine Iv hq ?_;refine tn hK (aA.grown (AU _ _ _) aA.size (fun g e=>by injection e with e;subst e;exact hl)) ?_;clear aA hK K;intro aA;refine Fo 14 fun K hK=>?_;have hq:=(HQ.o.hq _ rfl).2;have hl:=(HQ.o.hq _ rfl).1;have HQ:=AF (HQ.o.storeQ (cs:=(cDa d')));refine Iv hq ?_;refine tn hK (aA.grown (AU _ _ _) aA.size (fun g e=>by injection e with e;subst e;exact hl)) ?_;clear aA hK K;intro aA;refine dn ?_;have jO:=AF aA;clear aA;go_wp2_with fail;go_meet;exact⟨_,_,s',d',rfl,rfl,jO.o,HQ.o⟩
              ·skip;go_simp;have HQ:=AF (HQ.o.allocP (cs:=#[.slice none 0 0,.slice none 0 0,.bool false,.int .i64 0]) (G:=wc.heap.size) (by simp [B4]));refine tn hK (Ay aA _) ?_;clear aA hK K;intro aA;refine A2 (rs:=[7,12]) (by kernel_rfl) (by simp) ?_;refine AY (o:=⟨some 129,_,_,_,_,none⟩) rfl (fun K hK=>?_) (AY (o:=⟨some 15,_,_,_,_,none⟩) rfl (fun K hK=>?_) Az)
               ·skip;go_simp;go_at_call 45;refine(gS.o (Pq (NB U w0 X) (some (wc.heap.size)) none) _ aA (fun g h1 h2=>⟨h2,fun e=>by have h:=HQ.o.hp g e;omega,fun e=>by have h:=HQ.o.hq g e;omega⟩)).mono ?_;rintro e w5 ⟨s',d',rfl,hb,hr⟩;have HQ:=AF (HQ.o.call HR.o hb hr);have dX:=AF (An aA hb);clear hb hr;try go_wp2_with fail
                refine tn hK (dX.o) ?_;clear aA hK K;intro aA;refine tp 8 121 ?_;refine tp 9 130 ?_;refine tp 10 131 ?_;refine tr 12 15 fun K hK=>?_;go_simp;have HQ:=AF (HQ.o.allocQ (cs:=cZd) (G:=w5.heap.size) (by simp [B4]));refine tn hK (Ay aA _) ?_;clear aA hK K;intro aA;refine Fo 13 fun K hK=>?_;have hq:=(HQ.o.hp _ rfl).2;have hl:=(HQ.o.hp _ rfl).1;have HQ:=AF (HQ.o.storeP (cs:=(cSa s')));refine Iv hq ?_;refine tn hK (aA.grown (AU _ _ _) aA.size (fun g e=>by injection e with e;subst e;exact hl)) ?_;clear aA hK K;intro aA;refine Fo 14 fun K hK=>?_;have hq:=(HQ.o.hq _ rfl).2;have hl:=(HQ.o.hq _ rfl).1;have HQ:=AF (HQ.o.storeQ (cs:=(cDa d')));refine Iv hq ?_;refine tn hK (aA.grown (AU _ _ _) aA.size (fun g e=>by injection e with e;subst e;exact hl)) ?_;clear aA hK K;intro aA;refine dn ?_;have jO:=AF aA;clear aA;go_wp2_with fail;go_meet;exact⟨_,_,s',d',rfl,rfl,jO.o,HQ.o⟩
               ·skip;go_simp;have HQ:=AF (HQ.o.allocQ (cs:=cZd) (G:=wc.heap.size+1) (by simp [B4]));refine tn hK (Ay aA _) ?_;clear aA hK K;intro aA;refine tr 7 129 fun K hK=>?_;go_simp;go_at_call 45;refine(gS.o (Pq (NB U w0 X) (some (wc.heap.size)) (some (wc.heap.size+1))) _ aA (fun g h1 h2=>⟨h2,fun e=>by have h:=HQ.o.hp g e;omega,fun e=>by have h:=HQ.o.hq g e;omega⟩)).mono ?_;rintro e w5 ⟨s',d',rfl,hb,hr⟩;have HQ:=AF (HQ.o.call HR.o hb hr);have dX:=AF (An aA hb);clear hb hr;try go_wp2_with fail
                refine tn hK (dX.o) ?_;clear aA hK K;intro aA;refine tp 8 121 ?_;refine tp 9 130 ?_;refine tp 10 131 ?_;refine Fo 13 fun K hK=>?_;have hq:=(HQ.o.hp _ rfl).2;have hl:=(HQ.o.hp _ rfl).1;have HQ:=AF (HQ.o.storeP (cs:=(cSa s')));refine Iv hq ?_;refine tn hK (aA.grown (AU _ _ _) aA.size (fun g e=>by injection e with e;subst e;exact hl)) ?_;clear aA hK K;intro aA;refine Fo 14 fun K hK=>?_;have hq:=(HQ.o.hq _ rfl).2;have hl:=(HQ.o.hq _ rfl).1;have HQ:=AF (HQ.o.storeQ (cs:=(cDa d')));refine Iv hq ?_;refine tn hK (aA.grown (AU _ _ _) aA.size (fun g e=>by injection e with e;subst e;exact hl)) ?_;clear aA hK K;intro aA;refine dn ?_;have jO:=AF aA;clear aA;go_wp2_with fail;go_meet;exact⟨_,_,s',d',rfl,rfl,jO.o,HQ.o⟩
              ·skip;go_simp;have HQ:=AF (HQ.o.allocQ (cs:=cZd) (G:=wc.heap.size) (by simp [B4]));refine tn hK (Ay aA _) ?_;clear aA hK K;intro aA;refine A2 (rs:=[7,11]) (by kernel_rfl) (by simp) ?_;refine AY (o:=⟨some 129,_,_,_,_,none⟩) rfl (fun K hK=>?_) (AY (o:=⟨some 14,_,_,_,_,none⟩) rfl (fun K hK=>?_) Az)
               ·skip;go_simp;go_at_call 45;refine(gS.o (Pq (NB U w0 X) none (some (wc.heap.size))) _ aA (fun g h1 h2=>⟨h2,fun e=>by have h:=HQ.o.hp g e;omega,fun e=>by have h:=HQ.o.hq g e;omega⟩)).mono ?_;rintro e w5 ⟨s',d',rfl,hb,hr⟩;have HQ:=AF (HQ.o.call HR.o hb hr);have dX:=AF (An aA hb);clear hb hr;try go_wp2_with fail
                refine tn hK (dX.o) ?_;clear aA hK K;intro aA;refine tp 8 121 ?_;refine tp 9 130 ?_;refine tp 10 131 ?_;refine tr 11 14 fun K hK=>?_;go_simp;have HQ:=AF (HQ.o.allocP (cs:=#[.slice none 0 0,.slice none 0 0,.bool false,.int .i64 0]) (G:=w5.heap.size) (by simp [B4]));refine tn hK (Ay aA _) ?_;clear aA hK K;intro aA;refine Fo 13 fun K hK=>?_;have hq:=(HQ.o.hp _ rfl).2;have hl:=(HQ.o.hp _ rfl).1;have HQ:=AF (HQ.o.storeP (cs:=(cSa s')));refine Iv hq ?_;refine tn hK (aA.grown (AU _ _ _) aA.size (fun g e=>by injection e with e;subst e;exact hl)) ?_;clear aA hK K;intro aA;refine Fo 14 fun K hK=>?_;have hq:=(HQ.o.hq _ rfl).2;have hl:=(HQ.o.hq _ rfl).1;have HQ:=AF (HQ.o.storeQ (cs:=(cDa d')));refine Iv hq ?_;refine tn hK (aA.grown (AU _ _ _) aA.size (fun g e=>by injection e with e;subst e;exact hl)) ?_;clear aA hK K;intro aA;refine dn ?_;have jO:=AF aA;clear aA;go_wp2_with fail;go_meet;exact⟨_,_,s',d',rfl,rfl,jO.o,HQ.o⟩
               ·skip;go_simp;have HQ:=AF (HQ.o.allocP (cs:=#[.slice none 0 0,.slice none 0 0,.bool false,.int .i64 0]) (G:=wc.heap.size+1) (by simp [B4]));refine tn hK (Ay aA _) ?_;clear aA hK K;intro aA;refine tr 7 129 fun K hK=>?_;go_simp;go_at_call 45;refine(gS.o (Pq (NB U w0 X) (some (wc.heap.size+1)) (some (wc.heap.size))) _ aA (fun g h1 h2=>⟨h2,fun e=>by have h:=HQ.o.hp g e;omega,fun e=>by have h:=HQ.o.hq g e;omega⟩)).mono ?_;rintro e w5 ⟨s',d',rfl,hb,hr⟩;have HQ:=AF (HQ.o.call HR.o hb hr);have dX:=AF (An aA hb);clear hb hr;try go_wp2_with fail
                refine tn hK (dX.o) ?_;clear aA hK K;intro aA;refine tp 8 121 ?_;refine tp 9 130 ?_;refine tp 10 131 ?_;refine Fo 13 fun K hK=>?_;have hq:=(HQ.o.hp _ rfl).2;have hl:=(HQ.o.hp _ rfl).1;have HQ:=AF (HQ.o.storeP (cs:=(cSa s')));refine Iv hq ?_;refine tn hK (aA.grown (AU _ _ _) aA.size (fun g e=>by injection e with e;subst e;exact hl)) ?_;clear aA hK K;intro aA;refine Fo 14 fun K hK=>?_;have hq:=(HQ.o.hq _ rfl).2;have hl:=(HQ.o.hq _ rfl).1;have HQ:=AF (HQ.o.storeQ (cs:=(cDa d')));refine Iv hq ?_;refine tn hK (aA.grown (AU _ _ _) aA.size (fun g e=>by injection e with e;subst e;exact hl)) ?_;clear aA hK K;intro aA;refine dn ?_;have jO:=AF aA;clear aA;go_wp2_with fail;go_meet;exact⟨_,_,s',d',rfl,rfl,jO.o,HQ.o⟩
            case rest=>
             obtain⟨g14,g15,s',d',rfl,rfl,sB,hQ⟩:=hcut;have jB:=AF (hQ.hp g14 rfl);have dQ:=AF (hQ.hq g15 rfl);have kL:=AF (hQ.res s' d' rfl);have tM:Hd (g14≠g15):=fun e=>hQ.ne g14 rfl (by rw [e])
             have r7:=HW.o.wide (X':=fun g=>X g\/g=g14\/g=g15) (fun g e=>e.imp id (fun e=>e.elim (fun e=>by rw [e];exact jB.o.1) (fun e=>by rw [e];exact dQ.o.1))) (fun g e=>.inl e) sB (fun g e=>by
              rcases e with e|e|e
              ·exact Ak (HW.o.m.lt g e).2 sB.size
              ·rw [e];exact Ab jB.o.2
              ·rw [e];exact Ab dQ.o.2)
             have vB:∀g,g<wc.heap.size->Pq (NB U w0 X) (some g14) (some g15) g->NB U w0 (fun g=>X g\/g=g14\/g=g15) g:=fun g _ h=>⟨h.1.1,fun e=>by
              rcases e with e|e|e
              ·exact h.1.2 e
              ·exact h.2.1 (by rw [e])
              ·exact h.2.2 (by rw [e])⟩
             have dx:=kL.o.mono vB;have bC:Hd (w0.heap.size+5<=g14/\w0.heap.size+5<=g15/\g9<g15):=by have h1:=jB.o.1;have h2:=dQ.o.1;have h3:=Ab HW.o.b9;have h4:=HW.o.m.l9;exact⟨by omega,by omega,by omega⟩
             have qt:Hd (∀g,(Value.slice d.kp d.kn d.kc).ownBlock=some g->w0.heap.size+5<=g/\g≠g15):=fun g e=>by have h1:=Aa HW.o.m.dk g e;have h2:=dQ.o.1;have h3:=HW.o.m.l9;exact⟨by omega,by omega⟩
             have vg:Hd (PE (F8 (FZ env) a.hd ar.er bd.er (kst.map PY.er) k)):=by have h:=iV.o;rw [cx.o] at h;exact qy.o.inner h.1 h.2 (fun t ht=>by obtain⟨z,hz,rfl⟩:=BI.1 ht;exact HP.o.leaf z hz)
             have fS:Hd ((l.map Ga.er)[k]?=some x.er):=by show _=_;rw [A7,HX.o];rfl
             obtain⟨X2,nP⟩:∃X2,(fun g=>X g\/g=g14\/g=g15)=X2:=⟨_,rfl⟩;rw [nP] at r7 dx;have qM:=AF r7;have bQ:=AF dx;clear sB hQ r7 vB dx nP kL HW fb jv mM HR gS
             go_upto_region 24 with(first
              |(refine lw jB.o.2 underlying96 ?_)
              |(refine K7 qM.o.f.b0 ?_))
             have eG:=AF (qM.o.setS bQ.o.sk);have mu:BD (NB U w0 X2) wc (wc.setRow w0.heap.size (cSa s')):=BD.box (qM.o.m.x5 _ (AB _) (by omega)) (AU _ _ _);have iH:=AF (bQ.o.keep mu);have kQ:=AF ((AR wc w0.heap.size g15 (cSa s') (by have:=bC.o;omega)).trans dQ.o.2);generalize wc.setRow w0.heap.size (cSa s')=W3 at *
             clear mu qM bQ jB dQ;have c2:W3.cell? ⟨w0.heap.size,2,none⟩=some (.bool s'.bad):=by rw [AD eG.o.f.b0];rfl
             have eT:s'.bad=S'.bad:=by have:=eG.o.m.sk.er;rw [<-this];rfl
             cases ab:S'.bad with
             |true=>
              rw [eT,ab] at c2;have nD:=AF ab;clear eT ab;go_upto_region 25 with fail;clear c2;refine rg (fun W'=>NW w0 s' a d W'/\BD (NB U w0 X2) W3 W') (⟨eG.o.f.step (At W3),BD.of (At W3)⟩) fun aA=>?_;refine LV 0 135 (fun W' aB=>BX aB.1.b0) underlying96 ?_;refine LV 1 136 (fun W' aB=>BX aB.1.b8) underlying48 ?_;refine Fo 2 fun K hK=>?_;obtain⟨cs2,cT,aU⟩:=aA.1.b2;have aF:=AF aU;clear aU;have fo:Hd ((W3.drew.setRow (w0.heap.size+1+1) (cSa s')).heap[w0.heap.size+1+1]?=some (.cells (cSa s') 96 (0,0))):=AL _ _ _ _ _ _ aF.o;refine Iv aF.o ?_ (hold:=by exact cT);refine tn hK (⟨aA.1.res2 _ rfl,aA.2.trans (BD.box (eG.o.m.x5 _ (by omega) (by omega)) (AU _ _ _))⟩) ?_;clear aA hK K;intro aA;refine Fo 3 fun K hK=>?_;obtain⟨cs3,j7,bF⟩:=aA.1.b3;have aL:=AF bF;clear bF;have fp:Hd (((W3.drew.setRow (w0.heap.size+1+1) (cSa s')).setRow (w0.heap.size+1+1+1) (cDa d)).heap[w0.heap.size+1+1+1]?=some (.cells (cDa d) 48 (0,0))):=AL _ _ _ _ _ _ aL.o;have fo:=AF ((AR _ (w0.heap.size+1+1+1) (w0.heap.size+1+1) (cDa d) (by omega)).trans fo.o);refine Iv aL.o ?_ (hold:=by exact j7);refine tn hK (⟨aA.1.res3 _ rfl,aA.2.trans (BD.box (eG.o.m.x5 _ (by omega) (by omega)) (AU _ _ _))⟩) ?_;clear aA hK K;intro aA;refine dn ?_;have cW:=aA;clear aA;go_wp2_with fail;refine Ag (Hs rfl _ _ _ _ _ _ _ rfl (Ae _ _ _ _ _ _ _ fo.o underlying96 rfl (by kernel_rfl)) rfl (Ae _ _ _ _ _ _ _ fp.o underlying48 rfl (by kernel_rfl))) rfl ?_;have hq:=ZAo (show s.er.bad=false from iD.o) cx.o (HP.o.bad fS.o oN.out nD.out) nD.out;rw [<-Ga.er_node] at hq;refine⟨s',d,rfl,cW.1.below,?_,fun hb=>?_⟩
              ·rw [hq];exact(eG.o.m.sk.keep cW.2).mono (fun g _ h=>h.1) (by rw [Ad.size_node];have h1:=tU.o;have h2:=bz.o.2;omega) (by rw [Ad.size_node];have h1:=tb.o;have h2:=bz.o.2;omega)
              ·rw [hq,nD.out] at hb;cases hb
             |false=>
              rw [eT,ab] at c2;have nD:=AF ab;clear eT ab;go_upto_region 26 with fail;clear c2;obtain⟨es,pN,ia,pO,us⟩:=iH.o.t nD.out;have nK:=AF pN;have iq:=AF ia;have mN:=AF pO;have wR:=AF us;have lK:k<=100000:=by have h1:=HN.o;have h2:=bz.o;have h3:=eE.o;have h4:l.length<=(l.map Ad.size).sum:=Xu l;omega
              have bi:Below W3.heap.size W3 (W3.alloc (.cells (cDa d') 48)):=bA;have ip:=AF (Bo XY (by omega) W3 48 [.node d' es] 1 (cDa d') rfl rfl (by decide));have fu:=AF (Cm eG.o.m.dk (.cells (cDa d') 48));have fD:=AF (eG.o.f.step bi);have iI:Hd (g9+1<=(W3.alloc (.cells (cDa d') 48)).heap.size):=AM (Ab eG.o.b9) bi.size;have kR:=AF ((bi.block _ (Ab kQ.o)).trans kQ.o);have c13:W3.cell? ⟨w0.heap.size+1+1+1+1,13,none⟩=some (.slice d.kp d.kn d.kc):=by rw [AD eG.o.f.b8];rfl
              clear pN ia pO us bi
              go_upto_region 27 with(first
               |(refine lw kQ.o underlying48 ?_)
               |(at_builtin;refine DS rfl _ _ 46 rfl (g9+1) 48 _ 14 176 underlying46 ZAO rfl (by decide) LD.encT XY ZDS [.node d' es] ds k _ fu.o _ 1 _ rfl rfl rfl (by intro h;cases h) ip.o.row (by omega) (by omega) iI.o ?_;intro v10 w10 aT bD cZ;obtain⟨q10,c10,dm,_⟩:=A1.isRow XY (by omega) aT;subst dm;have gg:=AF (eG.o.kid nK.o aT bD cZ);have cP:=(fD.o.own bD (fun g e=>(qt.o g e).1)).b8;have rY:=AF (((Ar w10 (w0.heap.size+1+1+1+1) 13 (.slice q10 (k+1) c10)).block g15 (Ak (Ab kR.o) bD.size) (fun e=>by injection e with e;have:=bC.o;omega)).trans ((bD.block g15 (Ab kR.o) (fun e=>(qt.o g15 e.symm).2 rfl)).trans kR.o));have c13:w10.cell? ⟨w0.heap.size+1+1+1+1,13,none⟩=some (.slice d.kp d.kn d.kc):=(by rw [AD cP];rfl);have dP:w10.frozen? ⟨w0.heap.size+1+1+1+1,13,none⟩=false:=(by simp [World.frozen?,cP]);clear aT bD cZ cP))
              generalize w10.setCell ⟨w0.heap.size+1+1+1+1,13,none⟩ (.slice q10 (k+1) c10)=W4 at *
              clear fu fD iI ip kR kQ eG iH qt;have oe:Below W4.heap.size W4 (W4.alloc (.cells (cYa d'.ty) 45)):=bA;have ip:=AF (Bo IG (by omega) W4 45 [d'.ty] 1 (cYa d'.ty) rfl rfl (by decide));have rP:=AF (Cm gg.o.m.ks (.cells (cYa d'.ty) 45));have rS:Hd (g9+1<=(W4.alloc (.cells (cYa d'.ty) 45)).heap.size):=AM (Ab gg.o.b9) oe.size;clear oe
              go_wp2_with (first
               |(refine lmg [.int .u8 d'.ty.head.kind,.int .i64 d'.ty.head.var,.slice d'.ty.head.kp d'.ty.head.kn d'.ty.head.kc] (KQ rY.o 7 _ (by intro i v h;match i,h with|0,h=>exact h|1,h=>exact h|2,h=>exact h)) underlying45 ?_)
               |(at_builtin;refine DS rfl _ _ 43 rfl (g9+1) 45 _ 3 40 underlying43 TY rfl (by decide) LY.encT IG XZ [d'.ty] kst k _ rP.o _ 1 _ rfl rfl rfl (by intro h;cases h) ip.o.row (by omega) (by omega) rS.o ?_;intro v12 w12 hM o9 o7;obtain⟨q12,c12,sr,_⟩:=A1.isRow IG (by omega) hM;subst sr;have rC:=AF (gg.o.typ hM o9 o7);clear hM o9 o7))
              go_roundw
              case rel=>exact⟨k+1,q12,c12,_,_,_,s',_,S',by omega,by go_num,rfl,rC.o.mono (by have h1:=tU.o;have h2:=bz.o.1;omega) (by have h1:=tb.o;have h2:=bz.o.1;omega),tI.o,qC.o,by rw [bz.o.1];exact HP.o.next fS.o oN.out wZ.out vg.o nD.out wR.o iq.o mN.o nK.o⟩
              case measure=>simp [intOf];omega
      ·have ai:k=a.kn:=by omega
       have mv:(l.map Ga.er).length<=k:=by rw [Ba,eE.o];omega
       have sa:=Y2 (show s.er.bad=false from iD.o) cx.o HP.o.good (HP.o.all mv).1 (HP.o.all mv).2;rw [<-Ga.er_node] at sa;have wB:=AF sa;have fV:(l.take k)=l:=BU (by rw [eE.o];omega);have hW:=HW.o;rw [fV] at hW;have HW:=AF hW;have eF:=AF HP.o.leaf;have xj:=AF HP.o.size;have wF:=AF HP.o.small;have eR:=AF HP.o.lies;have sf:=HP.o.size;rw [fV] at sf;have wH:=AF sf;have xl:=AF HP.o.good;have iV:=AF (NL s.er a.hd);have dJ:=AF ai;clear ai mv sa fV hW sf
       go_upto_region 30 with(first
        |(go_at_call 72;refine(EH _).mono ?_;rintro e w3 ⟨rfl,hb⟩;have eG:=AF (HW.o.step hb);clear hb)
        |(refine UC (c:=#[.int .u8 1,.int .i64 0,.slice none 0 0]) (RL eG.o.f.b8 7 3 (by simp)) ?_))
       have r8:=eG.o.setTy (y:=Cz 1 0) (Ep ⟨by decide,by decide⟩ ⟨by decide,by decide⟩);change Gz _ _ _ _ _ _ _ _ _ _ _ _ _ _ _ _ (w3.setCells (w0.heap.size+1+1+1+1) 7 [.int .u8 1,.int .i64 0,.slice none 0 0]) at r8;have jN:=AF r8;clear r8;generalize w3.setCells (w0.heap.size+1+1+1+1) 7 [.int .u8 1,.int .i64 0,.slice none 0 0]=W4 at *
       clear eG
       go_upto_region 31 with(first
        |(go_at_call 72;refine(EH _).mono ?_;rintro e w5 ⟨rfl,hb⟩;have ew:=AF (jN.o.step hb);clear hb)
        |(refine sn #[.int .u8 1,.int .i64 0,.slice none 0 0] ?_))
       have rX:=AF (ew.o.more (.cells #[.int .u8 1,.int .i64 0,.slice none 0 0] 45));have fO:=AF (AG w5 (.cells #[.int .u8 1,.int .i64 0,.slice none 0 0] 45));have l3:Hd (g9<w5.heap.size):=Ab ew.o.b9;have mG:Hd (∀g,(Value.slice q k cq).ownBlock=some g\/(Value.slice d.kp d.kn d.kc).ownBlock=some g->g<w5.heap.size):=fun g e=>e.elim (fun e=>(ew.o.m.lt g (ew.o.m.xk g e)).2) (fun e=>(ew.o.m.lt g (ew.o.m.xd g e)).2);obtain⟨g16,pA⟩:∃g16,w5.heap.size=g16:=⟨_,rfl⟩;rw [pA] at rX fO l3 mG ⊢;generalize w5.alloc (.cells #[.int .u8 1,.int .i64 0,.slice none 0 0] 45)=W6 at *
       clear pA ew
       go_upto_region 32 with(first
        |(go_at_call 72;refine(EH _).mono ?_;rintro e w7 ⟨rfl,hb⟩;have kP:=AF (rX.o.step hb);have fO:=AF ((hb.block _ (Ab fO.o)).trans fO.o);clear hb)
        |(refine sn #[.int .u8 1,.int .i64 0,.slice none 0 0] ?_))
       have aS:=AF (kP.o.more (.cells #[.int .u8 1,.int .i64 0,.slice none 0 0] 45));have lq:=AF (AG w7 (.cells #[.int .u8 1,.int .i64 0,.slice none 0 0] 45));have fO:=AF ((AP w7 (.cells #[.int .u8 1,.int .i64 0,.slice none 0 0] 45) _ (Ab fO.o)).trans fO.o);have l6:Hd (g16<w7.heap.size):=(kP.o.m.lt g16 (.inr rfl)).2;obtain⟨g17,pB⟩:∃g17,w7.heap.size=g17:=⟨_,rfl⟩;rw [pB] at aS lq l6 ⊢;generalize w7.alloc (.cells #[.int .u8 1,.int .i64 0,.slice none 0 0] 45)=W8 at *
       clear pB kP;obtain⟨X8,uE,pr,pt⟩:∃X8:Nat->Prop,Gz U w0 a g9 k k ar (.slice q k cq) kst ds X8 s3 ⟨d.hd,Cz 1 0,d.bind,d.kp,d.kn,d.kc⟩ S (s.b.ln+3+30 * (l.map Ad.size).sum) (s.b.vn+3+8 * (l.map Ad.size).sum) W8/\X8 g16/\X8 g17:=⟨_,aS.o,.inl (.inr rfl),.inr rfl⟩;have aS:Hd (Ho U w0 a g9 g16 g17 k ar (.slice q k cq) kst ds X8 d (Cz 1 0) (Cz 1 0) s3 (Cz 1 0) S (s.b.ln+3+30 * (l.map Ad.size).sum) (s.b.vn+3+8 * (l.map Ad.size).sum) W8):=⟨uE,fO.o,lq.o,l3.o,l6.o,pr,pt,mG.o⟩;have la:=iV.o;rw [cx.o] at la;have jo:Hd (∀{X:Nat->Prop} {s:PS} {d:IC} {S:SS} {L V:Nat} {W W':World},Gz U w0 a g9 k k ar (.slice q k cq) kst ds X s d S L V W->Below W.heap.size W W'->WB (NB U w0 X) 1 W' ar ar.er):=fun h hb=>⟨(h.step hb).m.arl,rfl,by rw [G6 la.1];exact AB _⟩;have ql:Hd (a.hd.kind=13->∀{X:Nat->Prop} {s:PS} {y:PY} {S:SS} {L V:Nat} {W W':World},Gz U w0 a g9 k k ar (.slice q k cq) kst ds X s ⟨d.hd,y,d.bind,d.kp,d.kn,d.kc⟩ S L V W->Below W.heap.size W W'->WB (NB U w0 X) 3 W' d.bind bd.er):=fun bf _ _ _ _ _ _ _ _ h hb=>⟨(h.step hb).m.bind,by rw [qC.o],(la.2 bf).1⟩;clear uE pr pt la fO lq l3 l6 mG;have k0:W8.cell? ⟨w0.heap.size+1,0,none⟩=some (.int .u8 a.hd.kind):=by rw [AD aS.o.h.f.b1];rfl
       go_upto_block 2 with fail;clear k0;go_cut [] from 153 to 379 (fun wx=>∃(s4:PS) (y:PY) (S4:SS),Gz U w0 a g9 k k ar (.slice q k cq) kst ds X8 s4 ⟨d.hd,y,d.bind,d.kp,d.kn,d.kc⟩ S4 (s.b.ln+3+30 * (l.map Ad.size).sum+15) (s.b.vn+3+8 * (l.map Ad.size).sum+3) wx/\DZ S (FZ env) a.hd ar.er bd.er (kst.map PY.er)=(S4,y.er))
       case first=>
        as_aux_lemma=>
         skip;rcases Wu HM.o.1 with h|h|h|h|h|h|h|h|h|h|h|h|h|h|h|h
         ·as_aux_lemma=>
           obtain⟨bH,cz⟩:=h;have KD:=AF bH;have hk:k=0:=by have:=dJ.o;have:=eE.o;omega
           clear bH cz;have e2:=D6 KD.out 2;have e3:=D6 KD.out 3;have e4:=D6 KD.out 4;have e5:=D6 KD.out 5;have e6:=D6 KD.out 6;have e7:=D6 KD.out 7;have e8:=D6 KD.out 8;have e9:=D6 KD.out 9;have e10:=D6 KD.out 10;have e11:=D6 KD.out 11;have e12:=D6 KD.out 12;have e13:=D6 KD.out 13;have e14:=D6 KD.out 14;have e15:=D6 KD.out 15;have e16:=D6 KD.out 16;clear hk;go_wp2_with fail;go_meet;exact⟨s3,Cz 1 0,S,aS.o.h.mono (by omega) (by omega),by rw [ZCL KD.out,Jm];rfl⟩
         ·as_aux_lemma=>
           obtain⟨bH,cz⟩:=h;have KD:=AF bH;have hk:k=0:=by have:=dJ.o;have:=eE.o;omega
           clear bH cz;have e2:=D6 KD.out 2;clear hk;have c4:W8.cell? ⟨w0.heap.size+1,4,none⟩=some (.string a.hd.name):=by rw [AD aS.o.h.f.b1];rfl
           go_wp2_with (first
            |(go_at_call 76;refine(Qy (aS.o.h.env qE.o) (by have:=HN.o;omega)).mono ?_;rintro e w9 ⟨z,rfl,hz,pw,hb⟩;have fR:=AF (aS.o.step hb);have HZ:=AF (LY.lies_mono (fun g _ h=>aS.o.h.come g h) _ hz);have rd:=AF pw;clear hz pw hb c4)
            |(refine UC fR.o.there ?_))
           go_meet;exact⟨s3,z,S,(fR.o.stT HZ.o).h.mono (by omega) (by omega),by rw [ZCM KD.out,rd.o]⟩
         ·as_aux_lemma=>
           obtain⟨bH,cz⟩:=h;have KD:=AF bH;have hk:k=2:=by have:=dJ.o;have:=eE.o;omega
           clear bH cz;have e2:=D6 KD.out 2;have e3:=D6 KD.out 3;have dV:0<k:=by omega
           obtain⟨gq,oq,hq⟩:=aS.o.h.kidP dV;subst hq;obtain⟨y0,aq⟩:=Eo eF.o eR.o (j:=0) (by rw [aS.o.h.klen];omega);obtain⟨y1,cV⟩:=Eo eF.o eR.o (j:=1) (by rw [aS.o.h.klen];omega);have mY:(1:Int)<(k:Int):=by omega
           clear hk;go_upto_region 36 with fail;refine uR (fun W'=>Below W8.heap.size W8 W') 8 (At W8) fun aA=>?_;refine up 0 166 ?_;refine up 1 167 ?_;refine KW 2 168 (fun W' aB=>(aS.o.step aB).h.kidT aq.o.at_) underlying45 ?_;refine up 3 169 ?_;refine up 4 170 ?_;refine KW 5 171 (fun W' aB=>(aS.o.step aB).h.kidT cV.o.at_) underlying45 ?_;refine ur 6 fun K hK=>?_;go_simp;go_at_call 74;refine(aS.o.ofC aA (aq.o.ty _ _) (cV.o.ty _ _)).mono ?_;rintro e p1 ⟨z1,rfl,hb,hz⟩;have HZ:=AF hz;have dO:=AF (An aA hb);clear hz hb;try go_wp2_with fail
           refine un hK (dO.o) ?_;clear aA hK K;intro aA;refine up 7 173 ?_;refine uS_ fun K hK=>?_;refine gm_ (aS.o.step aA).there ?_;refine uz hK ?_;clear aA hK K;refine uD ?_;have hN:=(aS.o.step dO.o).stT HZ.o.lies;change Ho _ _ _ _ _ _ _ _ _ _ _ _ _ _ _ _ _ _ _ _ (p1.setCells (w0.heap.size+1+1+1+1) 7 (cYl z1)) at hN;have aH:=AF hN;clear hN;generalize p1.setCells (w0.heap.size+1+1+1+1) 7 (cYl z1)=ww1 at *
           go_wp2_with fail;go_meet;refine⟨s3,z1,_,aH.o.h.mono (by omega) (by omega),?_⟩;rw [ZCN KD.out];try rw [aq.o.er]
           try rw [cV.o.er]
           try rw [HZ.o.er]
           try rfl
         ·as_aux_lemma=>
           obtain⟨bH,cz⟩:=h;have KD:=AF bH;have hk:k=1:=by have:=dJ.o;have:=eE.o;omega
           clear bH cz;have e2:=D6 KD.out 2;have e3:=D6 KD.out 3;have e4:=D6 KD.out 4;have e5:=D6 KD.out 5;have dV:0<k:=by omega
           obtain⟨gq,oq,hq⟩:=aS.o.h.kidP dV;subst hq;obtain⟨y0,aq⟩:=Eo eF.o eR.o (j:=0) (by rw [aS.o.h.klen];omega);clear hk;have gn:=AF (aS.o.var (by have h2:=ed.o;omega))
           go_upto_region 40 with(first
            |(refine lw aS.o.h.f.b0 underlying96 ?_)
            |(go_at_call 73;refine(aS.o.frC (by have:=cD.o;omega) (by have:=ed.o;omega)).mono ?_;rintro e q1 ⟨t1,rfl,hb,hs⟩;have bI:=AF hb;have bx:=AF hs;clear hb hs)
            |(refine K7 (aS.o.step bI.o).h.f.b0 ?_)
            |(refine sw #[.int .u8 5,.int .i64 (s3.b.vn:Int),.slice none 0 0] ((aS.o.stS bI.o bx.o)).b16 ?_))
           have hN:=((aS.o.stS bI.o bx.o)).st16 (Cz 5 (s3.b.vn:Int));change Ho _ _ _ _ _ _ _ _ _ _ _ _ _ _ _ _ _ _ _ _ ((q1.setRow w0.heap.size (cSa t1)).setRow g16 #[.int .u8 5,.int .i64 (s3.b.vn:Int),.slice none 0 0]) at hN;have aH:=AF hN;clear hN;generalize (q1.setRow w0.heap.size (cSa t1)).setRow g16 #[.int .u8 5,.int .i64 (s3.b.vn:Int),.slice none 0 0]=ww1 at *
           have kN:=AF (aH.o.var (by have h2:=ed.o;omega))
           go_upto_region 41 with(first
            |(refine lw aH.o.h.f.b0 underlying96 ?_)
            |(go_at_call 73;refine(aH.o.frC (by have:=cD.o;omega) (by have:=ed.o;omega)).mono ?_;rintro e q2 ⟨t2,rfl,hb,hs⟩;have bI:=AF hb;have bx:=AF hs;clear hb hs)
            |(refine K7 (aH.o.step bI.o).h.f.b0 ?_)
            |(refine sw #[.int .u8 5,.int .i64 (t1.b.vn:Int),.slice none 0 0] ((aH.o.stS bI.o bx.o)).b17 ?_))
           have hN:=((aH.o.stS bI.o bx.o)).st17 (Cz 5 (t1.b.vn:Int));change Ho _ _ _ _ _ _ _ _ _ _ _ _ _ _ _ _ _ _ _ _ ((q2.setRow w0.heap.size (cSa t2)).setRow g17 #[.int .u8 5,.int .i64 (t1.b.vn:Int),.slice none 0 0]) at hN;have aF:=AF hN;clear hN;generalize (q2.setRow w0.heap.size (cSa t2)).setRow g17 #[.int .u8 5,.int .i64 (t1.b.vn:Int),.slice none 0 0]=ww2 at *
           go_upto_region 42 with(first
            |(refine lw aF.o.b16 underlying45 ?_)
            |(refine UC (c:=#[.int .u8 5,.int .i64 (s3.b.vn:Int),.slice none 0 0]) aF.o.there ?_))
           have hN:=aF.o.stT (z:=Cz 5 (s3.b.vn:Int)) (gn.o _ _).lies;change Ho _ _ _ _ _ _ _ _ _ _ _ _ _ _ _ _ _ _ _ _ (ww2.setCells (w0.heap.size+1+1+1+1) 7 [.int .u8 5,.int .i64 (s3.b.vn:Int),.slice none 0 0]) at hN;have aL:=AF hN;clear hN;generalize ww2.setCells (w0.heap.size+1+1+1+1) 7 [.int .u8 5,.int .i64 (s3.b.vn:Int),.slice none 0 0]=ww3 at *
           have k0:ww3.cell? ⟨w0.heap.size+1,0,none⟩=some (.int .u8 a.hd.kind):=by rw [AD aL.o.h.f.b1];rfl
           go_upto_region 44 with fail;clear k0;go_upto_region 44 with fail;refine uR (fun W'=>Below ww3.heap.size ww3 W') 11 (At ww3) fun aA=>?_;refine KW 0 195 (fun W' aB=>BX (aL.o.step aB).h.f.b0) underlying96 ?_;refine up 1 196 ?_;refine up 2 197 ?_;refine up 3 198 ?_ (hy:=fun w aB=>by(try dsimp only at aB);have c2:=(aL.o.step aB).at_;go_simp;try with_reducible rfl);refine up 4 199 ?_;refine up 5 200 ?_;refine KW 6 201 (fun W' aB=>(aL.o.step aB).h.kidT aq.o.at_) underlying45 ?_;refine KW 7 202 (fun W' aB=>BX (aL.o.step aB).b16) underlying45 ?_;refine KW 8 203 (fun W' aB=>BX (aL.o.step aB).b17) underlying45 ?_;refine ur 9 fun K hK=>?_;go_simp;go_at_call 74;refine(aL.o.ofC aA (gn.o _ _) (kN.o _ _)).mono ?_;rintro e p4 ⟨z4,rfl,hb,hz⟩;have HZ:=AF hz;have dO:=AF (An aA hb);clear hz hb;try go_wp2_with fail
           refine un hK (dO.o) ?_;clear aA hK K;intro aA;refine ur 10 fun K hK=>?_;go_simp;go_at_call 77;refine(aL.o.smC aA (aq.o.ty _ _) HZ.o (by have:=cD.o;omega)).mono ?_;rintro e q4 ⟨t4,rfl,hb,hs⟩;have bI:=AF (An aA hb);have bx:=AF hs;clear hs hb;try go_wp2_with fail
           refine un hK (bI.o) ?_;clear aA hK K;intro aA;refine uS_ fun K hK=>?_;refine Iv (aL.o.step aA).h.f.b0 ?_;refine uz hK ?_;clear aA hK K;refine uD ?_;have hN:=aL.o.stS bI.o bx.o;change Ho _ _ _ _ _ _ _ _ _ _ _ _ _ _ _ _ _ _ _ _ (q4.setRow w0.heap.size (cSa t4)) at hN;have bJ:=AF hN;clear hN;generalize q4.setRow w0.heap.size (cSa t4)=ww4 at *
           go_wp2_with fail;go_meet;refine⟨t4,Cz 5 (s3.b.vn:Int),_,bJ.o.h.mono (by omega) (by omega),?_⟩;rw [ZCO KD.out];try rw [aq.o.er]
           try rw [(gn.o (fun _=>True) W8).er]
           try rw [(kN.o (fun _=>True) W8).er]
           try rfl
         ·as_aux_lemma=>
           obtain⟨bH,cz⟩:=h;have KD:=AF bH;have hk:k=1:=by have:=dJ.o;have:=eE.o;omega
           clear bH cz;have e2:=D6 KD.out 2;have e3:=D6 KD.out 3;have e4:=D6 KD.out 4;have e5:=D6 KD.out 5;have dV:0<k:=by omega
           obtain⟨gq,oq,hq⟩:=aS.o.h.kidP dV;subst hq;obtain⟨y0,aq⟩:=Eo eF.o eR.o (j:=0) (by rw [aS.o.h.klen];omega);clear hk;have gn:=AF (aS.o.var (by have h2:=ed.o;omega))
           go_upto_region 40 with(first
            |(refine lw aS.o.h.f.b0 underlying96 ?_)
            |(go_at_call 73;refine(aS.o.frC (by have:=cD.o;omega) (by have:=ed.o;omega)).mono ?_;rintro e q1 ⟨t1,rfl,hb,hs⟩;have bI:=AF hb;have bx:=AF hs;clear hb hs)
            |(refine K7 (aS.o.step bI.o).h.f.b0 ?_)
            |(refine sw #[.int .u8 5,.int .i64 (s3.b.vn:Int),.slice none 0 0] ((aS.o.stS bI.o bx.o)).b16 ?_))
           have hN:=((aS.o.stS bI.o bx.o)).st16 (Cz 5 (s3.b.vn:Int));change Ho _ _ _ _ _ _ _ _ _ _ _ _ _ _ _ _ _ _ _ _ ((q1.setRow w0.heap.size (cSa t1)).setRow g16 #[.int .u8 5,.int .i64 (s3.b.vn:Int),.slice none 0 0]) at hN;have aH:=AF hN;clear hN;generalize (q1.setRow w0.heap.size (cSa t1)).setRow g16 #[.int .u8 5,.int .i64 (s3.b.vn:Int),.slice none 0 0]=ww1 at *
           have kN:=AF (aH.o.var (by have h2:=ed.o;omega))
           go_upto_region 41 with(first
            |(refine lw aH.o.h.f.b0 underlying96 ?_)
            |(go_at_call 73;refine(aH.o.frC (by have:=cD.o;omega) (by have:=ed.o;omega)).mono ?_;rintro e q2 ⟨t2,rfl,hb,hs⟩;have bI:=AF hb;have bx:=AF hs;clear hb hs)
            |(refine K7 (aH.o.step bI.o).h.f.b0 ?_)
            |(refine sw #[.int .u8 5,.int .i64 (t1.b.vn:Int),.slice none 0 0] ((aH.o.stS bI.o bx.o)).b17 ?_))
           have hN:=((aH.o.stS bI.o bx.o)).st17 (Cz 5 (t1.b.vn:Int));change Ho _ _ _ _ _ _ _ _ _ _ _ _ _ _ _ _ _ _ _ _ ((q2.setRow w0.heap.size (cSa t2)).setRow g17 #[.int .u8 5,.int .i64 (t1.b.vn:Int),.slice none 0 0]) at hN;have aF:=AF hN;clear hN;generalize (q2.setRow w0.heap.size (cSa t2)).setRow g17 #[.int .u8 5,.int .i64 (t1.b.vn:Int),.slice none 0 0]=ww2 at *
           go_upto_region 42 with(first
            |(refine lw aF.o.b16 underlying45 ?_)
            |(refine UC (c:=#[.int .u8 5,.int .i64 (s3.b.vn:Int),.slice none 0 0]) aF.o.there ?_))
           have hN:=aF.o.stT (z:=Cz 5 (s3.b.vn:Int)) (gn.o _ _).lies;change Ho _ _ _ _ _ _ _ _ _ _ _ _ _ _ _ _ _ _ _ _ (ww2.setCells (w0.heap.size+1+1+1+1) 7 [.int .u8 5,.int .i64 (s3.b.vn:Int),.slice none 0 0]) at hN;have aL:=AF hN;clear hN;generalize ww2.setCells (w0.heap.size+1+1+1+1) 7 [.int .u8 5,.int .i64 (s3.b.vn:Int),.slice none 0 0]=ww3 at *
           have k0:ww3.cell? ⟨w0.heap.size+1,0,none⟩=some (.int .u8 a.hd.kind):=by rw [AD aL.o.h.f.b1];rfl
           go_upto_region 43 with fail;clear k0
           go_upto_region 44 with(first
            |(refine lw aL.o.b17 underlying45 ?_)
            |(refine UC (c:=#[.int .u8 5,.int .i64 (t1.b.vn:Int),.slice none 0 0]) aL.o.there ?_))
           have hN:=aL.o.stT (z:=Cz 5 (t1.b.vn:Int)) (kN.o _ _).lies;change Ho _ _ _ _ _ _ _ _ _ _ _ _ _ _ _ _ _ _ _ _ (ww3.setCells (w0.heap.size+1+1+1+1) 7 [.int .u8 5,.int .i64 (t1.b.vn:Int),.slice none 0 0]) at hN;have bJ:=AF hN;clear hN;generalize ww3.setCells (w0.heap.size+1+1+1+1) 7 [.int .u8 5,.int .i64 (t1.b.vn:Int),.slice none 0 0]=ww4 at *
           go_upto_region 44 with fail;refine uR (fun W'=>Below ww4.heap.size ww4 W') 11 (At ww4) fun aA=>?_;refine KW 0 195 (fun W' aB=>BX (bJ.o.step aB).h.f.b0) underlying96 ?_;refine up 1 196 ?_;refine up 2 197 ?_;refine up 3 198 ?_ (hy:=fun w aB=>by(try dsimp only at aB);have c2:=(bJ.o.step aB).at_;go_simp;try with_reducible rfl);refine up 4 199 ?_;refine up 5 200 ?_;refine KW 6 201 (fun W' aB=>(bJ.o.step aB).h.kidT aq.o.at_) underlying45 ?_;refine KW 7 202 (fun W' aB=>BX (bJ.o.step aB).b16) underlying45 ?_;refine KW 8 203 (fun W' aB=>BX (bJ.o.step aB).b17) underlying45 ?_;refine ur 9 fun K hK=>?_;go_simp;go_at_call 74;refine(bJ.o.ofC aA (gn.o _ _) (kN.o _ _)).mono ?_;rintro e p5 ⟨z5,rfl,hb,hz⟩;have HZ:=AF hz;have dO:=AF (An aA hb);clear hz hb;try go_wp2_with fail
           refine un hK (dO.o) ?_;clear aA hK K;intro aA;refine ur 10 fun K hK=>?_;go_simp;go_at_call 77;refine(bJ.o.smC aA (aq.o.ty _ _) HZ.o (by have:=cD.o;omega)).mono ?_;rintro e q5 ⟨t5,rfl,hb,hs⟩;have bI:=AF (An aA hb);have bx:=AF hs;clear hs hb;try go_wp2_with fail
           refine un hK (bI.o) ?_;clear aA hK K;intro aA;refine uS_ fun K hK=>?_;refine Iv (bJ.o.step aA).h.f.b0 ?_;refine uz hK ?_;clear aA hK K;refine uD ?_;have hN:=bJ.o.stS bI.o bx.o;change Ho _ _ _ _ _ _ _ _ _ _ _ _ _ _ _ _ _ _ _ _ (q5.setRow w0.heap.size (cSa t5)) at hN;have aw:=AF hN;clear hN;generalize q5.setRow w0.heap.size (cSa t5)=ww5 at *
           go_wp2_with fail;go_meet;refine⟨t5,Cz 5 (t1.b.vn:Int),_,aw.o.h.mono (by omega) (by omega),?_⟩;rw [ZCP KD.out];try rw [aq.o.er]
           try rw [(gn.o (fun _=>True) W8).er]
           try rw [(kN.o (fun _=>True) W8).er]
           try rfl
         ·as_aux_lemma=>
           obtain⟨bH,cz⟩:=h;have KD:=AF bH;have hk:k=1:=by have:=dJ.o;have:=eE.o;omega
           clear bH cz;have e2:=D6 KD.out 2;have e3:=D6 KD.out 3;have e4:=D6 KD.out 4;have e5:=D6 KD.out 5;have e6:=D6 KD.out 6;have dV:0<k:=by omega
           obtain⟨gq,oq,hq⟩:=aS.o.h.kidP dV;subst hq;obtain⟨y0,aq⟩:=Eo eF.o eR.o (j:=0) (by rw [aS.o.h.klen];omega);clear hk
           go_wp2_with (first
            |(refine VD (aS.o.h.kidT aq.o.at_) underlying45 ?_)
            |(go_at_call 78;refine(aS.o.rfC (AA _ _) (aq.o.ty _ _)).mono ?_;rintro e w9 ⟨z,rfl,hb,hz⟩;have fR:=AF (aS.o.step hb);have HZ:=AF hz;clear hz hb)
            |(refine UC fR.o.there ?_))
           go_meet;exact⟨s3,z,S,(fR.o.stT HZ.o.lies).h.mono (by omega) (by omega),by rw [ZCQ KD.out,aq.o.er,HZ.o.er]⟩
         ·as_aux_lemma=>
           obtain⟨bH,cz⟩:=h;have KD:=AF bH;have hk:k=1:=by have:=dJ.o;have:=eE.o;omega
           clear bH cz;have e2:=D6 KD.out 2;have e3:=D6 KD.out 3;have e4:=D6 KD.out 4;have e5:=D6 KD.out 5;have e6:=D6 KD.out 6;have e7:=D6 KD.out 7;have dV:0<k:=by omega
           obtain⟨gq,oq,hq⟩:=aS.o.h.kidP dV;subst hq;obtain⟨y0,aq⟩:=Eo eF.o eR.o (j:=0) (by rw [aS.o.h.klen];omega);clear hk;have gn:=AF (aS.o.var (by have h2:=ed.o;omega))
           go_upto_region 49 with(first
            |(refine lw aS.o.h.f.b0 underlying96 ?_)
            |(go_at_call 73;refine(aS.o.frC (by have:=cD.o;omega) (by have:=ed.o;omega)).mono ?_;rintro e q1 ⟨t1,rfl,hb,hs⟩;have bI:=AF hb;have bx:=AF hs;clear hb hs)
            |(refine K7 (aS.o.step bI.o).h.f.b0 ?_)
            |(refine sw #[.int .u8 5,.int .i64 (s3.b.vn:Int),.slice none 0 0] ((aS.o.stS bI.o bx.o)).b16 ?_))
           have hN:=((aS.o.stS bI.o bx.o)).st16 (Cz 5 (s3.b.vn:Int));change Ho _ _ _ _ _ _ _ _ _ _ _ _ _ _ _ _ _ _ _ _ ((q1.setRow w0.heap.size (cSa t1)).setRow g16 #[.int .u8 5,.int .i64 (s3.b.vn:Int),.slice none 0 0]) at hN;have aH:=AF hN;clear hN;generalize (q1.setRow w0.heap.size (cSa t1)).setRow g16 #[.int .u8 5,.int .i64 (s3.b.vn:Int),.slice none 0 0]=ww1 at *
           go_upto_region 50 with(first
            |(refine lw aH.o.b16 underlying45 ?_)
            |(refine UC (c:=#[.int .u8 5,.int .i64 (s3.b.vn:Int),.slice none 0 0]) aH.o.there ?_))
           have hN:=aH.o.stT (z:=Cz 5 (s3.b.vn:Int)) (gn.o _ _).lies;change Ho _ _ _ _ _ _ _ _ _ _ _ _ _ _ _ _ _ _ _ _ (ww1.setCells (w0.heap.size+1+1+1+1) 7 [.int .u8 5,.int .i64 (s3.b.vn:Int),.slice none 0 0]) at hN;have aF:=AF hN;clear hN;generalize ww1.setCells (w0.heap.size+1+1+1+1) 7 [.int .u8 5,.int .i64 (s3.b.vn:Int),.slice none 0 0]=ww2 at *
           go_upto_region 50 with fail;refine uR (fun W'=>Below ww2.heap.size ww2 W') 10 (At ww2) fun aA=>?_;refine KW 0 222 (fun W' aB=>BX (aF.o.step aB).h.f.b0) underlying96 ?_;refine up 1 223 ?_;refine up 2 224 ?_;refine up 3 225 ?_ (hy:=fun w aB=>by(try dsimp only at aB);have c2:=(aF.o.step aB).at_;go_simp;try with_reducible rfl);refine up 4 226 ?_;refine up 5 227 ?_;refine KW 6 228 (fun W' aB=>(aF.o.step aB).h.kidT aq.o.at_) underlying45 ?_;refine KW 7 229 (fun W' aB=>BX (aF.o.step aB).b16) underlying45 ?_;refine ur 8 fun K hK=>?_;go_simp;go_at_call 78;refine(aF.o.rfC aA (gn.o _ _)).mono ?_;rintro e p3 ⟨z3,rfl,hb,hz⟩;have HZ:=AF hz;have dO:=AF (An aA hb);clear hz hb;try go_wp2_with fail
           refine un hK (dO.o) ?_;clear aA hK K;intro aA;refine ur 9 fun K hK=>?_;go_simp;go_at_call 77;refine(aF.o.smC aA (aq.o.ty _ _) HZ.o (by have:=cD.o;omega)).mono ?_;rintro e q3 ⟨t3,rfl,hb,hs⟩;have bI:=AF (An aA hb);have bx:=AF hs;clear hs hb;try go_wp2_with fail
           refine un hK (bI.o) ?_;clear aA hK K;intro aA;refine uS_ fun K hK=>?_;refine Iv (aF.o.step aA).h.f.b0 ?_;refine uz hK ?_;clear aA hK K;refine uD ?_;have hN:=aF.o.stS bI.o bx.o;change Ho _ _ _ _ _ _ _ _ _ _ _ _ _ _ _ _ _ _ _ _ (q3.setRow w0.heap.size (cSa t3)) at hN;have aL:=AF hN;clear hN;generalize q3.setRow w0.heap.size (cSa t3)=ww3 at *
           go_wp2_with fail;go_meet;refine⟨t3,Cz 5 (s3.b.vn:Int),_,aL.o.h.mono (by omega) (by omega),?_⟩;rw [ZCR KD.out];try rw [aq.o.er]
           try rw [(gn.o (fun _=>True) W8).er]
           try rfl
         ·as_aux_lemma=>
           obtain⟨bH,cz⟩:=h;have KD:=AF bH;have hk:k=2:=by have:=dJ.o;have:=eE.o;omega
           clear bH cz;have e2:=D6 KD.out 2;have e3:=D6 KD.out 3;have e4:=D6 KD.out 4;have e5:=D6 KD.out 5;have e6:=D6 KD.out 6;have e7:=D6 KD.out 7;have e8:=D6 KD.out 8;have dV:0<k:=by omega
           obtain⟨gq,oq,hq⟩:=aS.o.h.kidP dV;subst hq;obtain⟨y0,aq⟩:=Eo eF.o eR.o (j:=0) (by rw [aS.o.h.klen];omega);obtain⟨y1,cV⟩:=Eo eF.o eR.o (j:=1) (by rw [aS.o.h.klen];omega);have mY:(1:Int)<(k:Int):=by omega
           clear hk;go_upto_region 52 with fail;refine uR (fun W'=>Below W8.heap.size W8 W') 12 (At W8) fun aA=>?_;refine KW 0 234 (fun W' aB=>BX (aS.o.step aB).h.f.b0) underlying96 ?_;refine up 1 235 ?_;refine up 2 236 ?_;refine up 3 237 ?_ (hy:=fun w aB=>by(try dsimp only at aB);have c2:=(aS.o.step aB).at_;go_simp;try with_reducible rfl);refine up 4 238 ?_;refine up 5 239 ?_;refine KW 6 240 (fun W' aB=>(aS.o.step aB).h.kidT aq.o.at_) underlying45 ?_;refine up 7 241 ?_;refine up 8 242 ?_;refine KW 9 243 (fun W' aB=>(aS.o.step aB).h.kidT cV.o.at_) underlying45 ?_;refine ur 10 fun K hK=>?_;go_simp;go_at_call 78;refine(aS.o.rfC aA (cV.o.ty _ _)).mono ?_;rintro e p1 ⟨z1,rfl,hb,hz⟩;have HZ:=AF hz;have dO:=AF (An aA hb);clear hz hb;try go_wp2_with fail
           refine un hK (dO.o) ?_;clear aA hK K;intro aA;refine ur 11 fun K hK=>?_;go_simp;go_at_call 77;refine(aS.o.smC aA (aq.o.ty _ _) HZ.o (by have:=cD.o;omega)).mono ?_;rintro e q1 ⟨t1,rfl,hb,hs⟩;have bI:=AF (An aA hb);have bx:=AF hs;clear hs hb;try go_wp2_with fail
           refine un hK (bI.o) ?_;clear aA hK K;intro aA;refine uS_ fun K hK=>?_;refine Iv (aS.o.step aA).h.f.b0 ?_;refine uz hK ?_;clear aA hK K;refine uD ?_;have hN:=aS.o.stS bI.o bx.o;change Ho _ _ _ _ _ _ _ _ _ _ _ _ _ _ _ _ _ _ _ _ (q1.setRow w0.heap.size (cSa t1)) at hN;have aH:=AF hN;clear hN;generalize q1.setRow w0.heap.size (cSa t1)=ww1 at *
           go_wp2_with fail;go_meet;refine⟨t1,Cz 1 0,_,aH.o.h.mono (by omega) (by omega),?_⟩;rw [ZCS KD.out];try rw [aq.o.er]
           try rw [cV.o.er]
           try rw [Jm]
           try rfl
         ·as_aux_lemma=>
           obtain⟨bH,cz⟩:=h;have KD:=AF bH;have hk:k=2:=by have:=dJ.o;have:=eE.o;omega
           clear bH cz;have e2:=D6 KD.out 2;have e3:=D6 KD.out 3;have e4:=D6 KD.out 4;have e5:=D6 KD.out 5;have e6:=D6 KD.out 6;have e7:=D6 KD.out 7;have e8:=D6 KD.out 8;have e9:=D6 KD.out 9;have dV:0<k:=by omega
           obtain⟨gq,oq,hq⟩:=aS.o.h.kidP dV;subst hq;obtain⟨y0,aq⟩:=Eo eF.o eR.o (j:=0) (by rw [aS.o.h.klen];omega);obtain⟨y1,cV⟩:=Eo eF.o eR.o (j:=1) (by rw [aS.o.h.klen];omega);have mY:(1:Int)<(k:Int):=by omega
           clear hk;go_upto_region 54 with fail;refine uR (fun W'=>Below W8.heap.size W8 W') 9 (At W8) fun aA=>?_;refine KW 0 248 (fun W' aB=>BX (aS.o.step aB).h.f.b0) underlying96 ?_;refine up 1 249 ?_;refine up 2 250 ?_;refine up 3 251 ?_ (hy:=fun w aB=>by(try dsimp only at aB);have c2:=(aS.o.step aB).at_;go_simp;try with_reducible rfl);refine up 4 252 ?_;refine up 5 253 ?_;refine KW 6 254 (fun W' aB=>(aS.o.step aB).h.kidT aq.o.at_) underlying45 ?_;refine ur 7 fun K hK=>?_;go_simp;go_at_call 72;refine(EH _).mono ?_;rintro e p1 ⟨rfl,hb⟩;have dO:=AF (An aA hb);clear hb;try go_wp2_with fail
           refine un hK (dO.o) ?_;clear aA hK K;intro aA;refine ur 8 fun K hK=>?_;go_simp;go_at_call 77;refine(aS.o.smC aA (aq.o.ty _ _) (ZCG _ _) (by have:=cD.o;omega)).mono ?_;rintro e q1 ⟨t1,rfl,hb,hs⟩;have bI:=AF (An aA hb);have bx:=AF hs;clear hs hb;try go_wp2_with fail
           refine un hK (bI.o) ?_;clear aA hK K;intro aA;refine uS_ fun K hK=>?_;refine Iv (aS.o.step aA).h.f.b0 ?_;refine uz hK ?_;clear aA hK K;refine uD ?_;have hN:=aS.o.stS bI.o bx.o;change Ho _ _ _ _ _ _ _ _ _ _ _ _ _ _ _ _ _ _ _ _ (q1.setRow w0.heap.size (cSa t1)) at hN;have aH:=AF hN;clear hN;generalize q1.setRow w0.heap.size (cSa t1)=ww1 at *
           go_upto_region 55 with fail;refine uR (fun W'=>Below ww1.heap.size ww1 W') 9 (At ww1) fun aA=>?_;refine KW 0 257 (fun W' aB=>BX (aH.o.step aB).h.f.b0) underlying96 ?_;refine up 1 258 ?_;refine up 2 259 ?_;refine up 3 260 ?_ (hy:=fun w aB=>by(try dsimp only at aB);have c2:=(aH.o.step aB).at_;go_simp;try with_reducible rfl);refine up 4 261 ?_;refine up 5 262 ?_;refine KW 6 263 (fun W' aB=>(aH.o.step aB).h.kidT cV.o.at_) underlying45 ?_;refine ur 7 fun K hK=>?_;go_simp;go_at_call 72;refine(EH _).mono ?_;rintro e p2 ⟨rfl,hb⟩;have dO:=AF (An aA hb);clear hb;try go_wp2_with fail
           refine un hK (dO.o) ?_;clear aA hK K;intro aA;refine ur 8 fun K hK=>?_;go_simp;go_at_call 77;refine(aH.o.smC aA (cV.o.ty _ _) (ZCG _ _) (by have:=cD.o;omega)).mono ?_;rintro e q2 ⟨t2,rfl,hb,hs⟩;have bI:=AF (An aA hb);have bx:=AF hs;clear hs hb;try go_wp2_with fail
           refine un hK (bI.o) ?_;clear aA hK K;intro aA;refine uS_ fun K hK=>?_;refine Iv (aH.o.step aA).h.f.b0 ?_;refine uz hK ?_;clear aA hK K;refine uD ?_;have hN:=aH.o.stS bI.o bx.o;change Ho _ _ _ _ _ _ _ _ _ _ _ _ _ _ _ _ _ _ _ _ (q2.setRow w0.heap.size (cSa t2)) at hN;have aF:=AF hN;clear hN;generalize q2.setRow w0.heap.size (cSa t2)=ww2 at *
           go_wp2_with fail;go_meet;refine⟨t2,Cz 1 0,_,aF.o.h.mono (by omega) (by omega),?_⟩;rw [ZCT KD.out];try rw [aq.o.er]
           try rw [cV.o.er]
           try rw [Jm]
           try rfl
         ·as_aux_lemma=>
           obtain⟨bH,cz⟩:=h;have KD:=AF bH;have hk:k=2:=by have:=dJ.o;have:=eE.o;omega
           clear bH cz;have e2:=D6 KD.out 2;have e3:=D6 KD.out 3;have e4:=D6 KD.out 4;have e5:=D6 KD.out 5;have e6:=D6 KD.out 6;have e7:=D6 KD.out 7;have e8:=D6 KD.out 8;have e9:=D6 KD.out 9;have e10:=D6 KD.out 10;have dV:0<k:=by omega
           obtain⟨gq,oq,hq⟩:=aS.o.h.kidP dV;subst hq;obtain⟨y0,aq⟩:=Eo eF.o eR.o (j:=0) (by rw [aS.o.h.klen];omega);obtain⟨y1,cV⟩:=Eo eF.o eR.o (j:=1) (by rw [aS.o.h.klen];omega);have mY:(1:Int)<(k:Int):=by omega
           clear hk;have gn:=AF (aS.o.var (by have h2:=ed.o;omega))
           go_upto_region 58 with(first
            |(refine lw aS.o.h.f.b0 underlying96 ?_)
            |(go_at_call 73;refine(aS.o.frC (by have:=cD.o;omega) (by have:=ed.o;omega)).mono ?_;rintro e q1 ⟨t1,rfl,hb,hs⟩;have bI:=AF hb;have bx:=AF hs;clear hb hs)
            |(refine K7 (aS.o.step bI.o).h.f.b0 ?_)
            |(refine sw #[.int .u8 5,.int .i64 (s3.b.vn:Int),.slice none 0 0] ((aS.o.stS bI.o bx.o)).b16 ?_))
           have hN:=((aS.o.stS bI.o bx.o)).st16 (Cz 5 (s3.b.vn:Int));change Ho _ _ _ _ _ _ _ _ _ _ _ _ _ _ _ _ _ _ _ _ ((q1.setRow w0.heap.size (cSa t1)).setRow g16 #[.int .u8 5,.int .i64 (s3.b.vn:Int),.slice none 0 0]) at hN;have aH:=AF hN;clear hN;generalize (q1.setRow w0.heap.size (cSa t1)).setRow g16 #[.int .u8 5,.int .i64 (s3.b.vn:Int),.slice none 0 0]=ww1 at *
           go_upto_region 59 with(first
            |(refine lw aH.o.b16 underlying45 ?_)
            |(refine UC (c:=#[.int .u8 5,.int .i64 (s3.b.vn:Int),.slice none 0 0]) aH.o.there ?_))
           have hN:=aH.o.stT (z:=Cz 5 (s3.b.vn:Int)) (gn.o _ _).lies;change Ho _ _ _ _ _ _ _ _ _ _ _ _ _ _ _ _ _ _ _ _ (ww1.setCells (w0.heap.size+1+1+1+1) 7 [.int .u8 5,.int .i64 (s3.b.vn:Int),.slice none 0 0]) at hN;have aF:=AF hN;clear hN;generalize ww1.setCells (w0.heap.size+1+1+1+1) 7 [.int .u8 5,.int .i64 (s3.b.vn:Int),.slice none 0 0]=ww2 at *
           go_upto_region 59 with fail;refine uR (fun W'=>Below ww2.heap.size ww2 W') 13 (At ww2) fun aA=>?_;refine KW 0 275 (fun W' aB=>BX (aF.o.step aB).h.f.b0) underlying96 ?_;refine up 1 276 ?_;refine up 2 277 ?_;refine up 3 278 ?_ (hy:=fun w aB=>by(try dsimp only at aB);have c2:=(aF.o.step aB).at_;go_simp;try with_reducible rfl);refine up 4 279 ?_;refine up 5 280 ?_;refine KW 6 281 (fun W' aB=>(aF.o.step aB).h.kidT aq.o.at_) underlying45 ?_;refine up 7 282 ?_;refine up 8 283 ?_;refine KW 9 284 (fun W' aB=>(aF.o.step aB).h.kidT cV.o.at_) underlying45 ?_;refine KW 10 285 (fun W' aB=>BX (aF.o.step aB).b16) underlying45 ?_;refine ur 11 fun K hK=>?_;go_simp;go_at_call 74;refine(aF.o.ofC aA (cV.o.ty _ _) (gn.o _ _)).mono ?_;rintro e p3 ⟨z3,rfl,hb,hz⟩;have HZ:=AF hz;have dO:=AF (An aA hb);clear hz hb;try go_wp2_with fail
           refine un hK (dO.o) ?_;clear aA hK K;intro aA;refine ur 12 fun K hK=>?_;go_simp;go_at_call 77;refine(aF.o.smC aA (aq.o.ty _ _) HZ.o (by have:=cD.o;omega)).mono ?_;rintro e q3 ⟨t3,rfl,hb,hs⟩;have bI:=AF (An aA hb);have bx:=AF hs;clear hs hb;try go_wp2_with fail
           refine un hK (bI.o) ?_;clear aA hK K;intro aA;refine uS_ fun K hK=>?_;refine Iv (aF.o.step aA).h.f.b0 ?_;refine uz hK ?_;clear aA hK K;refine uD ?_;have hN:=aF.o.stS bI.o bx.o;change Ho _ _ _ _ _ _ _ _ _ _ _ _ _ _ _ _ _ _ _ _ (q3.setRow w0.heap.size (cSa t3)) at hN;have aL:=AF hN;clear hN;generalize q3.setRow w0.heap.size (cSa t3)=ww3 at *
           go_wp2_with fail;go_meet;refine⟨t3,Cz 5 (s3.b.vn:Int),_,aL.o.h.mono (by omega) (by omega),?_⟩;rw [ZAz KD.out];try rw [aq.o.er]
           try rw [cV.o.er]
           try rw [(gn.o (fun _=>True) W8).er]
           try rfl
         ·as_aux_lemma=>
           obtain⟨bH,cz⟩:=h;have KD:=AF bH;have hk:k=1:=by have:=dJ.o;have:=eE.o;omega
           clear bH cz;have e2:=D6 KD.out 2;have e3:=D6 KD.out 3;have e4:=D6 KD.out 4;have e5:=D6 KD.out 5;have e6:=D6 KD.out 6;have e7:=D6 KD.out 7;have e8:=D6 KD.out 8;have e9:=D6 KD.out 9;have e10:=D6 KD.out 10;have e11:=D6 KD.out 11;have dV:0<k:=by omega
           obtain⟨gq,oq,hq⟩:=aS.o.h.kidP dV;subst hq;obtain⟨y0,aq⟩:=Eo eF.o eR.o (j:=0) (by rw [aS.o.h.klen];omega);clear hk;go_upto_region 61 with fail;refine uR (fun W'=>Below W8.heap.size W8 W') 6 (At W8) fun aA=>?_;refine KW 0 290 (fun W' aB=>BX (aS.o.step aB).h.b9) underlying45 ?_;refine up 1 291 ?_;refine up 2 292 ?_;refine KW 3 293 (fun W' aB=>(aS.o.step aB).h.kidT aq.o.at_) underlying45 ?_;refine ur 4 fun K hK=>?_;go_simp;go_at_call 74;refine(aS.o.ofC aA (jo.o aS.o.h aA) (aq.o.ty _ _)).mono ?_;rintro e p1 ⟨z1,rfl,hb,hz⟩;have HZ:=AF hz;have dO:=AF (An aA hb);clear hz hb;try go_wp2_with fail
           refine un hK (dO.o) ?_;clear aA hK K;intro aA;refine up 5 295 ?_;refine uS_ fun K hK=>?_;refine gm_ (aS.o.step aA).there ?_;refine uz hK ?_;clear aA hK K;refine uD ?_;have hN:=(aS.o.step dO.o).stT HZ.o.lies;change Ho _ _ _ _ _ _ _ _ _ _ _ _ _ _ _ _ _ _ _ _ (p1.setCells (w0.heap.size+1+1+1+1) 7 (cYl z1)) at hN;have aH:=AF hN;clear hN;generalize p1.setCells (w0.heap.size+1+1+1+1) 7 (cYl z1)=ww1 at *
           go_wp2_with fail;go_meet;refine⟨s3,z1,_,aH.o.h.mono (by omega) (by omega),?_⟩;rw [ZA0 KD.out];try rw [aq.o.er]
           try rw [HZ.o.er]
           try rfl
         ·as_aux_lemma=>
           obtain⟨bH,cz⟩:=h;have KD:=AF bH;have hk:k=2:=by have:=dJ.o;have:=eE.o;omega
           clear bH cz;have e2:=D6 KD.out 2;have e3:=D6 KD.out 3;have e4:=D6 KD.out 4;have e5:=D6 KD.out 5;have e6:=D6 KD.out 6;have e7:=D6 KD.out 7;have e8:=D6 KD.out 8;have e9:=D6 KD.out 9;have e10:=D6 KD.out 10;have e11:=D6 KD.out 11;have e12:=D6 KD.out 12;have dV:0<k:=by omega
           obtain⟨gq,oq,hq⟩:=aS.o.h.kidP dV;subst hq;obtain⟨y0,aq⟩:=Eo eF.o eR.o (j:=0) (by rw [aS.o.h.klen];omega);obtain⟨y1,cV⟩:=Eo eF.o eR.o (j:=1) (by rw [aS.o.h.klen];omega);have mY:(1:Int)<(k:Int):=by omega
           clear hk
           go_wp2_with (first
            |(refine VD (aS.o.h.kidT cV.o.at_) underlying45 ?_)
            |(refine UC aS.o.there ?_))
           have hN:=aS.o.stT (z:=y1) (cV.o.ty _ _).lies;change Ho _ _ _ _ _ _ _ _ _ _ _ _ _ _ _ _ _ _ _ _ (W8.setCells (w0.heap.size+1+1+1+1) 7 (cYl y1)) at hN;have aH:=AF hN;clear hN;generalize W8.setCells (w0.heap.size+1+1+1+1) 7 (cYl y1)=ww1 at *
           go_wp2_with fail;go_meet;refine⟨s3,y1,_,aH.o.h.mono (by omega) (by omega),?_⟩;rw [ZA1 KD.out];try rw [aq.o.er]
           try rw [cV.o.er]
           try rfl
         ·as_aux_lemma=>
           obtain⟨bH,cz⟩:=h;have KD:=AF bH;have hk:k=2:=by have:=dJ.o;have:=eE.o;omega
           clear bH cz;have e2:=D6 KD.out 2;have e3:=D6 KD.out 3;have e4:=D6 KD.out 4;have e5:=D6 KD.out 5;have e6:=D6 KD.out 6;have e7:=D6 KD.out 7;have e8:=D6 KD.out 8;have e9:=D6 KD.out 9;have e10:=D6 KD.out 10;have e11:=D6 KD.out 11;have e12:=D6 KD.out 12;have e13:=D6 KD.out 13;have dV:0<k:=by omega
           obtain⟨gq,oq,hq⟩:=aS.o.h.kidP dV;subst hq;obtain⟨y0,aq⟩:=Eo eF.o eR.o (j:=0) (by rw [aS.o.h.klen];omega);obtain⟨y1,cV⟩:=Eo eF.o eR.o (j:=1) (by rw [aS.o.h.klen];omega);have mY:(1:Int)<(k:Int):=by omega
           clear hk
           go_upto_region 66 with(first
            |(refine VD (aS.o.h.kidT cV.o.at_) underlying45 ?_)
            |(refine UC aS.o.there ?_))
           have hN:=aS.o.stT (z:=y1) (cV.o.ty _ _).lies;change Ho _ _ _ _ _ _ _ _ _ _ _ _ _ _ _ _ _ _ _ _ (W8.setCells (w0.heap.size+1+1+1+1) 7 (cYl y1)) at hN;have aH:=AF hN;clear hN;generalize W8.setCells (w0.heap.size+1+1+1+1) 7 (cYl y1)=ww1 at *
           go_upto_region 66 with fail;refine uR (fun W'=>Below ww1.heap.size ww1 W') 12 (At ww1) fun aA=>?_;refine KW 0 308 (fun W' aB=>BX (aH.o.step aB).h.f.b0) underlying96 ?_;refine up 1 309 ?_;refine up 2 310 ?_;refine up 3 311 ?_ (hy:=fun w aB=>by(try dsimp only at aB);have c2:=(aH.o.step aB).at_;go_simp;try with_reducible rfl);refine up 4 312 ?_;refine KW 5 313 (fun W' aB=>(aH.o.step aB).bd) underlying45 ?_;refine KW 6 314 (fun W' aB=>BX (aH.o.step aB).h.b9) underlying45 ?_;refine up 7 315 ?_;refine up 8 316 ?_;refine KW 9 317 (fun W' aB=>(aH.o.step aB).h.kidT aq.o.at_) underlying45 ?_;refine ur 10 fun K hK=>?_;go_simp;go_at_call 74;refine(aH.o.ofC aA (jo.o aH.o.h aA) (aq.o.ty _ _)).mono ?_;rintro e p2 ⟨z2,rfl,hb,hz⟩;have HZ:=AF hz;have dO:=AF (An aA hb);clear hz hb;try go_wp2_with fail
           refine un hK (dO.o) ?_;clear aA hK K;intro aA;refine ur 11 fun K hK=>?_;go_simp;go_at_call 77;refine(aH.o.smC aA (ql.o KD.out aH.o.h aA) HZ.o (by have:=cD.o;omega)).mono ?_;rintro e q2 ⟨t2,rfl,hb,hs⟩;have bI:=AF (An aA hb);have bx:=AF hs;clear hs hb;try go_wp2_with fail
           refine un hK (bI.o) ?_;clear aA hK K;intro aA;refine uS_ fun K hK=>?_;refine Iv (aH.o.step aA).h.f.b0 ?_;refine uz hK ?_;clear aA hK K;refine uD ?_;have hN:=aH.o.stS bI.o bx.o;change Ho _ _ _ _ _ _ _ _ _ _ _ _ _ _ _ _ _ _ _ _ (q2.setRow w0.heap.size (cSa t2)) at hN;have aF:=AF hN;clear hN;generalize q2.setRow w0.heap.size (cSa t2)=ww2 at *
           go_wp2_with fail;go_meet;refine⟨t2,y1,_,aF.o.h.mono (by omega) (by omega),?_⟩;rw [ZA2 KD.out];try rw [aq.o.er]
           try rw [cV.o.er]
           try rfl
         ·as_aux_lemma=>
           obtain⟨bH,cz⟩:=h;have KD:=AF bH;have hk:k=3:=by have:=dJ.o;have:=eE.o;omega
           clear bH cz;have e2:=D6 KD.out 2;have e3:=D6 KD.out 3;have e4:=D6 KD.out 4;have e5:=D6 KD.out 5;have e6:=D6 KD.out 6;have e7:=D6 KD.out 7;have e8:=D6 KD.out 8;have e9:=D6 KD.out 9;have e10:=D6 KD.out 10;have e11:=D6 KD.out 11;have e12:=D6 KD.out 12;have e13:=D6 KD.out 13;have e14:=D6 KD.out 14;have dV:0<k:=by omega
           obtain⟨gq,oq,hq⟩:=aS.o.h.kidP dV;subst hq;obtain⟨y0,aq⟩:=Eo eF.o eR.o (j:=0) (by rw [aS.o.h.klen];omega);obtain⟨y1,cV⟩:=Eo eF.o eR.o (j:=1) (by rw [aS.o.h.klen];omega);obtain⟨y2,nF⟩:=Eo eF.o eR.o (j:=2) (by rw [aS.o.h.klen];omega);have mY:(1:Int)<(k:Int):=by omega
           have xm:(2:Int)<(k:Int):=by omega
           clear hk
           go_upto_region 69 with(first
            |(refine VD (aS.o.h.kidT cV.o.at_) underlying45 ?_)
            |(refine UC aS.o.there ?_))
           have hN:=aS.o.stT (z:=y1) (cV.o.ty _ _).lies;change Ho _ _ _ _ _ _ _ _ _ _ _ _ _ _ _ _ _ _ _ _ (W8.setCells (w0.heap.size+1+1+1+1) 7 (cYl y1)) at hN;have aH:=AF hN;clear hN;generalize W8.setCells (w0.heap.size+1+1+1+1) 7 (cYl y1)=ww1 at *
           go_upto_region 69 with fail;refine uR (fun W'=>Below ww1.heap.size ww1 W') 9 (At ww1) fun aA=>?_;refine KW 0 326 (fun W' aB=>BX (aH.o.step aB).h.f.b0) underlying96 ?_;refine up 1 327 ?_;refine up 2 328 ?_;refine up 3 329 ?_ (hy:=fun w aB=>by(try dsimp only at aB);have c2:=(aH.o.step aB).at_;go_simp;try with_reducible rfl);refine up 4 330 ?_;refine up 5 331 ?_;refine KW 6 332 (fun W' aB=>(aH.o.step aB).h.kidT aq.o.at_) underlying45 ?_;refine ur 7 fun K hK=>?_;go_simp;go_at_call 72;refine(EH _).mono ?_;rintro e p2 ⟨rfl,hb⟩;have dO:=AF (An aA hb);clear hb;try go_wp2_with fail
           refine un hK (dO.o) ?_;clear aA hK K;intro aA;refine ur 8 fun K hK=>?_;go_simp;go_at_call 77;refine(aH.o.smC aA (aq.o.ty _ _) (ZCG _ _) (by have:=cD.o;omega)).mono ?_;rintro e q2 ⟨t2,rfl,hb,hs⟩;have bI:=AF (An aA hb);have bx:=AF hs;clear hs hb;try go_wp2_with fail
           refine un hK (bI.o) ?_;clear aA hK K;intro aA;refine uS_ fun K hK=>?_;refine Iv (aH.o.step aA).h.f.b0 ?_;refine uz hK ?_;clear aA hK K;refine uD ?_;have hN:=aH.o.stS bI.o bx.o;change Ho _ _ _ _ _ _ _ _ _ _ _ _ _ _ _ _ _ _ _ _ (q2.setRow w0.heap.size (cSa t2)) at hN;have aF:=AF hN;clear hN;generalize q2.setRow w0.heap.size (cSa t2)=ww2 at *
           go_upto_region 70 with fail;refine uR (fun W'=>Below ww2.heap.size ww2 W') 11 (At ww2) fun aA=>?_;refine KW 0 335 (fun W' aB=>BX (aF.o.step aB).h.f.b0) underlying96 ?_;refine up 1 336 ?_;refine up 2 337 ?_;refine up 3 338 ?_ (hy:=fun w aB=>by(try dsimp only at aB);have c2:=(aF.o.step aB).at_;go_simp;try with_reducible rfl);refine up 4 339 ?_;refine up 5 340 ?_;refine KW 6 341 (fun W' aB=>(aF.o.step aB).h.kidT cV.o.at_) underlying45 ?_;refine up 7 342 ?_;refine up 8 343 ?_;refine KW 9 344 (fun W' aB=>(aF.o.step aB).h.kidT nF.o.at_) underlying45 ?_;refine ur 10 fun K hK=>?_;go_simp;go_at_call 77;refine(aF.o.smC aA (cV.o.ty _ _) (nF.o.ty _ _) (by have:=cD.o;omega)).mono ?_;rintro e q3 ⟨t3,rfl,hb,hs⟩;have bI:=AF (An aA hb);have bx:=AF hs;clear hs hb;try go_wp2_with fail
           refine un hK (bI.o) ?_;clear aA hK K;intro aA;refine uS_ fun K hK=>?_;refine Iv (aF.o.step aA).h.f.b0 ?_;refine uz hK ?_;clear aA hK K;refine uD ?_;have hN:=aF.o.stS bI.o bx.o;change Ho _ _ _ _ _ _ _ _ _ _ _ _ _ _ _ _ _ _ _ _ (q3.setRow w0.heap.size (cSa t3)) at hN;have aL:=AF hN;clear hN;generalize q3.setRow w0.heap.size (cSa t3)=ww3 at *
           go_wp2_with fail;go_meet;refine⟨t3,y1,_,aL.o.h.mono (by omega) (by omega),?_⟩;rw [ZA3 KD.out];try rw [aq.o.er]
           try rw [cV.o.er]
           try rw [nF.o.er]
           try rfl
         ·as_aux_lemma=>
           obtain⟨bH,cz⟩:=h;have KD:=AF bH;have hk:k=1:=by have:=dJ.o;have:=eE.o;omega
           clear bH cz;have e2:=D6 KD.out 2;have e3:=D6 KD.out 3;have e4:=D6 KD.out 4;have e5:=D6 KD.out 5;have e6:=D6 KD.out 6;have e7:=D6 KD.out 7;have e8:=D6 KD.out 8;have e9:=D6 KD.out 9;have e10:=D6 KD.out 10;have e11:=D6 KD.out 11;have e12:=D6 KD.out 12;have e13:=D6 KD.out 13;have e14:=D6 KD.out 14;have e15:=D6 KD.out 15;have dV:0<k:=by omega
           obtain⟨gq,oq,hq⟩:=aS.o.h.kidP dV;subst hq;obtain⟨y0,aq⟩:=Eo eF.o eR.o (j:=0) (by rw [aS.o.h.klen];omega);clear hk;go_upto_region 72 with fail;refine uR (fun W'=>Below W8.heap.size W8 W') 9 (At W8) fun aA=>?_;refine KW 0 348 (fun W' aB=>BX (aS.o.step aB).h.f.b0) underlying96 ?_;refine up 1 349 ?_;refine up 2 350 ?_;refine up 3 351 ?_ (hy:=fun w aB=>by(try dsimp only at aB);have c2:=(aS.o.step aB).at_;go_simp;try with_reducible rfl);refine up 4 352 ?_;refine up 5 353 ?_;refine KW 6 354 (fun W' aB=>(aS.o.step aB).h.kidT aq.o.at_) underlying45 ?_;refine ur 7 fun K hK=>?_;go_simp;go_at_call 72;refine(EH _).mono ?_;rintro e p1 ⟨rfl,hb⟩;have dO:=AF (An aA hb);clear hb;try go_wp2_with fail
           refine un hK (dO.o) ?_;clear aA hK K;intro aA;refine ur 8 fun K hK=>?_;go_simp;go_at_call 77;refine(aS.o.smC aA (aq.o.ty _ _) (ZCG _ _) (by have:=cD.o;omega)).mono ?_;rintro e q1 ⟨t1,rfl,hb,hs⟩;have bI:=AF (An aA hb);have bx:=AF hs;clear hs hb;try go_wp2_with fail
           refine un hK (bI.o) ?_;clear aA hK K;intro aA;refine uS_ fun K hK=>?_;refine Iv (aS.o.step aA).h.f.b0 ?_;refine uz hK ?_;clear aA hK K;refine uD ?_;have hN:=aS.o.stS bI.o bx.o;change Ho _ _ _ _ _ _ _ _ _ _ _ _ _ _ _ _ _ _ _ _ (q1.setRow w0.heap.size (cSa t1)) at hN;have aH:=AF hN;clear hN;generalize q1.setRow w0.heap.size (cSa t1)=ww1 at *
           have kN:=AF (aH.o.var (by have h2:=ed.o;omega))
           go_wp2_with (first
            |(refine lw aH.o.h.f.b0 underlying96 ?_)
            |(go_at_call 73;refine(aH.o.frC (by have:=cD.o;omega) (by have:=ed.o;omega)).mono ?_;rintro e q2 ⟨t2,rfl,hb,hs⟩;have bI:=AF hb;have bx:=AF hs;clear hb hs)
            |(refine K7 (aH.o.step bI.o).h.f.b0 ?_)
            |(refine UC (c:=#[.int .u8 5,.int .i64 (t1.b.vn:Int),.slice none 0 0]) ((aH.o.stS bI.o bx.o)).there ?_))
           have hN:=((aH.o.stS bI.o bx.o)).stT (z:=Cz 5 (t1.b.vn:Int)) (kN.o _ _).lies;change Ho _ _ _ _ _ _ _ _ _ _ _ _ _ _ _ _ _ _ _ _ ((q2.setRow w0.heap.size (cSa t2)).setCells (w0.heap.size+1+1+1+1) 7 [.int .u8 5,.int .i64 (t1.b.vn:Int),.slice none 0 0]) at hN;have aF:=AF hN;clear hN;generalize (q2.setRow w0.heap.size (cSa t2)).setCells (w0.heap.size+1+1+1+1) 7 [.int .u8 5,.int .i64 (t1.b.vn:Int),.slice none 0 0]=ww2 at *
           go_wp2_with fail;go_meet;refine⟨t2,Cz 5 (t1.b.vn:Int),_,aF.o.h.mono (by omega) (by omega),?_⟩;rw [ZA4 KD.out];try rw [aq.o.er]
           try rw [(kN.o (fun _=>True) W8).er]
           try rfl
         ·as_aux_lemma=>
           obtain⟨bH,cz⟩:=h;have KD:=AF bH;have hk:k=2:=by have:=dJ.o;have:=eE.o;omega
           clear bH cz;have e2:=D6 KD.out 2;have e3:=D6 KD.out 3;have e4:=D6 KD.out 4;have e5:=D6 KD.out 5;have e6:=D6 KD.out 6;have e7:=D6 KD.out 7;have e8:=D6 KD.out 8;have e9:=D6 KD.out 9;have e10:=D6 KD.out 10;have e11:=D6 KD.out 11;have e12:=D6 KD.out 12;have e13:=D6 KD.out 13;have e14:=D6 KD.out 14;have e15:=D6 KD.out 15;have e16:=D6 KD.out 16;have dV:0<k:=by omega
           obtain⟨gq,oq,hq⟩:=aS.o.h.kidP dV;subst hq;obtain⟨y0,aq⟩:=Eo eF.o eR.o (j:=0) (by rw [aS.o.h.klen];omega);obtain⟨y1,cV⟩:=Eo eF.o eR.o (j:=1) (by rw [aS.o.h.klen];omega);have mY:(1:Int)<(k:Int):=by omega
           clear hk
           go_upto_region 76 with(first
            |(refine VD (aS.o.h.kidT aq.o.at_) underlying45 ?_)
            |(refine UC aS.o.there ?_))
           have hN:=aS.o.stT (z:=y0) (aq.o.ty _ _).lies;change Ho _ _ _ _ _ _ _ _ _ _ _ _ _ _ _ _ _ _ _ _ (W8.setCells (w0.heap.size+1+1+1+1) 7 (cYl y0)) at hN;have aH:=AF hN;clear hN;generalize W8.setCells (w0.heap.size+1+1+1+1) 7 (cYl y0)=ww1 at *
           go_upto_region 76 with fail;refine uR (fun W'=>Below ww1.heap.size ww1 W') 11 (At ww1) fun aA=>?_;refine KW 0 369 (fun W' aB=>BX (aH.o.step aB).h.f.b0) underlying96 ?_;refine up 1 370 ?_;refine up 2 371 ?_;refine up 3 372 ?_ (hy:=fun w aB=>by(try dsimp only at aB);have c2:=(aH.o.step aB).at_;go_simp;try with_reducible rfl);refine up 4 373 ?_;refine up 5 374 ?_;refine KW 6 375 (fun W' aB=>(aH.o.step aB).h.kidT aq.o.at_) underlying45 ?_;refine up 7 376 ?_;refine up 8 377 ?_;refine KW 9 378 (fun W' aB=>(aH.o.step aB).h.kidT cV.o.at_) underlying45 ?_;refine ur 10 fun K hK=>?_;go_simp;go_at_call 77;refine(aH.o.smC aA (aq.o.ty _ _) (cV.o.ty _ _) (by have:=cD.o;omega)).mono ?_;rintro e q2 ⟨t2,rfl,hb,hs⟩;have bI:=AF (An aA hb);have bx:=AF hs;clear hs hb;try go_wp2_with fail
           refine un hK (bI.o) ?_;clear aA hK K;intro aA;refine uS_ fun K hK=>?_;refine Iv (aH.o.step aA).h.f.b0 ?_;refine uz hK ?_;clear aA hK K;refine uD ?_;have hN:=aH.o.stS bI.o bx.o;change Ho _ _ _ _ _ _ _ _ _ _ _ _ _ _ _ _ _ _ _ _ (q2.setRow w0.heap.size (cSa t2)) at hN;have aF:=AF hN;clear hN;generalize q2.setRow w0.heap.size (cSa t2)=ww2 at *
           go_wp2_with fail;go_meet;refine⟨t2,y0,_,aF.o.h.mono (by omega) (by omega),?_⟩;rw [ZA5 KD.out];try rw [aq.o.er]
           try rw [cV.o.er]
           try rfl
       case rest=>
        obtain⟨s4,y,S4,hW,hr⟩:=hcut;have HW:=AF hW;have cI:=AF hr;have la:=iV.o;rw [cx.o] at la;have vM:ty3 y.er:=by have h:=VU S (env:=FZ env) qy.o a.hd (arg:=ar.er) (bind:=bd.er) la.1 (k:=kst.map PY.er) (fun t ht=>by obtain⟨z,hz,rfl⟩:=BI.1 ht;exact eF.o z hz);rw [hr] at h;exact h
        have mN:=AF vM;have dO:Hd (d.bind.size<=3):=by show _<=_;rw [qC.o,<-Kf];have h:=XQ s.er a.hd;rw [cx.o] at h;exact h
        have c7:wc.cell? ⟨w0.heap.size+1+1+1+1,7,none⟩=some (.int .u8 y.head.kind):=by rw [AD HW.o.f.b8];rfl
        have c2:wc.cell? ⟨w0.heap.size,2,none⟩=some (.bool s4.bad):=by rw [AD HW.o.f.b0];rfl
        clear hW hr la vM;go_upto_region 77 with fail;go_cut [394] from 380 to 394 (fun s394 wx=>s394=.bool (decide (1<y.head.kind)&&decide (y.head.kind<5)&&!s4.bad)/\wx=wc)
        case first=>
         as_aux_lemma=>
          by_cases h1:1<y.head.kind
          ·have d1:decide (1<y.head.kind)=true:=CV h1;by_cases h5:y.head.kind<5
           ·have d5:decide (y.head.kind<5)=true:=CV h5;clear h1 h5;go_wp2_with fail;go_meet;exact⟨by rw [d1,d5];rfl,rfl⟩
           ·have d5:decide (y.head.kind<5)=false:=CY h5;clear h1 h5;go_wp2_with fail;go_meet;exact⟨by rw [d1,d5];rfl,rfl⟩
          ·have d1:decide (1<y.head.kind)=false:=CY h1;clear h1;go_wp2_with fail;go_meet;exact⟨by rw [d1];rfl,rfl⟩
        case rest=>
         obtain⟨rfl,rfl⟩:=hcut;clear c7 c2;obtain⟨b6,dM⟩:∃b6,(decide (1<y.head.kind)&&decide (y.head.kind<5)&&!s4.bad)=b6:=⟨_,rfl⟩;have dW:=AF dM;rw [dM];clear dM;have nI:Hd (S4.bad=s4.bad):=by show _=_;rw [<-HW.o.m.sk.er];rfl
         go_upto_if 394 with fail;go_cut [] from 395 to 410 (fun wx=>∃(X9:Nat->Prop) (s5:PS) (y5:PY) (S5:SS),Gz U w0 a g9 k k ar (.slice q k cq) kst ds X9 s5 ⟨d.hd,y5,d.bind,d.kp,d.kn,d.kc⟩ S5 (s.b.ln+3+30 * (l.map Ad.size).sum+15+7) (s.b.vn+3+8 * (l.map Ad.size).sum+3+1) wx/\H5 a.hd.at_ (S4,y.er)=(S5,y5.er))
         case first=>
          as_aux_lemma=>
           cases b6 with
           |false=>
            go_wp2_with fail;go_meet;refine⟨X8,s4,y,S4,HW.o.mono (by omega) (by omega),?_⟩;unfold H5;refine AC (fun h=>?_);have h1:=dW.o;rw [CV (show 1<y.head.kind from Nd y▸h.1),CV (show y.head.kind<5 from Nd y▸h.2.1),<-nI.o,show S4.bad=false from h.2.2] at h1;cases h1
           |true=>
            go_upto_region 79 with(first
             |(refine lmg [.int .u8 y.head.kind,.int .i64 y.head.var,.slice y.head.kp y.head.kn y.head.kc] (KQ HW.o.f.b8 7 _ (by intro i v h;match i,h with|0,h=>exact h|1,h=>exact h|2,h=>exact h)) underlying45 ?_)
             |(refine sn #[.int .u8 y.head.kind,.int .i64 y.head.var,.slice y.head.kp y.head.kn y.head.kc] ?_))
            have fR:=AF (HW.o.more (.cells (cYa y) 45));have gp:=AF (AG wc (.cells (cYa y) 45));have mA:Hd (g9<wc.heap.size):=Ab HW.o.b9;have mS:Hd (LY.lies (NB U w0 (fun g=>X8 g\/g=wc.heap.size)) (wc.alloc (.cells (cYa y) 45)) y):=fR.o.m.ty;obtain⟨g18,pC⟩:∃g18,wc.heap.size=g18:=⟨_,rfl⟩;rw [pC] at fR gp mA mS ⊢;generalize wc.alloc (.cells (cYa y) 45)=W9 at *
            clear pC;obtain⟨X9,uF⟩:∃X9,(fun g=>X8 g\/g=g18)=X9:=⟨_,rfl⟩;rw [uF] at fR mS;clear uF;have HV:=AF fR.o.varE;have HI:=AF (fR.o.vnI (by have h2:=ed.o;omega))
            go_upto_region 80 with(first
             |(refine lw fR.o.f.b0 underlying96 ?_)
             |(go_at_call 73;refine(Hq fR.o.m.sk.lies (by have h1:=fR.o.m.sk.ln;have h2:=cD.o;omega) (by have h1:=fR.o.m.sk.vn;have h2:=ed.o;omega)).mono ?_;rintro e v1 ⟨t1,rfl,bE,bG,a8,gN,hb⟩;have j9:=AF (fR.o.step hb);have kv:=AF (fR.o.fresh bE bG a8 gN);have kh:=AF hb;have gp:=AF ((hb.block _ (Ab gp.o)).trans gp.o);clear bE bG a8 gN hb)
             |(refine K7 j9.o.f.b0 ?_)
             |(refine UC (c:=#[.int .u8 5,.int .i64 (s4.b.vn:Int),.slice none 0 0]) (RL (j9.o.setS kv.o).f.b8 7 3 (by simp)) ?_))
            have hN:=(j9.o.setS kv.o).setTy (y:=Cz 5 (s4.b.vn:Int)) (Ep ⟨by decide,by decide⟩ HI.o);change Gz _ _ _ _ _ _ _ _ _ _ _ _ _ _ _ _ (((v1.setRow w0.heap.size (cSa t1))).setCells (w0.heap.size+1+1+1+1) 7 [.int .u8 5,.int .i64 (s4.b.vn:Int),.slice none 0 0]) at hN;have aH:=AF hN;have um:BD (NB U w0 X9) W9 ((v1.setRow w0.heap.size (cSa t1)).setCells (w0.heap.size+1+1+1+1) 7 [.int .u8 5,.int .i64 (s4.b.vn:Int),.slice none 0 0]):=(BD.of kh.o).trans ((BD.box (fR.o.m.x5 _ (AB _) (by omega)) (AU v1 w0.heap.size (cSa t1))).trans (BD.box (fR.o.m.x5 _ (by omega) (by omega)) (Du (w0.heap.size+1+1+1+1) [.int .u8 5,.int .i64 (s4.b.vn:Int),.slice none 0 0] 7 _)));have rb:=AF (LY.lies_keep um _ mS.o);have rZ:=AF (((Du (w0.heap.size+1+1+1+1) [.int .u8 5,.int .i64 (s4.b.vn:Int),.slice none 0 0] 7 (v1.setRow w0.heap.size (cSa t1))).block g18 (by rw [B4];exact Ab gp.o) (fun e=>by injection e with e;have h1:=mA.o;have h3:=j9.o.m.l9;omega)).trans ((AR v1 w0.heap.size g18 (cSa t1) (by have h1:=mA.o;have h3:=j9.o.m.l9;omega)).trans gp.o));clear hN um gp j9 kv;generalize (v1.setRow w0.heap.size (cSa t1)).setCells (w0.heap.size+1+1+1+1) 7 [.int .u8 5,.int .i64 (s4.b.vn:Int),.slice none 0 0]=ww1 at *
            have c2:ww1.cell? ⟨w0.heap.size+1,2,none⟩=some (.int .i64 a.hd.at_):=by rw [AD aH.o.f.b1];rfl
            go_wp2_with (first
             |(refine lw aH.o.f.b0 underlying96 ?_)
             |(refine lmg [.int .u8 5,.int .i64 (s4.b.vn:Int),.slice none 0 0] (KQ aH.o.f.b8 7 _ (by intro i v h;match i,h with|0,h=>exact h|1,h=>exact h|2,h=>exact h)) underlying45 ?_)
             |(refine lw rZ.o underlying45 ?_)
             |(go_at_call 77;refine(L9 (U:=NB U w0 X9) (s:=t1) (z:=a.hd.at_) (x:=Cz 5 (s4.b.vn:Int)) (y:=y) aH.o.m.sk.lies aH.o.m.sk.ok (Ep ⟨by decide,by decide⟩ HI.o) rb.o (by have h1:=aH.o.m.sk.ln;have h2:=cD.o;have h3:=RE 5 (s4.b.vn:Int);have h4:=mN.o.1;rw [Kf] at h4;omega)).mono ?_;rintro e q1 ⟨r1,rfl,hl,he,hn,hb⟩;have ck:=AF (aH.o.step hb);have bx:=AF (aH.o.same hl he hn);clear hl he hn hb c2)
             |(refine K7 ck.o.f.b0 ?_))
            go_meet;refine⟨X9,r1,Cz 5 (s4.b.vn:Int),_,(ck.o.setS bx.o).mono (by have h3:=RE 5 (s4.b.vn:Int);have h4:=mN.o.1;rw [Kf] at h4;omega) (by omega),?_⟩;have h1:=dW.o;rw [AK,AK,Ai,Ai,BO] at h1;unfold H5;rw [AJ ⟨show 1<y.er.head.kind by rw [Nd];exact h1.1.1,show y.er.head.kind<5 by rw [Nd];exact h1.1.2,nI.o.trans h1.2⟩,HV.o]
         case rest=>
          obtain⟨X9,s5,y5,S5,hW,cM⟩:=hcut;have jP:=AF cM;obtain⟨dd,sJ⟩:∃dd:IC,(⟨d.hd,y5,d.bind,d.kp,d.kn,d.kc⟩:IC)=dd:=⟨_,rfl⟩;have qD:=AF sJ;rw [sJ] at hW;have HW:=AF hW;clear hW cM sJ;go_upto_region 81 with fail;refine rg (fun W'=>NW w0 s5 a dd W'/\BD (fun g=>(g<w0.heap.size/\U g)\/w0.heap.size+5<=g) wc W') (⟨HW.o.f.step (At wc),BD.of (At wc)⟩) fun aA=>?_;refine LV 0 411 (fun W' aB=>BX aB.1.b0) underlying96 ?_;refine LV 1 412 (fun W' aB=>BX aB.1.b8) underlying48 ?_;refine Fo 2 fun K hK=>?_;obtain⟨cs2,cT,aU⟩:=aA.1.b2;have aF:=AF aU;clear aU;have fo:Hd ((wc.drew.setRow (w0.heap.size+1+1) (cSa s5)).heap[w0.heap.size+1+1]?=some (.cells (cSa s5) 96 (0,0))):=AL _ _ _ _ _ _ aF.o;refine Iv aF.o ?_ (hold:=by exact cT);refine tn hK (⟨aA.1.res2 _ rfl,aA.2.trans (BD.grown (AU _ _ _) (fun g e h=>by injection e with e;subst e;rcases h with h|h<;>omega))⟩) ?_;clear aA hK K;intro aA;refine Fo 3 fun K hK=>?_;obtain⟨cs3,j7,bF⟩:=aA.1.b3;have aL:=AF bF;clear bF;have fp:Hd (((wc.drew.setRow (w0.heap.size+1+1) (cSa s5)).setRow (w0.heap.size+1+1+1) (cDa dd)).heap[w0.heap.size+1+1+1]?=some (.cells (cDa dd) 48 (0,0))):=AL _ _ _ _ _ _ aL.o;have fo:=AF ((AR _ (w0.heap.size+1+1+1) (w0.heap.size+1+1) (cDa dd) (by omega)).trans fo.o);refine Iv aL.o ?_ (hold:=by exact j7);refine tn hK (⟨aA.1.res3 _ rfl,aA.2.trans (BD.grown (AU _ _ _) (fun g e h=>by injection e with e;subst e;rcases h with h|h<;>omega))⟩) ?_;clear aA hK K;intro aA;refine dn ?_;have cW:=aA;clear aA;go_wp2_with fail;refine Ag (Hs rfl _ _ _ _ _ _ _ rfl (Ae _ _ _ _ _ _ _ fo.o underlying96 rfl (by kernel_rfl)) rfl (Ae _ _ _ _ _ _ _ fp.o underlying48 rfl (by kernel_rfl))) rfl ?_;have hq:=wB.o;rw [cI.o,jP.o] at hq
          have hT:∀g,NB U w0 X9 g->(g<w0.heap.size/\U g)\/w0.heap.size+5<=g:=fun g h=>by
           by_cases h1:g<w0.heap.size
           ·exact .inl ⟨h1,h.1 h1⟩
           ·by_cases h2:g<w0.heap.size+5
            ·exact absurd (HW.o.m.x5 g (by omega) h2) h.2
            ·exact .inr (by omega)
          have hO:∀g,(g<w0.heap.size/\U g)\/w0.heap.size+5<=g->Ge U w0 g:=fun g h hg=>h.elim (fun h=>h.2) (fun h=>by omega);have jc:=HW.o.m.l9;refine⟨s5,dd,rfl,cW.1.below,?_,fun hb=>⟨ds,?_,?_,?_,?_⟩⟩
          ·rw [hq.1];exact((HW.o.m.sk.mono (fun g _ h=>hT g h) (AB _) (AB _)).keep cW.2).mono (fun g _ h=>hO g h) (by rw [Ad.size_node];omega) (by rw [Ad.size_node];omega)
          ·rw [FY.lies_node];obtain⟨p9,c9,hv,hr⟩:=A1.rowU (U:=fun g=>(g<w0.heap.size/\U g)\/w0.heap.size+5<=g) XY (by omega) HW.o.m.dk (fun b e=>.inr (by have:=(Aa HW.o.m.dk b e).1;omega));have ai:dd.kn=k:=by injection hv
           have f9:dd.kc=c9:=by injection hv
           have xP:dd.kp=p9:=by injection hv
           refine⟨⟨?_,LY.lies_mono (fun g _ h=>hO g h) _ (LY.lies_keep cW.2 _ (LY.lies_mono (fun g _ h=>hT g h) _ HW.o.m.ty)),LY.lies_mono (fun g _ h=>hO g h) _ (LY.lies_keep cW.2 _ (LY.lies_mono (fun g _ h=>hT g h) _ HW.o.m.bind))⟩,?_,fun t ht=>LD.lies_mono (fun g _ h=>hO g h) _ (LD.lies_keep cW.2 _ (LD.lies_mono (fun g _ h=>hT g h) _ (HW.o.m.each t ht)))⟩
           ·rw [<-qD.o];show d.hd.Ok;rw [tI.o];exact cj.o.1
           ·have dx:Gk LD.encT 14 (fun g=>(g<w0.heap.size/\U g)\/w0.heap.size+5<=g) wc dd.kp dd.kn dd.kc ds:=by rw [ai,f9,xP];exact hr
            exact(dx.keep cW.2).mono (fun g _ h=>hO g h)
          ·rw [O6,AK,AK,Ai,Ai,Aj];refine⟨⟨?_,?_⟩,wF.o⟩
           ·have h:=RR a.hd.at_ (S4,y.er) mN.o (by rw [jP.o];rw [hq.1] at hb;exact hb);rw [jP.o] at h;rw [<-qD.o];show y5.size<=100;rw [Qj h];decide
           ·rw [<-qD.o];show d.bind.size<=100;have:=dO.o;omega
          ·rw [Ad.size_node,Ad.size_node];have:=wH.o;omega
          ·rw [hq.2,<-qD.o]
theorem ZAn(t:Ga)(U:Nat->Prop)(w:World)(s:PS)(p:Option Addr)(n c:Nat)(env:List PN)(h1:s.b.Lies U w)(h2:Dh s.er.b)(h3:Mu U w p n c env)(h4:PE (FZ env))(h5:KJ.lies U w t)(h6:L0 t.er=true)(h7:n+4 * t.size<=100000)(h8:s.b.ln+30 * t.size<=500000)(h9:s.b.vn+8 * t.size<=500000):Calls prog 45 #[Lg s,.slice p n c,Mb t.head] w (Zg U w s (FZ env) t):=(Ad.ind (P:=fun(t:Ga)=>S9 t) (fun a l ih=>Y4 a l ih) t) U w s p n c env h1 h2 h3 h4 h5 h6 h7 h8 h9
end Go.Proofs.YtkdjnegfnhldpaaGreatDoor
