/- Part 22. -/
import Derived.Test.YtkdjnegfnhldpaaGreatDoorK21
set_option linter.unusedVariables false
set_option maxRecDepth 100000
set_option linter.unusedSimpArgs false
set_option maxHeartbeats 40000000
set_option autoImplicit true
set_option relaxedAutoImplicit true
namespace Go.Proofs.YtkdjnegfnhldpaaGreatDoor
open Go.Proofs.Tryz Go.RowKit
def KA(b:Bk):List YT->Bk×Nat×Bool
 |[]=>(b,0,true)
 |t::l=>((F9 (Cq b t).1 (Cq b t).2 l).1,(Cq b t).2,(F9 (Cq b t).1 (Cq b t).2 l).2)
theorem Wn(b:Bk)(l:List YT):Jl b l=((KA b l).1,(KA b l).2.2):=by cases l<;>rfl
theorem NA(f:Nat):∀(l m:List YT) (b:Bk),F9 b f (l++m)=if(F9 b f l).2 then F9 (F9 b f l).1 f m else F9 b f l
 |[],m,b=>by rw [F9];rfl
 |t::l,m,b=>by
  rw [BK,F9,F9];by_cases h:(En ((Cq b t).1.cs.length+1) (Cq b t).1 f (Cq b t).2).2=true
  ·rw [AJ h,AJ h];exact NA f l m _
  ·rw [AC h,AC h];rfl
theorem Nm(b:Bk)(t:YT):KA b [t]=((Cq b t).1,(Cq b t).2,true):=rfl
theorem Nl(hk:0<k)(h:KA b (l.take k)=(o,f,true))(ht:l[k]?=some t):((En ((Cq o t).1.cs.length+1) (Cq o t).1 f (Cq o t).2).2=true->KA b (l.take (k+1))=((En ((Cq o t).1.cs.length+1) (Cq o t).1 f (Cq o t).2).1,f,true))/\((En ((Cq o t).1.cs.length+1) (Cq o t).1 f (Cq o t).2).2=false->(Jl b l).2=false):=by
 cases l with
 |nil=>simp at ht
 |cons u l=>
  obtain⟨k,rfl⟩:∃j,k=j+1:=⟨k-1,by omega⟩;rw [Cj] at h;rw [KA,EE,EE] at h;obtain⟨h1,h2,h3⟩:=h;have kf:l[k]?=some t:=by simpa using ht
  refine⟨fun hj=>?_,fun hj=>?_⟩
  ·rw [Cj,BG kf,KA,NA,AJ h3,h1,h2,F9,AJ hj,F9]
  ·have e1:l=l.take k++t::l.drop (k+1):=by have:=A9 (DI kf);rw [AI (DI kf)] at kf;rw [<-A8 kf,<-this,BY]
   rw [Jl,e1,NA,AJ h3,h1,h2,F9,AC (by rw [hj];decide)]
structure Vt(w:World)(b o:EJ)(g7:Nat)(W:World):Prop where
 fr:UK w b W
 h7:W.heap[g7]?=some (.cells (cBa o) 94 (0,0))
 l7:w.heap.size+2<=g7
theorem Vt.step(h:Vt w b o g7 W)(hb:Below W.heap.size W W'):Vt w b o g7 W':=⟨h.fr.step hb,(hb.block _ (Ab h.h7)).trans h.h7,h.l7⟩
theorem Vt.grown(h:Vt w b o g7 W)(hg:W.grownBy W' (some G))(hG:w.heap.size+2<=G)(aM:g7≠G):Vt w b o g7 W':=⟨h.fr.grown hg (fun g e=>by injection e with e;omega),(hg.block _ (Ab h.h7) (fun e=>by injection e with e;exact aM e)).trans h.h7,h.l7⟩
theorem Vt.put(h:Vt w b o g7 W)(o':EJ):Vt w b o' g7 (W.setRow g7 (cBa o')):=⟨h.fr.grown (AU _ _ _) (fun g e=>by injection e with e;have:=h.l7;omega),AL _ _ _ _ _ _ h.h7,h.l7⟩
def UJ(U:Nat->Prop)(w:World)(g7:Nat):Nat->Prop:=fun g=>(g<w.heap.size/\U g)\/(w.heap.size+2<=g/\g≠g7)
theorem UJ.out:∀g,UJ U w g7 g->Ge U w g:=fun g h hg=>by
 rcases h with⟨_,h2⟩|⟨h1,_⟩
 ·exact h2
 ·omega
theorem UJ.back(hs:w.heap.size+2<=W.heap.size)(h7:g7<W.heap.size):∀g,Ge (UJ U w g7) W g->UJ U w g7 g:=fun g h=>by
 by_cases hg:g<W.heap.size
 ·exact h hg
 ·exact .inr ⟨by omega,by omega⟩
theorem UJ.box(h0:w.heap.size<=g)(h1:g<w.heap.size+2):¬UJ U w g7 g:=fun h=>by rcases h with⟨h2,_⟩|⟨h2,_⟩<;>omega
theorem UJ.seven(h0:w.heap.size<=g7):¬UJ U w g7 g7:=fun h=>by
 rcases h with⟨h2,_⟩|⟨_,h2⟩
 ·omega
 ·exact h2 rfl
structure JqI(U:Nat->Prop)(w:World)(b:EJ)(l:List PY)(g7 k:Nat)(o:EJ)(f:Nat)(W:World):Prop where
 fr:Vt w b o g7 W
 lies:o.Lies (UJ U w g7) W
 is:KA b.er ((l.take k).map PY.er)=(o.er,f,true)
 ok:Dh o.er
 vars:o.er.vars=b.er.vars
 ln:o.ln<=b.ln+((l.take k).map Ad.size).sum
 f:0<k->f<o.ln
def Ze(U:Nat->Prop)(w:World)(b:EJ)(l:List PY)(e:Ending)(w':World):Prop:=∃b':EJ,e=.returned (.tuple #[GA b',.bool (b.er.join (l.map PY.er)).2])/\b'.Lies (Ge U w) w'/\b'.er=(b.er.join (l.map PY.er)).1/\b'.ln<=b.ln+(l.map Ad.size).sum/\Below w.heap.size w w'
structure JqR(U:Nat->Prop)(w:World)(b o b7:EJ)(g7 G:Nat)(W:World):Prop where
 fr:Vt w b o g7 W
 g:w.heap.size+2<=G
 ne:g7≠G
 box:W.heap[G]?=some (.cells (cBa b7) 94 (0,0))
 lies:b7.Lies (UJ U w g7) W
theorem JqR.put(h:JqR U w b o b7 g7 G W):Vt w b b7 g7 (W.setRow g7 (cBa b7))/\b7.Lies (UJ U w g7) (W.setRow g7 (cBa b7)):=⟨h.fr.put b7,h.lies.keep (BD.grown (AU _ _ _) (fun g e=>by injection e with e;subst e;exact UJ.seven (by have:=h.fr.l7;omega)))⟩
theorem ZAT(h:Vt w b o g7 wr)(hc:wr.heap.size<=Wc.heap.size)(hb:Below wr.heap.size wr Wb)(hG:wr.heap.size<=G)(ac:Wb.heap[G]?=some (.cells cs 94 (0,0)))(hl:b7.Lies (Ge (fun g=>UJ U w g7 g/\g≠wr.heap.size) Wc) (Wb.setRow G (cBa b7))):JqR U w b o b7 g7 G (Wb.setRow G (cBa b7)):=by
 have hs:=h.fr.size;have h7:=Ab h.h7;refine⟨(h.step hb).grown (AU _ _ _) (by omega) (by omega),by omega,by omega,AL _ _ _ _ _ _ ac,hl.mono (fun g _ hg=>?_)⟩;by_cases aG:g<Wc.heap.size
 ·exact(hg aG).1
 ·exact .inr ⟨by omega,by omega⟩
theorem ZDF{U:Nat->Prop}{w W W':World}{b o b2:EJ}{g7:Nat}(h:Vt w b o g7 W)(hl:b2.Lies (UJ U w g7) W)(hg:W.grownBy W' (some (w.heap.size+1))):b2.Lies (Ge U w) W'/\Below w.heap.size w W':=⟨(hl.keep (BD.grown hg (fun g e=>by injection e with e;subst e;exact UJ.box (by omega) (by omega)))).mono (fun g _ h=>UJ.out g h),h.fr.below.grown hg h.fr.below.size (fun g e=>by injection e with e;omega)⟩
theorem Qw(hb:b.Lies U w0)(aW:Dh b.er)(hr:Gk LY.encT 3 U w0 p n c l)(hl:∀t∈l,LY.lies U w0 t)(hz:b.ln+(l.map Ad.size).sum<=900000):Calls prog 106 #[GA b,.slice p n c] w0 (Ze U w0 b l):=by
 have HN:=AF (Xm w0 b);have dB:=AF (hb.mono (U':=fun g=>g<w0.heap.size/\U g) (fun g h1 h2=>⟨h1,h2⟩));have kM:=AF (hr.mono (U':=fun g=>g<w0.heap.size/\U g) (fun g h1 h2=>⟨h1,h2⟩));have mD:Hd (∀t∈l,LY.lies (fun g=>g<w0.heap.size/\U g) w0 t):=fun t ht=>LY.lies_mono (fun g h1 h2=>⟨h1,h2⟩) t (hl t ht);have bP:=AF aW;have HZ:=AF hz;have j6:l.length=n:=hr.is.len;have tV:=AF j6;have kX:=hr.is.max;have yD:n<=900000:=by have h1:=G9 l;omega
 have cg:Hd (∀V,Below w0.heap.size w0 V->b.Lies (Ge U w0) V):=fun V hV=>(dB.o.keep (BD.of hV)).mono (fun g _ h _=>h.2);clear hb aW hr hl hz j6;show Calls _ _ #[.agg (cBa b),.slice p n c] w0 _;go_enter func106,ntmps106;go_upto_region 1 with fail;generalize (w0.alloc (.cells (cBa b) 94)).alloc (.cells #[.slice none 0 0,.slice none 0 0] 94)=W at *
 go_upto_region 2 with fail;go_loopw [15] (fun i wr=>∃(k:Nat),k<=n/\i=.int .i64 k/\UK w0 b wr/\(l.take k).all (fun t=>b.er.knows (PY.er t))=true) (fun i _=>n-(intOf i).toNat)
 case atStart=>exact⟨0,BM _,rfl,HN.o,by simp⟩
 case round=>
  obtain⟨k,hk,rfl,hi,bh⟩:=hrel;have HI:=AF hi;have HA:=AF bh;clear hi bh;by_cases aG:k<n
  ·obtain⟨x,hx⟩:=kM.o.at aG;obtain⟨g,o,hp,bN,d0,d1,d2⟩:=Td (kM.o.keep (BD.of HI.o.below)) hx;have HX:=AF hx;have fS:=AF (LY.lies_keep (BD.of HI.o.below) _ (mD.o x (AE hx)));have tE:=AF (dB.o.keep (BD.of HI.o.below))
   have fx:Hd (∀V,Below wr.heap.size wr V->V.rangeAt g (o+k * 3) (cYl x)):=by
    show ∀V,_;intro V hb i u hu;match i,hu with
    |0,hu=>rw [Bd,hb.cell (show g<wr.heap.size from bN),d0];exact hu
    |1,hu=>rw [hb.cell (show g<wr.heap.size from bN),d1];exact hu
    |2,hu=>rw [hb.cell (show g<wr.heap.size from bN),d2];exact hu
   have xi:=AF hp;rw [hp];clear hx bN d0 d1 d2 hp;obtain⟨r,hr⟩:∃r:Bool,b.er.knows (PY.er x)=r:=⟨_,rfl⟩;have cm:=AF hr;clear hr;go_upto_region 4 with fail;refine rg (fun W'=>Below wr.heap.size wr W') (At wr) fun aA=>?_;refine LV 0 18 (fun W' aB=>BX (HI.o.step aB).bb) underlying94 ?_;refine tp 1 19 ?_;refine tp 2 20 ?_;refine tp 3 21 ?_;refine LV 4 22 (fun W' aB=>fx.o W' aB) underlying45 ?_;refine tr 5 23 fun K hK=>?_;go_simp;go_at_call 107;refine(JJ (tE.o.keep (BD.of aA)) (LY.lies_keep (BD.of aA) _ fS.o)).mono ?_;rintro e w5 ⟨cN,hb⟩;rw [cm.o] at cN;subst cN;have oA:=AF (HI.o.step (An aA hb));try go_wp2_with fail
   refine tn hK (An aA hb) ?_;clear aA hK K;intro aA;refine tp 6 24 ?_;refine dn ?_;clear aA;cases r
   ·have dC:Hd (b.er.join (l.map PY.er)=(b.er,false)):=by show _=_;unfold Bk.join;rw [AC];rw [CD,Aj];intro h;have h1:=h x (AE HX.o);have h2:=cm.o;rw [Function.comp_apply,h2] at h1;cases h1
    obtain⟨x2,y2,bL⟩:=oA.o.br;have ah:=AF bL;clear bL;go_wp2_with (first|(refine lw oA.o.bb underlying94 ?_)|(refine K7 ah.o ?_));refine Ag (BZ rfl _ _ _ _ _ rfl (Ae _ _ _ _ _ _ _ (AL _ _ _ _ _ _ ah.o) underlying94 rfl (by kernel_rfl))) rfl ?_;have bX:=oA.o.below.grown (AU w5 (w0.heap.size+1) (cBa b)) oA.o.below.size (fun g e=>by injection e with e;omega);exact⟨b,by rw [dC.o];rfl,cg.o _ bX,by rw [dC.o],Bn _ _,bX⟩
   ·go_wp2_with fail;go_roundw
    case rel=>exact⟨k+1,by omega,by go_num,oA.o,by rw [FU HX.o,HA.o,cm.o];rfl⟩
    case measure=>simp [intOf];omega
  ·have ai:k=n:=by omega
   have kA:Hd (∀t∈l,b.er.knows (PY.er t)=true):=by show ∀t,_;have h:=HA.o;rw [Bb (by have:=tV.o;omega),Aj] at h;exact h
   have dJ:=AF ai;clear ai;obtain⟨G7,qO⟩:∃G7,wr.heap.size=G7:=⟨_,rfl⟩;have ee:Below wr.heap.size wr (wr.alloc (.cells (cBa b) 94)):=bA;have wI:Hd (JqI U w0 b l G7 0 b 0 (wr.alloc (.cells (cBa b) 94))):=⟨⟨HI.o.step ee,by rw [<-qO];exact AG wr _,by rw [<-qO];exact HI.o.size⟩,((dB.o.keep (BD.of HI.o.below)).mono (fun g _ h=>.inl h)).keep (BD.of ee),by rw [CK];rfl,bP.o,rfl,Bn _ _,fun h=>absurd h (CU 0)⟩;have dq:=AF ee;have fd:=AF qO;clear ee
   go_upto_region 9 with(first
    |(refine lw HI.o.bb underlying94 ?_)
    |(refine sn #[.slice b.lp b.ln b.lc,.slice b.vp b.vn b.vc] ?_))
   clear qO;generalize wr.alloc (.cells (cBa b) 94)=W7 at *
   clear HI HN;go_upto_region 10 with fail;go_loopw [8,30] (fun v i wr=>∃(k f:Nat) (o:EJ),k<=n/\i=.int .i64 k/\v=.int .i64 f/\JqI U w0 b l G7 k o f wr) (fun _ i _=>n-(intOf i).toNat)
   case atStart=>exact⟨0,0,b,BM _,rfl,rfl,wI.o⟩
   case round=>
    obtain⟨k,f,ob,hk,rfl,rfl,hi⟩:=hrel;have HI:=AF hi;clear hi;by_cases aG:k<n
    ·have au:=HI.o.fr.fr.below;obtain⟨x,hx⟩:=kM.o.at aG;obtain⟨g,o,hp,bN,d0,d1,d2⟩:=Td (kM.o.keep (BD.of au)) hx;have HX:=AF hx;have fS:=AF (LY.lies_keep (BD.of au) _ (mD.o x (AE hx)))
     have fx:Hd (∀V,Below wr.heap.size wr V->V.rangeAt g (o+k * 3) (cYl x)):=by
      show ∀V,_;intro V hb i u hu;match i,hu with
      |0,hu=>rw [Bd,hb.cell (show g<wr.heap.size from bN),d0];exact hu
      |1,hu=>rw [hb.cell (show g<wr.heap.size from bN),d1];exact hu
      |2,hu=>rw [hb.cell (show g<wr.heap.size from bN),d2];exact hu
     rw [hp];clear hx bN d0 d1 d2 hp au;have uo:ob.er.knows (PY.er x)=true:=by have h:=kA.o x (AE HX.o);unfold Bk.knows at h ⊢;rw [HI.o.vars];exact h
     have kG:=AF uo;have bz:Hd (ob.ln+x.size<=900000):=by show _<=_;have h1:=HI.o.ln;have h2:=HZ.o;have h3:=KH HX.o;omega
     obtain⟨J,hJ⟩:∃J:Nat,(Cq ob.er (PY.er x)).2=J:=⟨_,rfl⟩;have HJ:=AF hJ;clear hJ uo;go_upto_region 12 with fail;refine rg (fun W'=>Below wr.heap.size wr W') (At wr) fun aA=>?_;refine LV 0 34 (fun W' aB=>BX (HI.o.fr.step aB).h7) underlying94 ?_;refine tp 1 35 ?_;refine tp 2 36 ?_;refine tp 3 37 ?_;refine LV 4 38 (fun W' aB=>fx.o W' aB) underlying45 ?_;refine A2 (rs:=[5,9]) (by kernel_rfl) (by simp) ?_;refine AY (o:=⟨some 39,_,_,_,_,none⟩) rfl (fun K hK=>?_) (AY (o:=⟨some 10,_,_,_,_,none⟩) rfl (fun K hK=>?_) Az)
     ·skip;go_simp;go_at_call 108;refine(KR x (fun g=>UJ U w0 G7 g/\g≠wr.heap.size) _ ob ((HI.o.lies.mono (fun g hg h=>⟨h,by omega⟩)).keep (BD.of aA)) HI.o.ok kG.o (LY.lies_keep (BD.of aA) _ (LY.lies_mono (fun g hg h=>⟨.inl h,by have:=HI.o.fr.fr.size;have:=h.1;omega⟩) _ fS.o)) (by have:=bz.o;omega)).mono ?_;rintro e w7 ⟨b7,cN,bE,bG,a8,hb⟩;rw [HJ.o] at cN;subst cN;have eo:=AF bE;have de:=AF bG;have bo:=AF a8;have az:=AF (An aA hb);clear bE bG a8;try go_wp2_with fail
      refine tn hK (An aA hb) ?_;clear aA hK K;intro aA;refine tp 6 33 ?_;refine tp 7 40 ?_;refine tp 8 41 ?_;refine tr 9 10 fun K hK=>?_;go_simp;have dI:=AF (AG w7 (.cells #[.slice none 0 0,.slice none 0 0] 94));refine tn hK (Ay aA _) ?_;clear aA hK K;intro aA;refine Fo 10 fun K hK=>?_;have iK:Below w7.heap.size w7 ((w7.alloc (.cells #[.slice none 0 0,.slice none 0 0] 94)).setRow w7.heap.size (cBa b7)):=bA.grown (AU _ _ _) (by simp) (fun g e=>by injection e with e;omega);have bS:=AF (ZAT HI.o.fr (At wr).size aA az.o.size dI.o (eo.o.keep (BD.of iK)));clear iK;refine Iv dI.o ?_;refine tn hK (aA.grown (AU _ _ _) aA.size (fun g e=>by injection e with e;subst e;exact az.o.size)) ?_;clear aA hK K;intro aA;refine tp 11 11 ?_;refine dn ?_;clear aA;generalize fT:w7.heap.size=G8 at *
      generalize (w7.alloc (.cells #[.slice none 0 0,.slice none 0 0] 94)).setRow G8 (cBa b7)=W8 at *
      clear fT dI eo az;have d9:=AF bS.o.put;go_upto_region 14 with(first|(refine lw bS.o.box underlying94 ?_)|(refine K7 bS.o.fr.h7 ?_))
      generalize W8.setRow G7 (cBa b7)=W9 at *
      have df:=AF (Ky (PY.er x) ob.er HI.o.ok kG.o);have oR:Hd (b7.er.vars=b.er.vars):=by show _=_;rw [de.o,df.o.1.vars];exact HI.o.vars
      have iT:Hd (b7.ln<=b.ln+((l.take (k+1)).map Ad.size).sum):=by show _<=_;rw [KV HX.o];have:=bo.o;have:=HI.o.ln;omega
      have ly:Hd (J<b7.ln):=by show _<_;have h:=df.o.2;rw [HJ.o,<-de.o,EJ.ln_eq d9.o.2] at h;exact h
      have mK:Hd (ob.ln<=b7.ln):=by show _<=_;have h:=df.o.1.len;rw [<-de.o,EJ.ln_eq d9.o.2,EJ.ln_eq HI.o.lies] at h;exact h
      have kI:Hd (Dh b7.er):=by show Dh _;rw [de.o];exact df.o.1.ok
      have wm:b7.ln<=900000:=by have:=bo.o;have:=bz.o;omega
      by_cases ao:k=0
      ·have aq:=AF ao;have bk0:((k:Int)==0)=true:=by rw [A3];omega
       clear ao;go_wp2_with fail;go_roundw
       case rel=>exact⟨k+1,J,b7,by omega,by go_num,rfl,d9.o.1,d9.o.2,by have h0:=aq.o;have hx:=HX.o;have hi:=HI.o.is;subst h0;rw [CK] at hi;have e0:ob.er=b.er:=(congrArg Prod.fst hi).symm;rw [BG hx,CK,A6,AV,Am,Nm,de.o,e0,<-HJ.o,e0],kI.o,oR.o,iT.o,fun _=>ly.o⟩
       case measure=>simp [intOf];omega
      ·have aq:=AF ao;have bk0:((k:Int)==0)=false:=by rw [AW];omega
       clear ao;have gV:=AF (Nl (l:=l.map PY.er) (Nat.pos_of_ne_zero aq.o) (by rw [<-CT];exact HI.o.is) (t:=PY.er x) (by rw [A7,HX.o];rfl));have lD:(Cq ob.er (PY.er x)).1.cs.length=b7.ln:=by rw [<-de.o];exact EJ.ln_eq d9.o.2
       have eK:=gV.o;rw [HJ.o,lD,<-de.o,<-CT] at eK;have gV:=AF eK;clear eK lD;obtain⟨r,hr⟩:∃r:Bool,(En (b7.ln+1) b7.er f J).2=r:=⟨_,rfl⟩;have cm:=AF hr;clear hr;have lx:=AF (Jt (b7.ln+1) (UJ U w0 G7) W9 b7 f J d9.o.2 kI.o (by have:=HI.o.f (by have:=aq.o;omega);have:=mK.o;omega) ly.o (by omega) (by omega))
       go_upto_region 18 with(first
        |(refine lw d9.o.1.h7 underlying94 ?_)
        |(go_at_call 148;refine lx.o.mono ?_;rintro e w10 ⟨b10,cN,bE,bG,a8,hb⟩;rw [cm.o] at cN;subst cN;have gh:Hd (b10.Lies (UJ U w0 G7) w10):=bE.mono (fun g _ h=>UJ.back d9.o.1.fr.size (Ab d9.o.1.h7) g h);have gd:=AF bG;have fQ:=AF a8;have eO:=AF (d9.o.1.step hb);clear bE bG a8 hb)
        |(refine K7 eO.o.h7 ?_))
       have iU:Hd (Vt w0 b b10 G7 (w10.setRow G7 (cBa b10))/\b10.Lies (UJ U w0 G7) (w10.setRow G7 (cBa b10))):=⟨eO.o.put b10,gh.o.keep (BD.grown (AU _ _ _) (fun g e=>by injection e with e;subst e;exact UJ.seven (by have:=eO.o.l7;omega)))⟩;generalize w10.setRow G7 (cBa b10)=W11 at *
       cases r
       ·have dC:Hd (b.er.join (l.map PY.er)=(b.er,false)):=by show _=_;unfold Bk.join;rw [AJ (show (l.map PY.er).all b.er.knows=true by rw [CD,Aj];exact fun t ht=>kA.o t ht),gV.o.2 cm.o];rfl
        obtain⟨x2,y2,bL⟩:=iU.o.1.fr.br;have ah:=AF bL;clear bL;go_wp2_with (first|(refine lw iU.o.1.fr.bb underlying94 ?_)|(refine K7 ah.o ?_));refine Ag (BZ rfl _ _ _ _ _ rfl (Ae _ _ _ _ _ _ _ (AL _ _ _ _ _ _ ah.o) underlying94 rfl (by kernel_rfl))) rfl ?_;have bX:=iU.o.1.fr.below.grown (AU W11 (w0.heap.size+1) (cBa b)) iU.o.1.fr.below.size (fun g e=>by injection e with e;omega);exact⟨b,by rw [dC.o];rfl,cg.o _ bX,by rw [dC.o],Bn _ _,bX⟩
       ·have oD:=AF (I5 (b7.ln+1) b7.er f J kI.o (by rw [EJ.ln_eq d9.o.2];have:=HI.o.f (by have:=aq.o;omega);have:=mK.o;omega) (by rw [EJ.ln_eq d9.o.2];exact ly.o));go_wp2_with fail;go_roundw
        case rel=>exact⟨k+1,f,b10,by omega,by go_num,rfl,iU.o.1,iU.o.2,by rw [gV.o.1 cm.o,gd.o],by rw [gd.o];exact oD.o.ok,by rw [gd.o,oD.o.vars];exact oR.o,by rw [fQ.o];exact iT.o,fun _=>by rw [fQ.o];have:=HI.o.f (by have:=aq.o;omega);have:=mK.o;omega⟩
        case measure=>simp [intOf];omega
     ·skip;go_simp;have dI:Hd ((wr.drew.alloc (.cells #[.slice none 0 0,.slice none 0 0] 94)).heap[wr.heap.size]?=some (.cells #[.slice none 0 0,.slice none 0 0] 94)):=AG wr.drew (.cells #[.slice none 0 0,.slice none 0 0] 94);refine tn hK (Ay aA _) ?_;clear aA hK K;intro aA;refine tr 5 39 fun K hK=>?_;go_simp;go_at_call 108;refine(KR x (fun g=>UJ U w0 G7 g/\g≠wr.heap.size) _ ob ((HI.o.lies.mono (fun g hg h=>⟨h,by omega⟩)).keep (BD.of aA)) HI.o.ok kG.o (LY.lies_keep (BD.of aA) _ (LY.lies_mono (fun g hg h=>⟨.inl h,by have:=HI.o.fr.fr.size;have:=h.1;omega⟩) _ fS.o)) (by have:=bz.o;omega)).mono ?_;rintro e w7 ⟨b7,cN,bE,bG,a8,hb⟩;rw [HJ.o] at cN;subst cN;have eo:=AF bE;have de:=AF bG;have bo:=AF a8;have bq:=AF ((hb.block _ (Ab dI.o)).trans dI.o);have az:=AF (An aA hb);clear bE bG a8;try go_wp2_with fail
      refine tn hK (An aA hb) ?_;clear aA hK K;intro aA;refine tp 6 33 ?_;refine tp 7 40 ?_;refine tp 8 41 ?_;refine Fo 10 fun K hK=>?_;have bS:=AF (ZAT HI.o.fr (by simp) az.o (AB _) bq.o (eo.o.keep (BD.grown (AU _ _ _) (fun g e h=>by injection e with e;subst e;exact(h (by simp)).2 rfl))));refine Iv bq.o ?_;refine tn hK (aA.grown (AU _ _ _) aA.size (fun g e=>by injection e with e;subst e;exact AB _)) ?_;clear aA hK K;intro aA;refine tp 11 11 ?_;refine dn ?_;clear aA;generalize fT:wr.heap.size=G8 at *
      generalize w7.setRow G8 (cBa b7)=W8 at *
      clear fT dI eo az bq;have d9:=AF bS.o.put;go_upto_region 14 with(first|(refine lw bS.o.box underlying94 ?_)|(refine K7 bS.o.fr.h7 ?_))
      generalize W8.setRow G7 (cBa b7)=W9 at *
      have df:=AF (Ky (PY.er x) ob.er HI.o.ok kG.o);have oR:Hd (b7.er.vars=b.er.vars):=by show _=_;rw [de.o,df.o.1.vars];exact HI.o.vars
      have iT:Hd (b7.ln<=b.ln+((l.take (k+1)).map Ad.size).sum):=by show _<=_;rw [KV HX.o];have:=bo.o;have:=HI.o.ln;omega
      have ly:Hd (J<b7.ln):=by show _<_;have h:=df.o.2;rw [HJ.o,<-de.o,EJ.ln_eq d9.o.2] at h;exact h
      have mK:Hd (ob.ln<=b7.ln):=by show _<=_;have h:=df.o.1.len;rw [<-de.o,EJ.ln_eq d9.o.2,EJ.ln_eq HI.o.lies] at h;exact h
      have kI:Hd (Dh b7.er):=by show Dh _;rw [de.o];exact df.o.1.ok
      have wm:b7.ln<=900000:=by have:=bo.o;have:=bz.o;omega
      by_cases ao:k=0
      ·have aq:=AF ao;have bk0:((k:Int)==0)=true:=by rw [A3];omega
       clear ao;go_wp2_with fail;go_roundw
       case rel=>exact⟨k+1,J,b7,by omega,by go_num,rfl,d9.o.1,d9.o.2,by have h0:=aq.o;have hx:=HX.o;have hi:=HI.o.is;subst h0;rw [CK] at hi;have e0:ob.er=b.er:=(congrArg Prod.fst hi).symm;rw [BG hx,CK,A6,AV,Am,Nm,de.o,e0,<-HJ.o,e0],kI.o,oR.o,iT.o,fun _=>ly.o⟩
       case measure=>simp [intOf];omega
      ·have aq:=AF ao;have bk0:((k:Int)==0)=false:=by rw [AW];omega
       clear ao;have gV:=AF (Nl (l:=l.map PY.er) (Nat.pos_of_ne_zero aq.o) (by rw [<-CT];exact HI.o.is) (t:=PY.er x) (by rw [A7,HX.o];rfl));have lD:(Cq ob.er (PY.er x)).1.cs.length=b7.ln:=by rw [<-de.o];exact EJ.ln_eq d9.o.2
       have eK:=gV.o;rw [HJ.o,lD,<-de.o,<-CT] at eK;have gV:=AF eK;clear eK lD;obtain⟨r,hr⟩:∃r:Bool,(En (b7.ln+1) b7.er f J).2=r:=⟨_,rfl⟩;have cm:=AF hr;clear hr;have lx:=AF (Jt (b7.ln+1) (UJ U w0 G7) W9 b7 f J d9.o.2 kI.o (by have:=HI.o.f (by have:=aq.o;omega);have:=mK.o;omega) ly.o (by omega) (by omega))
       go_upto_region 18 with(first
        |(refine lw d9.o.1.h7 underlying94 ?_)
        |(go_at_call 148;refine lx.o.mono ?_;rintro e w10 ⟨b10,cN,bE,bG,a8,hb⟩;rw [cm.o] at cN;subst cN;have gh:Hd (b10.Lies (UJ U w0 G7) w10):=bE.mono (fun g _ h=>UJ.back d9.o.1.fr.size (Ab d9.o.1.h7) g h);have gd:=AF bG;have fQ:=AF a8;have eO:=AF (d9.o.1.step hb);clear bE bG a8 hb)
        |(refine K7 eO.o.h7 ?_))
       have iU:Hd (Vt w0 b b10 G7 (w10.setRow G7 (cBa b10))/\b10.Lies (UJ U w0 G7) (w10.setRow G7 (cBa b10))):=⟨eO.o.put b10,gh.o.keep (BD.grown (AU _ _ _) (fun g e=>by injection e with e;subst e;exact UJ.seven (by have:=eO.o.l7;omega)))⟩;generalize w10.setRow G7 (cBa b10)=W11 at *
       cases r
       ·have dC:Hd (b.er.join (l.map PY.er)=(b.er,false)):=by show _=_;unfold Bk.join;rw [AJ (show (l.map PY.er).all b.er.knows=true by rw [CD,Aj];exact fun t ht=>kA.o t ht),gV.o.2 cm.o];rfl
        obtain⟨x2,y2,bL⟩:=iU.o.1.fr.br;have ah:=AF bL;clear bL;go_wp2_with (first|(refine lw iU.o.1.fr.bb underlying94 ?_)|(refine K7 ah.o ?_));refine Ag (BZ rfl _ _ _ _ _ rfl (Ae _ _ _ _ _ _ _ (AL _ _ _ _ _ _ ah.o) underlying94 rfl (by kernel_rfl))) rfl ?_;have bX:=iU.o.1.fr.below.grown (AU W11 (w0.heap.size+1) (cBa b)) iU.o.1.fr.below.size (fun g e=>by injection e with e;omega);exact⟨b,by rw [dC.o];rfl,cg.o _ bX,by rw [dC.o],Bn _ _,bX⟩
       ·have oD:=AF (I5 (b7.ln+1) b7.er f J kI.o (by rw [EJ.ln_eq d9.o.2];have:=HI.o.f (by have:=aq.o;omega);have:=mK.o;omega) (by rw [EJ.ln_eq d9.o.2];exact ly.o));go_wp2_with fail;go_roundw
        case rel=>exact⟨k+1,f,b10,by omega,by go_num,rfl,iU.o.1,iU.o.2,by rw [gV.o.1 cm.o,gd.o],by rw [gd.o];exact oD.o.ok,by rw [gd.o,oD.o.vars];exact oR.o,by rw [fQ.o];exact iT.o,fun _=>by rw [fQ.o];have:=HI.o.f (by have:=aq.o;omega);have:=mK.o;omega⟩
        case measure=>simp [intOf];omega
    ·have ai:k=n:=by omega
     have ix:l.take k=l:=Bb (by have:=tV.o;omega);have tX:Hd (Jl b.er (l.map PY.er)=(ob.er,true)):=by show _=_;have h:=HI.o.is;rw [ix] at h;rw [Wn,h]
     have cD:Hd (ob.ln<=b.ln+(l.map Ad.size).sum):=by show _<=_;have h:=HI.o.ln;rw [ix] at h;exact h
     have dJ:=AF ai;have tD:Hd ((l.map PY.er).all b.er.knows=true):=by show _=_;rw [CD,Aj];exact fun t ht=>kA.o t ht
     clear ai ix;have sU:ob.ln<=1000000:=by have:=cD.o;have:=HZ.o;omega
     obtain⟨r,hr⟩:∃r:Bool,IM ob.er.cs=r:=⟨_,rfl⟩;have cm:=AF hr;clear hr;go_upto_region 21 with fail;have kl:=AF (Od HI.o.lies HI.o.ok sU);cases r
     ·have dC:Hd (b.er.join (l.map PY.er)=(b.er,false)):=by show _=_;unfold Bk.join;rw [AJ tD.o,tX.o];show (if(true&&IM ob.er.cs)=true then _ else _)=_;rw [cm.o];rfl
      go_wp2_with (first|(refine lw HI.o.fr.h7 underlying94 ?_)|(go_at_call 149;refine kl.o.mono ?_;rw [cm.o];rintro e w5 ⟨rfl,hb⟩;have cC:=AF (HI.o.fr.step hb);have jt:=AF (HI.o.lies.keep (BD.of hb));obtain⟨x2,y2,bL⟩:=cC.o.fr.br;have ah:=AF bL;clear bL hb)|(refine lw cC.o.fr.bb underlying94 ?_)|(refine K7 ah.o ?_));refine Ag (BZ rfl _ _ _ _ _ rfl (Ae _ _ _ _ _ _ _ (AL _ _ _ _ _ _ ah.o) underlying94 rfl (by kernel_rfl))) rfl ?_;have bX:=cC.o.fr.below.grown (AU w5 (w0.heap.size+1) (cBa b)) cC.o.fr.below.size (fun g e=>by injection e with e;omega);exact⟨b,by rw [dC.o];rfl,cg.o _ bX,by rw [dC.o],Bn _ _,bX⟩
     ·have dC:Hd (b.er.join (l.map PY.er)=(ob.er,true)):=by show _=_;unfold Bk.join;rw [AJ tD.o,tX.o];show (if(true&&IM ob.er.cs)=true then _ else _)=_;rw [cm.o];rfl
      go_wp2_with (first|(refine lw HI.o.fr.h7 underlying94 ?_)|(go_at_call 149;refine kl.o.mono ?_;rw [cm.o];rintro e w5 ⟨rfl,hb⟩;have cC:=AF (HI.o.fr.step hb);have jt:=AF (HI.o.lies.keep (BD.of hb));obtain⟨x2,y2,bL⟩:=cC.o.fr.br;have ah:=AF bL;clear bL hb)|(refine lw cC.o.h7 underlying94 ?_)|(refine K7 ah.o ?_));refine Ag (BZ rfl _ _ _ _ _ rfl (Ae _ _ _ _ _ _ _ (AL _ _ _ _ _ _ ah.o) underlying94 rfl (by kernel_rfl))) rfl ?_;obtain⟨r1,r2⟩:=ZDF cC.o jt.o (AU _ _ _);exact⟨ob,by rw [dC.o];rfl,r1,by rw [dC.o],cD.o,r2⟩
theorem ZBb{W:World}{g:Nat}{x y z u:Value}{t:TypeId}(h:W.heap[g]?=some (.cells #[x,y,z,u] t (0,0))):W.there g 0 2:=fun j hj=>by
 refine⟨?_,by simp [World.frozen?,h]⟩;rw [BP,AD h];match j,hj with
 |0,_=>rfl
 |1,_=>rfl
theorem KF{W:World}{g:Nat}{x y z u:Value}{t:TypeId}(h:W.heap[g]?=some (.cells #[x,y,z,u] t (0,0))):W.rangeAt g 0 [x,y]:=fun j v hj=>by
 rw [BP,AD h];match j,hj with
 |0,hj=>exact hj
 |1,hj=>exact hj
structure PS where
 b:EJ
 bad:Bool
 at_:Int
def PS.er(s:PS):SS:=⟨s.b.er,s.bad,s.at_⟩
abbrev Lg(s:PS):Value:=.agg #[.slice s.b.lp s.b.ln s.b.lc,.slice s.b.vp s.b.vn s.b.vc,.bool s.bad,.int .i64 s.at_]
abbrev cSa(s:PS):Array Value:=#[.slice s.b.lp s.b.ln s.b.lc,.slice s.b.vp s.b.vn s.b.vc,.bool s.bad,.int .i64 s.at_]
abbrev cSl(s:PS):List Value:=[.slice s.b.lp s.b.ln s.b.lc,.slice s.b.vp s.b.vn s.b.vc,.bool s.bad,.int .i64 s.at_]
structure PN where
 name:ByteArray
 t:PY
def PN.er(x:PN):ByteArray×YT:=(x.name,x.t.er)
def Jf(x:PN):List Value:=[.string x.name,.int .u8 x.t.head.kind,.int .i64 x.t.head.var,.slice x.t.head.kp x.t.head.kn x.t.head.kc]
theorem Fa:∀x,(Jf x).length=4:=fun _=>rfl
theorem JW:∀y,∀u∈Jf y,u.oneCell'=true:=by intro y u hu;simp only [Jf,AS,Al,BN] at hu;rcases hu with rfl|rfl|rfl|rfl<;>rfl
theorem OR:(prog.info? 158).map (fun i=>(i.zero,i.size,i.bytes))=some (some (.agg #[.string .empty,.int .u8 0,.int .i64 0,.slice none 0 0]),4,56):=by kernel_rfl
structure Mu(U:Nat->Prop)(w:World)(p:Option Addr)(n c:Nat)(env:List PN):Prop where
 row:Gk Jf 4 U w p n c env
 each:∀x∈env,LY.lies U w x.t
theorem Mu.keep(h:Mu U w p n c env)(hk:BD U w w'):Mu U w' p n c env:=⟨h.row.keep hk,fun x hx=>LY.lies_keep hk _ (h.each x hx)⟩
theorem Mu.mono(h:Mu U w p n c env)(hU:∀b,b<w.heap.size->U b->U' b):Mu U' w p n c env:=⟨h.row.mono hU,fun x hx=>LY.lies_mono hU _ (h.each x hx)⟩
def FZ(env:List PN):EY:=env.map PN.er
def Cz(k v:Int):PY:=.node ⟨k,v,none,0,0⟩ []
theorem Ep(hk:0<=k/\k<=255)(hv:RX v):LY.lies U w (Cz k v):=by unfold Cz;rw [FY.lies_node];exact⟨⟨hk.1,hk.2,hv⟩,Gk.nil _ _ _ _,fun t ht=>by cases ht⟩
theorem EH(w:World):Calls prog 72 #[] w (RB w (GL (Cz 1 0).head)):=by go_enter func72,ntmps72;go_wp2_with fail;refine br (AG w _) underlying45 ?_;exact⟨rfl,(AA w.heap.size w).alloc (AB _) _⟩
def ZDe(k:Int)(g:Nat)(x y:PY):PY:=.node ⟨k,0,some ⟨g,0,none⟩,2,2⟩ [x,y]
theorem VR(hx:LY.lies U w x)(hy:LY.lies U w y)(cs:Array Value)(am:cs=#[.int .u8 x.head.kind,.int .i64 x.head.var,.slice x.head.kp x.head.kn x.head.kc,.int .u8 y.head.kind,.int .i64 y.head.var,.slice y.head.kp y.head.kn y.head.kc])(g:Nat)(hg:w.heap.size=g)(hU:U g):Gk LY.encT 3 U (w.alloc (.cells cs 45)) (some ⟨g,0,none⟩) 2 2 [x,y]:=by subst hg;exact⟨Bo IG (by omega) w 45 [x,y] 2 cs (by rw [am];rfl) rfl (by decide),fun _ a e=>by cases e;exact hU⟩
theorem Nw{U:Nat->Prop}{w:World}{k:Int}{x y:PY}(hk:0<=k/\k<=255)(hx:LY.lies U w x)(hy:LY.lies U w y):Calls prog 74 #[.int .u8 k,GL x.head,GL y.head] w fun e w'=>∃z:PY,e=.returned (GL z.head)/\LY.lies (Ge U w) w' z/\z.er=Tn k x.er y.er/\Below w.heap.size w w':=by
 have h1:Below w.heap.size w (w.alloc (.cells (cYa x) 45)):=bA;have bF:Below w.heap.size w (((w.alloc (.cells (cYa x) 45)).alloc (.cells (cYa y) 45)).alloc (.cells cZy 45)):=(h1.alloc (by simp) _).alloc (by simp<;>omega) _;obtain⟨g1,g2⟩:=Et w (cYa x) (cYa y) 45 45;have h3:=AG ((w.alloc (.cells (cYa x) 45)).alloc (.cells (cYa y) 45)) (.cells cZy 45);rw [AN,AN] at h3;have cQ:=AF ((AP ((w.alloc (.cells (cYa x) 45)).alloc (.cells (cYa y) 45)) (.cells cZy 45) _ (Ab g1)).trans g1);have aQ:=AF ((AP ((w.alloc (.cells (cYa x) 45)).alloc (.cells (cYa y) 45)) (.cells cZy 45) _ (Ab g2)).trans g2);have bC:=AF h3;have aL:=AF bF;have HX:=AF hx;have HY:=AF hy;clear g1 g2 h3 h1 bF hx hy;go_enter func74,ntmps74;go_upto_region 1 with fail;have aI:(((w.alloc (.cells (cYa x) 45)).alloc (.cells (cYa y) 45)).alloc (.cells cZy 45)).heap.size=w.heap.size+3:=by simp
 have bz:=AF aI;clear aI;generalize ((w.alloc (.cells (cYa x) 45)).alloc (.cells (cYa y) 45)).alloc (.cells cZy 45)=W at *
 have dF:Below W.heap.size W (W.alloc (.cells #[.int .u8 x.head.kind,.int .i64 x.head.var,.slice x.head.kp x.head.kn x.head.kc,.int .u8 y.head.kind,.int .i64 y.head.var,.slice y.head.kp y.head.kn y.head.kc] 45)):=bA;have cy:=AF ((dF.block _ (Ab bC.o)).trans bC.o);have bJ:=bt aL dF;have bs:=AF (VR (U:=Ge U w) (LY.lies_mono (fun g _ h=>Ge.of g h) _ (LY.lies_keep (BD.of aL.o) _ HX.o)) (LY.lies_mono (fun g _ h=>Ge.of g h) _ (LY.lies_keep (BD.of aL.o) _ HY.o)) #[.int .u8 x.head.kind,.int .i64 x.head.var,.slice x.head.kp x.head.kn x.head.kc,.int .u8 y.head.kind,.int .i64 y.head.var,.slice y.head.kp y.head.kn y.head.kc] rfl W.heap.size rfl (Ge.new (by have:=bz.o;omega)));clear dF
 go_wp2_with (first
  |(refine lw cQ.o underlying45 ?_)
  |(refine lw aQ.o underlying45 ?_)
  |(refine sw #[.int .u8 k,.int .i64 0,.slice (some ⟨W.heap.size,0,none⟩) 2 2] cy.o ?_))
 refine br (AL _ _ _ _ _ _ cy.o) underlying45 ?_;have hg:(W.alloc (.cells #[.int .u8 x.head.kind,.int .i64 x.head.var,.slice x.head.kp x.head.kn x.head.kc,.int .u8 y.head.kind,.int .i64 y.head.var,.slice y.head.kp y.head.kn y.head.kc] 45)).grownBy ((W.alloc (.cells #[.int .u8 x.head.kind,.int .i64 x.head.var,.slice x.head.kp x.head.kn x.head.kc,.int .u8 y.head.kind,.int .i64 y.head.var,.slice y.head.kp y.head.kn y.head.kc] 45)).setRow (w.heap.size+1+1) #[.int .u8 k,.int .i64 0,.slice (some ⟨W.heap.size,0,none⟩) 2 2]) (some (w.heap.size+1+1)):=AU _ _ _;have bX:=bJ.o.grown hg bJ.o.size (fun g e=>by injection e with e;omega);refine⟨ZDe k W.heap.size x y,rfl,?_,rfl,bX⟩;unfold ZDe;rw [FY.lies_node];refine⟨⟨hk.1,hk.2,by show (-9223372036854775808:Int)<=0;decide,by show (0:Int)<=9223372036854775807;decide⟩,⟨Ca hg (fun _ ad hp e=>by cases hp;injection e with e;have:=bz.o;have e':w.heap.size+1+1=W.heap.size:=e;omega) bs.o.is,fun _ ad e=>by cases e;exact Ge.new (by have:=bz.o;show w.heap.size<=W.heap.size;omega)⟩,fun t ht=>?_⟩;simp only [AS,Al,BN] at ht;rcases ht with rfl|rfl
 ·exact LY.lies_mono (fun g _ h=>Ge.of g h) _ (LY.lies_keep (BD.of bX) _ HX.o)
 ·exact LY.lies_mono (fun g _ h=>Ge.of g h) _ (LY.lies_keep (BD.of bX) _ HY.o)
theorem Rs{U:Nat->Prop}{w:World}{x:PY}(hx:LY.lies U w x):Calls prog 78 #[GL x.head] w fun e w'=>∃z:PY,e=.returned (GL z.head)/\LY.lies (Ge U w) w' z/\z.er=Oh x.er/\Below w.heap.size w w':=by
 have aU:Below w.heap.size w ((w.alloc (.cells (cYa x) 45)).alloc (.cells cZy 45)):=bA.alloc (by simp) _;obtain⟨g1,g2⟩:=Et w (cYa x) cZy 45 45;have cQ:=AF g1;have bC:=AF g2;have aL:=AF aU;have HX:=AF hx;clear g1 g2 aU hx;go_enter func78,ntmps78;go_upto_region 1 with fail;have aI:((w.alloc (.cells (cYa x) 45)).alloc (.cells cZy 45)).heap.size=w.heap.size+2:=by simp
 have bz:=AF aI;clear aI;generalize (w.alloc (.cells (cYa x) 45)).alloc (.cells cZy 45)=W at *
 have dF:Below W.heap.size W (W.alloc (.cells (cYa x) 45)):=bA;have cy:=AF ((dF.block _ (Ab bC.o)).trans bC.o);have bJ:=bt aL dF;have bs:Hd (Gk LY.encT 3 (Ge U w) (W.alloc (.cells (cYa x) 45)) (some ⟨W.heap.size,0,none⟩) 1 1 [x]):=⟨Bo IG (by omega) W 45 [x] 1 (cYa x) rfl rfl (by decide),fun _ a e=>by cases e;exact Ge.new (by have:=bz.o;show w.heap.size<=W.heap.size;omega)⟩;clear dF
 go_wp2_with (first
  |(refine lw cQ.o underlying45 ?_)
  |(refine sw #[.int .u8 3,.int .i64 0,.slice (some ⟨W.heap.size,0,none⟩) 1 1] cy.o ?_))
 refine br (AL _ _ _ _ _ _ cy.o) underlying45 ?_;have hg:(W.alloc (.cells (cYa x) 45)).grownBy ((W.alloc (.cells (cYa x) 45)).setRow (w.heap.size+1) #[.int .u8 3,.int .i64 0,.slice (some ⟨W.heap.size,0,none⟩) 1 1]) (some (w.heap.size+1)):=AU _ _ _;have bX:=bJ.o.grown hg bJ.o.size (fun g e=>by injection e with e;omega);refine⟨.node ⟨3,0,some ⟨W.heap.size,0,none⟩,1,1⟩ [x],rfl,?_,rfl,bX⟩;rw [FY.lies_node];refine⟨⟨by show (0:Int)<=3;decide,by show (3:Int)<=255;decide,by show (-9223372036854775808:Int)<=0;decide,by show (0:Int)<=9223372036854775807;decide⟩,⟨Ca hg (fun _ ad hp e=>by cases hp;injection e with e;have:=bz.o;have e':w.heap.size+1=W.heap.size:=e;omega) bs.o.is,bs.o.u⟩,fun t ht=>?_⟩;rw [AQ.1 ht];exact LY.lies_mono (fun g _ h=>Ge.of g h) _ (LY.lies_keep (BD.of bX) _ HX.o)
def ZCv(U:Nat->Prop)(w:World)(s:PS)(e:Ending)(w':World):Prop:=∃s':PS,e=.returned (.tuple #[Lg s',GL (Cz 5 s.b.vn).head])/\s'.b.Lies (Ge U w) w'/\s'.er=s.er.fresh/\s'.b.ln=s.b.ln+1/\s'.b.vn=s.b.vn+1/\Below w.heap.size w w'
theorem Hq(hs:s.b.Lies U w0)(hn:s.b.ln<=1000000)(hv:s.b.vn<=1000000):Calls prog 73 #[Lg s] w0 (ZCv U w0 s):=by
 have h1:Below w0.heap.size w0 (w0.alloc (.cells #[.slice s.b.lp s.b.ln s.b.lc,.slice s.b.vp s.b.vn s.b.vc,.bool s.bad,.int .i64 s.at_] 96)):=bA;have bF:Below w0.heap.size w0 (((w0.alloc (.cells #[.slice s.b.lp s.b.ln s.b.lc,.slice s.b.vp s.b.vn s.b.vc,.bool s.bad,.int .i64 s.at_] 96)).alloc (.cells #[.slice none 0 0,.slice none 0 0,.bool false,.int .i64 0] 96)).alloc (.cells cZy 45)):=(h1.alloc (by simp) _).alloc (by simp<;>omega) _;obtain⟨g1,g2⟩:=Et w0 #[.slice s.b.lp s.b.ln s.b.lc,.slice s.b.vp s.b.vn s.b.vc,.bool s.bad,.int .i64 s.at_] #[.slice none 0 0,.slice none 0 0,.bool false,.int .i64 0] 96 96;have h3:=AG ((w0.alloc (.cells #[.slice s.b.lp s.b.ln s.b.lc,.slice s.b.vp s.b.vn s.b.vc,.bool s.bad,.int .i64 s.at_] 96)).alloc (.cells #[.slice none 0 0,.slice none 0 0,.bool false,.int .i64 0] 96)) (.cells cZy 45);rw [AN,AN] at h3;have cQ:=AF ((AP ((w0.alloc (.cells #[.slice s.b.lp s.b.ln s.b.lc,.slice s.b.vp s.b.vn s.b.vc,.bool s.bad,.int .i64 s.at_] 96)).alloc (.cells #[.slice none 0 0,.slice none 0 0,.bool false,.int .i64 0] 96)) (.cells cZy 45) _ (Ab g1)).trans g1);have aQ:=AF ((AP ((w0.alloc (.cells #[.slice s.b.lp s.b.ln s.b.lc,.slice s.b.vp s.b.vn s.b.vc,.bool s.bad,.int .i64 s.at_] 96)).alloc (.cells #[.slice none 0 0,.slice none 0 0,.bool false,.int .i64 0] 96)) (.cells cZy 45) _ (Ab g2)).trans g2);have bC:=AF h3;have aL:=AF bF;have HL:=AF ((hs.mono (U':=fun g=>g<w0.heap.size/\U g) (fun g h1 h2=>⟨h1,h2⟩)).keep (BD.of bF));clear g1 g2 h3 h1 bF hs;show Calls _ _ #[.agg #[.slice s.b.lp s.b.ln s.b.lc,.slice s.b.vp s.b.vn s.b.vc,.bool s.bad,.int .i64 s.at_]] w0 _;go_enter func73,ntmps73;go_upto_region 1 with fail;have et:Hd ((((w0.alloc (.cells #[.slice s.b.lp s.b.ln s.b.lc,.slice s.b.vp s.b.vn s.b.vc,.bool s.bad,.int .i64 s.at_] 96)).alloc (.cells #[.slice none 0 0,.slice none 0 0,.bool false,.int .i64 0] 96)).alloc (.cells cZy 45)).heap.size=w0.heap.size+3):=by show _=_;simp
 generalize (((w0.alloc (.cells #[.slice s.b.lp s.b.ln s.b.lc,.slice s.b.vp s.b.vn s.b.vc,.bool s.bad,.int .i64 s.at_] 96)).alloc (.cells #[.slice none 0 0,.slice none 0 0,.bool false,.int .i64 0] 96)).alloc (.cells cZy 45))=W at *
 go_upto_region 2 with(first
  |(refine VD (KF cQ.o) underlying94 ?_)
  |(go_at_call 105;refine(PW HL.o hn hv).mono ?_;rintro e w5 ⟨b',rfl,bE,bG,a8,gN,hb⟩;have jt:=AF bE;have kD:=AF bG;have d8:=AF a8;have wY:=AF gN;have cQ:=AF ((hb.block _ (Ab cQ.o)).trans cQ.o);have aQ:=AF ((hb.block _ (Ab aQ.o)).trans aQ.o);have bC:=AF ((hb.block _ (Ab bC.o)).trans bC.o);have aw:=bt aL hb;have ew:=AF hb.size;clear bE bG a8 gN hb)
  |(refine sn #[.slice b'.lp b'.ln b'.lc,.slice b'.vp b'.vn b'.vc] ?_))
 have dM:Below w5.heap.size w5 (w5.alloc (.cells (cBa b') 94)):=bA;have fP:=AF (C6 w5 (cBa b') 94 _ rfl);have cQ:=AF ((dM.block _ (Ab cQ.o)).trans cQ.o);have aQ:=AF ((dM.block _ (Ab aQ.o)).trans aQ.o);have bC:=AF ((dM.block _ (Ab bC.o)).trans bC.o);have dW:=bt aw dM
 have el:=AF ((jt.o.mono (U':=fun g=>(g<w0.heap.size/\U g)\/w0.heap.size+3<=g) (fun g hg h=>by
  by_cases aG:g<W.heap.size
  ·exact .inl (h aG)
  ·have:=Ab bC.o;exact .inr (by have:=et.o;omega))).keep (BD.of dM))
 obtain⟨G4,oZ⟩:∃G4,w5.heap.size=G4:=⟨_,rfl⟩;have rq:w0.heap.size+3<=G4:=by have:=et.o;have:=aw.o.size;have:=ew.o;omega
 rw [oZ] at fP ⊢;generalize w5.alloc (.cells (cBa b') 94)=W6 at *
 clear oZ dM jt
 go_upto_region 3 with(first
  |(refine lw fP.o underlying94 ?_)
  |(refine UC (ZBb cQ.o) ?_))
 have fk:W6.grownBy (W6.setCells w0.heap.size 0 (cBl b')) (some w0.heap.size):=Du _ _ _ _;have ig:(W6.setCells w0.heap.size 0 (cBl b')).heap[w0.heap.size]?=some (.cells #[.slice b'.lp b'.ln b'.lc,.slice b'.vp b'.vn b'.vc,.bool s.bad,.int .i64 s.at_] 96 (0,0)):=Aw (o:=1) _ (Aw (o:=0) _ cQ.o);have ck:=AF ig;have aQ:=AF ((fk.block _ (Ab aQ.o) (fun e=>by injection e with e;omega)).trans aQ.o);have bC:=AF ((fk.block _ (Ab bC.o) (fun e=>by injection e with e;omega)).trans bC.o);have az:=AF (dW.o.grown fk dW.o.size (fun g e=>by injection e with e;omega));have iT:=AF (el.o.keep (BD.grown fk (fun g e h=>by injection e with e;subst e;rcases h with⟨h,_⟩|h<;>omega)));clear fk ig cQ dW el;generalize W6.setCells w0.heap.size 0 (cBl b')=W7 at *
 go_wp2_with (first
  |(refine lw ck.o underlying96 ?_)
  |(refine sw #[.slice b'.lp b'.ln b'.lc,.slice b'.vp b'.vn b'.vc,.bool s.bad,.int .i64 s.at_] aQ.o ?_)
  |(refine sw #[.int .u8 5,.int .i64 (s.b.vn:Int),.slice none 0 0] ((AR _ _ _ _ (by omega)).trans bC.o) ?_))
 have e1:((W7.setRow (w0.heap.size+1) #[.slice b'.lp b'.ln b'.lc,.slice b'.vp b'.vn b'.vc,.bool s.bad,.int .i64 s.at_]).setRow (w0.heap.size+1+1) #[.int .u8 5,.int .i64 (s.b.vn:Int),.slice none 0 0]).heap[w0.heap.size+1]?=some (.cells #[.slice b'.lp b'.ln b'.lc,.slice b'.vp b'.vn b'.vc,.bool s.bad,.int .i64 s.at_] 96 (0,0)):=(AR _ _ _ _ (by omega)).trans (AL _ _ _ _ _ _ aQ.o);have e2:((W7.setRow (w0.heap.size+1) #[.slice b'.lp b'.ln b'.lc,.slice b'.vp b'.vn b'.vc,.bool s.bad,.int .i64 s.at_]).setRow (w0.heap.size+1+1) #[.int .u8 5,.int .i64 (s.b.vn:Int),.slice none 0 0]).heap[w0.heap.size+1+1]?=some (.cells #[.int .u8 5,.int .i64 (s.b.vn:Int),.slice none 0 0] 45 (0,0)):=AL _ _ _ _ _ _ ((AR _ _ _ _ (by omega)).trans bC.o);refine Ag (Hs rfl _ _ _ _ _ _ _ rfl (Ae _ _ _ _ _ _ _ e1 underlying96 rfl (by kernel_rfl)) rfl (Ae _ _ _ _ _ _ _ e2 underlying45 rfl (by kernel_rfl))) rfl ?_;have uY:=AU W7 (w0.heap.size+1) #[.slice b'.lp b'.ln b'.lc,.slice b'.vp b'.vn b'.vc,.bool s.bad,.int .i64 s.at_];have eC:=AU (W7.setRow (w0.heap.size+1) #[.slice b'.lp b'.ln b'.lc,.slice b'.vp b'.vn b'.vc,.bool s.bad,.int .i64 s.at_]) (w0.heap.size+1+1) #[.int .u8 5,.int .i64 (s.b.vn:Int),.slice none 0 0];have bX:=(az.o.grown uY az.o.size (fun g e=>by injection e with e;omega)).grown eC (by rw [B4];exact az.o.size) (fun g e=>by injection e with e;omega);have di:=(iT.o.keep (BD.grown uY (fun g e h=>by injection e with e;subst e;rcases h with⟨h,_⟩|h<;>omega))).keep (BD.grown eC (fun g e h=>by injection e with e;subst e;rcases h with⟨h,_⟩|h<;>omega));refine⟨⟨b',s.bad,s.at_⟩,rfl,di.mono (fun g _ h hg=>?_),?_,d8.o,wY.o,bX⟩
 ·rcases h with⟨_,h⟩|h
  ·exact h
  ·omega
 ·show (⟨b'.er,s.bad,s.at_⟩:SS)=_;rw [kD.o];rfl
end Go.Proofs.YtkdjnegfnhldpaaGreatDoor
