/- Part 21. -/
import Derived.Test.YtkdjnegfnhldpaaGreatDoorK20
set_option linter.unusedVariables false
set_option maxRecDepth 100000
set_option linter.unusedSimpArgs false
set_option maxHeartbeats 40000000
set_option autoImplicit true
set_option relaxedAutoImplicit true
namespace Go.Proofs.YtkdjnegfnhldpaaGreatDoor
open Go.Proofs.Tryz Go.RowKit
structure UK(w:World)(b:EJ)(W:World):Prop where
 bb:W.heap[w.heap.size]?=some (.cells (cBa b) 94 (0,0))
 br:∃x y,W.heap[w.heap.size+1]?=some (.cells #[x,y] 94 (0,0))
 below:Below w.heap.size w W
theorem UK.size(h:UK w b W):w.heap.size+2<=W.heap.size:=by obtain⟨x,y,e⟩:=h.br;have:=Ab e;omega
theorem UK.step(h:UK w b W)(hb:Below W.heap.size W W'):UK w b W':=by obtain⟨x,y,e⟩:=h.br;exact⟨(hb.block _ (Ab h.bb)).trans h.bb,⟨x,y,(hb.block _ (Ab e)).trans e⟩,h.below.trans (hb.mono h.below.size)⟩
theorem UK.grown(h:UK w b W)(hg:W.grownBy W' r)(hr:∀g,r=some g->w.heap.size+2<=g):UK w b W':=by
 obtain⟨x,y,e⟩:=h.br;have aM:∀k,k<w.heap.size+2->some k≠r:=fun k hk e=>by have:=hr k e.symm;omega
 exact⟨(hg.block _ (Ab h.bb) (aM _ (by omega))).trans h.bb,⟨x,y,(hg.block _ (Ab e) (aM _ (by omega))).trans e⟩,
  h.below.grown hg h.below.size (fun k e=>by have:=hr k e;omega)⟩
theorem UK.book(h:UK w b W)(b':EJ):UK w b' (W.setRow w.heap.size (cBa b')):=by obtain⟨x,y,e⟩:=h.br;exact⟨AL _ _ _ _ _ _ h.bb,⟨x,y,(AR _ _ _ _ (by omega)).trans e⟩,h.below.grown (AU _ _ _) h.below.size (fun k e=>by injection e with e;omega)⟩
theorem Xm(w:World)(b:EJ):UK w b ((w.alloc (.cells (cBa b) 94)).alloc (.cells #[.slice none 0 0,.slice none 0 0] 94)):=by obtain⟨g1,g2⟩:=Et w (cBa b) #[.slice none 0 0,.slice none 0 0] 94 94;exact⟨g1,⟨_,_,g2⟩,bA.alloc (by simp) _⟩
structure Zd(w:World)(b:EJ)(x y:PC)(g8 g9:Nat)(W:World):Prop where
 fr:UK w b W
 h8:W.heap[g8]?=some (.cells #[.int .i64 (RZ x.c.led),.int .u8 x.c.kind,.slice x.kp x.kn x.kc,.int .i64 (x.c.var:Int)] 199 (0,0))
 h9:W.heap[g9]?=some (.cells #[.int .i64 (RZ y.c.led),.int .u8 y.c.kind,.slice y.kp y.kn y.kc,.int .i64 (y.c.var:Int)] 199 (0,0))
 l8:w.heap.size+2<=g8
 l9:w.heap.size+2<=g9
theorem Zd.step(h:Zd w b x y g8 g9 W)(hb:Below W.heap.size W W'):Zd w b x y g8 g9 W':=⟨h.fr.step hb,(hb.block _ (Ab h.h8)).trans h.h8,(hb.block _ (Ab h.h9)).trans h.h9,h.l8,h.l9⟩
theorem Zd.book(h:Zd w b x y g8 g9 W)(b':EJ):Zd w b' x y g8 g9 (W.setRow w.heap.size (cBa b')):=⟨h.fr.book b',(AR _ _ _ _ (by have:=h.l8;omega)).trans h.h8,(AR _ _ _ _ (by have:=h.l9;omega)).trans h.h9,h.l8,h.l9⟩
theorem ZAR(h:UK w b W)(hb:Below W.heap.size W V)(h8:W.heap.size<=g8)(h9:W.heap.size<=g9)(aM:g8≠g9)(e8:V.heap[g8]?=some (.cells c8 199 (0,0)))(e9:V.heap[g9]?=some (.cells c9 199 (0,0))):Zd w b x y g8 g9 ((V.setRow g8 #[.int .i64 (RZ x.c.led),.int .u8 x.c.kind,.slice x.kp x.kn x.kc,.int .i64 (x.c.var:Int)]).setRow g9 #[.int .i64 (RZ y.c.led),.int .u8 y.c.kind,.slice y.kp y.kn y.kc,.int .i64 (y.c.var:Int)]):=by have hs:=h.size;have f1:=(h.step hb).grown (AU V g8 #[.int .i64 (RZ x.c.led),.int .u8 x.c.kind,.slice x.kp x.kn x.kc,.int .i64 (x.c.var:Int)]) (fun g e=>by injection e with e;omega);have f2:=f1.grown (AU _ g9 #[.int .i64 (RZ y.c.led),.int .u8 y.c.kind,.slice y.kp y.kn y.kc,.int .i64 (y.c.var:Int)]) (fun g e=>by injection e with e;omega);exact⟨f2,(AR _ _ _ _ aM).trans (AL _ _ _ _ _ _ e8),AL _ _ _ _ _ _ ((AR _ _ _ _ (fun e=>aM e.symm)).trans e9),by omega,by omega⟩
def S3(U:Nat->Prop)(w:World)(b:EJ)(r:Bk×Bool)(e:Ending)(w':World):Prop:=∃b':EJ,e=.returned (.tuple #[GA b',.bool r.2])/\b'.Lies (Ge U w) w'/\b'.er=r.1/\b'.ln=b.ln/\Below w.heap.size w w'
theorem IQ{U:Nat->Prop}{w W W':World}{b' b2:EJ}(h:UK w b' W)(hl:b2.Lies (UL U w 2 (.slice none 0 0)) W)(hg:W.grownBy W' (some (w.heap.size+1))):b2.Lies (Ge U w) W'/\Below w.heap.size w W':=⟨(hl.keep (BD.grown hg (fun g e=>by injection e with e;subst e;exact UL.notBox (by omega) (by omega)))).mono (fun g _ h=>UL.out g h),h.below.grown hg h.below.size (fun g e=>by injection e with e;omega)⟩
theorem OT:∀(l1 m1 l2 m2:List Nat) (b:Bk),l1.length=m1.length->GE J b (l1++l2) (m1++m2)=if(GE J b l1 m1).2 then GE J (GE J b l1 m1).1 l2 m2 else((GE J b l1 m1).1,false)
 |[],[],l2,m2,b,_=>by rw [GE];rfl
 |[],_::_,_,_,_,h=>by simp at h
 |_::_,[],_,_,_,h=>by simp at h
 |x::l1,y::m1,l2,m2,b,h=>by
  rw [BK,BK,GE,GE];by_cases hj:(J b x y).2=true
  ·rw [AJ hj,AJ hj];exact OT l1 m1 l2 m2 _ (by simpa using h)
  ·rw [AC hj,AC hj];rfl
theorem Wo(qX:l.length=m.length)(h:GE J b (l.take k) (m.take k)=(b1,true))(hp:l[k]?=some p)(hq:m[k]?=some q):((J b1 p q).2=true->GE J b (l.take (k+1)) (m.take (k+1))=((J b1 p q).1,true))/\((J b1 p q).2=false->GE J b l m=((J b1 p q).1,false)):=by
 have hl:(l.take k).length=(m.take k).length:=by rw [EU,EU,qX]
 refine⟨fun hj=>?_,fun hj=>?_⟩
 ·rw [BG hp,BG hq,OT _ _ _ _ _ hl,h,AJ rfl,GE,AJ hj,GE]
 ·have e1:l=l.take k++p::l.drop (k+1):=by have:=A9 (DI hp);rw [AI (DI hp)] at hp;rw [<-A8 hp,<-this,BY]
  have e2:m=m.take k++q::m.drop (k+1):=by have:=A9 (DI hq);rw [AI (DI hq)] at hq;rw [<-A8 hq,<-this,BY]
  have h3:=OT (J:=J) (l.take k) (m.take k) (p::l.drop (k+1)) (q::m.drop (k+1)) b hl;rw [<-e1,<-e2] at h3;rw [h3,h,AJ rfl,GE,AC (by rw [hj];decide)]
structure JnI(U:Nat->Prop)(w:World)(n:Nat)(b:EJ)(b1:Bk)(x y:PC)(g8 g9 k:Nat)(bk:EJ)(w3 W:World):Prop where
 fr:Zd w bk x y g8 g9 W
 lies:bk.Lies (UL U w 2 (.slice none 0 0)) W
 keep:BD (UL U w 2 (.slice none 0 0)) w3 W
 led:Py b1 bk.er
 is:GE (En n) b1 (x.c.kids.take k) (y.c.kids.take k)=(bk.er,true)
 ln:bk.ln=b.ln
structure JnR(U:Nat->Prop)(w:World)(bk b7:EJ)(x y:PC)(g8 g9 G:Nat)(w3 W:World):Prop where
 fr:Zd w bk x y g8 g9 W
 g:w.heap.size+2<=G
 box:W.heap[G]?=some (.cells (cBa b7) 94 (0,0))
 lies:b7.Lies (UL U w 2 (.slice none 0 0)) W
 keep:BD (UL U w 2 (.slice none 0 0)) w3 W
theorem JnR.book(h:JnR U w bk b7 x y g8 g9 G w3 W):Zd w b7 x y g8 g9 (W.setRow w.heap.size (cBa b7))/\b7.Lies (UL U w 2 (.slice none 0 0)) (W.setRow w.heap.size (cBa b7))/\BD (UL U w 2 (.slice none 0 0)) w3 (W.setRow w.heap.size (cBa b7)):=by have hk:BD (UL U w 2 (.slice none 0 0)) W (W.setRow w.heap.size (cBa b7)):=BD.grown (AU _ _ _) (fun g e=>by injection e with e;subst e;exact UL.notBox (AB _) (by omega));exact⟨h.fr.book b7,h.lies.keep hk,h.keep.trans hk⟩
theorem ZAS(h:JnI U w n b b1 x y g8 g9 k bk w3 wr)(hc:wr.heap.size<=Wc.heap.size)(hb:Below wr.heap.size wr Wb)(hG:wr.heap.size<=G)(ac:Wb.heap[G]?=some (.cells cs 94 (0,0)))(hl:b7.Lies (Ge (fun g=>UL U w 2 (.slice none 0 0) g/\g≠wr.heap.size) Wc) (Wb.setRow G (cBa b7))):JnR U w bk b7 x y g8 g9 G w3 (Wb.setRow G (cBa b7)):=by
 have hs:=h.fr.fr.size;have ab:Below wr.heap.size wr (Wb.setRow G (cBa b7)):=hb.grown (AU _ _ _) hb.size (fun g e=>by injection e with e;omega);refine⟨h.fr.step ab,by omega,AL _ _ _ _ _ _ ac,hl.mono (fun g _ hg=>?_),h.keep.trans (BD.of ab)⟩;by_cases aG:g<Wc.heap.size
 ·exact(hg aG).1
 ·exact .inr ⟨by omega,(fun e=>by cases e)⟩
theorem UL.nil{U:Nat->Prop}{w W:World}{m:Nat}(hs:w.heap.size+m<=W.heap.size):∀g,Ge (UL U w m (.slice none 0 0)) W g->UL U w m (.slice none 0 0) g:=UL.below (fun g e=>by cases e) hs
theorem Yn{n:Nat}(ih:∀(U:Nat->Prop) (w0:World) (b:EJ) (x y:Nat),b.Lies U w0->Dh b.er->x<b.ln->y<b.ln->b.ln<=1000000->b.ln<=n+Il b.er.cs->Calls prog 148 #[GA b,.int .i64 x,.int .i64 y] w0 (S3 U w0 b (En n b.er x y))){U:Nat->Prop}{w0:World}{b:EJ}{x y:Nat}(hb:b.Lies U w0)(aW:Dh b.er)(hx:x<b.ln)(hy:y<b.ln)(hn:b.ln<=1000000)(hf:b.ln<=n+1+Il b.er.cs):Calls prog 148 #[GA b,.int .i64 x,.int .i64 y] w0 (S3 U w0 b (En (n+1) b.er x y)):=by
 have HN:=AF (Xm w0 b);have cu:b.er.cs.length=b.ln:=EJ.ln_eq hb;have lL:b.cs.length=b.ln:=hb.cs.is.len;have HL:=AF ((hb.mono (U':=UL U w0 2 (.slice none 0 0)) (fun g h1 h2=>.inl ⟨h1,h2⟩)).keep (BD.of HN.o.below));have dr:=AF ih;have bP:=AF aW;have HF:=AF hf;have rK:=AF lL;obtain⟨rx1,rx2⟩:=aW.root (i:=x) (by omega);obtain⟨ry1,ry2⟩:=aW.root (i:=y) (by omega);have ik:Hd (∀V,b.Lies (UL U w0 2 (.slice none 0 0)) V->Calls prog 152 #[GA b,.int .i64 x] V fun e w'=>e=.returned (.int .i64 (Dk b.er.cs x:Nat))/\Below V.heap.size V w'):=fun V hV=>IU hV aW (by omega);have tL:Hd (∀V,b.Lies (UL U w0 2 (.slice none 0 0)) V->Calls prog 152 #[GA b,.int .i64 y] V fun e w'=>e=.returned (.int .i64 (Dk b.er.cs y:Nat))/\Below V.heap.size V w'):=fun V hV=>IU hV aW (by omega);have HR:Hd (En (n+1) b.er x y=Lw (En n) b.er (Dk b.er.cs x) (Dk b.er.cs y) (EW b.er.cs (Dk b.er.cs x)) (EW b.er.cs (Dk b.er.cs y))):=by show _=_;rw [En]
 generalize Dk b.er.cs x=X at *
 generalize Dk b.er.cs y=Y at *
 rw [cu] at rx1 ry1;have aQ:=AF rx2;have oT:=AF ry2;clear hb aW hf ih rx2 ry2 cu lL hx hy;show Calls _ _ #[.agg (cBa b),.int .i64 x,.int .i64 y] w0 _;go_enter func148,ntmps148;go_upto_region 1 with fail;generalize (w0.alloc (.cells (cBa b) 94)).alloc (.cells #[.slice none 0 0,.slice none 0 0] 94)=W at *
 go_upto_region 2 with(first
  |(refine lw HN.o.bb underlying94 ?_)
  |(go_at_call 152;refine(ik.o _ HL.o).mono ?_;rintro e w1 ⟨rfl,hb⟩;have dE:=AF (HN.o.step hb);have js:=AF (HL.o.keep (BD.of hb));clear hb))
 go_upto_region 3 with(first
  |(refine lw dE.o.bb underlying94 ?_)
  |(go_at_call 152;refine(tL.o _ js.o).mono ?_;rintro e w2 ⟨rfl,hb⟩;have gU:=AF (dE.o.step hb);have gi:=AF (js.o.keep (BD.of hb));clear hb))
 clear HN HL dE js ik tL;by_cases qP:X=Y
 ·have jQ:Hd (En (n+1) b.er x y=(b.er,true)):=by show _=_;rw [HR.o];unfold Lw;rw [AJ qP]
  have uL:((X:Int)==(Y:Int))=true:=by rw [A3];omega
  clear qP;obtain⟨x2,y2,bL⟩:=gU.o.br;have ah:=AF bL;clear bL;go_wp2_with (first|(refine lw gU.o.bb underlying94 ?_)|(refine K7 ah.o ?_));refine Ag (BZ rfl _ _ _ _ _ rfl (Ae _ _ _ _ _ _ _ (AL _ _ _ _ _ _ ah.o) underlying94 rfl (by kernel_rfl))) rfl ?_;obtain⟨r1,r2⟩:=IQ gU.o gi.o (AU _ _ _);exact⟨b,by rw [jQ.o];rfl,r1,by rw [jQ.o],rfl,r2⟩
 have uL:((X:Int)==(Y:Int))=false:=by rw [AW];omega
 have jQ:=AF qP;clear qP;go_upto_region 5 with fail;clear uL;obtain⟨cX,jV⟩:=gi.o.cs.at (j:=X) rx1;obtain⟨cY,sE⟩:=gi.o.cs.at (j:=Y) ry1;obtain⟨g,o,hp,bN,d0,d1,d2,d3⟩:=QG gi.o.cs jV;obtain⟨g',o',ek,_,e0,e1,e2,e3⟩:=QG gi.o.cs sE;rw [hp] at ek;cases ek;have i6:=AF jV;have qB:=AF sE;have HP:=AF hp
 have mM:Hd (∀V,Below w2.heap.size w2 V->V.rangeAt g (o+X * 4) [.int .i64 (RZ cX.c.led),.int .u8 cX.c.kind,.slice cX.kp cX.kn cX.kc,.int .i64 (cX.c.var:Int)]):=by
  show ∀V,_;intro V hb i u hu;match i,hu with
  |0,hu=>rw [Bd,hb.cell (show g<w2.heap.size from bN),d0];exact hu
  |1,hu=>rw [hb.cell (show g<w2.heap.size from bN),d1];exact hu
  |2,hu=>rw [hb.cell (show g<w2.heap.size from bN),d2];exact hu
  |3,hu=>rw [hb.cell (show g<w2.heap.size from bN),d3];exact hu
 have oM:Hd (∀V,Below w2.heap.size w2 V->V.rangeAt g (o+Y * 4) [.int .i64 (RZ cY.c.led),.int .u8 cY.c.kind,.slice cY.kp cY.kn cY.kc,.int .i64 (cY.c.var:Int)]):=by
  show ∀V,_;intro V hb i u hu;match i,hu with
  |0,hu=>rw [Bd,hb.cell (show g<w2.heap.size from bN),e0];exact hu
  |1,hu=>rw [hb.cell (show g<w2.heap.size from bN),e1];exact hu
  |2,hu=>rw [hb.cell (show g<w2.heap.size from bN),e2];exact hu
  |3,hu=>rw [hb.cell (show g<w2.heap.size from bN),e3];exact hu
 have qH:Hd (∀V,Below w2.heap.size w2 V->V.cell? ⟨w0.heap.size,0,none⟩=some (.slice (some ⟨g,o,none⟩) b.ln b.lc)):=by show ∀V,_;intro V hb;rw [AD (gU.o.step hb).bb,<-HP.o];rfl
 clear jV sE hp d0 d1 d2 d3 e0 e1 e2 e3 bN;go_cut [8,9] from 8 to 33 (fun s8 s9 wx=>∃(g8 g9:Nat),s8=.pointer (some ⟨g8,0,none⟩)/\s9=.pointer (some ⟨g9,0,none⟩)/\Zd w0 b cX cY g8 g9 wx/\b.Lies (UL U w0 2 (.slice none 0 0)) wx)
 case first=>
  refine rg (fun W'=>Below w2.heap.size w2 W') (At w2) fun aA=>?_;refine tp 0 23 ?_;refine tp 1 24 ?_ (hy:=fun w aB=>by(try dsimp only at aB);have c1:=qH.o w aB;go_simp;try with_reducible rfl);refine tp 2 25 ?_;refine tp 3 26 ?_;refine LV 4 27 (fun W' aB=>mM.o W' aB) underlying199 ?_;refine tp 5 28 ?_;refine tp 6 29 ?_ (hy:=fun w aB=>by(try dsimp only at aB);have c1:=qH.o w aB;go_simp;try with_reducible rfl);refine tp 7 30 ?_;refine tp 8 31 ?_;refine LV 9 32 (fun W' aB=>oM.o W' aB) underlying199 ?_;refine A2 (rs:=[10,11]) (by kernel_rfl) (by simp) ?_;refine AY (o:=⟨some 8,_,_,_,_,none⟩) rfl (fun K hK=>?_) (AY (o:=⟨some 9,_,_,_,_,none⟩) rfl (fun K hK=>?_) Az)
  ·skip;go_simp;have jw:=AF (C6 w2.drew #[.int .i64 0,.int .u8 0,.slice none 0 0,.int .i64 0] 199 w2.heap.size rfl);refine tn hK (Ay aA _) ?_;clear aA hK K;intro aA;refine tr 11 9 fun K hK=>?_;go_simp;have fy:=AF (C6 (w2.drew.alloc (.cells #[.int .i64 0,.int .u8 0,.slice none 0 0,.int .i64 0] 199)) #[.int .i64 0,.int .u8 0,.slice none 0 0,.int .i64 0] 199 (w2.heap.size+1) (by simp));have jw:=AF ((AP (w2.drew.alloc (.cells #[.int .i64 0,.int .u8 0,.slice none 0 0,.int .i64 0] 199)) (.cells #[.int .i64 0,.int .u8 0,.slice none 0 0,.int .i64 0] 199) _ (Ab jw.o)).trans jw.o);refine tn hK (Ay aA _) ?_;clear aA hK K;intro aA;refine Fo 12 fun K hK=>?_;have kh:=AF aA;refine Iv jw.o ?_;refine tn hK (aA.grown (AU _ _ _) aA.size (fun g e=>by injection e with e;omega)) ?_;clear aA hK K;intro aA;refine Fo 13 fun K hK=>?_;have jT:=fy;have fy:=AF ((AR _ w2.heap.size (w2.heap.size+1) #[.int .i64 (RZ cX.c.led),.int .u8 cX.c.kind,.slice cX.kp cX.kn cX.kc,.int .i64 (cX.c.var:Int)] (by omega)).trans fy.o);refine Iv fy.o ?_;refine tn hK (aA.grown (AU _ _ _) aA.size (fun g e=>by injection e with e;omega)) ?_;clear aA hK K;intro aA;refine dn ?_;have cW:=aA;clear aA;have lx:=AF (ZAR (x:=cX) (y:=cY) gU.o kh.o (g8:=w2.heap.size) (g9:=(w2.heap.size+1)) (by omega) (by omega) (by omega) jw.o jT.o);have oB:=AF (gi.o.keep (BD.of cW));clear cW kh jw fy jT;generalize (((w2.drew.alloc (.cells #[.int .i64 0,.int .u8 0,.slice none 0 0,.int .i64 0] 199)).alloc (.cells #[.int .i64 0,.int .u8 0,.slice none 0 0,.int .i64 0] 199)).setRow w2.heap.size #[.int .i64 (RZ cX.c.led),.int .u8 cX.c.kind,.slice cX.kp cX.kn cX.kc,.int .i64 (cX.c.var:Int)]).setRow (w2.heap.size+1) #[.int .i64 (RZ cY.c.led),.int .u8 cY.c.kind,.slice cY.kp cY.kn cY.kc,.int .i64 (cY.c.var:Int)]=W5 at *
   go_wp2_with fail;go_meet
   case rel=>exact⟨_,_,rfl,rfl,lx.o,oB.o⟩
  ·skip;go_simp;have fy:=AF (C6 w2.drew #[.int .i64 0,.int .u8 0,.slice none 0 0,.int .i64 0] 199 w2.heap.size rfl);refine tn hK (Ay aA _) ?_;clear aA hK K;intro aA;refine tr 10 8 fun K hK=>?_;go_simp;have jw:=AF (C6 (w2.drew.alloc (.cells #[.int .i64 0,.int .u8 0,.slice none 0 0,.int .i64 0] 199)) #[.int .i64 0,.int .u8 0,.slice none 0 0,.int .i64 0] 199 (w2.heap.size+1) (by simp));have fy:=AF ((AP (w2.drew.alloc (.cells #[.int .i64 0,.int .u8 0,.slice none 0 0,.int .i64 0] 199)) (.cells #[.int .i64 0,.int .u8 0,.slice none 0 0,.int .i64 0] 199) _ (Ab fy.o)).trans fy.o);refine tn hK (Ay aA _) ?_;clear aA hK K;intro aA;refine Fo 12 fun K hK=>?_;have kh:=AF aA;refine Iv jw.o ?_;refine tn hK (aA.grown (AU _ _ _) aA.size (fun g e=>by injection e with e;omega)) ?_;clear aA hK K;intro aA;refine Fo 13 fun K hK=>?_;have jT:=fy;have fy:=AF ((AR _ (w2.heap.size+1) w2.heap.size #[.int .i64 (RZ cX.c.led),.int .u8 cX.c.kind,.slice cX.kp cX.kn cX.kc,.int .i64 (cX.c.var:Int)] (by omega)).trans fy.o);refine Iv fy.o ?_;refine tn hK (aA.grown (AU _ _ _) aA.size (fun g e=>by injection e with e;omega)) ?_;clear aA hK K;intro aA;refine dn ?_;have cW:=aA;clear aA;have lx:=AF (ZAR (x:=cX) (y:=cY) gU.o kh.o (g8:=(w2.heap.size+1)) (g9:=w2.heap.size) (by omega) (by omega) (by omega) jw.o jT.o);have oB:=AF (gi.o.keep (BD.of cW));clear cW kh jw fy jT;generalize (((w2.drew.alloc (.cells #[.int .i64 0,.int .u8 0,.slice none 0 0,.int .i64 0] 199)).alloc (.cells #[.int .i64 0,.int .u8 0,.slice none 0 0,.int .i64 0] 199)).setRow (w2.heap.size+1) #[.int .i64 (RZ cX.c.led),.int .u8 cX.c.kind,.slice cX.kp cX.kn cX.kc,.int .i64 (cX.c.var:Int)]).setRow w2.heap.size #[.int .i64 (RZ cY.c.led),.int .u8 cY.c.kind,.slice cY.kp cY.kn cY.kc,.int .i64 (cY.c.var:Int)]=W5 at *
   go_wp2_with fail;go_meet
   case rel=>exact⟨_,_,rfl,rfl,lx.o,oB.o⟩
 case rest=>
  obtain⟨g8,g9,rfl,rfl,ug,pO⟩:=hcut;have iY:=MK i6.o;have mj:=MK qB.o;have rz:=HR.o;rw [iY,mj] at rz;have co:=AF rz;have HJ:=AF ug;have dt:=AF pO;have kB:=AF iY;have qq:=AF mj;clear ug pO rz iY mj HR;have k8:wc.cell? ⟨g8,1,none⟩=some (.int .u8 cX.c.kind):=by rw [AD HJ.o.h8];rfl
  have k9:wc.cell? ⟨g9,1,none⟩=some (.int .u8 cY.c.kind):=by rw [AD HJ.o.h9];rfl
  by_cases kx:cX.c.kind=0
  ·have b8:(cX.c.kind==0)=true:=by rw [A3];exact kx
   by_cases ky:cY.c.kind=0
   ·have b9:(cY.c.kind==0)=true:=by rw [A3];exact ky
    have v8:wc.cell? ⟨g8,3,none⟩=some (.int .i64 (cX.c.var:Int)):=by rw [AD HJ.o.h8];rfl
    have v9:wc.cell? ⟨g9,3,none⟩=some (.int .i64 (cY.c.var:Int)):=by rw [AD HJ.o.h9];rfl
    by_cases hv:cX.c.var<cY.c.var
    ·have dv:decide (cX.c.var<cY.c.var)=true:=by simpa using hv
     have HQ:Hd (En (n+1) b.er x y=(⟨EZ b.er.cs Y X,b.er.vars⟩,true)):=by show _=_;rw [co.o];unfold Lw;rw [AC jQ.o];rw [AJ ⟨kx,ky⟩,AJ hv]
     clear kx ky hv;have im:=AF (Gv (j:=X) dt.o qB.o hn);obtain⟨x2,y2,bL⟩:=HJ.o.fr.br;have ah:=AF bL;clear bL
     go_wp2_with (first
      |(refine lw HJ.o.fr.bb underlying94 ?_)
      |(go_at_call 200;refine im.o.mono ?_;clear k8 k9;rintro e w6 ⟨b',rfl,bE,bG,a8,hb⟩;have el:Hd (b'.Lies (UL U w0 2 (.slice none 0 0)) w6):=bE.mono (fun g _ h=>UL.nil HJ.o.fr.size g h);have iR:=AF bG;have cG:=AF a8;have jD:=AF (HJ.o.fr.step hb);have ah:=AF ((hb.block _ (Ab ah.o)).trans ah.o);clear bE bG a8 hb)
      |(refine K7 ah.o ?_))
     refine Ag (BZ rfl _ _ _ _ _ rfl (Ae _ _ _ _ _ _ _ (AL _ _ _ _ _ _ ah.o) underlying94 rfl (by kernel_rfl))) rfl ?_;obtain⟨r1,r2⟩:=IQ jD.o el.o (AU _ _ _);exact⟨b',by rw [HQ.o];rfl,r1,by rw [HQ.o];exact iR.o,cG.o,r2⟩
    ·have dv:decide (cX.c.var<cY.c.var)=false:=by simpa using hv
     have HQ:Hd (En (n+1) b.er x y=(⟨EZ b.er.cs X Y,b.er.vars⟩,true)):=by show _=_;rw [co.o];unfold Lw;rw [AC jQ.o];rw [AJ ⟨kx,ky⟩,AC hv]
     clear kx ky hv;have im:=AF (Gv (j:=Y) dt.o i6.o hn);obtain⟨x2,y2,bL⟩:=HJ.o.fr.br;have ah:=AF bL;clear bL
     go_wp2_with (first
      |(refine lw HJ.o.fr.bb underlying94 ?_)
      |(go_at_call 200;refine im.o.mono ?_;clear k8 k9;rintro e w6 ⟨b',rfl,bE,bG,a8,hb⟩;have el:Hd (b'.Lies (UL U w0 2 (.slice none 0 0)) w6):=bE.mono (fun g _ h=>UL.nil HJ.o.fr.size g h);have iR:=AF bG;have cG:=AF a8;have jD:=AF (HJ.o.fr.step hb);have ah:=AF ((hb.block _ (Ab ah.o)).trans ah.o);clear bE bG a8 hb)
      |(refine K7 ah.o ?_))
     refine Ag (BZ rfl _ _ _ _ _ rfl (Ae _ _ _ _ _ _ _ (AL _ _ _ _ _ _ ah.o) underlying94 rfl (by kernel_rfl))) rfl ?_;obtain⟨r1,r2⟩:=IQ jD.o el.o (AU _ _ _);exact⟨b',by rw [HQ.o];rfl,r1,by rw [HQ.o];exact iR.o,cG.o,r2⟩
   ·have b9:(cY.c.kind==0)=false:=by rw [AW];exact ky
    have HQ:Hd (En (n+1) b.er x y=(⟨EZ b.er.cs X Y,b.er.vars⟩,true)):=by show _=_;rw [co.o];unfold Lw;rw [AC jQ.o];rw [AC (fun h=>ky h.2),AJ kx]
    clear kx ky;have im:=AF (Gv (j:=Y) dt.o i6.o hn);obtain⟨x2,y2,bL⟩:=HJ.o.fr.br;have ah:=AF bL;clear bL
    go_wp2_with (first
     |(refine lw HJ.o.fr.bb underlying94 ?_)
     |(go_at_call 200;refine im.o.mono ?_;clear k8 k9;rintro e w6 ⟨b',rfl,bE,bG,a8,hb⟩;have el:Hd (b'.Lies (UL U w0 2 (.slice none 0 0)) w6):=bE.mono (fun g _ h=>UL.nil HJ.o.fr.size g h);have iR:=AF bG;have cG:=AF a8;have jD:=AF (HJ.o.fr.step hb);have ah:=AF ((hb.block _ (Ab ah.o)).trans ah.o);clear bE bG a8 hb)
     |(refine K7 ah.o ?_))
    refine Ag (BZ rfl _ _ _ _ _ rfl (Ae _ _ _ _ _ _ _ (AL _ _ _ _ _ _ ah.o) underlying94 rfl (by kernel_rfl))) rfl ?_;obtain⟨r1,r2⟩:=IQ jD.o el.o (AU _ _ _);exact⟨b',by rw [HQ.o];rfl,r1,by rw [HQ.o];exact iR.o,cG.o,r2⟩
  have b8:(cX.c.kind==0)=false:=by rw [AW];exact kx
  by_cases ky:cY.c.kind=0
  ·have b9:(cY.c.kind==0)=true:=by rw [A3];exact ky
   have HQ:Hd (En (n+1) b.er x y=(⟨EZ b.er.cs Y X,b.er.vars⟩,true)):=by show _=_;rw [co.o];unfold Lw;rw [AC jQ.o];rw [AC (fun h=>kx h.1),AC kx,AJ ky]
   clear kx ky;have im:=AF (Gv (j:=X) dt.o qB.o hn);obtain⟨x2,y2,bL⟩:=HJ.o.fr.br;have ah:=AF bL;clear bL
   go_wp2_with (first
    |(refine lw HJ.o.fr.bb underlying94 ?_)
    |(go_at_call 200;refine im.o.mono ?_;clear k8 k9;rintro e w6 ⟨b',rfl,bE,bG,a8,hb⟩;have el:Hd (b'.Lies (UL U w0 2 (.slice none 0 0)) w6):=bE.mono (fun g _ h=>UL.nil HJ.o.fr.size g h);have iR:=AF bG;have cG:=AF a8;have jD:=AF (HJ.o.fr.step hb);have ah:=AF ((hb.block _ (Ab ah.o)).trans ah.o);clear bE bG a8 hb)
    |(refine K7 ah.o ?_))
   refine Ag (BZ rfl _ _ _ _ _ rfl (Ae _ _ _ _ _ _ _ (AL _ _ _ _ _ _ ah.o) underlying94 rfl (by kernel_rfl))) rfl ?_;obtain⟨r1,r2⟩:=IQ jD.o el.o (AU _ _ _);exact⟨b',by rw [HQ.o];rfl,r1,by rw [HQ.o];exact iR.o,cG.o,r2⟩
  have b9:(cY.c.kind==0)=false:=by rw [AW];exact ky
  by_cases kk:cX.c.kind=cY.c.kind
  ·have bk:(cX.c.kind != cY.c.kind)=false:=by rw [DC];exact kk
   have gH:=bP.o.cell X (by rw [EJ.ln_eq dt.o];exact rx1);have kY:=bP.o.cell Y (by rw [EJ.ln_eq dt.o];exact ry1);rw [kB.o] at gH;rw [qq.o] at kY;have mC:Hd (cX.c.kids.length=cY.c.kids.length):=by show _=_;rw [gH.2.1,kY.2.1,kk]
   have kG:Hd (∀p∈cX.c.kids,p<b.ln):=by show ∀p,_;intro p hp;have h:=gH.1 p hp;rwa [EJ.ln_eq dt.o] at h
   have nG:Hd (∀p∈cY.c.kids,p<b.ln):=by show ∀p,_;intro p hp;have h:=kY.1 p hp;rwa [EJ.ln_eq dt.o] at h
   have HQ:Hd (En (n+1) b.er x y=GE (En n) ⟨EZ b.er.cs X Y,b.er.vars⟩ cX.c.kids cY.c.kids):=by show _=_;rw [co.o];unfold Lw;rw [AC jQ.o];rw [AC (fun h=>kx h.1),AC kx,AC ky,AC (fun h=>h kk)]
   have mB:Hd (Py b.er ⟨EZ b.er.cs X Y,b.er.vars⟩/\Il (EZ b.er.cs X Y)=Il b.er.cs+1):=⟨Py.lead bP.o (by rw [EJ.ln_eq dt.o];exact rx1) (by rw [EJ.ln_eq dt.o];exact ry1) jQ.o aQ.o oT.o,(bP.o.lead (by rw [EJ.ln_eq dt.o];exact rx1) (by rw [EJ.ln_eq dt.o];exact ry1) jQ.o aQ.o oT.o).2⟩;have jE:=AF (dt.o.each cX (AE i6.o));have l0:=AF (dt.o.each cY (AE qB.o));have fL:=jE.o.is.max;clear kx ky kk gH kY;have im:=AF (Gv (j:=Y) dt.o i6.o hn)
   go_upto_region 17 with(first
    |(refine lw HJ.o.fr.bb underlying94 ?_)
    |(go_at_call 200;refine im.o.mono ?_;clear k8 k9;rintro e w6 ⟨b',rfl,bE,bG,a8,hb⟩;have el:Hd (b'.Lies (UL U w0 2 (.slice none 0 0)) w6):=bE.mono (fun g _ h=>UL.nil HJ.o.fr.size g h);have iR:=AF bG;have cG:=AF a8;have jD:=AF (HJ.o.step hb);have qG:Hd (BD (UL U w0 2 (.slice none 0 0)) wc w6):=BD.of hb;clear bE bG a8 hb)
    |(refine K7 jD.o.fr.bb ?_))
   have eQ:Hd (JnI U w0 n b ⟨EZ b.er.cs X Y,b.er.vars⟩ cX cY g8 g9 0 b' wc (w6.setRow w0.heap.size (cBa b'))):=⟨jD.o.book b',el.o.keep (BD.grown (AU _ _ _) (fun g e=>by injection e with e;subst e;exact UL.notBox (AB _) (by omega))),qG.o.trans (BD.grown (AU _ _ _) (fun g e=>by injection e with e;subst e;exact UL.notBox (AB _) (by omega))),by rw [iR.o];exact Py.refl mB.o.1.ok,by rw [CK,CK,GE,iR.o],cG.o⟩;generalize w6.setRow w0.heap.size (cBa b')=W6 at *
   clear HJ el jD qG im;have s8:W6.cell? ⟨g8,2,none⟩=some (.slice cX.kp cX.kn cX.kc):=by rw [AD eQ.o.fr.h8];rfl
   go_upto_region 18 with fail;clear s8;go_loopw [81] (fun i wr=>∃(k:Nat) (bk:EJ),k<=cX.kn/\i=.int .i64 k/\JnI U w0 n b ⟨EZ b.er.cs X Y,b.er.vars⟩ cX cY g8 g9 k bk wc wr) (fun i _=>cX.kn-(intOf i).toNat)
   case atStart=>exact⟨0,b',BM _,rfl,eQ.o⟩
   case round=>
    obtain⟨k,bk,hk,rfl,hi⟩:=hrel;have HI:=AF hi;clear hi;by_cases aG:k<cX.kn
    ·have sX:k<cY.kn:=by have h1:=jE.o.is.len;have h2:=l0.o.is.len;have h3:=mC.o;omega
     obtain⟨p,hp⟩:=jE.o.at aG;obtain⟨q,hq⟩:=l0.o.at sX;obtain⟨gx,ox,eK,iL,jx⟩:=MC (jE.o.keep HI.o.keep) hp;obtain⟨gy,oy,vC,uc,uN⟩:=MC (l0.o.keep HI.o.keep) hq;have gV:=AF eK;have wG:=AF vC;have HP:=AF hp;have qJ:=AF hq;have i7:Hd (∀V,Below wr.heap.size wr V->V.cell? ⟨gx,ox+k,none⟩=some (.int .i64 (p:Int))):=fun V hb=>by rw [hb.cell (show gx<wr.heap.size from iL)];exact jx
     have qs:Hd (∀V,Below wr.heap.size wr V->V.cell? ⟨gy,oy+k,none⟩=some (.int .i64 (q:Int))):=fun V hb=>by rw [hb.cell (show gy<wr.heap.size from uc)];exact uN
     have jv:Hd (∀V,Below wr.heap.size wr V->V.cell? ⟨g8,2,none⟩=some (.slice (some ⟨gx,ox,none⟩) cX.kn cX.kc)):=fun V hb=>by rw [AD (HI.o.fr.step hb).h8,<-gV.o];rfl
     have wP:Hd (∀V,Below wr.heap.size wr V->V.cell? ⟨g9,2,none⟩=some (.slice (some ⟨gy,oy,none⟩) cY.kn cY.kc)):=fun V hb=>by rw [AD (HI.o.fr.step hb).h9,<-wG.o];rfl
     have ff:=AF (Wo mC.o HI.o.is hp hq);obtain⟨r,hr⟩:∃r:Bool,(En n bk.er p q).2=r:=⟨_,rfl⟩;have cm:=AF hr;clear hp hq eK vC iL uc jx uN hr;go_upto_region 20 with fail;refine rg (fun W'=>Below wr.heap.size wr W') (At wr) fun aA=>?_;refine LV 0 85 (fun W' aB=>BX (HI.o.fr.fr.step aB).bb) underlying94 ?_;refine tp 1 86 ?_;refine tp 2 87 ?_ (hy:=fun w aB=>by(try dsimp only at aB);have c1:=jv.o w aB;go_simp;try with_reducible rfl);refine tp 3 88 ?_;refine tp 4 89 ?_;refine tp 5 90 ?_ (hy:=fun w aB=>by(try dsimp only at aB);have c1:=i7.o w aB;go_simp;try with_reducible rfl);refine tp 6 91 ?_;refine tp 7 92 ?_ (hy:=fun w aB=>by(try dsimp only at aB);have c1:=wP.o w aB;go_simp;try with_reducible rfl);refine tp 8 93 ?_;refine tp 9 94 ?_;refine tp 10 95 ?_ (hy:=fun w aB=>by(try dsimp only at aB);have c1:=qs.o w aB;go_simp;try with_reducible rfl);refine A2 (rs:=[11,15]) (by kernel_rfl) (by simp) ?_;refine AY (o:=⟨some 96,_,_,_,_,none⟩) rfl (fun K hK=>?_) (AY (o:=⟨some 11,_,_,_,_,none⟩) rfl (fun K hK=>?_) Az)
     ·skip;go_simp;go_at_call 148;refine(dr.o (fun g=>UL U w0 2 (.slice none 0 0) g/\g≠wr.heap.size) _ bk p q ((HI.o.lies.mono (fun g hg h=>⟨h,by omega⟩)).keep (BD.of aA)) HI.o.led.ok (by rw [HI.o.ln];exact kG.o p (AE HP.o)) (by rw [HI.o.ln];exact nG.o q (AE qJ.o)) (by rw [HI.o.ln];exact hn) (by rw [HI.o.ln];have h1:=HF.o;have h2:=HI.o.led.led;have h3:=mB.o.2;have h4:Il (EZ b.er.cs X Y)<=Il bk.er.cs:=h2;omega)).mono ?_;rintro e w7 ⟨b7,cN,bE,bG,a8,hb⟩;rw [cm.o] at cN;subst cN;have eo:=AF bE;have de:=AF bG;have bo:=AF a8;have az:=AF (An aA hb);clear bE bG a8;try go_wp2_with fail
      refine tn hK (An aA hb) ?_;clear aA hK K;intro aA;refine tp 12 84 ?_;refine tp 13 97 ?_;refine tp 14 98 ?_;refine tr 15 11 fun K hK=>?_;go_simp;have dQ:=AF (AG w7 (.cells #[.slice none 0 0,.slice none 0 0] 94));refine tn hK (Ay aA _) ?_;clear aA hK K;intro aA;refine Fo 16 fun K hK=>?_;have iK:Below w7.heap.size w7 ((w7.alloc (.cells #[.slice none 0 0,.slice none 0 0] 94)).setRow w7.heap.size (cBa b7)):=bA.grown (AU _ _ _) (by simp) (fun g e=>by injection e with e;omega);have bS:=AF (ZAS HI.o (At wr).size aA az.o.size dQ.o (eo.o.keep (BD.of iK)));clear iK;refine Iv dQ.o ?_;refine tn hK (aA.grown (AU _ _ _) aA.size (fun g e=>by injection e with e;subst e;exact az.o.size)) ?_;clear aA hK K;intro aA;refine tp 17 12 ?_;refine dn ?_;clear aA;generalize fT:w7.heap.size=G8 at *
      generalize (w7.alloc (.cells #[.slice none 0 0,.slice none 0 0] 94)).setRow G8 (cBa b7)=W8 at *
      clear fT dQ eo az;have dY:=AF bS.o.book;go_upto_region 22 with(first|(refine lw bS.o.box underlying94 ?_)|(refine K7 bS.o.fr.fr.bb ?_))
      generalize W8.setRow w0.heap.size (cBa b7)=W9 at *
      cases r
      ·have dC:Hd (En (n+1) b.er x y=((En n bk.er p q).1,false)):=by show _=_;rw [HQ.o];exact ff.o.2 cm.o
       obtain⟨x2,y2,bL⟩:=dY.o.1.fr.br;have ah:=AF bL;clear bL;go_wp2_with (first|(refine lw dY.o.1.fr.bb underlying94 ?_)|(refine K7 ah.o ?_));refine Ag (BZ rfl _ _ _ _ _ rfl (Ae _ _ _ _ _ _ _ (AL _ _ _ _ _ _ ah.o) underlying94 rfl (by kernel_rfl))) rfl ?_;obtain⟨r1,r2⟩:=IQ dY.o.1.fr dY.o.2.1 (AU _ _ _);exact⟨b7,by rw [dC.o];rfl,r1,by rw [dC.o];exact de.o,bo.o.trans HI.o.ln,r2⟩
      ·go_wp2_with fail;go_roundw
       case rel=>exact⟨k+1,b7,by omega,by go_num,dY.o.1,dY.o.2.1,dY.o.2.2,by rw [de.o];exact HI.o.led.trans (I5 n bk.er p q HI.o.led.ok (by rw [EJ.ln_eq HI.o.lies,HI.o.ln];exact kG.o p (AE HP.o)) (by rw [EJ.ln_eq HI.o.lies,HI.o.ln];exact nG.o q (AE qJ.o))),by rw [de.o];exact ff.o.1 cm.o,bo.o.trans HI.o.ln⟩
       case measure=>simp [intOf];omega
     ·skip;go_simp;have dQ:Hd ((wr.drew.alloc (.cells #[.slice none 0 0,.slice none 0 0] 94)).heap[wr.heap.size]?=some (.cells #[.slice none 0 0,.slice none 0 0] 94)):=AG wr.drew (.cells #[.slice none 0 0,.slice none 0 0] 94);refine tn hK (Ay aA _) ?_;clear aA hK K;intro aA;refine tr 11 96 fun K hK=>?_;go_simp;go_at_call 148;refine(dr.o (fun g=>UL U w0 2 (.slice none 0 0) g/\g≠wr.heap.size) _ bk p q ((HI.o.lies.mono (fun g hg h=>⟨h,by omega⟩)).keep (BD.of aA)) HI.o.led.ok (by rw [HI.o.ln];exact kG.o p (AE HP.o)) (by rw [HI.o.ln];exact nG.o q (AE qJ.o)) (by rw [HI.o.ln];exact hn) (by rw [HI.o.ln];have h1:=HF.o;have h2:=HI.o.led.led;have h3:=mB.o.2;have h4:Il (EZ b.er.cs X Y)<=Il bk.er.cs:=h2;omega)).mono ?_;rintro e w7 ⟨b7,cN,bE,bG,a8,hb⟩;rw [cm.o] at cN;subst cN;have eo:=AF bE;have de:=AF bG;have bo:=AF a8;have bq:=AF ((hb.block _ (Ab dQ.o)).trans dQ.o);have az:=AF (An aA hb);clear bE bG a8;try go_wp2_with fail
      refine tn hK (An aA hb) ?_;clear aA hK K;intro aA;refine tp 12 84 ?_;refine tp 13 97 ?_;refine tp 14 98 ?_;refine Fo 16 fun K hK=>?_;have bS:=AF (ZAS HI.o (by simp) az.o (AB _) bq.o (eo.o.keep (BD.grown (AU _ _ _) (fun g e h=>by injection e with e;subst e;exact(h (by simp)).2 rfl))));refine Iv bq.o ?_;refine tn hK (aA.grown (AU _ _ _) aA.size (fun g e=>by injection e with e;subst e;exact AB _)) ?_;clear aA hK K;intro aA;refine tp 17 12 ?_;refine dn ?_;clear aA;generalize fT:wr.heap.size=G8 at *
      generalize w7.setRow G8 (cBa b7)=W8 at *
      clear fT dQ eo az bq;have dY:=AF bS.o.book;go_upto_region 22 with(first|(refine lw bS.o.box underlying94 ?_)|(refine K7 bS.o.fr.fr.bb ?_))
      generalize W8.setRow w0.heap.size (cBa b7)=W9 at *
      cases r
      ·have dC:Hd (En (n+1) b.er x y=((En n bk.er p q).1,false)):=by show _=_;rw [HQ.o];exact ff.o.2 cm.o
       obtain⟨x2,y2,bL⟩:=dY.o.1.fr.br;have ah:=AF bL;clear bL;go_wp2_with (first|(refine lw dY.o.1.fr.bb underlying94 ?_)|(refine K7 ah.o ?_));refine Ag (BZ rfl _ _ _ _ _ rfl (Ae _ _ _ _ _ _ _ (AL _ _ _ _ _ _ ah.o) underlying94 rfl (by kernel_rfl))) rfl ?_;obtain⟨r1,r2⟩:=IQ dY.o.1.fr dY.o.2.1 (AU _ _ _);exact⟨b7,by rw [dC.o];rfl,r1,by rw [dC.o];exact de.o,bo.o.trans HI.o.ln,r2⟩
      ·go_wp2_with fail;go_roundw
       case rel=>exact⟨k+1,b7,by omega,by go_num,dY.o.1,dY.o.2.1,dY.o.2.2,by rw [de.o];exact HI.o.led.trans (I5 n bk.er p q HI.o.led.ok (by rw [EJ.ln_eq HI.o.lies,HI.o.ln];exact kG.o p (AE HP.o)) (by rw [EJ.ln_eq HI.o.lies,HI.o.ln];exact nG.o q (AE qJ.o))),by rw [de.o];exact ff.o.1 cm.o,bo.o.trans HI.o.ln⟩
       case measure=>simp [intOf];omega
    ·have ai:k=cX.kn:=by omega
     have dJ:=AF ai;clear ai;have dC:Hd (En (n+1) b.er x y=(bk.er,true)):=by show _=_;have h1:=jE.o.is.len;have h2:=mC.o;have h3:=dJ.o;have h4:=HI.o.is;rw [Bb (by omega),Bb (by omega)] at h4;rw [HQ.o,h4]
     obtain⟨x2,y2,bL⟩:=HI.o.fr.fr.br;have ah:=AF bL;clear bL;go_wp2_with (first|(refine lw HI.o.fr.fr.bb underlying94 ?_)|(refine K7 ah.o ?_));refine Ag (BZ rfl _ _ _ _ _ rfl (Ae _ _ _ _ _ _ _ (AL _ _ _ _ _ _ ah.o) underlying94 rfl (by kernel_rfl))) rfl ?_;obtain⟨r1,r2⟩:=IQ HI.o.fr.fr HI.o.lies (AU _ _ _);exact⟨bk,by rw [dC.o];rfl,r1,by rw [dC.o],HI.o.ln,r2⟩
  ·have bk:(cX.c.kind != cY.c.kind)=true:=by rw [DD];exact kk
   have HQ:Hd (En (n+1) b.er x y=(b.er,false)):=by show _=_;rw [co.o];unfold Lw;rw [AC jQ.o];rw [AC (fun h=>kx h.1),AC kx,AC ky,AJ kk]
   clear kx ky kk;obtain⟨x2,y2,bL⟩:=HJ.o.fr.br;have ah:=AF bL;clear bL;go_wp2_with (first|(refine lw HJ.o.fr.bb underlying94 ?_)|(refine K7 ah.o ?_));refine Ag (BZ rfl _ _ _ _ _ rfl (Ae _ _ _ _ _ _ _ (AL _ _ _ _ _ _ ah.o) underlying94 rfl (by kernel_rfl))) rfl ?_;obtain⟨r1,r2⟩:=IQ HJ.o.fr dt.o (AU _ _ _);exact⟨b,by rw [HQ.o];rfl,r1,by rw [HQ.o],rfl,r2⟩
theorem Jt:∀(n:Nat) (U:Nat->Prop) (w0:World) (b:EJ) (x y:Nat),b.Lies U w0->Dh b.er->x<b.ln->y<b.ln->b.ln<=1000000->b.ln<=n+Il b.er.cs->Calls prog 148 #[GA b,.int .i64 x,.int .i64 y] w0 (S3 U w0 b (En n b.er x y))
 |0,U,w0,b,x,y,hb,aW,hx,_,_,hf=>by have:=aW.open (i:=x) (by rw [EJ.ln_eq hb];exact hx);rw [EJ.ln_eq hb] at this;omega
 |n+1,U,w0,b,x,y,hb,aW,hx,hy,hn,hf=>Yn (Jt n) hb aW hx hy hn hf
def V9(g:Nat)(w:World)(st:List Int):Prop:=w.heap[g]?=some (.cells (st.map (Value.int .i64)).toArray 3 (0,0))
theorem V9.cell(h:V9 g w st)(hj:st[j]?=some s):w.cell? ⟨g,j,none⟩=some (.int .i64 s):=by rw [AD h,List.getElem?_toArray,A7,hj];rfl
theorem V9.frz(h:V9 g w st)(j:Nat):w.frozen? ⟨g,j,none⟩=false:=by have h':w.heap[g]?=_:=h;simp [World.frozen?,h']
theorem V9.set(h:V9 g w st)(j:Nat)(v:Int):V9 g (w.setCell ⟨g,j,none⟩ (.int .i64 v)) (st.set j v):=by have h1:=Aw (o:=j) (.int .i64 v) h;unfold V9;rw [h1,List.map_set,List.setIfInBounds_toArray]
theorem V9.keep(h:V9 g w st)(hb:Below w.heap.size w w'):V9 g w' st:=(hb.block _ (Ab h)).trans h
def Gy(st:List Int):Nat:=st.countP (fun s=>decide (s<=0))
theorem Sy(hv:0<v)(hj:j<st.length):Gy (st.set j v)+(if st.getD j 0<=0 then 1 else 0)=Gy st:=by
 unfold Gy;induction st generalizing j with
 |nil=>simp at hj
 |cons s st ih=>
  cases j with
  |zero=>
   have h1:¬v<=0:=by omega
   by_cases h2:s<=0
   ·simp [h1,h2]
   ·simp [h1,h2]
  |succ j=>
   have h:=ih (j:=j) (by simpa using hj);simp only [List.set_cons_succ,List.countP_cons,List.getD_cons_succ];omega
theorem Vs(hv:0<v):Gy (st.set j v)<=Gy st:=by
 by_cases hj:j<st.length
 ·have:=Sy hv hj;omega
 ·rw [List.set_eq_of_length_le (by omega)];exact AB _
theorem Sg(hR:∀st k,(R st k).1.length=st.length/\Gy (R st k).1<=Gy st):∀(l:List Nat) (st:List Int),(Dn R st l).1.length=st.length/\Gy (Dn R st l).1<=Gy st
 |[],st=>⟨rfl,AB _⟩
 |k::l,st=>by
  obtain⟨h1,h2⟩:=hR st k;rw [Dn];split
  ·exact⟨h1,h2⟩
  ·obtain⟨h3,h4⟩:=Sg hR l (R st k).1;exact⟨h3.trans h1,AM h4 h2⟩
theorem MU(cs:List Cl):∀(n:Nat) (st:List Int) (i:Nat),(EI n cs st i).1.length=st.length/\Gy (EI n cs st i).1<=Gy st
 |0,st,i=>⟨rfl,AB _⟩
 |n+1,st,i=>by
  have h:=Sg (R:=EI n cs) (fun st k=>MU cs n st k) (EW cs (Dk cs i)).kids (st.set (Dk cs i) 1);have h1:=Vs (st:=st) (j:=Dk cs i) (v:=1) (by decide);rw [CQ] at h;rw [EI];split
  ·exact⟨rfl,AB _⟩
  ·split
   ·exact⟨h.1,AM h.2 h1⟩
   ·refine⟨by show (List.set _ _ _).length=_;rw [CQ];exact h.1,?_⟩;exact AM (Vs (by decide)) (AM h.2 h1)
theorem NG:∀(l m:List Nat) (st:List Int),Dn R st (l++m)=if(Dn R st l).2 then(Dn R st l) else Dn R (Dn R st l).1 m
 |[],m,st=>by rw [Dn];rfl
 |k::l,m,st=>by
  rw [BK,Dn,Dn];by_cases h:(R st k).2=true
  ·rw [AJ h,AJ h];rfl
  ·rw [AC h,AC h];exact NG l m _
theorem O5(h:Dn R st (l.take k)=(st1,false))(hp:l[k]?=some p):((R st1 p).2=true->Dn R st l=((R st1 p).1,true))/\((R st1 p).2=false->Dn R st (l.take (k+1))=((R st1 p).1,false)):=by
 refine⟨fun hr=>?_,fun hr=>?_⟩
 ·have e1:l=l.take k++p::l.drop (k+1):=by have:=A9 (DI hp);rw [AI (DI hp)] at hp;rw [<-A8 hp,<-this,BY]
  have h3:=NG (R:=R) (l.take k) (p::l.drop (k+1)) st;rw [<-e1] at h3;rw [h3,h,AC Co,Dn,AJ hr]
 ·rw [BG hp,NG,h,AC Co,Dn,AC (by rw [hr];decide),Dn]
def Zj(g len:Nat)(w:World)(r:List Int×Bool)(e:Ending)(w':World):Prop:=e=.returned (.tuple #[.slice (some ⟨g,0,none⟩) len len,.bool r.2])/\V9 g w' r.1/\w.grownBy w' (some g)
def TA(n:Nat):Prop:=∀(U:Nat->Prop) (w:World) (b:EJ) (i g:Nat) (st:List Int),b.Lies U w->¬U g->Dh b.er->i<b.ln->b.ln<=1000000->st.length=b.ln->V9 g w st->Gy st<n ->
 Calls prog 201 #[GA b,.int .i64 i,.slice (some ⟨g,0,none⟩) b.ln b.ln] w (Zj g b.ln w (EI n b.er.cs st i))
structure RnI(U:Nat->Prop)(w:World)(n:Nat)(b:EJ)(g:Nat)(st1:List Int)(kids:List Nat)(k:Nat)(st:List Int)(W:World):Prop where
 box:W.heap[w.heap.size]?=some (.cells (cBa b) 94 (0,0))
 str:V9 g W st
 grown:w.grownBy W (some g)
 is:Dn (EI n b.er.cs) st1 (kids.take k)=(st,false)
 len:st.length=b.ln
 zeros:Gy st<=Gy st1
theorem F7{w w' w'':World}{r:Option Nat}(h:w.grownBy w' r)(h':w'.grownBy w'' r):w.grownBy w'' r:=⟨h'.os.trans h.os,h'.tape.trans h.tape,h'.output.trans h.output,AM h.size h'.size,fun k hk aM=>(h'.block k (Ak hk h.size) aM).trans (h.block k hk aM)⟩
theorem GC(r:Option Nat)(h:Below w.heap.size w w'):w.grownBy w' r:=⟨h.os,h.tape,h.output,h.size,fun k hk _=>h.block k hk⟩
theorem XE(ih:TA n):TA (n+1):=by
 intro U w0 b i g st hb uB aW hi hn dN hS hz;have ap:Below w0.heap.size w0 (w0.alloc (.cells (cBa b) 94)):=bA;have HL:=AF (hb.keep (BD.of ap));have dB:=AF hb;have kv:=AF (hS.keep ap);have aK:=AF (C6 w0 (cBa b) 94 _ rfl);have df:=AF (GC (some g) ap);have bN:=Ab hS;have lL:b.cs.length=b.ln:=hb.cs.is.len;obtain⟨rx1,rx2⟩:=aW.root (i:=i) (by rw [EJ.ln_eq hb];exact hi);rw [EJ.ln_eq hb] at rx1;have ik:Hd (∀V,b.Lies U V->Calls prog 152 #[GA b,.int .i64 i] V fun e w'=>e=.returned (.int .i64 (Dk b.er.cs i:Nat))/\Below V.heap.size V w'):=fun V hV=>IU hV aW (by omega);have dr:=AF ih;have bP:=AF aW;have oQ:=AF uB;have cx:=AF dN;have HZ:=AF hz;obtain⟨s,hs⟩:=Bh (l:=st) (j:=Dk b.er.cs i) (by omega);have vH:st.getD (Dk b.er.cs i) 0=s:=by rw [AX,hs];rfl
 have HR:Hd (EI (n+1) b.er.cs st i=if 0<s then(st,decide (s=1)) else if(Dn (EI n b.er.cs) (st.set (Dk b.er.cs i) 1) (EW b.er.cs (Dk b.er.cs i)).kids).2 then((Dn (EI n b.er.cs) (st.set (Dk b.er.cs i) 1) (EW b.er.cs (Dk b.er.cs i)).kids).1,true)
  else((Dn (EI n b.er.cs) (st.set (Dk b.er.cs i) 1) (EW b.er.cs (Dk b.er.cs i)).kids).1.set (Dk b.er.cs i) 2,false)):=by show _=_;rw [EI,vH]
 generalize Dk b.er.cs i=X at *
 obtain⟨cX,jV⟩:=hb.cs.at (j:=X) rx1;have i6:=AF jV;have kB:=AF (MK jV);have cJ:=AF hs;clear hb aW ih uB dN hS hz jV rx2 ap hi hs vH;show Calls _ _ #[.agg (cBa b),.int .i64 i,.slice (some ⟨g,0,none⟩) b.ln b.ln] w0 _;go_enter func201,ntmps201;go_upto_region 1 with fail;generalize w0.alloc (.cells (cBa b) 94)=W at *
 go_upto_region 2 with(first
  |(refine lw aK.o underlying94 ?_)
  |(go_at_call 152;refine(ik.o _ HL.o).mono ?_;rintro e w1 ⟨rfl,hb⟩;have js:=AF (HL.o.keep (BD.of hb));have bc:=AF (kv.o.keep hb);have li:=AF ((hb.block _ (Ab aK.o)).trans aK.o);have lr:=AF (F7 df.o (GC (some g) hb));clear hb))
 clear HL kv aK df ik;have c1:=bc.o.cell cJ.o;by_cases nb:0<s
 ·have d1:decide (0<s)=true:=by simpa using nb
  have HQ:Hd (EI (n+1) b.er.cs st i=(st,decide (s=1))):=by show _=_;rw [HR.o,AJ nb]
  clear nb;go_upto_region 3 with fail;have wM:Hd (∀V,Below w1.heap.size w1 V->V.cell? ⟨g,X,none⟩=some (.int .i64 s)):=fun V hb=>(bc.o.keep hb).cell cJ.o;clear c1;refine rg (fun W'=>Below w1.heap.size w1 W') (At w1) fun aA=>?_;refine tp 0 20 ?_;refine tp 1 21 ?_;refine tp 2 22 ?_;refine tp 3 23 ?_;refine tp 4 24 ?_ (hy:=fun w aB=>by(try dsimp only at aB);have c1:=wM.o w aB;go_simp;try with_reducible rfl);refine tp 5 25 ?_;refine tp 6 6 ?_;refine tp 7 7 ?_;refine dn ?_;clear aA;go_wp2_with fail;refine Ag (results_tmp2 rfl _ _ _) rfl ?_;refine⟨?_,by rw [HQ.o];exact bc.o.keep (At w1),F7 lr.o (GC _ (At w1))⟩;rw [HQ.o];by_cases h1:s=1
  ·simp [h1]
  ·simp [h1]
 ·have d1:decide (0<s)=false:=by simpa using nb
  have nC:Gy (st.set X 1)<n:=by have h1:=Sy (st:=st) (j:=X) (v:=1) (by decide) (by rw [cx.o];exact rx1);rw [AJ (by rw [AX,cJ.o];show s<=0;omega)] at h1;have:=HZ.o;omega
  have oU:=AF nC;have HQ:Hd (EI (n+1) b.er.cs st i=if(Dn (EI n b.er.cs) (st.set X 1) cX.c.kids).2 then((Dn (EI n b.er.cs) (st.set X 1) cX.c.kids).1,true) else((Dn (EI n b.er.cs) (st.set X 1) cX.c.kids).1.set X 2,false)):=by show _=_;rw [HR.o,AC nb,kB.o]
  have HK:Hd (∀p∈cX.c.kids,p<b.ln):=by show ∀p,_;intro p hp;have h:=(bP.o.cell X (by rw [EJ.ln_eq dB.o];exact rx1)).1 p (by rw [kB.o];exact hp);rwa [EJ.ln_eq dB.o] at h
  clear nb nC;have dP:=bc.o.frz X;go_upto_region 5 with fail;have ag:w1.grownBy (w1.setCell ⟨g,X,none⟩ (.int .i64 1)) (some g):=Ar _ _ _ _;have eQ:Hd (RnI U w0 n b g (st.set X 1) cX.c.kids 0 (st.set X 1) (w1.setCell ⟨g,X,none⟩ (.int .i64 1))):=⟨(ag.block _ (Ab li.o) (fun e=>by injection e with e;omega)).trans li.o,bc.o.set X 1,F7 lr.o ag,by rw [CK,Dn],by rw [CQ];exact cx.o,AB _⟩;have gi:=AF (js.o.keep (BD.grown ag (fun k e=>by cases e;exact oQ.o)));clear ag dP c1 d1 bc li lr js;generalize w1.setCell ⟨g,X,none⟩ (.int .i64 1)=W2 at *
  obtain⟨gc,oc,u7,_,d0,d1,d2,d3⟩:=QG gi.o.cs i6.o;have c0:W2.cell? ⟨w0.heap.size,0,none⟩=some (.slice (some ⟨gc,oc,none⟩) b.ln b.lc):=by rw [AD eQ.o.box,<-u7];rfl
  clear u7 d0 d1 d3;go_upto_region 6 with fail;clear c0 d2;have gT:=AF (dB.o.each cX (AE i6.o));have fL:=gT.o.is.max;go_upto_region 7 with fail;go_loopw [2,37] (fun v j wr=>∃(k:Nat) (stk:List Int),k<=cX.kn/\j=.int .i64 k/\v=.slice (some ⟨g,0,none⟩) b.ln b.ln/\RnI U w0 n b g (st.set X 1) cX.c.kids k stk wr) (fun _ j _=>cX.kn-(intOf j).toNat)
  case atStart=>exact⟨0,st.set X 1,BM _,rfl,rfl,eQ.o⟩
  case round=>
   obtain⟨k,stk,hk,rfl,rfl,hi⟩:=hrel;have HI:=AF hi;have mE:=AF (dB.o.keep (BD.grown hi.grown (fun k e=>by cases e;exact oQ.o)));clear hi;by_cases aG:k<cX.kn
   ·obtain⟨p,hp⟩:=gT.o.at aG;obtain⟨gx,ox,eK,iL,jx⟩:=MC (gT.o.keep (BD.grown HI.o.grown (fun k e=>by cases e;exact oQ.o))) hp
    have aM:gx≠g:=fun e=>oQ.o (by
     have h1:cX.c.kids≠[]:=fun e2=>by rw [e2] at hp;simp at hp
     have h2:=gT.o.u h1 _ eK;rw [<-e];exact h2)
    have gV:=AF eK;have HP:=AF hp;have i7:Hd (∀V,wr.grownBy V (some g)->V.cell? ⟨gx,ox+k,none⟩=some (.int .i64 (p:Int))):=fun V hb=>by rw [Eh (a:=⟨gx,ox+k,none⟩) (hb.block _ iL (fun e=>by injection e with e;exact aM e))];exact jx
    have ff:=AF (O5 HI.o.is hp);obtain⟨r,hr⟩:∃r:Bool,(EI n b.er.cs stk p).2=r:=⟨_,rfl⟩;have cm:=AF hr;have tP:=AF eK;rw [eK];clear hp iL jx hr aM eK;go_upto_region 9 with fail;refine rg (fun W'=>wr.grownBy W' (some g)) (GC _ (At wr)) fun aA=>?_;refine LV 0 41 (fun W' aB=>BX ((aB.block _ (Ab HI.o.box) (fun e=>by injection e with e;omega)).trans HI.o.box)) underlying94 ?_;refine tp 1 42 ?_;refine tp 2 43 ?_;refine tp 3 44 ?_;refine tp 4 45 ?_ (hy:=fun w aB=>by(try dsimp only at aB);have c1:=i7.o w aB;go_simp;try with_reducible rfl);refine tp 5 46 ?_;refine tr 6 47 fun K hK=>?_;go_simp;go_at_call 201;refine(dr.o U _ b p g stk (mE.o.keep (BD.of (At wr))) oQ.o bP.o (HK.o p (AE HP.o)) hn HI.o.len (HI.o.str.keep (At wr)) (by have h1:=HI.o.zeros;have h2:=oU.o;omega)).mono ?_;rintro e w7 ⟨cN,ji,dR⟩;rw [cm.o] at cN;subst cN;have jL:=AF ji;have fd:=AF (F7 aA dR);clear ji;try go_wp2_with fail
    refine tn hK (F7 aA dR) ?_;clear aA hK K;intro aA;refine tp 7 40 ?_;refine tp 8 48 ?_;refine tp 9 49 ?_;refine tp 10 10 ?_;refine tp 11 11 ?_;refine dn ?_;clear aA;have jr:Hd (w0.grownBy w7 (some g)/\w7.heap[w0.heap.size]?=some (.cells (cBa b) 94 (0,0))):=⟨F7 HI.o.grown fd.o,(fd.o.block _ (Ab HI.o.box) (fun e=>by injection e with e;omega)).trans HI.o.box⟩;cases r
    ·go_wp2_with fail;go_roundw
     case rel=>exact⟨k+1,_,by omega,by go_num,rfl,jr.o.2,jL.o,jr.o.1,ff.o.2 cm.o,(MU _ n stk p).1.trans HI.o.len,AM (MU _ n stk p).2 HI.o.zeros⟩
     case measure=>simp [intOf];omega
    ·have dC:Hd (EI (n+1) b.er.cs st i=((EI n b.er.cs stk p).1,true)):=by show _=_;rw [HQ.o,ff.o.1 cm.o,AJ rfl]
     go_wp2_with fail;refine Ag (results_tmp2 rfl _ _ _) rfl ?_;exact⟨by rw [dC.o];rfl,by rw [dC.o];exact jL.o,jr.o.1⟩
   ·have ai:k=cX.kn:=by omega
    have kV:cX.c.kids.take k=cX.c.kids:=Bb (by rw [gT.o.is.len];omega);have nW:=HI.o.is;rw [kV] at nW;have dC:Hd (EI (n+1) b.er.cs st i=(stk.set X 2,false)):=by show _=_;rw [HQ.o,nW,AC Co]
    obtain⟨s2,cT⟩:=Bh (l:=stk) (j:=X) (by rw [HI.o.len];exact rx1);have c2:=HI.o.str.cell cT;have dP:=HI.o.str.frz X;have dJ:=AF ai;clear ai kV nW cT;go_wp2_with fail;refine Ag (results_tmp2 rfl _ _ _) rfl ?_;exact⟨by rw [dC.o];rfl,by rw [dC.o];exact HI.o.str.set X 2,F7 HI.o.grown (Ar _ _ _ _)⟩
theorem LN:∀n:Nat,TA n
 |0=>fun U w b i g st _ _ _ _ _ _ _ hz=>by omega
 |n+1=>XE (LN n)
theorem Ws(n:Nat):madeCells #[Value.int .i64 0] n=((List.replicate n (0:Int)).map (Value.int .i64)).toArray:=by
 apply Array.ext
 ·rw [size_madeCells];simp
 ·intro i h1 h2;simp [madeCells,Nat.mod_one]
structure FnI(w:World)(b:EJ)(g k:Nat)(st:List Int)(W:World):Prop where
 box:W.heap[w.heap.size]?=some (.cells (cBa b) 94 (0,0))
 str:V9 g W st
 below:Below w.heap.size w W
 is:Dn (EI (b.ln+1) b.er.cs) (List.replicate b.ln 0) ((List.range b.ln).take k)=(st,false)
 len:st.length=b.ln
theorem Od(hb:b.Lies U w0)(aW:Dh b.er)(hn:b.ln<=1000000):Calls prog 149 #[GA b] w0 (RB w0 (.bool (IM b.er.cs))):=by
 have lL:b.er.cs.length=b.ln:=EJ.ln_eq hb;have ap:Below w0.heap.size w0 (w0.alloc (.cells (cBa b) 94)):=bA;have aH:=AF ap;have js:=AF (hb.mono (U':=fun g=>g<w0.heap.size/\U g) (fun g h1 h2=>⟨h1,h2⟩));have aK:=AF (C6 w0 (cBa b) 94 _ rfl);have bP:=AF aW;have rK:=AF lL;have ux:=run_make_row' (P:=prog) 24 3 (.int .i64 0) 8 underlying24 Nk rfl .i64 .i64 b.ln (by omega) (by omega);clear hb aW ap lL;show Calls _ _ #[.agg (cBa b)] w0 _;go_enter func149,ntmps149;go_upto_region 1 with fail;have c0:(w0.alloc (.cells (cBa b) 94)).cell? ⟨w0.heap.size,0,none⟩=some (.slice b.lp b.ln b.lc):=by rw [AD aK.o];rfl
 have dy:(w0.alloc (.cells (cBa b) 94)).heap.size=w0.heap.size+1:=by simp
 have kv:=AF dy;clear dy;generalize w0.alloc (.cells (cBa b) 94)=W at *
 go_upto_region 2 with fail;clear ux c0;rw [Ws];have aU:Below W.heap.size W (W.alloc (.cells ((List.replicate b.ln (0:Int)).map (Value.int .i64)).toArray 3)):=bA;have eQ:Hd (FnI w0 b W.heap.size 0 (List.replicate b.ln 0) (W.alloc (.cells ((List.replicate b.ln (0:Int)).map (Value.int .i64)).toArray 3))):=⟨(aU.block _ (Ab aK.o)).trans aK.o,AG W _,aH.o.trans (aU.mono aH.o.size),by rw [CK,Dn],by rw [List.length_replicate]⟩;have hG:W.heap.size=w0.heap.size+1:=kv.o;have HG:=AF hG;obtain⟨G,tu⟩:∃G,W.heap.size=G:=⟨_,rfl⟩;rw [tu] at eQ HG ⊢;generalize W.alloc (.cells ((List.replicate b.ln (0:Int)).map (Value.int .i64)).toArray 3)=W1 at *
 clear aU hG tu;have c0:W1.cell? ⟨w0.heap.size,0,none⟩=some (.slice b.lp b.ln b.lc):=by rw [AD eQ.o.box];rfl
 go_upto_region 3 with fail;clear c0;go_loopw [3,14] (fun v j wr=>∃(k:Nat) (st:List Int),k<=b.ln/\j=.int .i64 k/\v=.slice (some ⟨G,0,none⟩) b.ln b.ln/\FnI w0 b G k st wr) (fun _ j _=>b.ln-(intOf j).toNat)
 case atStart=>exact⟨0,_,BM _,rfl,rfl,eQ.o⟩
 case round=>
  obtain⟨k,st,hk,rfl,rfl,hi⟩:=hrel;have HI:=AF hi;have mE:=AF (js.o.keep (BD.of hi.below));clear hi;by_cases aG:k<b.ln
  ·have eh:(List.range b.ln)[k]?=some k:=by rw [List.getElem?_range aG]
   have ff:=AF (O5 HI.o.is eh);obtain⟨r,hr⟩:∃r:Bool,(EI (b.ln+1) b.er.cs st k).2=r:=⟨_,rfl⟩;have cm:=AF hr;have wC:Hd (¬(fun g=>g<w0.heap.size/\U g) G):=by show ¬_;intro h;have:=HG.o;have:=h.1;omega
   have HZ:Hd (Gy st<b.ln+1):=by show _<_;have:Gy st<=st.length:=FO;rw [HI.o.len] at this;omega
   clear eh hr
   go_upto_region 6 with(first
    |(refine lw HI.o.box underlying94 ?_)
    |(go_at_call 201;refine(LN _ (fun g=>g<w0.heap.size/\U g) _ b k G st mE.o wC.o bP.o aG hn HI.o.len HI.o.str HZ.o).mono ?_;rintro e w7 ⟨cN,ji,dR⟩;rw [cm.o] at cN;subst cN;have jL:=AF ji;have fd:=AF dR;clear ji dR))
   have jr:Hd (Below w0.heap.size w0 w7/\w7.heap[w0.heap.size]?=some (.cells (cBa b) 94 (0,0))):=⟨HI.o.below.grown fd.o HI.o.below.size (fun g e=>by injection e with e;have:=HG.o;omega),(fd.o.block _ (Ab HI.o.box) (fun e=>by injection e with e;have:=HG.o;omega)).trans HI.o.box⟩;cases r
   ·go_wp2_with fail;go_roundw
    case rel=>exact⟨k+1,_,by omega,by go_num,rfl,jr.o.2,jL.o,jr.o.1,ff.o.2 cm.o,(MU _ _ st k).1.trans HI.o.len⟩
    case measure=>simp [intOf];omega
   ·have dC:Hd (IM b.er.cs=false):=by show _=_;unfold IM;rw [rK.o,ff.o.1 cm.o];rfl
    go_wp2_with fail;go_ret;exact⟨Af dC.o.symm,jr.o.1⟩
  ·have dC:Hd (IM b.er.cs=true):=by show _=_;have h:=HI.o.is;rw [Bb (by rw [List.length_range];omega)] at h;unfold IM;rw [rK.o,h];rfl
   have ai:k=b.ln:=by omega
   have dJ:=AF ai;clear ai;go_wp2_with fail;go_ret;exact⟨Af dC.o.symm,HI.o.below⟩
end Go.Proofs.YtkdjnegfnhldpaaGreatDoor
