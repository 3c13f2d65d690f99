/- Part 35. -/
import Derived.Test.YtkdjnegfnhldpaaGreatDoorK34
set_option linter.unusedVariables false
set_option maxRecDepth 100000
set_option linter.unusedSimpArgs false
set_option maxHeartbeats 40000000
namespace Go.Proofs.YtkdjnegfnhldpaaGreatDoor
open Go.Proofs.Tryz Go.RowKit
theorem PJ{w:World}{S:Nat→Prop}{a:AH}{p:Option Addr}{n c:Nat}{l:List RV}(h:Pt w S a p n c l)(hK:a.kind=1∨a.kind=9∨a.kind=12∨a.kind=15):Calls prog 117 #[Aj a,.slice p n c] w (GJ w S (AV a.plain (Ak l))):=by
 have HI:=AA h;have HX:=AA (Dr w a)
 have dN:Hd (S0 w a (.slice (some ⟨w.heap.size+2,0,none⟩) 0 0) [] (((w.alloc (AO a)).alloc (.cells #[.int .u8 0,.int .i64 0,.slice none 0 0,.slice none 0 0,.slice none 0 0,.int .i64 0,.int .i64 0] 69)).alloc (.cells #[] 59))):=by
  have h1:=AJ.lit AS ((w.alloc (AO a)).alloc (.cells #[.int .u8 0,.int .i64 0,.slice none 0 0,.slice none 0 0,.slice none 0 0,.int .i64 0,.int .i64 0] 69)) (w.heap.size+2) 59 3 (by simp);have h2:((w.alloc (AO a)).alloc (.cells #[.int .u8 0,.int .i64 0,.slice none 0 0,.slice none 0 0,.slice none 0 0,.int .i64 0,.int .i64 0] 69)).heap.size=w.heap.size+2:=by simp
  rw [h2] at h1;exact⟨HX.o.alloc _,h1⟩
 have aG:=h.res.row.len;have bu:=h.res.row.max;have bK:(CN l).length≤900000:=by rw [Gd h.res.each];exact h.sum
 have fO:=AA hK;clear h hK;go_enter func117,ntmps117;go_upto_region 2 with fail;clear HX;generalize (((w.alloc (AO a)).alloc (.cells #[.int .u8 0,.int .i64 0,.slice none 0 0,.slice none 0 0,.slice none 0 0,.int .i64 0,.int .i64 0] 69)).alloc (.cells #[] 59))=W1 at *
 go_wp2_with fail;go_loopw [5,6,13] (fun u _ i wr=>∃j:Nat,j≤n∧i=.int .i64 j∧S0 w a u (CN (l.take j)) wr) (fun _ _ i _=>n-(intOf i).toNat)
 case atStart=>exact⟨0,Nat.zero_le _,rfl,dN.o⟩
 case round=>
  obtain⟨j,hj,rfl,hg⟩:=hrel;have HG:=AA hg;clear hg dN;by_cases aF:j<n
  ·obtain⟨x,hx⟩:=AM (l:=l) (j:=j) (by omega);obtain⟨b,o,hp,aP,am⟩:=(HI.o.res.row.below HG.o.b.below).row.elem hx;subst hp;have d4:=am 4 _ rfl;have dl:=AA ((HI.o.res.each x (List.mem_of_getElem? hx)).below HG.o.b.below).eff;have gH:=AA (Cx hx);have gS:=Br l j;have cL:=Br l (j+1);rw [Cx hx,List.length_append] at cL;have gE:=dl.o.len;obtain⟨L,hL⟩:∃L,CN (l.take j)=L:=⟨_,rfl⟩;rw [hL] at HG gH gS cL;obtain⟨nl,dD⟩:∃nl,L.length=nl:=⟨_,rfl⟩;rw [dD] at gS cL;have aB:=HG.o.own;rw [dD] at aB;have cg:=AA aB;have iO:=AA dD;clear hx aP am hL dD aB;go_wp2_with (at_builtin;refine Am rfl _ _ 25 rfl (w.heap.size+2) 59 _ 3 32 underlying25 CQ rfl (by decide) AS AF As x.eff L nl _ cg.o _ x.en _ rfl rfl gE dl.o.nil dl.o.row (by omega) (by omega) HG.o.b.size ?_;intro v4 w4 bD fV hU;have eA:=AA (HG.o.push (by rw [iO.o];exact bD) gE fV);clear bD fV hU);go_roundw
   case rel=>exact⟨j+1,by omega,by go_num,by rw [gH.o];exact eA.o⟩
   case measure=>simp [intOf];omega
  ·have ex:j=n:=by omega
   have gR:l.take j=l:=List.take_of_length_le (by omega);rw [gR] at HG;obtain⟨EL,dx⟩:∃EL,CN l=EL:=⟨_,rfl⟩;rw [dx] at HG bK;have dG:=AA dx;have eS:Hd (∀x∈EL,Cq x):=by rw [←dx];exact II HI.o.res.each
   clear dx gR;subst ex
   go_upto_region 9 with(first
    |(go_at_call 163;refine(DU _).mono ?_;rintro e w8 ⟨rfl,hb⟩;have dB:=AA hb;clear hb)
    |(refine sn #[.int .u8 1,.int .i64 0,.slice none 0 0,.slice none 0 0] ?_))
   have bS:Below w8.heap.size w8 (w8.alloc (.cells #[.int .u8 1,.int .i64 0,.slice none 0 0,.slice none 0 0] 28)):=bA;have ey:=dB.o.size;have bn:=HG.o.b.size;have HE:Hd (MH w S a w8.heap.size A0 _ EL (w8.alloc (.cells #[.int .u8 1,.int .i64 0,.slice none 0 0,.slice none 0 0] 28))):=⟨(HG.o.b.step dB.o).step bS,(HG.o.own.below dB.o).below bS,Ap _ _ _ _ rfl,by omega,fun e=>by have:=(World.ownsRow.lt HG.o.own _ e).2;omega,(FZ _ (fun _=>True)).1,fun b hb=>by simp [A0,CZ] at hb⟩;obtain⟨g,df⟩:∃g,w8.heap.size=g:=⟨_,rfl⟩;rw [df] at HE ⊢;generalize w8.alloc (.cells #[.int .u8 1,.int .i64 0,.slice none 0 0,.slice none 0 0] 28)=W9 at *
   clear df bS dB HG ey bn aF hj;by_cases hk:a.kind=1
   ·have bG:=HI.o.node.kids;rw [show a.plain.kind=1 from hk] at bG;have bo:l.length=0:=by have h2:((l.length:Nat):Int)=0:=bG.symm.trans (by decide);omega
    clear bG;obtain rfl:l=[]:=List.eq_nil_of_length_eq_zero bo;have hn:j=0:=by rw [←aG];rfl
    subst hn;clear aG bo bu;have c0:=HE.o.b.box.c 0 _ rfl;have e3:=kb hk 3;have e4:=kb hk 4;have e5:=kb hk 5;have e6:=kb hk 6;have e7:=kb hk 7;have e8:=kb hk 8;have e9:=kb hk 9;have e10:=kb hk 10;have e11:=kb hk 11;have e12:=kb hk 12;have e13:=kb hk 13;have e14:=kb hk 14;have e15:=kb hk 15;have e16:=kb hk 16;have e17:=kb hk 17;have bU:Hd (AV a.plain (Ak [])=.ok (Ij,BO (Ak []) [])):=by show _=_;unfold AV;simp [show a.plain.kind=1 from hk];try first|rfl|exact⟨rfl,rfl⟩
    have cU:=hk;clear hk;clear cU;obtain⟨EF,af⟩:∃EF,EL=EF:=⟨_,rfl⟩;have aN:Hd (AV a.plain (Ak [])=.ok (PT.er A0,A2 EF)):=by show _=_;rw [bU.o];exact congrArg Except.ok (Prod.ext rfl ((CU _ _).trans (by rw [dG.o,←af];exact congrArg A2 (List.append_nil _))))
    have bB:Hd (∀x∈EF,Cq x):=by rw [←af];exact eS.o
    have bW:EF.length≤1000000:=by rw [←af];(try simp only [List.length_append,List.length_cons,List.length_nil]);omega
    rw [af] at HE;clear af;obtain⟨nf,bC⟩:∃nf,EF.length=nf:=⟨_,rfl⟩;rw [bC] at bW;have aB:=HE.o.own;rw [bC] at aB;obtain⟨pf,cf,cr,bf⟩:=AJ.isRow AF (by omega) aB;cases cr;have ci:=AA bf;have HL:=AA (show Fs w a g A0 W9 from⟨HE.o.b,HE.o.out,HE.o.hg⟩);clear aB bf bC;go_upto_region 67 with fail;refine rg (fun W'=>Fs w a g A0 W') (HL.o.step (AC W9)) fun aA=>?_;refine t4 0 370 A0 g 0 (fun W' aC=>r4 aC.out) ?_;refine tp 1 371 ?_;refine tr 2 372 fun K hK=>?_;go_simp;go_at_call 50;refine(BI (ci.o.below (AC W9)) bW).mono ?_;rintro e w3 ⟨⟨q3,k3,c3,rfl,bE⟩,hb⟩;have cT:=AA ((HE.o.step (AC W9)).fin hb HI.o.new bB.o bE);have aR:=AA ((HE.o.b.step (AC W9)).step hb);clear bE;try go_wp2_with fail
    refine tn hK (aA.step hb) ?_;clear aA hK K;intro aA;refine tp 3 373 ?_;refine DV 4 fun K hK=>?_;refine sr #[.int .u8 A0.head.kind,.int .i64 A0.head.rho,.slice A0.head.ep A0.head.en A0.head.ec,.slice A0.head.kp A0.head.kn A0.head.kc,.slice q3 k3 c3,.int .i64 0,.int .i64 0] aR.o ?_;refine tn hK (aA.store rfl) ?_;clear aA hK K;intro aA;refine dn ?_;clear aA;(try go_wp2_with fail);(try simp only [Exit.inBlock,Exit.then]);refine br (aR.o.heap _) underlying69 ?_;rw [aN.o];exact aR.o.fin HI.o.new cT.o rfl
   by_cases hk:a.kind=9
   ·have bG:=HI.o.node.kids;rw [show a.plain.kind=9 from hk] at bG;have bo:l.length=2:=by have h2:((l.length:Nat):Int)=2:=bG.symm.trans (by decide);omega
    clear bG
    obtain⟨x,y,rfl⟩:∃x y,l=[x,y]:=by
     match l,bo with
     |[x,y],_=>exact⟨x,y,rfl⟩
    have hn:j=2:=by rw [←aG];rfl
    subst hn;clear aG bo bu;obtain⟨b,o,hp,aP,_⟩:=HI.o.res.row.row.elem (show [x,y][0]?=some x from rfl);subst hp;have HRx:Hd (∀W,Below w.heap.size w W→W.rangeAt b o [.int .u8 x.ty.head.kind,.int .i64 x.ty.head.rho,.slice x.ty.head.ep x.ty.head.en x.ty.head.ec,.slice x.ty.head.kp x.ty.head.kn x.ty.head.kc]):=fun W hb=>by have h:=CY (HI.o.res.row.below hb) (j:=0) rfl;simpa using h
    have HCx:Hd (∀W,Below w.heap.size w W→∀i v,(Bt x)[i]?=some v→W.cell? ⟨b,o+0+i,none⟩=some v):=fun W hb i v hv=>by have h:=FP (HI.o.res.row.below hb) (j:=0) rfl i v hv;simpa using h
    have HKx:=AA (HI.o.res.each x (by simp));have HRy:Hd (∀W,Below w.heap.size w W→W.rangeAt b (o+7) [.int .u8 y.ty.head.kind,.int .i64 y.ty.head.rho,.slice y.ty.head.ep y.ty.head.en y.ty.head.ec,.slice y.ty.head.kp y.ty.head.kn y.ty.head.kc]):=fun W hb=>by have h:=CY (HI.o.res.row.below hb) (j:=1) rfl;simpa using h
    have HCy:Hd (∀W,Below w.heap.size w W→∀i v,(Bt y)[i]?=some v→W.cell? ⟨b,o+7+i,none⟩=some v):=fun W hb i v hv=>by have h:=FP (HI.o.res.row.below hb) (j:=1) rfl i v hv;simpa using h
    have HKy:=AA (HI.o.res.each y (by simp));have c0:=HE.o.b.box.c 0 _ rfl;have e3:=kb hk 3;have e4:=kb hk 4;have e5:=kb hk 5;have e6:=kb hk 6;have e7:=kb hk 7;have e8:=kb hk 8;have e9:=kb hk 9;have e10:=kb hk 10;have e11:=kb hk 11;have e12:=kb hk 12;have e13:=kb hk 13;have e14:=kb hk 14;have e15:=kb hk 15;have e16:=kb hk 16;have e17:=kb hk 17;have bU:Hd (AV a.plain (Ak [x,y])=A4 ((x.ty.head.kind==1)&&(y.ty.head.kind==1)) a.plain 5 (.ok (Ij,BO (Ak [x,y]) []))):=by show _=_;unfold AV;simp [show a.plain.kind=9 from hk,Ak,←EE,EV,Gv];try first|rfl|exact⟨rfl,rfl⟩
    have cU:=hk;clear hk;clear cU;obtain⟨t1,di⟩:∃t,(x.ty.head.kind==1)=t:=⟨_,rfl⟩;have bc:=AA di;obtain⟨t2,iD⟩:∃t,(y.ty.head.kind==1)=t:=⟨_,rfl⟩;have dO:=AA iD;have dx0:=HCx.o _ HE.o.b.below 0 _ rfl;try simp only [Nat.add_zero] at dx0
    have dy0:=HCy.o _ HE.o.b.below 0 _ rfl;try simp only [Nat.add_zero] at dy0
    cases t1
    ·go_upto_region 64 with fail;have aN:Hd (AV a.plain (Ak [x,y])=.error (a.at_,5)):=by show _=_;rw [bU.o,bc.o];rfl
     go_wp2_with (first
      |(refine lw HE.o.b.box.blk underlying31 ?_)
      |(go_at_call 84;refine(Af a 5).mono ?_;rintro e w7 ⟨rfl,hb⟩;have ab:=AA (HE.o.b.step hb);clear hb)
      |(refine I5 a.at_ 5 ab.o ?_))
     (try go_wp2_with fail);(try simp only [Exit.inBlock,Exit.then]);refine br (ab.o.heap _) underlying69 ?_;rw [aN.o];exact ab.o.err
    ·cases t2
     ·go_upto_region 64 with fail;have aN:Hd (AV a.plain (Ak [x,y])=.error (a.at_,5)):=by show _=_;rw [bU.o,bc.o,dO.o];rfl
      go_wp2_with (first
       |(refine lw HE.o.b.box.blk underlying31 ?_)
       |(go_at_call 84;refine(Af a 5).mono ?_;rintro e w7 ⟨rfl,hb⟩;have ab:=AA (HE.o.b.step hb);clear hb)
       |(refine I5 a.at_ 5 ab.o ?_))
      (try go_wp2_with fail);(try simp only [Exit.inBlock,Exit.then]);refine br (ab.o.heap _) underlying69 ?_;rw [aN.o];exact ab.o.err
     ·obtain⟨EF,af⟩:∃EF,EL=EF:=⟨_,rfl⟩;have aN:Hd (AV a.plain (Ak [x,y])=.ok (PT.er A0,A2 EF)):=by show _=_;rw [bU.o,bc.o,dO.o];exact congrArg Except.ok (Prod.ext rfl ((CU _ _).trans (by rw [dG.o,←af];exact congrArg A2 (List.append_nil _))))
      have bB:Hd (∀x∈EF,Cq x):=by rw [←af];exact eS.o
      have bW:EF.length≤1000000:=by rw [←af];(try simp only [List.length_append,List.length_cons,List.length_nil]);omega
      rw [af] at HE;clear af;obtain⟨nf,bC⟩:∃nf,EF.length=nf:=⟨_,rfl⟩;rw [bC] at bW;have aB:=HE.o.own;rw [bC] at aB;obtain⟨pf,cf,cr,bf⟩:=AJ.isRow AF (by omega) aB;cases cr;have ci:=AA bf;have HL:=AA (show Fs w a g A0 W9 from⟨HE.o.b,HE.o.out,HE.o.hg⟩);clear aB bf bC;go_upto_region 67 with fail;refine rg (fun W'=>Fs w a g A0 W') (HL.o.step (AC W9)) fun aA=>?_;refine t4 0 370 A0 g 0 (fun W' aC=>r4 aC.out) ?_;refine tp 1 371 ?_;refine tr 2 372 fun K hK=>?_;go_simp;go_at_call 50;refine(BI (ci.o.below (AC W9)) bW).mono ?_;rintro e w3 ⟨⟨q3,k3,c3,rfl,bE⟩,hb⟩;have cT:=AA ((HE.o.step (AC W9)).fin hb HI.o.new bB.o bE);have aR:=AA ((HE.o.b.step (AC W9)).step hb);clear bE;try go_wp2_with fail
      refine tn hK (aA.step hb) ?_;clear aA hK K;intro aA;refine tp 3 373 ?_;refine DV 4 fun K hK=>?_;refine sr #[.int .u8 A0.head.kind,.int .i64 A0.head.rho,.slice A0.head.ep A0.head.en A0.head.ec,.slice A0.head.kp A0.head.kn A0.head.kc,.slice q3 k3 c3,.int .i64 0,.int .i64 0] aR.o ?_;refine tn hK (aA.store rfl) ?_;clear aA hK K;intro aA;refine dn ?_;clear aA;(try go_wp2_with fail);(try simp only [Exit.inBlock,Exit.then]);refine br (aR.o.heap _) underlying69 ?_;rw [aN.o];exact aR.o.fin HI.o.new cT.o rfl
   by_cases hk:a.kind=12
   ·have bG:=HI.o.node.kids;rw [show a.plain.kind=12 from hk] at bG;have bo:l.length=2:=by have h2:((l.length:Nat):Int)=2:=bG.symm.trans (by decide);omega
    clear bG
    obtain⟨x,y,rfl⟩:∃x y,l=[x,y]:=by
     match l,bo with
     |[x,y],_=>exact⟨x,y,rfl⟩
    have hn:j=2:=by rw [←aG];rfl
    subst hn;clear aG bo bu;obtain⟨b,o,hp,aP,_⟩:=HI.o.res.row.row.elem (show [x,y][0]?=some x from rfl);subst hp;have HRx:Hd (∀W,Below w.heap.size w W→W.rangeAt b o [.int .u8 x.ty.head.kind,.int .i64 x.ty.head.rho,.slice x.ty.head.ep x.ty.head.en x.ty.head.ec,.slice x.ty.head.kp x.ty.head.kn x.ty.head.kc]):=fun W hb=>by have h:=CY (HI.o.res.row.below hb) (j:=0) rfl;simpa using h
    have HCx:Hd (∀W,Below w.heap.size w W→∀i v,(Bt x)[i]?=some v→W.cell? ⟨b,o+0+i,none⟩=some v):=fun W hb i v hv=>by have h:=FP (HI.o.res.row.below hb) (j:=0) rfl i v hv;simpa using h
    have HKx:=AA (HI.o.res.each x (by simp));have HRy:Hd (∀W,Below w.heap.size w W→W.rangeAt b (o+7) [.int .u8 y.ty.head.kind,.int .i64 y.ty.head.rho,.slice y.ty.head.ep y.ty.head.en y.ty.head.ec,.slice y.ty.head.kp y.ty.head.kn y.ty.head.kc]):=fun W hb=>by have h:=CY (HI.o.res.row.below hb) (j:=1) rfl;simpa using h
    have HCy:Hd (∀W,Below w.heap.size w W→∀i v,(Bt y)[i]?=some v→W.cell? ⟨b,o+7+i,none⟩=some v):=fun W hb i v hv=>by have h:=FP (HI.o.res.row.below hb) (j:=1) rfl i v hv;simpa using h
    have HKy:=AA (HI.o.res.each y (by simp));have c0:=HE.o.b.box.c 0 _ rfl;have e3:=kb hk 3;have e4:=kb hk 4;have e5:=kb hk 5;have e6:=kb hk 6;have e7:=kb hk 7;have e8:=kb hk 8;have e9:=kb hk 9;have e10:=kb hk 10;have e11:=kb hk 11;have e12:=kb hk 12;have e13:=kb hk 13;have e14:=kb hk 14;have e15:=kb hk 15;have e16:=kb hk 16;have e17:=kb hk 17;have bU:Hd (AV a.plain (Ak [x,y])=.ok (y.ty.er,BO (Ak [x,y]) [])):=by show _=_;unfold AV CB;simp [show a.plain.kind=12 from hk,Ak,AY];try first|rfl|exact⟨rfl,rfl⟩
    have cU:=hk;clear hk;clear cU
    go_upto_region 63 with(first
     |(refine NY y.ty (HRy.o _ HE.o.b.below) underlying28 ?_)
     |(refine s4 y.ty HE.o.out ?_;have HE:=AA (HE.o.put (y':=y.ty) (LR.lies_below HE.o.b.below _ HKy.o.ty) (fun b' aW=>HE.o.tn_old (AN _ HKy.o.ty b' aW) (HKy.o.uses b' aW)))))
    obtain⟨WF,cP⟩:∃W,W9.setRow g #[.int .u8 y.ty.head.kind,.int .i64 y.ty.head.rho,.slice y.ty.head.ep y.ty.head.en y.ty.head.ec,.slice y.ty.head.kp y.ty.head.kn y.ty.head.kc]=W:=⟨_,rfl⟩;rw [cP] at HE ⊢;clear cP;obtain⟨EF,af⟩:∃EF,EL=EF:=⟨_,rfl⟩;have aN:Hd (AV a.plain (Ak [x,y])=.ok (PT.er y.ty,A2 EF)):=by show _=_;rw [bU.o];exact congrArg Except.ok (Prod.ext rfl ((CU _ _).trans (by rw [dG.o,←af];exact congrArg A2 (List.append_nil _))))
    have bB:Hd (∀x∈EF,Cq x):=by rw [←af];exact eS.o
    have bW:EF.length≤1000000:=by rw [←af];(try simp only [List.length_append,List.length_cons,List.length_nil]);omega
    rw [af] at HE;clear af;obtain⟨nf,bC⟩:∃nf,EF.length=nf:=⟨_,rfl⟩;rw [bC] at bW;have aB:=HE.o.own;rw [bC] at aB;obtain⟨pf,cf,cr,bf⟩:=AJ.isRow AF (by omega) aB;cases cr;have ci:=AA bf;have HL:=AA (show Fs w a g y.ty WF from⟨HE.o.b,HE.o.out,HE.o.hg⟩);clear aB bf bC;go_upto_region 67 with fail;refine rg (fun W'=>Fs w a g y.ty W') (HL.o.step (AC WF)) fun aA=>?_;refine t4 0 370 y.ty g 0 (fun W' aC=>r4 aC.out) ?_;refine tp 1 371 ?_;refine tr 2 372 fun K hK=>?_;go_simp;go_at_call 50;refine(BI (ci.o.below (AC WF)) bW).mono ?_;rintro e w3 ⟨⟨q3,k3,c3,rfl,bE⟩,hb⟩;have cT:=AA ((HE.o.step (AC WF)).fin hb HI.o.new bB.o bE);have aR:=AA ((HE.o.b.step (AC WF)).step hb);clear bE;try go_wp2_with fail
    refine tn hK (aA.step hb) ?_;clear aA hK K;intro aA;refine tp 3 373 ?_;refine DV 4 fun K hK=>?_;refine sr #[.int .u8 y.ty.head.kind,.int .i64 y.ty.head.rho,.slice y.ty.head.ep y.ty.head.en y.ty.head.ec,.slice y.ty.head.kp y.ty.head.kn y.ty.head.kc,.slice q3 k3 c3,.int .i64 0,.int .i64 0] aR.o ?_;refine tn hK (aA.store rfl) ?_;clear aA hK K;intro aA;refine dn ?_;clear aA;(try go_wp2_with fail);(try simp only [Exit.inBlock,Exit.then]);refine br (aR.o.heap _) underlying69 ?_;rw [aN.o];exact aR.o.fin HI.o.new cT.o rfl
   by_cases hk:a.kind=15
   ·have bG:=HI.o.node.kids;rw [show a.plain.kind=15 from hk] at bG;have bo:l.length=1:=by have h2:((l.length:Nat):Int)=1:=bG.symm.trans (by decide);omega
    clear bG
    obtain⟨x,rfl⟩:∃x,l=[x]:=by
     match l,bo with
     |[x],_=>exact⟨x,rfl⟩
    have hn:j=1:=by rw [←aG];rfl
    subst hn;clear aG bo bu;obtain⟨b,o,hp,aP,_⟩:=HI.o.res.row.row.elem (show [x][0]?=some x from rfl);subst hp;have HRx:Hd (∀W,Below w.heap.size w W→W.rangeAt b o [.int .u8 x.ty.head.kind,.int .i64 x.ty.head.rho,.slice x.ty.head.ep x.ty.head.en x.ty.head.ec,.slice x.ty.head.kp x.ty.head.kn x.ty.head.kc]):=fun W hb=>by have h:=CY (HI.o.res.row.below hb) (j:=0) rfl;simpa using h
    have HCx:Hd (∀W,Below w.heap.size w W→∀i v,(Bt x)[i]?=some v→W.cell? ⟨b,o+0+i,none⟩=some v):=fun W hb i v hv=>by have h:=FP (HI.o.res.row.below hb) (j:=0) rfl i v hv;simpa using h
    have HKx:=AA (HI.o.res.each x (by simp));have c0:=HE.o.b.box.c 0 _ rfl;have e3:=kb hk 3;have e4:=kb hk 4;have e5:=kb hk 5;have e6:=kb hk 6;have e7:=kb hk 7;have e8:=kb hk 8;have e9:=kb hk 9;have e10:=kb hk 10;have e11:=kb hk 11;have e12:=kb hk 12;have e13:=kb hk 13;have e14:=kb hk 14;have e15:=kb hk 15;have e16:=kb hk 16;have e17:=kb hk 17;have bU:Hd (AV a.plain (Ak [x])=A4 (x.ty.head.kind==1) a.plain 5 (.ok (a.ty.er,BO (Ak [x]) [Ol a.exn]))):=by show _=_;unfold AV;simp [show a.plain.kind=15 from hk,Ak,←EE,EV,Gv];try first|rfl|exact⟨rfl,rfl⟩
    have cU:=hk;clear hk;clear cU;obtain⟨t1,di⟩:∃t,(x.ty.head.kind==1)=t:=⟨_,rfl⟩;have bc:=AA di;have dx0:=HCx.o _ HE.o.b.below 0 _ rfl;try simp only [Nat.add_zero] at dx0
    go_upto_region 54 with(first
     |(refine NY a.ty (Ax HE.o.b.box 10 4 rfl) underlying28 ?_)
     |(refine s4 a.ty HE.o.out ?_;have HE:=AA (HE.o.put (y':=a.ty) (LR.lies_below HE.o.b.below _ HI.o.own.ty) (fun b' aW=>HE.o.tn_old (AN _ HI.o.own.ty b' aW) (HI.o.ty b' aW)));have c6:=HE.o.b.box.c 6 _ rfl))
    clear c6;obtain⟨W5,qI⟩:∃W,W9.setRow g #[.int .u8 a.ty.head.kind,.int .i64 a.ty.head.rho,.slice a.ty.head.ep a.ty.head.en a.ty.head.ec,.slice a.ty.head.kp a.ty.head.kn a.ty.head.kc]=W:=⟨_,rfl⟩;rw [qI] at HE ⊢;clear qI;have c6:=HE.o.b.box.c 6 _ rfl
    go_upto_region 63 with(first
     |(at_builtin;refine Am rfl _ _ 25 rfl (w.heap.size+2) 59 _ 3 32 underlying25 CQ rfl (by decide) AS AF As [(Ol a.exn)] EL EL.length _ (A5 HE.o.own _) _ 1 _ rfl rfl rfl (by intro h;cases h) (CG W5 (Ol a.exn)).row (by omega) (by omega) (Nat.le_trans HE.o.b.size (by simp)) ?_;intro v6 w6 aM bV cJ;have HE:=AA ((HE.o.step bA).push aM rfl bV cJ);clear aM bV cJ))
    cases t1
    ·go_upto_region 64 with fail;have aN:Hd (AV a.plain (Ak [x])=.error (a.at_,5)):=by show _=_;rw [bU.o,bc.o];rfl
     go_wp2_with (first
      |(refine lw HE.o.b.box.blk underlying31 ?_)
      |(go_at_call 84;refine(Af a 5).mono ?_;rintro e w7 ⟨rfl,hb⟩;have ab:=AA (HE.o.b.step hb);clear hb)
      |(refine I5 a.at_ 5 ab.o ?_))
     (try go_wp2_with fail);(try simp only [Exit.inBlock,Exit.then]);refine br (ab.o.heap _) underlying69 ?_;rw [aN.o];exact ab.o.err
    ·obtain⟨EF,af⟩:∃EF,(EL++[Ol a.exn])=EF:=⟨_,rfl⟩;have aN:Hd (AV a.plain (Ak [x])=.ok (PT.er a.ty,A2 EF)):=by show _=_;rw [bU.o,bc.o];exact congrArg Except.ok (Prod.ext rfl ((CU _ _).trans (by rw [dG.o,←af])))
     have bB:Hd (∀x∈EF,Cq x):=by rw [←af];exact(fun x hx=>(List.mem_append.1 hx).elim (eS.o x) (fun hx=>by rw [List.mem_singleton.1 hx];exact⟨by show (0:Int)≤3;decide,by show (3:Int)≤255;decide,by show (-9223372036854775808:Int)≤0;decide,by show (0:Int)≤9223372036854775807;decide,by have h1:=HI.o.small.exn;show a.exn.size≤_;omega⟩))
     have bW:EF.length≤1000000:=by rw [←af];(try simp only [List.length_append,List.length_cons,List.length_nil]);omega
     rw [af] at HE;clear af;obtain⟨nf,bC⟩:∃nf,EF.length=nf:=⟨_,rfl⟩;rw [bC] at bW;have aB:=HE.o.own;rw [bC] at aB;obtain⟨pf,cf,cr,bf⟩:=AJ.isRow AF (by omega) aB;cases cr;have ci:=AA bf;have HL:=AA (show Fs w a g a.ty w6 from⟨HE.o.b,HE.o.out,HE.o.hg⟩);clear aB bf bC;go_upto_region 67 with fail;refine rg (fun W'=>Fs w a g a.ty W') (HL.o.step (AC w6)) fun aA=>?_;refine t4 0 370 a.ty g 0 (fun W' aC=>r4 aC.out) ?_;refine tp 1 371 ?_;refine tr 2 372 fun K hK=>?_;go_simp;go_at_call 50;refine(BI (ci.o.below (AC w6)) bW).mono ?_;rintro e w3 ⟨⟨q3,k3,c3,rfl,bE⟩,hb⟩;have cT:=AA ((HE.o.step (AC w6)).fin hb HI.o.new bB.o bE);have aR:=AA ((HE.o.b.step (AC w6)).step hb);clear bE;try go_wp2_with fail
     refine tn hK (aA.step hb) ?_;clear aA hK K;intro aA;refine tp 3 373 ?_;refine DV 4 fun K hK=>?_;refine sr #[.int .u8 a.ty.head.kind,.int .i64 a.ty.head.rho,.slice a.ty.head.ep a.ty.head.en a.ty.head.ec,.slice a.ty.head.kp a.ty.head.kn a.ty.head.kc,.slice q3 k3 c3,.int .i64 0,.int .i64 0] aR.o ?_;refine tn hK (aA.store rfl) ?_;clear aA hK K;intro aA;refine dn ?_;clear aA;(try go_wp2_with fail);(try simp only [Exit.inBlock,Exit.then]);refine br (aR.o.heap _) underlying69 ?_;rw [aN.o];exact aR.o.fin HI.o.new cT.o rfl
   exfalso;have h0:=fO.o;omega
end Go.Proofs.YtkdjnegfnhldpaaGreatDoor
